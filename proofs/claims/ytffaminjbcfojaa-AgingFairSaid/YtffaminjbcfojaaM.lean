/- Maps that the call itself makes: a chunk holds the map's object; how the object answers is a plain fact. -/
import Derived.Test.YtffaminjbcfojaaS
import Derived.Maps.RangeWalk
namespace Go.Proofs.Ytffaminjbcfojaa
open Go.RowKit
open Go.WideElems (Fit rd rg)
open Go.Maps (Keyed int_keyed)
set_option linter.unusedVariables false

abbrev DU := DataW Unit
/-- the object is a map of at most n entries that reads as D -/
def MapOf (P : Program) (k : TypeId) (R : Value → Option (DU × List MemPlace)) (o : Obj) (n : Nat) (D : DU) : Prop :=
  ∃ es clock, o = .map es clock ∧ Fit P k R es clock ∧ es.size ≤ n ∧ D = .map ((es.toList.map (rg P k R)).foldr DataW.insert [])
theorem MapOf.owns {P : Program} {k : TypeId} {R : Value → Option (DU × List MemPlace)} {o : Obj} {n : Nat} {D : DU} {w : World} {g : Nat} (h : MapOf P k R o n D) (hb : w.heap[g]? = some o) : w.ownsMap P k R g n D := by
  obtain ⟨es, clock, rfl, r⟩ := h; exact ⟨es, clock, hb, r⟩
theorem MapOf.of {P : Program} {k : TypeId} {R : Value → Option (DU × List MemPlace)} {n : Nat} {D : DU} {w : World} {g : Nat} (h : w.ownsMap P k R g n D) : ∃ o, w.heap[g]? = some o ∧ MapOf P k R o n D := by
  obtain ⟨es, clock, hb, r⟩ := h; exact ⟨_, hb, es, clock, rfl, r⟩
theorem MapOf.new (P : Program) (k : TypeId) (R : Value → Option (DU × List MemPlace)) : MapOf P k R (.map #[] 0) 0 (.map []) := ⟨#[], 0, rfl, ⟨by simp, Go.MapKept.stamped_empty 0, by simp⟩, Nat.le_refl _, rfl⟩
theorem wf64 {x : Int} (h : i64 x) : (Lit.int .i64 x).wf = true := by
  unfold i64 at h
  simp [Lit.wf, IntKind.min, IntKind.max, IntKind.signed, IntKind.bits]; omega
theorem isKey64 (x : Int) : WideAt.IsKeyLit (.int .i64 x) := by first | exact ⟨_, _, rfl⟩ | simp [WideAt.IsKeyLit]
theorem lit_ne {x y : Int} (h : x ≠ y) : (Lit.int .i64 x) ≠ Lit.int .i64 y := fun e => h (by injection e)

/-- a map from ints to ints that answers as f -/
def MapI (P : Program) (k e : TypeId) (o : Obj) (n : Nat) (f : Int → Option Int) : Prop :=
  ∃ D, MapOf P k (plainElem P e) o n D ∧ ∀ x, (Maps.has D (.int .i64 x) = (f x).isSome) ∧ ∀ c, f x = some c → D.atKey (.int .i64 x) (.lit (.int .i64 0)) = .lit (.int .i64 c)
/-- a map from ints to bools that answers as f -/
def MapB (P : Program) (k e : TypeId) (o : Obj) (n : Nat) (f : Int → Bool) : Prop :=
  ∃ D, MapOf P k (plainElem P e) o n D ∧ ∀ x, D.atKey (.int .i64 x) (.lit (.bool false)) = .lit (.bool (f x))
def fput {α : Type} (f : Int → α) (z : Int) (v : α) : Int → α := fun y => if y = z then v else f y
theorem mapI_new (P : Program) (k e : TypeId) : MapI P k e (.map #[] 0) 0 (fun _ => none) := ⟨_, MapOf.new P k _, fun x => ⟨rfl, fun c h => by cases h⟩⟩
theorem mapB_new (P : Program) (k e : TypeId) : MapB P k e (.map #[] 0) 0 (fun _ => false) := ⟨_, MapOf.new P k _, fun x => rfl⟩

section
variable {P : Program} {S : World → Prop} {n : Nat} {a : Act} {σ : List (Nat × Value)} {o : Oper} {K : Act → World → Prop} {Q : Exit → Act → World → Prop} {w0 w : World} {H : List Chunk}
theorem Sat.objAt (h : Sat w0 w H) (i : Nat) {g : Nat} {ob : Obj} (hi : H[i]? = some (.obj g ob)) : w.heap[g]? = some ob := (h.holds i _ hi).1

/-- make(map[..]..) -/
theorem Sat.addObj (h : Sat w0 w H) (ob : Obj) : Sat w0 (w.alloc ob) (.obj w.heap.size ob :: H) := by
  have h1 : Sat w (w.alloc ob) [.obj w.heap.size ob] := by
    refine ⟨(Below.refl _ _).alloc (Nat.le_refl _) _, fun i c hi => ?_, fun i j c d hi hj hne => ?_, fun i j c d hi hj g hg => ?_⟩
    · cases i with
      | zero => simp at hi; subst hi; exact ⟨heap_alloc_new w _, Nat.le_refl _⟩
      | succ i => simp at hi
    · cases i with
      | zero => cases j with
        | zero => exact absurd rfl hne
        | succ j => simp at hj
      | succ i => simp at hi
    · cases j with
      | zero => simp at hj; subst hj; simp [Chunk.reads]
      | succ j => simp at hj
  exact h.call h1 (fun i c hi => by cases i with | zero => simp at hi; subst hi; rfl | succ i => simp at hi)
theorem wp_makeMap (hF : Fr n a σ) (hS : Sat w0 w H) {d : Nat} (hd : o.dst = some d) (hn : Nat.blt d n = true) {t : TypeId} (ho : o.op = .makeMap t none)
    (h : ∀ a' w' g, Fr n a' ((d, .map (some g)) :: σ) → Sat w0 w' (.obj g (.map #[] 0) :: H) → K a' w') : o.wp P a w K Q := by
  have hr : (execOp a.eval o).run P w = .ok (.value (.map (some w.heap.size))) (w.alloc (.map #[] 0)) := by
    simp [execOp, ho, run_makeMap]
  unfold Oper.wp
  rw [hr]
  exact h _ _ _ (hF.put' hd hn _) (hS.addObj _)

/-- v, ok := m[z] -/
theorem yl_lookOk (hS : ∀ w, S w → Sat w0 w H) (hF : Fr n a σ) {t k e : TypeId} {x y : Operand} {g m : Nat} {ob : Obj} {z : Int} {f : Int → Option Int} (ho : o.op = .lookup t x y true) (hx : opv σ x = some (.map (some g))) (hy : opv σ y = some (.int .i64 z))
    (i : Nat) (hi : H[i]? = some (.obj g ob)) (ht : P.underlying t = some (.map k e)) (hk : P.underlying k = some (.int .i64)) (he : P.underlying e = some (.int .i64)) (hz : zeroB P e = some (.int .i64 0)) (hm : MapI P k e ob m f) (h64 : i64 z) :
    Yl P S a o (.tuple #[.int .i64 ((f z).getD 0), .bool (f z).isSome]) := fun w hw => by
  obtain ⟨D, hD, hf⟩ := hm
  obtain ⟨hf1, hf2⟩ := hf z
  have hown := hD.owns ((hS w hw).objAt i hi)
  obtain ⟨v, ps, hrun, hv⟩ := hown.look_ok (int_keyed hk) ht (run_zeroValue hz w) (plainElem_int he (by decide)) (Maps.keyOf_int_mk hk (wf64 h64))
  obtain ⟨c, rfl, hc, _⟩ := plainElem_int_inv he hv
  have hc := congrArg Prod.fst hc
  have e1 : c = (f z).getD 0 := by
    cases hfz : f z with
    | some d => rw [hf2 d hfz] at hc; injection hc with hc; injection hc with _ hc; exact hc.symm
    | none => rw [hfz] at hf1; rw [Maps.atKey_of_not_has hf1] at hc; injection hc with hc; injection hc with _ hc; exact hc.symm
  subst e1
  rw [hf1] at hrun
  simp [execOp, ho, hF.val hx, hF.val hy, hrun]
/-- m[z], ints -/
theorem yl_look (hS : ∀ w, S w → Sat w0 w H) (hF : Fr n a σ) {t k e : TypeId} {x y : Operand} {g m : Nat} {ob : Obj} {z : Int} {f : Int → Option Int} (ho : o.op = .lookup t x y false) (hx : opv σ x = some (.map (some g))) (hy : opv σ y = some (.int .i64 z))
    (i : Nat) (hi : H[i]? = some (.obj g ob)) (ht : P.underlying t = some (.map k e)) (hk : P.underlying k = some (.int .i64)) (he : P.underlying e = some (.int .i64)) (hz : zeroB P e = some (.int .i64 0)) (hm : MapI P k e ob m f) (h64 : i64 z) :
    Yl P S a o (.int .i64 ((f z).getD 0)) := fun w hw => by
  obtain ⟨D, hD, hf⟩ := hm
  obtain ⟨hf1, hf2⟩ := hf z
  have hown := hD.owns ((hS w hw).objAt i hi)
  obtain ⟨c, hrun, hc, _⟩ := hown.lookup_int (int_keyed hk) ht he (run_zeroValue hz w) (Maps.keyOf_int_mk hk (wf64 h64))
  have e1 : c = (f z).getD 0 := by
    cases hfz : f z with
    | some d => rw [hf2 d hfz] at hc; injection hc with hc; injection hc with _ hc; exact hc.symm
    | none => rw [hfz] at hf1; rw [Maps.atKey_of_not_has hf1] at hc; injection hc with hc; injection hc with _ hc; exact hc.symm
  subst e1
  simp [execOp, ho, hF.val hx, hF.val hy, hrun]
/-- m[z], bools -/
theorem yl_lookB (hS : ∀ w, S w → Sat w0 w H) (hF : Fr n a σ) {t k e : TypeId} {x y : Operand} {g m : Nat} {ob : Obj} {z : Int} {f : Int → Bool} (ho : o.op = .lookup t x y false) (hx : opv σ x = some (.map (some g))) (hy : opv σ y = some (.int .i64 z))
    (i : Nat) (hi : H[i]? = some (.obj g ob)) (ht : P.underlying t = some (.map k e)) (hk : P.underlying k = some (.int .i64)) (he : P.underlying e = some .bool) (hz : zeroB P e = some (.bool false)) (hm : MapB P k e ob m f) (h64 : i64 z) :
    Yl P S a o (.bool (f z)) := fun w hw => by
  obtain ⟨D, hD, hf⟩ := hm
  have hown := hD.owns ((hS w hw).objAt i hi)
  obtain ⟨v, ps, hrun, hv⟩ := hown.lookup (int_keyed hk) ht (run_zeroValue hz w) (plainElem_bool he false) (Maps.keyOf_int_mk hk (wf64 h64))
  rw [hf z] at hv
  have e1 : v = .bool (f z) := by
    unfold plainElem at hv
    rw [he] at hv
    cases v <;> simp at hv
    rw [hv.1]
  subst e1
  simp [execOp, ho, hF.val hx, hF.val hy, hrun]

theorem Sat.updObj {w' : World} (hS : Sat w0 w H) (i : Nat) {g : Nat} {ob ob' : Obj} (hi : H[i]? = some (.obj g ob)) (hg : w.grownBy w' (some g)) (hb : w'.heap[g]? = some ob') : Sat w0 w' (H.set i (.obj g ob')) :=
  hS.upd i hi (row := some g) hg (fun k hk => by injection hk with hk; subst hk; rfl) ⟨hb, (hS.holds i _ hi).2⟩ (fun k hk => .inl hk) rfl
/-- m[z] = v, ints -/
theorem wp_mapPut (hF : Fr n a σ) (hS : Sat w0 w H) (hd : o.dst = none) {t k e : TypeId} {x y q : Operand} {g m : Nat} {ob : Obj} {z v : Int} {f : Int → Option Int} (ho : o.op = .mapUpdate t x y q) (hx : opv σ x = some (.map (some g))) (hy : opv σ y = some (.int .i64 z)) (hq : opv σ q = some (.int .i64 v))
    (i : Nat) (hi : H[i]? = some (.obj g ob)) (ht : P.underlying t = some (.map k e)) (hk : P.underlying k = some (.int .i64)) (he : P.underlying e = some (.int .i64)) (hm : MapI P k e ob m f) (h64 : i64 z) (hv64 : i64 v) (hmx : m < maxLen)
    (h : ∀ a' w' ob', Fr n a' σ → MapI P k e ob' (m + 1) (fput f z (some v)) → Sat w0 w' (H.set i (.obj g ob')) → K a' w') : o.wp P a w K Q := by
  obtain ⟨D, hD, hf⟩ := hm
  have hown := hD.owns (hS.objAt i hi)
  obtain ⟨w', hrun, hown', hg⟩ := hown.update (int_keyed hk) ht hmx (Maps.keyOf_int_mk hk (wf64 h64)) (plainElem_int he (wf64 hv64))
  obtain ⟨ob', hb', hD'⟩ := MapOf.of hown'
  have hr : (execOp a.eval o).run P w = .ok .skip w' := by simp [execOp, ho, hF.val hx, hF.val hy, hF.val hq, hrun]
  unfold Oper.wp
  rw [hr]
  refine h _ _ ob' (hF.put0 hd _) ⟨_, hD', fun y => ?_⟩ (hS.updObj i hi hg hb')
  unfold fput
  by_cases c : y = z
  · subst c
    rw [if_pos rfl]
    exact ⟨Maps.has_put_same hown.isMap (isKey64 _) _, fun c hc => by injection hc with hc; subst hc; exact Maps.atKey_put_same hown.isMap (isKey64 _) _ _⟩
  · rw [if_neg c, Maps.has_put_other (lit_ne c)]
    exact ⟨(hf y).1, fun d hd => by rw [Maps.atKey_put_other (lit_ne c)]; exact (hf y).2 d hd⟩
/-- m[z] = b, bools -/
theorem wp_mapPutB (hF : Fr n a σ) (hS : Sat w0 w H) (hd : o.dst = none) {t k e : TypeId} {x y q : Operand} {g m : Nat} {ob : Obj} {z : Int} {v : Bool} {f : Int → Bool} (ho : o.op = .mapUpdate t x y q) (hx : opv σ x = some (.map (some g))) (hy : opv σ y = some (.int .i64 z)) (hq : opv σ q = some (.bool v))
    (i : Nat) (hi : H[i]? = some (.obj g ob)) (ht : P.underlying t = some (.map k e)) (hk : P.underlying k = some (.int .i64)) (he : P.underlying e = some .bool) (hm : MapB P k e ob m f) (h64 : i64 z) (hmx : m < maxLen)
    (h : ∀ a' w' ob', Fr n a' σ → MapB P k e ob' (m + 1) (fput f z v) → Sat w0 w' (H.set i (.obj g ob')) → K a' w') : o.wp P a w K Q := by
  obtain ⟨D, hD, hf⟩ := hm
  have hown := hD.owns (hS.objAt i hi)
  obtain ⟨w', hrun, hown', hg⟩ := hown.update (int_keyed hk) ht hmx (Maps.keyOf_int_mk hk (wf64 h64)) (plainElem_bool he v)
  obtain ⟨ob', hb', hD'⟩ := MapOf.of hown'
  have hr : (execOp a.eval o).run P w = .ok .skip w' := by simp [execOp, ho, hF.val hx, hF.val hy, hF.val hq, hrun]
  unfold Oper.wp
  rw [hr]
  refine h _ _ ob' (hF.put0 hd _) ⟨_, hD', fun y => ?_⟩ (hS.updObj i hi hg hb')
  unfold fput
  by_cases c : y = z
  · subst c; rw [if_pos rfl]; exact Maps.atKey_put_same hown.isMap (isKey64 _) _ _
  · rw [if_neg c, Maps.atKey_put_other (lit_ne c)]; exact hf y
/-- delete(m, z) -/
theorem wp_mapDel (hF : Fr n a σ) (hS : Sat w0 w H) (hd : o.dst = none) {t k e : TypeId} {x y : Operand} {g m : Nat} {ob : Obj} {z : Int} {f : Int → Option Int} (ho : o.op = .call { callee := .builtin .delete, args := #[x, y], argTypes := #[t, k] }) (hx : opv σ x = some (.map (some g))) (hy : opv σ y = some (.int .i64 z))
    (i : Nat) (hi : H[i]? = some (.obj g ob)) (ht : P.underlying t = some (.map k e)) (hk : P.underlying k = some (.int .i64)) (hm : MapI P k e ob m f) (h64 : i64 z)
    (h : ∀ a' w' ob', Fr n a' σ → MapI P k e ob' m (fput f z none) → Sat w0 w' (H.set i (.obj g ob')) → K a' w') : o.wp P a w K Q := by
  obtain ⟨D, hD, hf⟩ := hm
  have hown := hD.owns (hS.objAt i hi)
  obtain ⟨w', hrun, hown', hg⟩ := hown.drop (int_keyed hk) ht (Maps.keyOf_int_mk hk (wf64 h64)) o.type
  obtain ⟨ob', hb', hD'⟩ := MapOf.of hown'
  have hr : (execOp a.eval o).run P w = .ok (.value (.tuple #[])) w' := by simp [execOp, ho, resolve, invoke, builtin, hF.val hx, hF.val hy, hrun]
  unfold Oper.wp
  rw [hr]
  refine h _ _ ob' (hF.put0 hd _) ⟨_, hD', fun y => ?_⟩ (hS.updObj i hi hg.grown hb')
  unfold fput
  by_cases c : y = z
  · subst c; rw [if_pos rfl]; exact ⟨Maps.has_del_same, fun c hc => by cases hc⟩
  · rw [if_neg c, Maps.has_del_other (lit_ne c)]
    exact ⟨(hf y).1, fun d hd => by rw [Maps.atKey_del_other (lit_ne c)]; exact (hf y).2 d hd⟩

/-- a range over a map that answers as f: cnt entries are still to come; the iterator lies in block r -/
def Rg (P : Program) (k e : TypeId) (w : World) (g r m : Nat) (f : Int → Option Int) (cnt : Nat) : Prop :=
  ∃ (D : DU) (left : Lit → Bool), w.ranges P k (plainElem P e) g r m D left cnt ∧ ∀ x, (Maps.has D (.int .i64 x) = (f x).isSome) ∧ ∀ c, f x = some c → D.atKey (.int .i64 x) (.lit (.int .i64 0)) = .lit (.int .i64 c)
theorem Rg.iter {k e : TypeId} {g r m cnt : Nat} {f : Int → Option Int} (h : Rg P k e w g r m f cnt) : ∃ it, w.heap[r]? = some it := by
  obtain ⟨D, left, ⟨es, clock, since, seen, c0, _, _, _, _, hr, _⟩, _⟩ := h; exact ⟨_, hr⟩
theorem wp_range (hF : Fr n a σ) (hS : Sat w0 w H) {d : Nat} (hd : o.dst = some d) (hn : Nat.blt d n = true) {t k e : TypeId} {x : Operand} {g m : Nat} {ob : Obj} {f : Int → Option Int} (ho : o.op = .range t x) (hx : opv σ x = some (.map (some g)))
    (i : Nat) (hi : H[i]? = some (.obj g ob)) (ht : P.underlying t = some (.map k e)) (hk : P.underlying k = some (.int .i64)) (hm : MapI P k e ob m f)
    (h : ∀ a' w' r it cnt, Fr n a' ((d, .pointer (some ⟨r, 0, none⟩)) :: σ) → Rg P k e w' g r m f cnt → Sat w0 w' (.obj r it :: H) → K a' w') : o.wp P a w K Q := by
  obtain ⟨D, hD, hf⟩ := hm
  have hown := hD.owns (hS.objAt i hi)
  obtain ⟨w', hrun, hrg, hg, hsz⟩ := hown.range (int_keyed hk) ht
  have hR : Rg P k e w' g w.heap.size m f (Maps.size D) := ⟨D, _, hrg, hf⟩
  obtain ⟨it, hit⟩ := hR.iter
  have hr : (execOp a.eval o).run P w = .ok (.value (.pointer (some ⟨w.heap.size, 0, none⟩))) w' := by simp [execOp, ho, hF.val hx, hrun]
  unfold Oper.wp
  rw [hr]
  have h1 : Sat w w' [.obj w.heap.size it] := by
    refine ⟨(Below.refl _ _).grown hg (Nat.le_refl _) (fun k hk => by cases hk), fun j c hj => ?_, fun j l c d' hj hl hne => ?_, fun j l c d' hj hl q hq => ?_⟩
    · cases j with
      | zero => simp at hj; subst hj; exact ⟨hit, Nat.le_refl _⟩
      | succ j => simp at hj
    · cases j with
      | zero => cases l with
        | zero => exact absurd rfl hne
        | succ l => simp at hl
      | succ j => simp at hj
    · cases l with
      | zero => simp at hl; subst hl; simp [Chunk.reads]
      | succ l => simp at hl
  exact h _ _ _ it _ (hF.put' hd hn _) hR (hS.call h1 (fun j c hj => by cases j with | zero => simp at hj; subst hj; rfl | succ j => simp at hj))
theorem wp_next (hF : Fr n a σ) (hS : Sat w0 w H) {d : Nat} (hd : o.dst = some d) (hn : Nat.blt d n = true) {k e : TypeId} {x : Operand} {g r m cnt : Nat} {it : Obj} {f : Int → Option Int} (ho : o.op = .next x false) (hx : opv σ x = some (.pointer (some ⟨r, 0, none⟩)))
    (j : Nat) (hj : H[j]? = some (.obj r it)) (hk : P.underlying k = some (.int .i64)) (he : P.underlying e = some (.int .i64)) (hR : Rg P k e w g r m f cnt)
    (h0 : ∀ a', Fr n a' ((d, .tuple #[.bool false]) :: σ) → K a' w)
    (h1 : ∀ a' w' it' cnt' (y c : Int), Fr n a' ((d, .tuple #[.bool true, .int .i64 y, .int .i64 c]) :: σ) → i64 y → i64 c → f y = some c → cnt' < cnt → Rg P k e w' g r m f cnt' → (Instr.entry (.pointer (some ⟨r, 0, none⟩))).run P w' = .ok (.tuple #[.int .i64 y, .int .i64 c]) w' → Sat w0 w' (H.set j (.obj r it')) → K a' w') : o.wp P a w K Q := by
  obtain ⟨D, left, hrg, hf⟩ := hR
  unfold Oper.wp
  rcases hrg.next (int_keyed hk) o.type with ⟨_, _, hrun⟩ | ⟨key, v, kl, y, w', cnt', hkey, hlk, hv, hat, hrun, hrg', hlt, hgr, hsz, hen⟩
  · have hr : (execOp a.eval o).run P w = .ok (.value (.tuple #[.bool false])) w := by simp [execOp, ho, hF.val hx, hrun]
    rw [hr]
    exact h0 _ (hF.put' hd hn _)
  · obtain ⟨x', rfl, rfl, hw1⟩ := Maps.keyOf_int_inv hk hkey
    obtain ⟨c, rfl, rfl, hw2⟩ := plainElem_int_inv he hv
    have hr : (execOp a.eval o).run P w = .ok (.value (.tuple #[.bool true, .int .i64 x', .int .i64 c])) w' := by simp [execOp, ho, hF.val hx, hrun]
    rw [hr]
    have hhas : Maps.has D (.int .i64 x') = true := by
      cases hh : Maps.has D (.int .i64 x') with
      | true => rfl
      | false => have h2 := Maps.atKey_of_not_has hh (.lit (.bool true)); rw [hat] at h2; cases h2
    have hfx : f x' = some c := by
      obtain ⟨hf1, hf2⟩ := hf x'
      rw [hhas] at hf1
      cases hfx : f x' with
      | none => rw [hfx] at hf1; cases hf1
      | some c' => have h2 := hf2 c' hfx; rw [hat] at h2; injection h2 with h2; injection h2 with _ h2; rw [h2]
    have hR' : Rg P k e w' g r m f cnt' := ⟨D, _, hrg', hf⟩
    obtain ⟨it', hit⟩ := hR'.iter
    have h64 : ∀ q : Int, (Lit.int .i64 q).wf = true → i64 q := fun q hq => by
      simp [Lit.wf, IntKind.min, IntKind.max, IntKind.signed, IntKind.bits] at hq
      exact ⟨by omega, by omega⟩
    exact h1 _ w' it' cnt' x' c (hF.put' hd hn _) (h64 _ hw1) (h64 _ hw2) hfx hlt hR' hen (hS.updObj j hj hgr hit)
theorem yl_entry (hF : Fr n a σ) {x : Operand} {r : Nat} {v : Value} (ho : o.op = .entry x) (hx : opv σ x = some (.pointer (some ⟨r, 0, none⟩))) (hen : (Instr.entry (.pointer (some ⟨r, 0, none⟩))).run P w = .ok v w) : Yl P (fun w' => w' = w) a o v := fun w' hw => by
  subst hw
  simp [execOp, ho, hF.val hx, hen]
end
end Go.Proofs.Ytffaminjbcfojaa

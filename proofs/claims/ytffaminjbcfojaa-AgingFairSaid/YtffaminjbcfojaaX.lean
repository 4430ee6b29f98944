/- Sub-slices; append in place; clear of what lies behind an owned slice. -/
import Derived.Test.YtffaminjbcfojaaB
namespace Go.Proofs.Ytffaminjbcfojaa
open Go.RowKit
set_option linter.unusedVariables false
set_option linter.unusedSimpArgs false
theorem elem_sliceB {P : Program} {t e : TypeId} (h : sliceB P t = some e) : P.underlying t = some (.slice (P.elem t)) ∧ P.elem t = e := by
  have hu := underlying_sliceB h
  have he : P.elem t = e := by unfold Program.elem; rw [hu]
  exact ⟨by rw [he]; exact hu, he⟩
def subV (A : Option Addr) (lo n c s : Nat) : Value := .slice (if c = lo then A else A.map (·.add (lo * s))) n (c - lo)
section
variable {P : Program} {S : World → Prop} {n : Nat} {a : Act} {σ : List (Nat × Value)} {o : Oper}
theorem yl_slicePre (hF : Fr n a σ) {t e s m c hi : Nat} {kd : IntKind} {A : Option Addr} {x y : Operand} (ho : o.op = .slice t x none (some y) none) (hx : opv σ x = some (.slice A m c)) (hy : opv σ y = some (.int kd ((hi : Nat) : Int)))
    (ht : sliceB P t = some e) (hs : sizeB P e = some s) (hh : hi ≤ c) : Yl P S a o (.slice A hi c) := fun w _ => by
  obtain ⟨hu, he⟩ := elem_sliceB ht
  have h1 := run_sliceAt_slice (P := P) w t (.slice A m c) none (some (.int kd ((hi : Nat) : Int))) none hu
  rw [run_slice_h w t A m c hu kd _ (by omega) (by omega), he, run_sizeOf hs] at h1
  have h2 : (if c = 0 then A else A.map (fun x => x.add (0 * s))) = A := by
    split
    · rfl
    · cases A <;> simp [Addr.add_zero']
  simp [sliced] at h1
  simp [execOp, ho, hF.val hx, hF.val hy, h1]
  cases A <;> simp [Addr.add_zero']
theorem yl_sliceSuf (hF : Fr n a σ) {t e s m c lo : Nat} {kd : IntKind} {A : Option Addr} {x y : Operand} (ho : o.op = .slice t x (some y) none none) (hx : opv σ x = some (.slice A m c)) (hy : opv σ y = some (.int kd ((lo : Nat) : Int)))
    (ht : sliceB P t = some e) (hs : sizeB P e = some s) (hl : lo ≤ m) (hm : m ≤ c) : Yl P S a o (subV A lo (m - lo) c s) := fun w _ => by
  obtain ⟨hu, he⟩ := elem_sliceB ht
  have h1 := run_sliceAt_slice (P := P) w t (.slice A m c) (some (.int kd ((lo : Nat) : Int))) none none hu
  rw [run_slice_any w t A m c hu] at h1
  have hb : (Instr.sliceBounds true m c (some (.int kd ((lo : Nat) : Int))) none none).run P w = .ok (lo, m, c) w := by
    simp only [Instr.sliceBounds, Sem.run_bind, Sem.run_pure, Result.andThen_ok]
    rw [run_sliceBound w kd ((lo : Nat) : Int) m _ (by omega) (by omega)]
    simp
  rw [hb] at h1
  simp only [Result.andThen_ok, he, run_sizeOf hs, sliced] at h1
  simp [execOp, ho, hF.val hx, hF.val hy, h1, subV]
theorem yl_sliceLH (hF : Fr n a σ) {t e s m c lo hi : Nat} {kd kd' : IntKind} {A : Option Addr} {x y z : Operand} (ho : o.op = .slice t x (some y) (some z) none) (hx : opv σ x = some (.slice A m c)) (hy : opv σ y = some (.int kd ((lo : Nat) : Int))) (hz : opv σ z = some (.int kd' ((hi : Nat) : Int)))
    (ht : sliceB P t = some e) (hs : sizeB P e = some s) (hl : lo ≤ hi) (hm : hi ≤ c) : Yl P S a o (subV A lo (hi - lo) c s) := fun w _ => by
  obtain ⟨hu, he⟩ := elem_sliceB ht
  have h1 := run_sliceAt_slice (P := P) w t (.slice A m c) (some (.int kd ((lo : Nat) : Int))) (some (.int kd' ((hi : Nat) : Int))) none hu
  rw [run_slice_lh w t A m c hu kd kd' _ _ (by omega) (by omega) (by omega), he, run_sizeOf hs] at h1
  simp only [Result.andThen_ok, sliced, Int.toNat_natCast] at h1
  simp [execOp, ho, hF.val hx, hF.val hy, hF.val hz, h1, subV]
theorem yl_sliceLHM (hF : Fr n a σ) {t e s m c lo hi mx : Nat} {kd kd' kd2 : IntKind} {A : Option Addr} {x y z q : Operand} (ho : o.op = .slice t x (some y) (some z) (some q)) (hx : opv σ x = some (.slice A m c)) (hy : opv σ y = some (.int kd ((lo : Nat) : Int))) (hz : opv σ z = some (.int kd' ((hi : Nat) : Int))) (hq : opv σ q = some (.int kd2 ((mx : Nat) : Int)))
    (ht : sliceB P t = some e) (hs : sizeB P e = some s) (hl : lo ≤ hi) (hm : hi ≤ mx) (hc : mx ≤ c) : Yl P S a o (subV A lo (hi - lo) mx s) := fun w _ => by
  obtain ⟨hu, he⟩ := elem_sliceB ht
  have h1 := run_sliceAt_slice (P := P) w t (.slice A m c) (some (.int kd ((lo : Nat) : Int))) (some (.int kd' ((hi : Nat) : Int))) (some (.int kd2 ((mx : Nat) : Int))) hu
  rw [run_slice_any w t A m c hu] at h1
  have hb : (Instr.sliceBounds true m c (some (.int kd ((lo : Nat) : Int))) (some (.int kd' ((hi : Nat) : Int))) (some (.int kd2 ((mx : Nat) : Int)))).run P w = .ok (lo, hi, mx) w := by
    simp only [Instr.sliceBounds, Sem.run_bind, Sem.run_pure, Result.andThen_ok]
    rw [run_sliceBound w kd2 _ c _ (by omega) (by omega)]
    simp only [Result.andThen_ok, Int.toNat_natCast]
    rw [run_sliceBound w kd' _ mx _ (by omega) (by omega)]
    simp only [Result.andThen_ok, Int.toNat_natCast]
    rw [run_sliceBound w kd _ hi _ (by omega) (by omega)]
    simp
  rw [hb] at h1
  simp only [Result.andThen_ok, he, run_sizeOf hs, sliced] at h1
  simp [execOp, ho, hF.val hx, hF.val hy, hF.val hz, hF.val hq, h1, subV]
end
/-- readings of parts -/
theorem rd_pre {w : World} {size n c hi : Nat} {A : Option Addr} {α : Type} {enc : α → List Value} {L : List α} (h : Rd w size (.slice A n c) L.length (cells enc L)) (he : ∀ x, (enc x).length = size) (hh : hi ≤ L.length) :
    Rd w size (.slice A hi c) (L.take hi).length (cells enc (L.take hi)) := by
  obtain ⟨A', c', hv, hl, hnc, hc, hn, hx⟩ := h
  injection hv with h1 h2 h3
  subst h1 h2 h3
  have e : (L.take hi).length = hi := by simp; omega
  refine ⟨A, c, by rw [e], cells_length he _, by rw [e]; omega, hc, hn, fun h0 => ?_⟩
  obtain ⟨ad, rfl, hlt, hcell⟩ := hx (by rw [e] at h0; omega)
  refine ⟨ad, rfl, hlt, fun j u hu => hcell j u ?_⟩
  have h2 : cells enc L = cells enc (L.take hi) ++ cells enc (L.drop hi) := by rw [← cells_append, List.take_append_drop]
  rw [h2, List.getElem?_append_left (List.getElem?_eq_some_iff.1 hu).1]
  exact hu
theorem rd_suf {w : World} {size n c lo : Nat} {A : Option Addr} {α : Type} {enc : α → List Value} {L : List α} (h : Rd w size (.slice A n c) L.length (cells enc L)) (he : ∀ x, (enc x).length = size) (hl : lo ≤ L.length) :
    Rd w size (subV A lo (n - lo) c size) (L.drop lo).length (cells enc (L.drop lo)) := by
  obtain ⟨A', c', hv, hll, hnc, hc, hn, hx⟩ := h
  injection hv with h1 h2 h3
  subst h1 h2 h3
  refine ⟨_, c - lo, by rw [List.length_drop]; rfl, cells_length he _, by rw [List.length_drop]; omega, by omega, fun hA => ?_, fun h0 => ?_⟩
  · split at hA
    · omega
    · have := hn (by cases A <;> simp_all); omega
  · rw [List.length_drop] at h0
    obtain ⟨ad, rfl, hlt, hcell⟩ := hx (by omega)
    refine ⟨ad.add (lo * size), by rw [if_neg (by omega)]; rfl, by rw [block_of_add]; exact hlt, fun j u hu => ?_⟩
    rw [add_of_add]
    refine hcell _ u ?_
    have h2 : cells enc L = cells enc (L.take lo) ++ cells enc (L.drop lo) := by rw [← cells_append, List.take_append_drop]
    have h3 : (cells enc (L.take lo)).length = lo * size := by rw [cells_length he]; congr 1; simp; omega
    rw [h2, List.getElem?_append_right (by rw [h3]; omega), h3, Nat.add_sub_cancel_left]
    exact hu
section
variable {w0 w w' : World} {H : List Chunk}
theorem Rd.cap {size n m c : Nat} {A : Option Addr} {xs : List Value} (h : Rd w size (.slice A n c) m xs) : m ≤ c := by
  obtain ⟨A', c', hv, _, hnc, _⟩ := h
  injection hv with h1 h2 h3
  subst h3; exact hnc
/-- an owned slice cut at its end -/
theorem Sat.cut (h : Sat w0 w H) (i : Nat) {e size n c hi : Nat} {ad : Addr} {α : Type} {enc : α → List Value} {L : List α} (hi0 : H[i]? = some (.row e size (.slice (some ad) n c) L.length (cells enc L))) (he : ∀ x, (enc x).length = size) (hh : hi ≤ L.length) :
    Sat w0 w (H.set i (.row e size (.slice (some ad) hi c) (L.take hi).length (cells enc (L.take hi)))) := by
  obtain ⟨hl, hrow⟩ := h.own i hi0
  rcases hrow with ⟨hb, _⟩ | ⟨g, cap, cur, hv, hB, hg, hn, hm, hsz, ht⟩
  · cases hb
  · injection hv with h1 h2 h3
    injection h1 with h1
    subst h1 h2 h3
    have e1 : (L.take hi).length = hi := by simp; omega
    refine h.upd i hi0 (row := none) ⟨rfl, rfl, rfl, Nat.le_refl _, fun k _ _ => rfl⟩ (fun g hg => by cases hg) ?_ (fun k hk => .inl hk) rfl
    refine ⟨cells_length he _, .inr ⟨g, c, cur, by rw [e1], hB, hg, by rw [e1]; omega, hm, hsz, ?_⟩⟩
    rw [e1]
    have h2 : cells enc L = cells enc (L.take hi) ++ cells enc (L.drop hi) := by rw [← cells_append, List.take_append_drop]
    have h3 : (cells enc (L.take hi)).length = hi * size := by rw [cells_length he, e1]
    have h4 := congrArg (List.take (hi * size)) ht
    rw [List.take_take, Nat.min_eq_left (Nat.mul_le_mul_right _ hh), h2, ← h3, List.take_left] at h4
    rw [← h3]; exact h4
end
section
variable {P : Program} {n : Nat} {a : Act} {σ : List (Nat × Value)} {o : Oper} {Q : Exit → Act → World → Prop} {K : Act → World → Prop} {w w0 : World} {H : List Chunk}
/-- append in place, of a slice that reads (of the same row, too) -/
theorem wp_appIn {α : Type} {enc : α → List Value} (hF : Fr n a σ) (hS : Sat w0 w H) {d : Nat} (hd : o.dst = some d) (hn : Nat.blt d n = true) {x y : Operand} {t e : TypeId} {ad : Addr} {m c : Nat} {u : Value} {L M : List α} {size : Nat}
    (ho : o.op = .call { callee := .builtin .append, args := #[x, y], argTypes := #[t, t] }) (hx : opv σ x = some (.slice (some ad) m c)) (hy : opv σ y = some u)
    (i : Nat) (hi : H[i]? = some (.row e size (.slice (some ad) m c) L.length (cells enc L))) (ht : sliceB P t = some e) (hsz : sizeB P e = some size)
    (hu : Rd w size u M.length (cells enc M)) (he : ∀ x, (enc x).length = size) (h1 : ∀ x, ∀ u ∈ enc x, u.oneCell' = true) (hroom : L.length + M.length ≤ c)
    (h : ∀ a' w', Fr n a' ((d, .slice (some ad) (m + M.length) c) :: σ) → Sat w0 w' (H.set i (.row e size (.slice (some ad) (m + M.length) c) (L ++ M).length (cells enc (L ++ M)))) → K a' w') : o.wp P a w K Q := by
  obtain ⟨hl, hrow⟩ := hS.own i hi
  rcases hrow with ⟨hb, _⟩ | ⟨g, cap, cur, hv, hB, hg, hn', hm, hcs, htk⟩
  · cases hb
  · injection hv with h1' h2' h3'
    injection h1' with h1'
    subst h1' h2' h3'
    obtain ⟨A, c2, rfl, hml, hmc, hc2, hA, hcell⟩ := hu
    have hinfo : (P.info? e).map (·.size) = some size := hsz
    obtain ⟨i0, hi0, hi1⟩ := Option.map_eq_some_iff.1 hinfo
    have hlen : (cells enc (L ++ M)).length = (L ++ M).length * size := cells_length he _
    have key : ∃ w', (Builtin.append_ #[t, t] o.type #[.slice (some ⟨g, 0, none⟩) L.length c, .slice A M.length c2]).run P w = .ok (.slice (some ⟨g, 0, none⟩) (L.length + M.length) c) w' ∧
        w'.ownsRow w0.heap.size e size (.slice (some ⟨g, 0, none⟩) (L.length + M.length) c) (L ++ M).length (cells enc (L ++ M)) ∧ w.grownBy w' (some g) := by
      have hfit : L.length * size + (cells enc M).length ≤ cur.size := by rw [hml, hcs, ← Nat.add_mul]; exact Nat.mul_le_mul_right _ hroom
      have hst := run_storeCells_at P g (L.length * size) e (cells enc M) 0 cur w hg (by simpa using hfit) (cells_oneCell h1 M)
      simp only [Nat.add_zero] at hst
      have hfc : (Builtin.firstCells size M.length (.slice A M.length c2)).run P w = .ok (cells enc M).toArray w := by
        rcases Nat.eq_zero_or_pos M.length with h0 | h0
        · have hM : M = [] := List.eq_nil_of_length_eq_zero h0
          subst hM
          cases A <;> simp [Builtin.firstCells, cells, loadCells, loadCellsFrom]
        · obtain ⟨ad, rfl, _, hc⟩ := hcell h0
          have := run_loadCells_list (P := P) w ad (cells enc M) hc
          rw [hml] at this
          simpa [Builtin.firstCells] using this
      refine ⟨(w.setRow g (cur.toList.take (L.length * size) ++ cells enc M ++ cur.toList.drop (L.length * size + (cells enc M).length)).toArray), ?_, ⟨hlen, .inr ⟨g, c, _, by simp, hB, setRow_heap w g cur _ e (0, 0) hg, by simpa using hroom, hm, ?_, ?_⟩⟩, ⟨rfl, rfl, rfl, by simp [World.setRow], fun k _ hk => setRow_other w g k _ (fun e => hk (by rw [e]))⟩⟩
      · have haddr : (⟨g, 0, none⟩ : Addr).add (L.length * size) = ⟨g, L.length * size, none⟩ := by unfold Addr.add; split <;> simp_all
        simp [Builtin.append_, run_underlying (underlying_sliceB ht), sizeOf, typeInfo, hi0, hi1, Builtin.lenOf, hroom, hfc, haddr, hst]
      · simp only [List.size_toArray, List.length_append, List.length_take, List.length_drop, Array.length_toList]; omega
      · have e2 : cur.toList.take (L.length * size) = cells enc L := htk
        simp only [e2]
        rw [← hlen, cells_append]
        exact List.take_left
    obtain ⟨w', hrun, how, hgr⟩ := key
    have hr : (execOp a.eval o).run P w = .ok (.value (.slice (some ⟨g, 0, none⟩) (L.length + M.length) c)) w' := by
      simp only [execOp, ho, resolve, invoke, builtin, Sem.run_bind, Sem.run_pure, Result.andThen_ok, List.map_toArray, List.map_cons, List.map_nil, hF.val hx, hF.val hy, hrun]
    unfold Oper.wp
    rw [hr]
    exact h _ _ (hF.put' hd hn _) (hS.upd i hi hgr (fun k hk => by injection hk with hk; subst hk; rfl) how (fun k hk => .inl hk) rfl)
/-- clear of what lies behind an owned slice, within its capacity -/
theorem wp_clearT {α : Type} {enc : α → List Value} (hF : Fr n a σ) (hS : Sat w0 w H) (hd : o.dst = none) {x : Operand} {t e : TypeId} {ad : Addr} {m lo c k : Nat} {L : List α} {size : Nat} {z : Value}
    (ho : o.op = .call { callee := .builtin .clear, args := #[x], argTypes := #[t] }) (hx : opv σ x = some (subV (some ad) lo k c size)) (hlo : lo = m)
    (i : Nat) (hi : H[i]? = some (.row e size (.slice (some ad) m c) L.length (cells enc L))) (ht : sliceB P t = some e) (hz : zeroB P e = some z) (hzs : z.cells.size = size) (h1 : ∀ u ∈ z.cells.toList, u.oneCell' = true)
    (hroom : m + k ≤ c) (h : ∀ a' w', Fr n a' σ → Sat w0 w' H → K a' w') : o.wp P a w K Q := by
  subst hlo
  obtain ⟨hl, hrow⟩ := hS.own i hi
  rcases hrow with ⟨hb, _⟩ | ⟨g, cap, cur, hv, hB, hg, hn', hm, hcs, htk⟩
  · cases hb
  · injection hv with h1' h2' h3'
    injection h1' with h1'
    subst h1' h2' h3'
    rcases Nat.eq_zero_or_pos k with h0 | h0
    · subst h0
      have hr : (execOp a.eval o).run P w = .ok (.value (.tuple #[])) w := by
        unfold subV at hx
        by_cases hc : c = L.length
        · rw [if_pos hc] at hx
          simp [execOp, ho, resolve, invoke, builtin, Builtin.clear_, hF.val hx, run_underlying (underlying_sliceB ht)]
        · rw [if_neg hc, Option.map_some] at hx
          simp [execOp, ho, resolve, invoke, builtin, Builtin.clear_, hF.val hx, run_underlying (underlying_sliceB ht)]
      unfold Oper.wp
      rw [hr]
      exact h _ _ (hF.put0 hd _) hS
    · have hne : ¬ c = L.length := by omega
      have hzl : (Builtin.zeroCells z.cells k).toList.length = k * size := by simp [Builtin.zeroCells, hzs]
      have hz1 : ∀ v ∈ (Builtin.zeroCells z.cells k).toList, v.oneCell' = true := fun v hv => by
        simp only [Builtin.zeroCells, Array.toList_map, List.mem_map] at hv
        obtain ⟨j, hj, rfl⟩ := hv
        have hj' : j < k * z.cells.size := by simpa using hj
        have hpos : 0 < z.cells.size := by
          rcases Nat.eq_zero_or_pos z.cells.size with h | h
          · rw [h] at hj'; omega
          · exact h
        have hlt : j % z.cells.size < z.cells.size := Nat.mod_lt _ hpos
        rw [getElem!_pos z.cells _ hlt]
        exact h1 _ (by simp)
      have hsp : (L.length + k) * size ≤ c * size := Nat.mul_le_mul_right _ hroom
      rw [Nat.add_mul] at hsp
      have hst := run_storeCells_at P g (L.length * size) e (Builtin.zeroCells z.cells k).toList 0 cur w hg (by rw [hzl]; omega) hz1
      simp only [Nat.add_zero] at hst
      have haddr : (⟨g, 0, none⟩ : Addr).add (L.length * size) = ⟨g, L.length * size, none⟩ := by unfold Addr.add; split <;> simp_all
      obtain ⟨k', rfl⟩ : ∃ k', k = k' + 1 := ⟨k - 1, by omega⟩
      have hr : (execOp a.eval o).run P w = .ok (.value (.tuple #[])) (w.setRow g (cur.toList.take (L.length * size) ++ (Builtin.zeroCells z.cells (k' + 1)).toList ++ cur.toList.drop (L.length * size + (Builtin.zeroCells z.cells (k' + 1)).toList.length)).toArray) := by
        unfold subV at hx
        rw [if_neg hne, Option.map_some, haddr] at hx
        have hcl : (Builtin.clear_ #[t] o.type #[.slice (some ⟨g, L.length * size, none⟩) (k' + 1) (c - L.length)]).run P w = .ok (.tuple #[]) (w.setRow g (cur.toList.take (L.length * size) ++ (Builtin.zeroCells z.cells (k' + 1)).toList ++ cur.toList.drop (L.length * size + (Builtin.zeroCells z.cells (k' + 1)).toList.length)).toArray) := by
          simp [Builtin.clear_, run_underlying (underlying_sliceB ht), run_zeroValue hz]
          simp at hst
          rw [hst]; rfl
        simp only [execOp, ho, resolve, invoke, builtin, Sem.run_bind, Sem.run_pure, Result.andThen_ok, List.map_toArray, List.map_cons, List.map_nil, hF.val hx, hcl]
      unfold Oper.wp
      rw [hr]
      refine h _ _ (hF.put0 hd _) ?_
      have hle : L.length * size ≤ (List.take (L.length * size) cur.toList).length := by
        have h5 : cur.toList.length = c * size := by simpa using hcs
        have := Nat.mul_le_mul_right size hn'
        rw [List.length_take, h5]; omega
      have hset := hS.upd i hi (c' := .row e size (.slice (some ⟨g, 0, none⟩) L.length c) L.length (cells enc L)) (w' := w.setRow g (cur.toList.take (L.length * size) ++ (Builtin.zeroCells z.cells (k' + 1)).toList ++ cur.toList.drop (L.length * size + (Builtin.zeroCells z.cells (k' + 1)).toList.length)).toArray) (row := some g)
        ⟨rfl, rfl, rfl, by simp [World.setRow], fun k _ hk => setRow_other w g k _ (fun e => hk (by rw [e]))⟩ (fun k hk => by injection hk with hk; subst hk; rfl)
        ⟨hl, .inr ⟨g, c, _, rfl, hB, setRow_heap w g cur _ e (0, 0) hg, hn', hm, by
          simp only [List.size_toArray, List.length_append, List.length_take, List.length_drop, Array.length_toList] at hzl ⊢
          rw [hzl]; omega, by
          rw [List.append_assoc, List.take_append_of_le_length hle, List.take_take, Nat.min_self]; exact htk⟩⟩ (fun k hk => .inl hk) rfl
      have hid : H.set i (.row e size (.slice (some ⟨g, 0, none⟩) L.length c) L.length (cells enc L)) = H := by
        obtain ⟨hlt, heq⟩ := List.getElem?_eq_some_iff.1 hi
        rw [← heq, List.set_getElem_self]
      rw [hid] at hset
      exact hset
end
end Go.Proofs.Ytffaminjbcfojaa

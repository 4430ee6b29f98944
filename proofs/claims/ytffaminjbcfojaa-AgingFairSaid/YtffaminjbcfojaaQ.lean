/- From a walk to the statement: what every law's row asks, met once. -/
import Derived.Test.YtffaminjbcfojaaS
import Derived.ProofKit
import Derived.OpenShut
import Derived.JoinedCond
namespace Go.Proofs.Ytffaminjbcfojaa
open Go.ChangeShapes Go.WideShapes Go.ChangeAt Go.RowKit
set_option linter.unusedVariables false

section
variable {H : Type} {enc : TypeId × Value → H} {P : Program}
theorem trodAll_keep (hl : laidOutB P = true) {W W' : World} (hB : Below W.heap.size W W') : ∀ (ts : List TypeId) (vs : List Value) (ds : List (DataW H)) (ps : List MemPlace),
    (∀ t ∈ ts, P.readableRec t = true ∧ t < P.types.size) → DataW.TrodAll enc P W 0 (fun _ => true) true ts vs ds ps → (∀ x ∈ ps, x.block < W.heap.size) → ∀ sp : Nat → Bool, (∀ x ∈ ps, sp x.block = true) → DataW.TrodAll enc P W' 0 sp true ts vs ds ps
  | [], vs, ds, ps, _, h, _, _, _ => by
    obtain ⟨rfl, rfl, rfl⟩ := trodAll_nil h
    exact trodAll_mk0
  | t :: ts, vs, ds, ps, ht, h, hlt, sp, hsp => by
    obtain ⟨v, vs', d, ds', p, q, rfl, rfl, rfl, h0, h1⟩ := trodAll_cons h
    obtain ⟨hr, hrow⟩ := ht t (by simp)
    exact trodAll_cons_mk (WideElems.Trod_stays hl hr hrow h0 (fun x hx => hB.same (hlt x (by simp [hx]))) (fun x hx => hsp x (by simp [hx])))
      (trodAll_keep hl hB ts vs' ds' q (fun t' h' => ht t' (by simp [h'])) h1 (fun x hx => hlt x (by simp [hx])) sp (fun x hx => hsp x (by simp [hx])))

theorem law_post {f : Func} {s : ChangeSpec} {W W' : World} {args : Array Value} {ds gs : List (DataW H)} {before : List MemPlace} {tb : TypeId} (hl : laidOutB P = true)
    (hpar : (f.params.toList.all fun t => P.readableRec t && decide (t < P.types.size)) = true) (hrt : f.resultTypes = #[tb]) (hb : P.underlying tb = some .bool) (hvars : s.vars = [])
    (hW : DataW.Whole enc P f.params.toList s.vars false W args.toList ds gs before) (hres : (s.fn H (ds ++ gs)).results = [.lit (.bool true)]) (hargs : (s.fn H (ds ++ gs)).args = ds) (hvs : (s.fn H (ds ++ gs)).vars = [])
    (hB : Below W.heap.size W W') : s.post enc P f false true false false W args (.bool true) W' := by
  have hlt : ∀ p ∈ before, p.block < W.heap.size := fun p hp => hW.lt p hp
  have hold : ∀ p ∈ before, (fun b => decide (b < W.heap.size)) p.block = true := fun p hp => by simpa using hlt p hp
  have hW2 := hW
  obtain ⟨p, q, hA, hV, rfl, hz, hn⟩ := hW
  rw [hvars] at hV
  obtain ⟨rfl, rfl⟩ := trodVars_none hV
  have hA' : ∀ sp : Nat → Bool, (∀ x ∈ p ++ [], sp x.block = true) → DataW.TrodAll enc P W' 0 sp true f.params.toList args.toList (s.fn H (ds ++ [])).args p := fun sp hsp => by
    rw [hargs]
    refine trodAll_keep hl hB _ _ _ _ (fun t ht => ?_) hA (fun x hx => hlt x (by simp [hx])) sp (fun x hx => hsp x (by simp [hx]))
    have := List.all_eq_true.1 hpar t ht
    simpa using this
  have hr' : ∀ (b : Nat) (sp : Nat → Bool) (hd : Bool), DataW.TrodAll enc P W' b sp hd f.resultTypes.toList ((Value.bool true).resultList f.resultTypes.size) (s.fn H (ds ++ [])).results [] := fun b sp hd => by
    rw [hres, hrt]
    exact trodAll_mk1 (shut_bool hb _)
  have hv' : ∀ sp : Nat → Bool, DataW.TrodVars enc P W' sp s.vars (s.fn H (ds ++ [])).vars [] := fun sp => by rw [hvars, hvs]; rfl
  refine ⟨ds, [], p ++ [], [], p, [], hW2, hr' _ _ _, hA' _ hold, hv' _, World.keptBut_mono (fun x hx => ⟨hx, ?_⟩) (hB.frame (· ∈ p ++ [])), fun _ => ?_⟩
  · right; simpa using hx
  · refine ⟨ok_one hrt rfl (okWide_bool_mk hb _), _, _, ([] ++ p) ++ [], ⟨[] ++ p, [], trodAll_append (hA' _ (fun _ _ => rfl)) (hr' _ _ _), hv' _, rfl, ?_, ?_⟩, ?_⟩
    · intro b off hp
      have hin : MemPlace.cell b off ∈ p ++ [] := by simpa using hp
      rw [hB.frozen (hlt _ hin)]
      exact hz b off hin
    · intro ha; cases ha
    · intro x hx _; simpa using hx

/-- a struct by value, opened: its cells, and the reading of each field -/
theorem open_st {r : Reach} {b0 base : Nat} {w : World} {spare : Nat → Bool} {held : Bool} {t N : Nat} {fs : Array Field} {v : Value} {d : DataW H} {p : List MemPlace} (hs : P.underlying t = some (.struct fs)) (hC : P.cellsOf t = N)
    (hv : Value.okWide P w r b0 t v) (h : DataW.Trod enc P w base spare held t v d p) :
    ∃ (l : List Value) (m : Nat), v = .agg l.toArray ∧ l.length = N ∧ ∀ (j : Nat) (f : Field), fs[j]? = some f → ∃ y, DataW.trod enc P w base spare held m f.type ((l.drop f.offset).take (P.cellsOf f.type)) = some y := by
  obtain ⟨cs, rfl, hsz⟩ := okWide_struct hs hv
  obtain ⟨fuel, hf⟩ := h
  obtain ⟨ys, m, _, hx, hl, hlen, hg⟩ := DataW.trod_struct hs hf
  refine ⟨cs.toList, m, by simp, by simpa [hC] using hsz, fun j f hj => ?_⟩
  have hjl : j < ys.length := by rw [hlen]; exact (Array.getElem?_eq_some_iff.1 hj).1
  have h1 := hg j f hj
  rw [List.getElem?_eq_getElem hjl] at h1
  exact ⟨_, h1⟩
theorem st_field {base : Nat} {w : World} {spare : Nat → Bool} {held : Bool} {t m : Nat} {fs : Array Field} {l : List Value} {y : DataW H × List MemPlace} (hs : P.underlying t = some (.struct fs)) (h : DataW.trod enc P w base spare held m t l = some y) :
    l.length = P.cellsOf t ∧ ∃ m', ∀ (j : Nat) (f : Field), fs[j]? = some f → ∃ y, DataW.trod enc P w base spare held m' f.type ((l.drop f.offset).take (P.cellsOf f.type)) = some y := by
  obtain ⟨ys, m', _, hx, hl, hlen, hg⟩ := DataW.trod_struct hs h
  refine ⟨hl, m', fun j f hj => ?_⟩
  have hjl : j < ys.length := by rw [hlen]; exact (Array.getElem?_eq_some_iff.1 hj).1
  have h1 := hg j f hj
  rw [List.getElem?_eq_getElem hjl] at h1
  exact ⟨_, h1⟩
theorem len_cons {α : Type} {n : Nat} {l : List α} (h : l.length = n + 1) : ∃ x r, l = x :: r ∧ r.length = n := by
  cases l with
  | nil => simp at h
  | cons x r => exact ⟨x, r, rfl, by simpa using h⟩
theorem len_nil {α : Type} {l : List α} (h : l.length = 0) : l = [] := List.eq_nil_of_length_eq_zero h
theorem fld1 {base : Nat} {w : World} {spare : Nat → Bool} {held : Bool} {t m o k : Nat} {l : List Value} {v : Value} {y : DataW H × List MemPlace} (h : DataW.trod enc P w base spare held m t ((l.drop o).take k) = some y) (hk : k = 1) (hv : nth l o = some v) :
    DataW.trod enc P w base spare held m t [v] = some y := by
  subst hk
  rw [nth_eq] at hv
  have : (l.drop o).take 1 = [v] := by
    obtain ⟨hlt, he⟩ := List.getElem?_eq_some_iff.1 hv
    rw [List.drop_eq_getElem_cons hlt, he]; rfl
  rwa [this] at h
theorem fldk {base : Nat} {w : World} {spare : Nat → Bool} {held : Bool} {t m o k k' : Nat} {l l' : List Value} {y : DataW H × List MemPlace} (h : DataW.trod enc P w base spare held m t ((l.drop o).take k) = some y) (hk : k = k') (hv : (l.drop o).take k' = l') :
    DataW.trod enc P w base spare held m t l' = some y := by subst hk; rwa [hv] at h
/-- a field that is an int, a bool, a string, a slice of ints -/
theorem f_int {base : Nat} {w : World} {spare : Nat → Bool} {held : Bool} {t m : Nat} {v : Value} {y : DataW H × List MemPlace} (ht : P.underlying t = some (.int .i64)) (h : DataW.trod enc P w base spare held m t [v] = some y) : ∃ n, v = .int .i64 n ∧ i64 n := by
  obtain ⟨n, hn, _, hw⟩ := DataW.trod_int ht h
  injection hn with hn _
  refine ⟨n, hn, ?_⟩
  simp [Lit.wf, IntKind.min, IntKind.max, IntKind.signed, IntKind.bits] at hw
  exact ⟨by omega, by omega⟩
theorem f_bool {base : Nat} {w : World} {spare : Nat → Bool} {held : Bool} {t m : Nat} {v : Value} {y : DataW H × List MemPlace} (ht : P.underlying t = some .bool) (h : DataW.trod enc P w base spare held m t [v] = some y) : ∃ b, v = .bool b := by
  obtain ⟨b, hb, _⟩ := DataW.trod_bool ht h
  injection hb with hb _; exact ⟨b, hb⟩
theorem f_str {base : Nat} {w : World} {spare : Nat → Bool} {held : Bool} {t m : Nat} {v : Value} {y : DataW H × List MemPlace} (ht : P.underlying t = some .string) (h : DataW.trod enc P w base spare held m t [v] = some y) : ∃ s, v = .string s ∧ s.size ≤ maxLen := by
  obtain ⟨b, hb, _, hs⟩ := DataW.trod_string ht h
  injection hb with hb _; exact ⟨b, hb, hs⟩
theorem f_ints {base : Nat} {w : World} {spare : Nat → Bool} {held : Bool} {t e m : Nat} {v : Value} {y : DataW H × List MemPlace} (ht : P.underlying t = some (.slice e)) (he : P.underlying e = some (.int .i64)) (hc : P.cellsOf e = 1) (h : DataW.trod enc P w base spare held m t [v] = some y) :
    ∃ L : List Int, Rd w 1 v L.length (cells encI L) ∧ (∀ x ∈ L, i64 x) ∧ L.length ≤ maxLen := by
  rcases open_ints ht he hc h with ⟨hv, _⟩ | ⟨a, len, cap, zs, hv, _, hlc, hcap, hzl, _, hcell, hwf⟩
  · injection hv with hv _; subst hv
    exact ⟨[], rd_nil _ 1 0 encI, (fun x hx => by cases hx), by simp [maxLen]⟩
  · injection hv with hv _; subst hv
    have hlen : len ≤ zs.length := by rw [hzl]; split <;> omega
    have e1 : (zs.take len).length = len := by simp; omega
    have e2 : ∀ l : List Int, cells encI l = l.map (Value.int .i64) := fun l => by
      induction l with
      | nil => rfl
      | cons x r ih => simp [cells, encI] at ih ⊢; exact ih
    refine ⟨zs.take len, ⟨some a, cap, by rw [e1], by rw [e2]; simp, by rw [e1]; exact hlc, hcap, (fun h => by cases h), fun hn => ⟨a, rfl, ?_, fun j u hu => ?_⟩⟩, fun x hx => ?_, by rw [e1]; omega⟩
    · have h0 := hcell 0 (by omega)
      have := World.block_lt_of_cell? w _ h0
      rwa [block_of_add] at this
    · rw [e2, List.getElem?_map] at hu
      obtain ⟨x, hx, rfl⟩ := Option.map_eq_some_iff.1 hu
      have hj : j < zs.length := by have := (List.getElem?_eq_some_iff.1 hx).1; simp at this; omega
      rw [hcell j hj]
      rw [List.getElem?_take] at hx
      split at hx
      · simp [List.getD, hx]
      · cases hx
    · have hw := hwf x (List.mem_of_mem_take hx)
      simp [Lit.wf, IntKind.min, IntKind.max, IntKind.signed, IntKind.bits] at hw
      exact ⟨by omega, by omega⟩
end
end Go.Proofs.Ytffaminjbcfojaa

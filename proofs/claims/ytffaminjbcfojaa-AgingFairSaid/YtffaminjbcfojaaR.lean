/- Regions that draw their order, the results of a function, loops. -/
import Derived.Test.YtffaminjbcfojaaO
namespace Go.Proofs.Ytffaminjbcfojaa
open Go.RowKit
set_option linter.unusedVariables false

/-- the condition S is wanted as long as operation number s has not come up -/
def SOk (S : World → Prop) (s : Nat) (listed : Array Bool) (w : World) : Prop := listed.getD s false = true ∨ S w

def HA (P : Program) (ops : Array Oper) (Q : Exit → Act → World → Prop) (S : World → Prop) (s : Nat) : Nat → Array Bool → Act → World → Prop
  | 0, listed, a, w => Region.ready .any ops listed = [] ∧ Q .normal a w
  | fuel + 1, listed, a, w => (Region.ready .any ops listed = [] → Q .normal a w) ∧
      ∀ i ∈ Region.ready .any ops listed, wpOp P ops Q i (fun a' w' => SOk S s (listed.setIfInBounds i true) w' ∧ HA P ops Q S s fuel (listed.setIfInBounds i true) a' w') a w

section
variable {P : Program} {ops : Array Oper} {Q : Exit → Act → World → Prop} {S : World → Prop} {s : Nat}

theorem HA.any : ∀ (fuel : Nat) (listed : Array Bool) (a : Act) (w : World), HA P ops Q S s fuel listed a w → wpAny P .any ops Q fuel listed a w
  | 0, _, _, _, h => h
  | fuel + 1, _, _, _, h => ⟨h.1, fun i hi => wpOp_mono (fun a' w' h' => HA.any fuel _ a' w' h'.2) (h.2 i hi)⟩

theorem HA.first {T : World → Prop} {J : Array Bool → Prop} {i : Nat} {oi : Oper} {v : Value} (hi : ops[i]? = some oi) (hsel : ∀ (j : Nat) (o : Oper) cs b, ops[j]? = some o → o.op ≠ .select cs b)
    (hQ : ∀ c a w, Q (.panic c) (a.put oi.dst v) w → Q (.panic c) a w) (hsi : s ≠ i)
    (hJT : ∀ listed w, J listed → SOk S s listed w → T w)
    (hJ : ∀ listed j, J listed → i ∈ Region.ready .any ops listed → j ∈ Region.ready .any ops listed → j ≠ i → J (listed.setIfInBounds j true)) :
    ∀ (fuel : Nat) (listed : Array Bool) (a : Act) (w : World),
      (∀ j oj, ops[j]? = some oj → j ≠ i → listed.getD j true = false → (∀ e ∈ oj.after, Region.binds .any e = true → e.on ≠ i) → oi.apart ops oj = true) →
      i ∈ Region.ready .any ops listed → YieldsIf P ops T oi v a → J listed → SOk S s listed w →
      HA P ops Q S s fuel (listed.setIfInBounds i true) (a.put oi.dst v) w → HA P ops Q S s (fuel + 1) listed a w := by
  have up : ∀ (listed : Array Bool) (j : Nat) (w : World), SOk S s listed w → SOk S s (listed.setIfInBounds j true) w := fun listed j w h => by
    rcases h with h | h
    · exact .inl (getD_set_true h)
    · exact .inr h
  intro fuel
  induction fuel with
  | zero =>
    intro listed a w _ hr hy hj hS H
    refine ⟨fun h => (by rw [h] at hr; cases hr), fun j hj' => ?_⟩
    by_cases hji : j = i
    · subst hji; exact hy.wpOp hi (hJT _ _ hj hS) ⟨up _ _ _ hS, H⟩
    · have := ready_mono hj' hji
      rw [H.1] at this
      cases this
  | succ fuel ih =>
    intro listed a w hfree hr hy hj hS H
    refine ⟨fun h => (by rw [h] at hr; cases hr), fun j hj' => ?_⟩
    by_cases hji : j = i
    · subst hji; exact hy.wpOp hi (hJT _ _ hj hS) ⟨up _ _ _ hS, H⟩
    · have h1 := H.2 j (ready_mono hj' hji)
      obtain ⟨hjun, oj, hoj, hall⟩ := mem_ready.1 hj'
      have hnot : ∀ e ∈ oj.after, Region.binds .any e = true → e.on ≠ i := fun e he hb heq => by
        have h1 := hall e he hb
        have h0 := (mem_ready.1 hr).1
        rw [heq] at h1
        rcases Nat.lt_or_ge i listed.size with h' | h'
        · simp [h'] at h0 h1; rw [h0] at h1; cases h1
        · simp [Array.getElem?_eq_none h'] at h1
      have h2 := wpOp_putIf hoj (hfree j oj hoj hji hjun hnot) (fun cs b => hsel i oi cs b hi) (fun cs b => hsel j oj cs b hoj) hQ hy h1
      have hfree' : ∀ k ok, ops[k]? = some ok → k ≠ i → (listed.setIfInBounds j true).getD k true = false →
          (∀ e ∈ ok.after, Region.binds .any e = true → e.on ≠ i) → oi.apart ops ok = true := fun k ok hk hki hun hno => by
        refine hfree k ok hk hki ?_ hno
        by_cases hjk : j = k
        · subst hjk; exact hjun
        · rw [getD_set_ne true hjk] at hun; exact hun
      refine wpOp_mono (fun a' w' h3 => ?_) h2
      have hS' : SOk S s (listed.setIfInBounds j true) w' := by
        rcases h3.2.1 with h4 | h4
        · rw [Array.setIfInBounds_comm _ _ (Ne.symm hji), getD_set_ne false (Ne.symm hsi)] at h4
          exact .inl h4
        · exact .inr h4
      refine ⟨hS', ih (listed.setIfInBounds j true) a' w' hfree' (ready_mono hr (Ne.symm hji)) h3.1 (hJ listed j hj hr hj' hji) hS' ?_⟩
      rw [Array.setIfInBounds_comm _ _ hji]
      exact h3.2.2

/-- does operation s wait for operation i? -/
def waits (ops : Array Oper) (s i : Nat) : Bool :=
  match ops[s]? with
  | some os => os.after.any fun e => Region.binds .any e && e.on == i
  | none => true

theorem HA.first_pure {i : Nat} {oi : Oper} {v : Value} (hi : ops[i]? = some oi) (hsel : Region.noSelect ops = true) (hQ : ∀ c a w, Q (.panic c) (a.put oi.dst v) w → Q (.panic c) a w) (hsi : s ≠ i)
    {fuel : Nat} {listed : Array Bool} {a : Act} {w : World} (hf : Region.free .any ops listed i = true) (hr : (Region.ready .any ops listed).contains i = true) (hy : YieldsIf P ops (fun _ => True) oi v a) (hS : SOk S s listed w)
    (H : HA P ops Q S s fuel (listed.setIfInBounds i true) (a.put oi.dst v) w) : HA P ops Q S s (fuel + 1) listed a w :=
  HA.first (T := fun _ => True) (J := fun _ => True) hi (Region.noSelect_spec hsel) hQ hsi (fun _ _ _ _ => trivial) (fun _ _ _ _ _ _ => trivial) fuel listed a w (Region.free_spec hi hf) (by simpa using hr) hy trivial hS H

theorem HA.first_load {i : Nat} {oi : Oper} {v : Value} (hi : ops[i]? = some oi) (hsel : Region.noSelect ops = true) (hQ : ∀ c a w, Q (.panic c) (a.put oi.dst v) w → Q (.panic c) a w) (hsi : s ≠ i)
    (hwt : waits ops s i = true) {fuel : Nat} {listed : Array Bool} {a : Act} {w : World} (hf : Region.free .any ops listed i = true) (hr : (Region.ready .any ops listed).contains i = true) (hy : YieldsIf P ops S oi v a)
    (hls : listed.getD s false = false) (hS : S w)
    (H : HA P ops Q S s fuel (listed.setIfInBounds i true) (a.put oi.dst v) w) : HA P ops Q S s (fuel + 1) listed a w := by
  refine HA.first (T := S) (J := fun l => l.getD s false = false) hi (Region.noSelect_spec hsel) hQ hsi (fun l w hl h => ?_) (fun l j hl hi' hj hji => ?_) fuel listed a w (Region.free_spec hi hf) (by simpa using hr) hy hls (.inr hS) H
  · rcases h with h | h
    · rw [hl] at h; cases h
    · exact h
  · have hjs : j ≠ s := fun e => by
      subst e
      obtain ⟨_, oj, hoj, hall⟩ := mem_ready.1 hj
      unfold waits at hwt
      rw [hoj] at hwt
      obtain ⟨e, he, hb⟩ := Array.any_eq_true'.1 hwt
      simp only [Bool.and_eq_true, beq_iff_eq] at hb
      have h1 := hall e he hb.1
      rw [hb.2] at h1
      have h0 := (mem_ready.1 hi').1
      rcases Nat.lt_or_ge i l.size with h' | h'
      · simp [h'] at h0 h1; rw [h0] at h1; cases h1
      · simp [Array.getElem?_eq_none h'] at h1
    rw [getD_set_ne false hjs]; exact hl

/-- the beginning -/
theorem ha_start (S : World → Prop) (s : Nat) {id : Nat} {l : List Oper} {a : Act} {w : World} (hm : P.follows .mixedOrders = true)
    (h : HA P l.toArray Q S s l.length (Array.replicate l.length false) a w.drew) : (Code.region id l.toArray true).wp P Q a w :=
  wp_region_any hm (by simpa using HA.any _ _ _ _ h)
theorem ha_startS {w0 w : World} {H : List Chunk} (hS : Sat w0 w H) (f : List Nat) (s : Nat) {id : Nat} {l : List Oper} {a : Act} (hm : P.follows .mixedOrders = true)
    (h : ∀ w, Sat w0 w H → HA P l.toArray Q (fun w' => Sat w0 w' (f.filterMap (H[·]?))) s l.length (Array.replicate l.length false) a w) : (Code.region id l.toArray true).wp P Q a w :=
  ha_start _ s hm (h _ hS.drew)
theorem ha_done {listed : Array Bool} {a : Act} {w : World} (hr : Region.ready .any ops listed = []) (h : Q .normal a w) : ∀ fuel, HA P ops Q S s fuel listed a w
  | 0 => ⟨hr, h⟩
  | _ + 1 => ⟨fun _ => h, by rw [hr]; simp⟩

section
variable {n : Nat} {a : Act} {σ : List (Nat × Value)} {o : Oper} {fuel : Nat} {listed : Array Bool} {w : World}
theorem ha_yl (i : Nat) (hF : Fr n a σ) (hi : ops[i]? = some o) {d : Nat} (hd : o.dst = some d) (hn : Nat.blt d n = true) (hsel : Region.noSelect ops = true) (hf : Region.free .any ops listed i = true) (hr : (Region.ready .any ops listed).contains i = true)
    (hsi : s ≠ i) {v : Value} (hQ : ∀ c a w, Q (.panic c) (a.put o.dst v) w → Q (.panic c) a w) (hw : Wn ops a o true) (hS : SOk S s listed w) (hy : Yl P (fun _ => True) a o v)
    (h : ∀ a', Fr n a' ((d, v) :: σ) → HA P ops Q S s fuel (listed.setIfInBounds i true) a' w) : HA P ops Q S s (fuel + 1) listed a w :=
  HA.first_pure hi hsel hQ hsi hf hr (.inl ⟨hw, hy⟩) hS (h _ (hF.put' hd hn v))
theorem ha_ld (i : Nat) (hF : Fr n a σ) (hi : ops[i]? = some o) {d : Nat} (hd : o.dst = some d) (hn : Nat.blt d n = true) (hsel : Region.noSelect ops = true) (hf : Region.free .any ops listed i = true) (hr : (Region.ready .any ops listed).contains i = true)
    (hsi : s ≠ i) (hwt : waits ops s i = true) (hls : listed.getD s false = false) {v : Value} (hQ : ∀ c a w, Q (.panic c) (a.put o.dst v) w → Q (.panic c) a w) (hw : Wn ops a o true) (hS : S w) (hy : Yl P S a o v)
    (h : ∀ a', Fr n a' ((d, v) :: σ) → HA P ops Q S s fuel (listed.setIfInBounds i true) a' w) : HA P ops Q S s (fuel + 1) listed a w :=
  HA.first_load hi hsel hQ hsi hwt hf hr (.inl ⟨hw, hy⟩) hls hS (h _ (hF.put' hd hn v))
theorem ha_skip (i : Nat) (hF : Fr n a σ) (hi : ops[i]? = some o) {d : Nat} (hd : o.dst = some d) (hn : Nat.blt d n = true) (hsel : Region.noSelect ops = true) (hf : Region.free .any ops listed i = true) (hr : (Region.ready .any ops listed).contains i = true)
    (hsi : s ≠ i) (hQ : ∀ c a w, Q (.panic c) (a.put o.dst undef) w → Q (.panic c) a w) (hw : Wn ops a o false) (hS : SOk S s listed w)
    (h : ∀ a', Fr n a' ((d, undef) :: σ) → HA P ops Q S s fuel (listed.setIfInBounds i true) a' w) : HA P ops Q S s (fuel + 1) listed a w :=
  HA.first_pure hi hsel hQ hsi hf hr (.inr ⟨hw, rfl⟩) hS (h _ (hF.put' hd hn undef))
/-- whichever of those that may come up comes up -/
theorem ha_all {rs : List Nat} (hr : Region.ready .any ops listed = rs) (hne : rs ≠ [])
    (h : ∀ i ∈ rs, wpOp P ops Q i (fun a' w' => SOk S s (listed.setIfInBounds i true) w' ∧ HA P ops Q S s fuel (listed.setIfInBounds i true) a' w') a w) : HA P ops Q S s (fuel + 1) listed a w :=
  ⟨fun h0 => absurd (hr ▸ h0) hne, hr ▸ h⟩
theorem ha_one (i : Nat) (hr : Region.ready .any ops listed = [i]) (hi : ops[i]? = some o) (hw : Wn ops a o true)
    (h : o.wp P a w (fun a' w' => SOk S s (listed.setIfInBounds i true) w' ∧ HA P ops Q S s fuel (listed.setIfInBounds i true) a' w') Q) : HA P ops Q S s (fuel + 1) listed a w :=
  ha_all hr (by simp) (fun j hj => by
    simp at hj; subst hj
    unfold wpOp
    simp only [hi]
    rw [if_pos (show Region.wanted o (yielded ops a.tmps) = true from hw)]
    exact .inl h)
theorem ha_op (i : Nat) {K : Act → World → Prop} (hi : ops[i]? = some o) (hw : Wn ops a o true) (h : o.wp P a w K Q) : wpOp P ops Q i K a w := by
  unfold wpOp
  simp only [hi]
  rw [if_pos (show Region.wanted o (yielded ops a.tmps) = true from hw)]
  exact .inl h
end
end


/-! short forms -/
section
variable {P : Program} {ops : Array Oper} {Q : Exit → Act → World → Prop} {S : World → Prop} {s : Nat} {n : Nat} {a : Act} {σ : List (Nat × Value)} {o : Oper} {fuel : Nat} {listed : Array Bool} {w : World}
theorem ha_y (i : Nat) (hF : Fr n a σ) (hi : ops[i]? = some o) {d : Nat} (hd : o.dst = some d) (hn : Nat.blt d n = true) {v : Value} (hw : Wn ops a o true) (hS : SOk S s listed w) (hy : Yl P (fun _ => True) a o v)
    (h : ∀ a', Fr n a' ((d, v) :: σ) → HA P ops Q S s fuel (listed.setIfInBounds i true) a' w)
    (hsel : Region.noSelect ops = true := by kernel_rfl) (hf : Region.free .any ops listed i = true := by kernel_rfl) (hr : (Region.ready .any ops listed).contains i = true := by kernel_rfl)
    (hsi : s ≠ i := by decide) (hQ : ∀ c a w, Q (.panic c) (a.put o.dst v) w → Q (.panic c) a w := by exact fun _ _ _ h => h) : HA P ops Q S s (fuel + 1) listed a w :=
  ha_yl i hF hi hd hn hsel hf hr hsi hQ hw hS hy h
theorem ha_l (i : Nat) (hF : Fr n a σ) (hi : ops[i]? = some o) {d : Nat} (hd : o.dst = some d) (hn : Nat.blt d n = true) {v : Value} (hw : Wn ops a o true) (hS : S w) (hy : Yl P S a o v)
    (h : ∀ a', Fr n a' ((d, v) :: σ) → HA P ops Q S s fuel (listed.setIfInBounds i true) a' w)
    (hsel : Region.noSelect ops = true := by kernel_rfl) (hf : Region.free .any ops listed i = true := by kernel_rfl) (hr : (Region.ready .any ops listed).contains i = true := by kernel_rfl)
    (hsi : s ≠ i := by decide) (hwt : waits ops s i = true := by kernel_rfl) (hls : listed.getD s false = false := by kernel_rfl) (hQ : ∀ c a w, Q (.panic c) (a.put o.dst v) w → Q (.panic c) a w := by exact fun _ _ _ h => h) : HA P ops Q S s (fuel + 1) listed a w :=
  ha_ld i hF hi hd hn hsel hf hr hsi hwt hls hQ hw hS hy h
theorem ha_s (i : Nat) (hF : Fr n a σ) (hi : ops[i]? = some o) {d : Nat} (hd : o.dst = some d) (hn : Nat.blt d n = true) (hw : Wn ops a o false) (hS : SOk S s listed w)
    (h : ∀ a', Fr n a' ((d, undef) :: σ) → HA P ops Q S s fuel (listed.setIfInBounds i true) a' w)
    (hsel : Region.noSelect ops = true := by kernel_rfl) (hf : Region.free .any ops listed i = true := by kernel_rfl) (hr : (Region.ready .any ops listed).contains i = true := by kernel_rfl)
    (hsi : s ≠ i := by decide) (hQ : ∀ c a w, Q (.panic c) (a.put o.dst undef) w → Q (.panic c) a w := by exact fun _ _ _ h => h) : HA P ops Q S s (fuel + 1) listed a w :=
  ha_skip i hF hi hd hn hsel hf hr hsi hQ hw hS h
end
/-! a cut: what holds behind a piece of code that ends normally -/
def cutR (C : Act → World → Prop) (Q : Exit → Act → World → Prop) : Exit → Act → World → Prop
  | .normal, a, w => C a w
  | e, a, w => Q e a w
theorem cut_n {C : Act → World → Prop} {Q : Exit → Act → World → Prop} {a : Act} {w : World} (h : C a w) : cutR C Q .normal a w := h
theorem cut_r {C : Act → World → Prop} {Q : Exit → Act → World → Prop} {a : Act} {w : World} (h : Q .ret a w) : cutR C Q .ret a w := h
theorem cut_x {C : Act → World → Prop} {Q : Exit → Act → World → Prop} {id : Nat} {a : Act} {w : World} (h : Q (.exit id) a w) : cutR C Q (.exit id) a w := h
theorem c_cut {P : Program} {Q : Exit → Act → World → Prop} {a : Act} {w : World} {c : Code} (C : Act → World → Prop) (h : c.wp P (cutR C Q) a w) (hC : ∀ a w, C a w → Q .normal a w) : c.wp P Q a w :=
  Code.wp_mono (fun e a w h => by cases e <;> first | exact hC _ _ h | exact h) h

/-! ### results -/
section
variable {P : Program} {n : Nat} {a : Act} {σ : List (Nat × Value)} {w w0 : World} {H : List Chunk} {fn : Func} {R : Ending → World → Prop}
/-- the variable in a result's box -/
def ResC (P : Program) (w : World) (σ : List (Nat × Value)) (k T : Nat) (v : Value) : Prop := ∃ ad, look σ k = some (.pointer (some ad)) ∧ (loadVar T ad).run P w = .ok v w
theorem resC (hS : Sat w0 w H) {k g T T' : Nat} {cs : Array Value} (hk : look σ k = some (.pointer (some ⟨g, 0, none⟩))) (i : Nat) (hi : H[i]? = some (.box g T' cs)) (ha : aggB P T = some true) (hs : sizeB P T = some cs.size) : ResC P w σ k T (.agg cs) := by
  refine ⟨_, hk, ?_⟩
  have hl : (loadCells ⟨g, 0, none⟩ cs.size).run P w = .ok cs w := by
    have := run_loadCells_list (P := P) w ⟨g, 0, none⟩ cs.toList (fun j v hj => by
      rw [Addr.add_lit, Nat.zero_add, hS.cell i hi j]; simpa using hj)
    simpa using this
  simp [loadVar, run_isAgg ha, run_sizeOf hs, hl]
theorem resC1 (hS : Sat w0 w H) {k g T T' : Nat} {v : Value} (hk : look σ k = some (.pointer (some ⟨g, 0, none⟩))) (i : Nat) (hi : H[i]? = some (.box g T' #[v])) (ha : aggB P T = some false) : ResC P w σ k T v := by
  refine ⟨_, hk, ?_⟩
  have hc := hS.cell i hi 0
  simp at hc
  simp [loadVar, run_isAgg ha, hc]
theorem ret_t (hF : Fr n a σ) {t : Nat} {v : Value} (hr : fn.results = #[.tmp t]) (ht : look σ t = some v) (h : R (.returned v) w) : bodyPost P fn R .ret a w :=
  ⟨hF.defers, v, by simp only [results, hr]; simp [← hF.get _ _ ht], h⟩
theorem ret_tt (hF : Fr n a σ) {t t2 : Nat} {v v2 : Value} (hr : fn.results = #[.tmp t, .tmp t2]) (ht : look σ t = some v) (ht2 : look σ t2 = some v2) (h : R (.returned (.tuple #[v, v2])) w) : bodyPost P fn R .ret a w :=
  ⟨hF.defers, _, by simp only [results, hr]; simp [← hF.get _ _ ht, ← hF.get _ _ ht2], h⟩
theorem ret_ttt (hF : Fr n a σ) {t t2 t3 : Nat} {v v2 v3 : Value} (hr : fn.results = #[.tmp t, .tmp t2, .tmp t3]) (ht : look σ t = some v) (ht2 : look σ t2 = some v2) (ht3 : look σ t3 = some v3) (h : R (.returned (.tuple #[v, v2, v3])) w) : bodyPost P fn R .ret a w :=
  ⟨hF.defers, _, by simp only [results, hr]; simp [← hF.get _ _ ht, ← hF.get _ _ ht2, ← hF.get _ _ ht3], h⟩
theorem ret_c (hF : Fr n a σ) {k T : Nat} {v : Value} (hr : fn.results = #[.cell k T]) (hc : ResC P w σ k T v) (h : R (.returned v) w) : bodyPost P fn R .ret a w := by
  obtain ⟨ad, hk, hl⟩ := hc
  exact ⟨hF.defers, v, by simp only [results, hr]; have := hF.get _ _ hk; simp at this; simp [this, asAddr, hl], h⟩
theorem ret_ct (hF : Fr n a σ) {k T t2 : Nat} {v v2 : Value} (hr : fn.results = #[.cell k T, .tmp t2]) (hc : ResC P w σ k T v) (ht2 : look σ t2 = some v2) (h : R (.returned (.tuple #[v, v2])) w) : bodyPost P fn R .ret a w := by
  obtain ⟨ad, hk, hl⟩ := hc
  exact ⟨hF.defers, _, by simp only [results, hr]; have := hF.get _ _ hk; have h2 := hF.get _ _ ht2; simp at this h2; simp [this, asAddr, hl, h2], h⟩
theorem ret_ctt (hF : Fr n a σ) {k T t2 t3 : Nat} {v v2 v3 : Value} (hr : fn.results = #[.cell k T, .tmp t2, .tmp t3]) (hc : ResC P w σ k T v) (ht2 : look σ t2 = some v2) (ht3 : look σ t3 = some v3) (h : R (.returned (.tuple #[v, v2, v3])) w) : bodyPost P fn R .ret a w := by
  obtain ⟨ad, hk, hl⟩ := hc
  exact ⟨hF.defers, _, by simp only [results, hr]; have := hF.get _ _ hk; have h2 := hF.get _ _ ht2; have h3 := hF.get _ _ ht3; simp at this h2 h3; simp [this, asAddr, hl, h2, h3], h⟩
theorem ret_cc (hF : Fr n a σ) {k T k2 T2 : Nat} {v v2 : Value} (hr : fn.results = #[.cell k T, .cell k2 T2]) (hc : ResC P w σ k T v) (hc2 : ResC P w σ k2 T2 v2) (h : R (.returned (.tuple #[v, v2])) w) : bodyPost P fn R .ret a w := by
  obtain ⟨ad, hk, hl⟩ := hc
  obtain ⟨ad2, hk2, hl2⟩ := hc2
  exact ⟨hF.defers, _, by simp only [results, hr]; have := hF.get _ _ hk; have h2 := hF.get _ _ hk2; simp at this h2; simp [this, asAddr, hl, h2, hl2], h⟩
theorem ret_tc (hF : Fr n a σ) {k T t2 : Nat} {v v2 : Value} (hr : fn.results = #[.tmp t2, .cell k T]) (hc : ResC P w σ k T v) (ht2 : look σ t2 = some v2) (h : R (.returned (.tuple #[v2, v])) w) : bodyPost P fn R .ret a w := by
  obtain ⟨ad, hk, hl⟩ := hc
  exact ⟨hF.defers, _, by simp only [results, hr]; have := hF.get _ _ hk; have h2 := hF.get _ _ ht2; simp at this h2; simp [this, asAddr, hl, h2], h⟩
theorem ret_cct (hF : Fr n a σ) {k T k2 T2 t3 : Nat} {v v2 v3 : Value} (hr : fn.results = #[.cell k T, .cell k2 T2, .tmp t3]) (hc : ResC P w σ k T v) (hc2 : ResC P w σ k2 T2 v2) (ht3 : look σ t3 = some v3) (h : R (.returned (.tuple #[v, v2, v3])) w) : bodyPost P fn R .ret a w := by
  obtain ⟨ad, hk, hl⟩ := hc
  obtain ⟨ad2, hk2, hl2⟩ := hc2
  exact ⟨hF.defers, _, by simp only [results, hr]; have := hF.get _ _ hk; have h2 := hF.get _ _ hk2; have h3 := hF.get _ _ ht3; simp at this h2 h3; simp [this, asAddr, hl, h2, hl2, h3], h⟩
end
end Go.Proofs.Ytffaminjbcfojaa

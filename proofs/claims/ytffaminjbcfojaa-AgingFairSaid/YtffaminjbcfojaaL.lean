/- A small logic over the walk's rules: frames as lists of slots, memory as a list of chunks (boxes, owned rows, rows that are only read). -/
import Derived.Test.YtffaminjbcfojaaRows
import Derived.WalkKit
import Derived.WalkSpells
import Derived.Deep.AppendLies
import Derived.Maps.AppendAt
import Derived.OrdersHeld
import Derived.Deep.LoopGhost
import Derived.Lib.Hide
namespace Go.Proofs.Ytffaminjbcfojaa
open Go.RowKit
set_option linter.unusedVariables false

/-! ### frames -/
def look : List (Nat × Value) → Nat → Option Value
  | [], _ => none
  | (j, v) :: r, k => match Nat.beq j k with | true => some v | false => look r k

/-- the k-th of a list -/
def nth {α : Type} : List α → Nat → Option α
  | [], _ => none
  | x :: _, 0 => some x
  | _ :: r, k + 1 => nth r k
theorem nth_eq {α : Type} : ∀ (l : List α) (k : Nat), nth l k = l[k]?
  | [], _ => by simp [nth]
  | x :: _, 0 => by simp [nth]
  | _ :: r, k + 1 => by simp [nth, nth_eq r k]

structure Fr (n : Nat) (a : Act) (σ : List (Nat × Value)) : Prop where
  defers : a.defers = []
  size : a.tmps.size = n
  get : ∀ k v, look σ k = some v → a.tmps.getD k undef = v

def opv (σ : List (Nat × Value)) : Operand → Option Value
  | .tmp k => look σ k
  | .const v => some v
  | .global g => some (.pointer (some ⟨g, 0, none⟩))
  | .func f => some (.func (.func f) #[] #[])

section
variable {n : Nat} {a : Act} {σ τ : List (Nat × Value)}
theorem Fr.val (h : Fr n a σ) {x : Operand} {v : Value} (hx : opv σ x = some v) : a.eval x = v := by
  cases x with
  | tmp k => exact h.get k v hx
  | const u => exact Option.some.inj hx
  | global g => exact Option.some.inj hx
  | func f => exact Option.some.inj hx

theorem look_cons (j : Nat) (v : Value) (r : List (Nat × Value)) (k : Nat) : look ((j, v) :: r) k = if j = k then some v else look r k := by
  show (match Nat.beq j k with | true => some v | false => look r k) = _
  by_cases h : j = k
  · subst h; simp
  · have : Nat.beq j k = false := by
      cases hb : Nat.beq j k with
      | true => exact absurd (Nat.eq_of_beq_eq_true hb) h
      | false => rfl
    rw [this, if_neg h]

theorem Fr.put (h : Fr n a σ) (d : Nat) (hd : Nat.blt d n = true) (v : Value) : Fr n (a.put (some d) v) ((d, v) :: σ) := by
  have hd' : d < n := by simpa using hd
  refine ⟨h.defers, by simp [Act.put, h.size], fun k u hk => ?_⟩
  rw [look_cons] at hk
  split at hk
  · rename_i e; subst e
    injection hk with hk; subst hk
    have := h.size
    simp [Act.put, Array.getD, this, hd']
  · rename_i e
    have := h.get k u hk
    rw [← this]
    simp [Act.put, Array.getElem?_setIfInBounds_ne e]

theorem Fr.put' (h : Fr n a σ) {o : Oper} {d : Nat} (hd : o.dst = some d) (hn : Nat.blt d n = true) (v : Value) : Fr n (a.put o.dst v) ((d, v) :: σ) := by
  rw [hd]; exact h.put d hn v
theorem Fr.put0 (h : Fr n a σ) {o : Oper} (hd : o.dst = none) (v : Value) : Fr n (a.put o.dst v) σ := by rw [hd]; exact h

/-- keep the slots of a list alone -/
def pickSlots (σ : List (Nat × Value)) : List Nat → List (Nat × Value)
  | [] => []
  | k :: r => match look σ k with | some v => (k, v) :: pickSlots σ r | none => pickSlots σ r
theorem look_pick (σ : List (Nat × Value)) (ks : List Nat) (k : Nat) (v : Value) (h : look (pickSlots σ ks) k = some v) : look σ k = some v := by
  induction ks with
  | nil => simp [pickSlots, look] at h
  | cons j r ih =>
    unfold pickSlots at h
    split at h
    · rename_i u hu
      rw [look_cons] at h
      split at h
      · rename_i e; subst e; rw [hu]; exact h
      · exact ih h
    · exact ih h
theorem Fr.pick (h : Fr n a σ) (ks : List Nat) : Fr n a (pickSlots σ ks) := ⟨h.defers, h.size, fun k v hk => h.get k v (look_pick σ ks k v hk)⟩
theorem Fr.to (h : Fr n a σ) (ks : List Nat) (e : pickSlots σ ks = τ) : Fr n a τ := e ▸ h.pick ks
end

/-! ### memory -/
/-- the slice value v, of n elements (size cells each), reads as the cells xs in w -/
def Rd (w : World) (size : Nat) (v : Value) (n : Nat) (xs : List Value) : Prop :=
  ∃ A c, v = .slice A n c ∧ xs.length = n * size ∧ n ≤ c ∧ c ≤ maxLen ∧ (A = none → c = 0) ∧
    (0 < n → ∃ ad, A = some ad ∧ ad.block < w.heap.size ∧ ∀ j u, xs[j]? = some u → w.cell? (ad.add j) = some u)

inductive Chunk where
  | box (g : Nat) (T : TypeId) (cs : Array Value)
  | row (e size : Nat) (v : Value) (n : Nat) (xs : List Value)
  | ro (size : Nat) (v : Value) (n : Nat) (xs : List Value)
  | obj (g : Nat) (o : Obj)

def Chunk.holds (B : Nat) (w : World) : Chunk → Prop
  | .box g T cs => w.heap[g]? = some (.cells cs T (0, 0)) ∧ B ≤ g
  | .row e size v n xs => w.ownsRow B e size v n xs
  | .ro size v n xs => Rd w size v n xs
  | .obj g o => w.heap[g]? = some o ∧ B ≤ g
def Chunk.own : Chunk → Option Nat
  | .box g _ _ => some g
  | .row _ _ v _ _ => v.ownBlock
  | .ro .. => none
  | .obj g _ => some g
def Chunk.reads : Chunk → Option Nat
  | .ro _ v n _ => if n = 0 then none else v.ownBlock
  | _ => none

structure Sat (w0 w : World) (H : List Chunk) : Prop where
  below : Below w0.heap.size w0 w
  holds : ∀ (i : Nat) (c : Chunk), H[i]? = some c → c.holds w0.heap.size w
  nodup : ∀ (i j : Nat) (c d : Chunk), H[i]? = some c → H[j]? = some d → i ≠ j → ∀ g, c.own = some g → d.own ≠ some g
  apart : ∀ (i j : Nat) (c d : Chunk), H[i]? = some c → H[j]? = some d → ∀ g, c.own = some g → d.reads ≠ some g

theorem block_of_add (a : Addr) (n : Nat) : (a.add n).block = a.block := by unfold Addr.add; split <;> rfl
theorem add_of_add (a : Addr) (i j : Nat) : (a.add i).add j = a.add (i + j) := by
  unfold Addr.add
  by_cases hi : i = 0 <;> by_cases hj : j = 0 <;> simp [hi, hj, Nat.add_assoc]

section
variable {w0 w w' : World} {H : List Chunk} {B : Nat} {c : Chunk}

theorem Chunk.own_lt (h : c.holds B w) {g : Nat} (hg : c.own = some g) : B ≤ g ∧ g < w.heap.size := by
  cases c with
  | box g' T cs => simp only [Chunk.own, Option.some.injEq] at hg; subst hg; exact ⟨h.2, (Array.getElem?_eq_some_iff.1 h.1).1⟩
  | row e size v n xs => exact World.ownsRow.lt h g hg
  | ro => simp [Chunk.own] at hg
  | obj g' o => simp only [Chunk.own, Option.some.injEq] at hg; subst hg; exact ⟨h.2, (Array.getElem?_eq_some_iff.1 h.1).1⟩

theorem Chunk.reads_lt (h : c.holds B w) {g : Nat} (hg : c.reads = some g) : g < w.heap.size := by
  cases c with
  | box => simp [Chunk.reads] at hg
  | row => simp [Chunk.reads] at hg
  | obj => simp [Chunk.reads] at hg
  | ro size v n xs =>
    obtain ⟨A, cp, rfl, hl, hnc, hc, hA, hx⟩ := h
    simp only [Chunk.reads] at hg
    split at hg
    · cases hg
    · obtain ⟨ad, rfl, hlt, _⟩ := hx (by omega)
      simp only [Value.ownBlock, Option.some.injEq] at hg
      omega

/-- a chunk lasts where its blocks are as they were -/
theorem Chunk.keep (h : c.holds B w) (hs : w.heap.size ≤ w'.heap.size) (hk : ∀ g, (c.own = some g ∨ c.reads = some g) → w'.heap[g]? = w.heap[g]?) : c.holds B w' := by
  cases c with
  | box g T cs => exact ⟨(hk g (.inl rfl)).trans h.1, h.2⟩
  | row e size v n xs =>
    obtain ⟨hl, h⟩ := h
    refine ⟨hl, ?_⟩
    rcases h with h | ⟨g, cap, cur, rfl, hb, hg, r⟩
    · exact .inl h
    · exact .inr ⟨g, cap, cur, rfl, hb, (hk g (.inl rfl)).trans hg, r⟩
  | obj g o => exact ⟨(hk g (.inl rfl)).trans h.1, h.2⟩
  | ro size v n xs =>
    obtain ⟨A, cp, rfl, hl, hnc, hc, hA, hx⟩ := h
    refine ⟨A, cp, rfl, hl, hnc, hc, hA, fun hn => ?_⟩
    obtain ⟨ad, rfl, hlt, hcell⟩ := hx hn
    have e := hk ad.block (.inr (by simp only [Chunk.reads]; rw [if_neg (by omega)]; rfl))
    exact ⟨ad, rfl, by omega, fun j u hu => (World.cell?_of_block (w := w) (by rw [block_of_add]; exact e)).trans (hcell j u hu)⟩

theorem Sat.nil (w : World) : Sat w w [] := ⟨Below.refl _ _, fun i c h => by simp at h, fun i j c d h => by simp at h, fun i j c d h => by simp at h⟩

theorem Sat.size (h : Sat w0 w H) : w0.heap.size ≤ w.heap.size := h.below.size

/-- an argument's slice -/
theorem Sat.addRo (h : Sat w0 w H) {size : Nat} {v : Value} {n : Nat} {xs : List Value} (hr : Rd w0 size v n xs) : Sat w0 w (.ro size v n xs :: H) := by
  have hr' : Chunk.holds w0.heap.size w0 (.ro size v n xs) := hr
  refine ⟨h.below, fun i c hi => ?_, fun i j c d hi hj hne g hg => ?_, fun i j c d hi hj g hg => ?_⟩
  · cases i with
    | zero =>
      simp at hi; subst hi
      refine Chunk.keep hr' h.size fun g hg => ?_
      rcases hg with hg | hg
      · simp [Chunk.own] at hg
      · exact h.below.block g (Chunk.reads_lt hr' hg)
    | succ i => exact h.holds i c (by simpa using hi)
  · cases i with
    | zero => simp at hi; subst hi; simp [Chunk.own] at hg
    | succ i =>
      cases j with
      | zero => simp at hj; subst hj; simp [Chunk.own]
      | succ j => exact h.nodup i j c d (by simpa using hi) (by simpa using hj) (by omega) g hg
  · cases i with
    | zero => simp at hi; subst hi; simp [Chunk.own] at hg
    | succ i =>
      have hc := h.holds i c (by simpa using hi)
      cases j with
      | zero =>
        simp at hj; subst hj
        intro he
        have := Chunk.reads_lt hr' he
        have := (Chunk.own_lt hc hg).1
        omega
      | succ j => exact h.apart i j c d (by simpa using hi) (by simpa using hj) g hg

/-- the general step: a world with new blocks, in which at most the block of chunk i was written; chunk i becomes c' -/
theorem Sat.upd (h : Sat w0 w H) (i : Nat) {c c' : Chunk} (hi : H[i]? = some c) {row : Option Nat} (hg : w.grownBy w' row) (hrow : ∀ g, row = some g → c.own = some g)
    (hc' : c'.holds w0.heap.size w') (hown : ∀ g, c'.own = some g → c.own = some g ∨ w.heap.size ≤ g) (hr : c'.reads = none) : Sat w0 w' (H.set i c') := by
  have keep : ∀ (j : Nat) (d : Chunk), j ≠ i → H[j]? = some d → d.holds w0.heap.size w' := fun j d hne hj => by
    have hd := h.holds j d hj
    refine Chunk.keep hd hg.size fun g hgd => ?_
    have hlt : g < w.heap.size := by
      rcases hgd with hgd | hgd
      · exact (Chunk.own_lt hd hgd).2
      · exact Chunk.reads_lt hd hgd
    refine hg.block g hlt fun e => ?_
    have hgc := hrow g e.symm
    rcases hgd with hgd | hgd
    · exact h.nodup i j c d hi hj (Ne.symm hne) g hgc hgd
    · exact h.apart i j c d hi hj g hgc hgd
  have hilt : i < H.length := (List.getElem?_eq_some_iff.1 hi).1
  have at_ : ∀ (j : Nat) (d : Chunk), (H.set i c')[j]? = some d → (j = i ∧ d = c') ∨ (j ≠ i ∧ H[j]? = some d) := fun j d hj => by
    rw [List.getElem?_set] at hj
    split at hj
    · rename_i e; subst e; first | (rw [if_pos hilt] at hj; injection hj with hj; exact .inl ⟨rfl, hj.symm⟩) | (injection hj with hj; exact .inl ⟨rfl, hj.symm⟩)
    · rename_i e; exact .inr ⟨fun e' => e e'.symm, hj⟩
  have far : ∀ (j : Nat) (d : Chunk), H[j]? = some d → ∀ g, w.heap.size ≤ g → d.own ≠ some g ∧ d.reads ≠ some g := fun j d hj g hgs =>
    ⟨fun e => by have := (Chunk.own_lt (h.holds j d hj) e).2; omega, fun e => by have := Chunk.reads_lt (h.holds j d hj) e; omega⟩
  refine ⟨h.below.grown hg h.size (fun k hk => (Chunk.own_lt (h.holds i c hi) (hrow k hk)).1), fun j d hj => ?_, fun j k d e hj hk hne g hgd => ?_, fun j k d e hj hk g hgd => ?_⟩
  · rcases at_ j d hj with ⟨_, rfl⟩ | ⟨hne, hj⟩
    · exact hc'
    · exact keep j d hne hj
  · rcases at_ j d hj with ⟨rfl, rfl⟩ | ⟨hnj, hj'⟩ <;> rcases at_ k e hk with ⟨rfl, rfl⟩ | ⟨hnk, hk'⟩
    · exact absurd rfl hne
    · rcases hown g hgd with ho | ho
      · exact h.nodup _ _ c e hi hk' hne g ho
      · exact (far k e hk' g ho).1
    · intro he
      rcases hown g he with ho | ho
      · exact h.nodup _ _ c d hi hj' (Ne.symm hne) g ho hgd
      · exact (far j d hj' g ho).1 hgd
    · exact h.nodup j k d e hj' hk' hne g hgd
  · rcases at_ k e hk with ⟨rfl, rfl⟩ | ⟨hnk, hk'⟩
    · rw [hr]; simp
    · rcases at_ j d hj with ⟨rfl, rfl⟩ | ⟨hnj, hj'⟩
      · rcases hown g hgd with ho | ho
        · exact h.apart _ _ c e hi hk' g ho
        · exact (far k e hk' g ho).2
      · exact h.apart j k d e hj' hk' g hgd

theorem Sat.grow (h : Sat w0 w H) (hb : Below w.heap.size w w') : Sat w0 w' H := by
  refine ⟨h.below.trans (hb.mono h.size), fun i c hi => ?_, h.nodup, h.apart⟩
  have hd := h.holds i c hi
  refine Chunk.keep hd hb.size fun g hg => hb.block g ?_
  rcases hg with hg | hg
  · exact (Chunk.own_lt hd hg).2
  · exact Chunk.reads_lt hd hg

/-- what a call owns when it returns goes over to its caller -/
theorem Sat.call (h : Sat w0 w H) {H' : List Chunk} (h' : Sat w w' H') (hr : ∀ (i : Nat) (c : Chunk), H'[i]? = some c → c.reads = none) : Sat w0 w' (H' ++ H) := by
  have hg := h.grow h'.below
  have lo : ∀ (i : Nat) (c : Chunk), H[i]? = some c → ∀ g, (c.own = some g ∨ c.reads = some g) → g < w.heap.size := fun i c hi g hg => by
    rcases hg with hg | hg
    · exact (Chunk.own_lt (h.holds i c hi) hg).2
    · exact Chunk.reads_lt (h.holds i c hi) hg
  have hi' : ∀ (i : Nat) (c : Chunk), H'[i]? = some c → ∀ g, c.own = some g → w.heap.size ≤ g := fun i c hi g hg => (Chunk.own_lt (h'.holds i c hi) hg).1
  have at_ : ∀ (j : Nat) (d : Chunk), (H' ++ H)[j]? = some d → (j < H'.length ∧ H'[j]? = some d) ∨ (H'.length ≤ j ∧ H[j - H'.length]? = some d) := fun j d hj => by
    rw [List.getElem?_append] at hj
    split at hj
    · exact .inl ⟨‹_›, hj⟩
    · exact .inr ⟨by omega, hj⟩
  refine ⟨hg.below, fun i c hi => ?_, fun i j c d hi hj hne g hgc => ?_, fun i j c d hi hj g hgc => ?_⟩
  · rcases at_ i c hi with ⟨_, hi⟩ | ⟨_, hi⟩
    · have hc := h'.holds i c hi
      cases c with
      | box g T cs => exact ⟨hc.1, Nat.le_trans h.size hc.2⟩
      | row e size v n xs =>
        obtain ⟨hl, hc⟩ := hc
        refine ⟨hl, ?_⟩
        rcases hc with hc | ⟨g, cap, cur, hv, hb, r⟩
        · exact .inl hc
        · exact .inr ⟨g, cap, cur, hv, Nat.le_trans h.size hb, r⟩
      | obj g o => exact ⟨hc.1, Nat.le_trans h.size hc.2⟩
      | ro => exact hc
    · exact hg.holds _ c hi
  · rcases at_ i c hi with ⟨hli, hi⟩ | ⟨hli, hi⟩ <;> rcases at_ j d hj with ⟨hlj, hj⟩ | ⟨hlj, hj⟩
    · exact h'.nodup i j c d hi hj hne g hgc
    · intro hd
      have := lo _ d hj g (.inl hd)
      have := hi' i c hi g hgc
      omega
    · intro hd
      have := lo _ c hi g (.inl hgc)
      have := hi' j d hj g hd
      omega
    · exact h.nodup _ _ c d hi hj (by omega) g hgc
  · rcases at_ j d hj with ⟨hlj, hj⟩ | ⟨hlj, hj⟩
    · rw [hr j d hj]; simp
    · rcases at_ i c hi with ⟨hli, hi⟩ | ⟨hli, hi⟩
      · intro hd
        have := lo _ d hj g (.inr hd)
        have := hi' i c hi g hgc
        omega
      · exact h.apart _ _ c d hi hj g hgc

/-- fewer chunks, by their places -/
theorem Sat.sub (h : Sat w0 w H) {H' : List Chunk} (f : List Nat) (hf : f.Nodup) (hH : H' = f.filterMap (H[·]?)) (hall : ∀ i ∈ f, i < H.length) : Sat w0 w H' := by
  have e : H' = f.attach.map (fun i => H[i.1]'(hall i.1 i.2)) := by
    subst hH
    clear hf
    induction f with
    | nil => rfl
    | cons i r ih =>
      have hi := hall i (by simp)
      rw [List.filterMap_cons, List.getElem?_eq_getElem hi]
      simp only [List.attach_cons, List.map_cons, List.map_map]
      rw [ih (fun j hj => hall j (List.mem_cons_of_mem _ hj))]
      rfl
  have len : H'.length = f.length := by rw [e]; simp
  have at_ : ∀ (j : Nat) (d : Chunk), H'[j]? = some d → ∃ i, f[j]? = some i ∧ H[i]? = some d := fun j d hj => by
    rw [e] at hj
    have hlt : j < f.length := by
      have := (List.getElem?_eq_some_iff.1 hj).1
      simpa using this
    refine ⟨f[j], List.getElem?_eq_getElem hlt, ?_⟩
    rw [List.getElem?_map, List.getElem?_attach] at hj
    rw [← hj]
    simp [hlt]
  refine ⟨h.below, fun j d hj => ?_, fun j k d e hj hk hne g hg => ?_, fun j k d e hj hk g hg => ?_⟩
  · obtain ⟨i, _, hi⟩ := at_ j d hj; exact h.holds i d hi
  · obtain ⟨i, hfi, hi⟩ := at_ j d hj
    obtain ⟨l, hfl, hl⟩ := at_ k e hk
    refine h.nodup i l d e hi hl (fun heq => hne ?_) g hg
    subst heq
    have h1 := (List.getElem?_eq_some_iff.1 hfi)
    have h2 := (List.getElem?_eq_some_iff.1 hfl)
    obtain ⟨h1l, h1e⟩ := h1
    obtain ⟨h2l, h2e⟩ := h2
    exact (List.getElem_inj (h₀ := h1l) (h₁ := h2l) hf).1 (h1e.trans h2e.symm)
  · obtain ⟨i, _, hi⟩ := at_ j d hj
    obtain ⟨l, _, hl⟩ := at_ k e hk
    exact h.apart i l d e hi hl g hg

theorem Sat.alloc (h : Sat w0 w H) (T : TypeId) (cs : Array Value) : Sat w0 (w.alloc (.cells cs T)) (.box w.heap.size T cs :: H) := by
  have h1 : Sat w (w.alloc (.cells cs T)) [.box w.heap.size T cs] := by
    refine ⟨(Below.refl _ _).alloc (Nat.le_refl _) _, fun i c hi => ?_, fun i j c d hi hj hne => ?_, fun i j c d hi hj g hg => ?_⟩
    · cases i with
      | zero => simp at hi; subst hi; exact ⟨heap_alloc_new w _, Nat.le_refl _⟩
      | succ i => simp at hi
    · cases i with
      | zero => cases j with
        | zero => exact absurd rfl hne
        | succ j => simp at hj
      | succ i => simp at hi
    · cases j with
      | zero => simp at hj; subst hj; simp [Chunk.reads]
      | succ j => simp at hj
  exact h.call h1 (fun i c hi => by cases i with | zero => simp at hi; subst hi; rfl | succ i => simp at hi)

/-- a slice of the call's own, made as a new block -/
theorem Sat.addRow (h : Sat w0 w H) {e size : Nat} {v : Value} {n : Nat} {xs : List Value} (hb : Below w.heap.size w w') (hr : w'.ownsRow w.heap.size e size v n xs) : Sat w0 w' (.row e size v n xs :: H) := by
  have h1 : Sat w w' [.row e size v n xs] := by
    refine ⟨hb, fun i c hi => ?_, fun i j c d hi hj hne => ?_, fun i j c d hi hj g hg => ?_⟩
    · cases i with
      | zero => simp at hi; subst hi; exact hr
      | succ i => simp at hi
    · cases i with
      | zero => cases j with
        | zero => exact absurd rfl hne
        | succ j => simp at hj
      | succ i => simp at hi
    · cases j with
      | zero => simp at hj; subst hj; simp [Chunk.reads]
      | succ j => simp at hj
  exact h.call h1 (fun i c hi => by cases i with | zero => simp at hi; subst hi; rfl | succ i => simp at hi)

theorem Sat.addNil (h : Sat w0 w H) (e size : Nat) : Sat w0 w (.row e size (.slice none 0 0) 0 [] :: H) := h.addRow (Below.refl _ _) (World.ownsRow_nil _ _ _ _)

theorem Rd.of_own {e size n : Nat} {v : Value} {xs : List Value} (h : w.ownsRow B e size v n xs) : Rd w size v n xs := by
  obtain ⟨hl, h⟩ := h
  rcases h with ⟨rfl, rfl⟩ | ⟨g, cap, cur, rfl, hb, hg, hn, hm, hs, ht⟩
  · exact ⟨none, 0, rfl, hl, Nat.le_refl _, by simp [maxLen], fun _ => rfl, fun h => absurd h (by omega)⟩
  · refine ⟨_, cap, rfl, hl, hn, hm, (fun h => by cases h), fun h0 => ⟨_, rfl, (Array.getElem?_eq_some_iff.1 hg).1, ?_⟩⟩
    exact World.ownsRow.cells (w := w) (base := B) (e := e) (size := size) (v := .slice (some ⟨g, 0, none⟩) n cap) (n := n) ⟨hl, .inr ⟨g, cap, cur, rfl, hb, hg, hn, hm, hs, ht⟩⟩ rfl

theorem Sat.rdRow (h : Sat w0 w H) (i : Nat) {e size n : Nat} {v : Value} {xs : List Value} (hi : H[i]? = some (.row e size v n xs)) : Rd w size v n xs := Rd.of_own (h.holds i _ hi)
theorem Sat.rdRo (h : Sat w0 w H) (i : Nat) {size n : Nat} {v : Value} {xs : List Value} (hi : H[i]? = some (.ro size v n xs)) : Rd w size v n xs := h.holds i _ hi
theorem Sat.own (h : Sat w0 w H) (i : Nat) {e size n : Nat} {v : Value} {xs : List Value} (hi : H[i]? = some (.row e size v n xs)) : w.ownsRow w0.heap.size e size v n xs := h.holds i _ hi
theorem Sat.boxAt (h : Sat w0 w H) (i : Nat) {g T : Nat} {cs : Array Value} (hi : H[i]? = some (.box g T cs)) : w.heap[g]? = some (.cells cs T (0, 0)) := (h.holds i _ hi).1
theorem Sat.cell (h : Sat w0 w H) (i : Nat) {g T : Nat} {cs : Array Value} (hi : H[i]? = some (.box g T cs)) (off : Nat) : w.cell? ⟨g, off, none⟩ = cs[off]? :=
  cell_of_row w g off cs T (0, 0) (h.boxAt i hi)
theorem Sat.drew (h : Sat w0 w H) : Sat w0 w.drew H := h.grow (Below.drew (Below.refl _ _))
end
end Go.Proofs.Ytffaminjbcfojaa

/- plain words -/
import Derived.Test.YtlhcpeolkkadbaaD
namespace Go.Proofs.Ytlhcpeolkkadbaa
open Go.RowKit
set_option linter.unusedVariables false
set_option linter.unusedSimpArgs false

/- drives: images, versions, writes, destaging and flushing, in plain words -/
abbrev PU := E59
def okI (n : Int) : Prop := n % 8 = 0 ∧ n ≤ 1024
instance (n : Int) : Decidable (okI n) := by unfold okI; infer_instance
def okS (n s c : Int) : Prop := okI n ∧ 1 ≤ c ∧ 0 ≤ s ∧ c ≤ n / 8 - s
instance (n s c : Int) : Decidable (okS n s c) := by unfold okS; infer_instance
def okW (n s k : Int) : Prop := okS n s (k / 8) ∧ k % 8 = 0
instance (n s k : Int) : Decidable (okW n s k) := by unfold okW; infer_instance
def okP (n : Int) (p : PU) : Prop := okS n p.f0 1 ∧ (p.f1.size : Int) = 8
instance (n : Int) (p : PU) : Decidable (okP n p) := by unfold okP; infer_instance
def okD (st : ByteArray) (L : List PU) (rm : Int) : Prop := okI (st.size : Int) ∧ (0 ≤ rm ∧ rm ≤ 64) ∧ (L.length : Int) ≤ rm ∧ ∀ p ∈ L, okP (st.size : Int) p
instance (st : ByteArray) (L : List PU) (rm : Int) : Decidable (okD st L rm) := by unfold okD; infer_instance
def wim (im : ByteArray) (s : Int) (x : ByteArray) : ByteArray := subs im 0 (s * 8) ++ x ++ subs im (s * 8 + (x.size : Int)) (im.size : Int)
def selL (s : Int) (old : Int → Bool) : Nat → List PU → List PU
  | _, [] => []
  | i, p :: r => if p.f0 ≠ s ∨ old (i : Int) = false then p :: selL s old (i + 1) r else selL s old (i + 1) r
def versC (st : ByteArray) (L : List PU) (s : Int) : List ByteArray := subs st (s * 8) ((s + 1) * 8) :: (L.filter fun p => decide (p.f0 = s)).map (·.f1)
def vers (st : ByteArray) (L : List PU) (rm s : Int) : List ByteArray := if okD st L rm ∧ okS (st.size : Int) s 1 then versC st L s else []
def newest (st : ByteArray) (L : List PU) (s : Int) : ByteArray := (versC st L s).getLastD ⟨#[]⟩
def catF (f : Int → ByteArray) (s : Int) : Nat → ByteArray
  | 0 => ⟨#[]⟩
  | k + 1 => catF f s k ++ f (s + (k : Int))
def readF (st : ByteArray) (L : List PU) (rm s c : Int) : ByteArray × Bool := if okD st L rm ∧ okS (st.size : Int) s c then (catF (newest st L) s c.toNat, true) else (⟨#[]⟩, false)
def put1 (st : ByteArray) (L : List PU) (rm s : Int) (x : ByteArray) (fua : Bool) : ByteArray × List PU :=
  if fua = true ∨ rm = 0 then (wim st s x, selL s (fun _ => true) 0 L)
  else if (L.length : Int) = rm then (match L[0]? with
    | some p => (wim st p.f0 p.f1, selL p.f0 (fun i => decide (i ≤ ((0 : Nat) : Int))) 0 L ++ [E59.mk s x])
    | none => (st, L))
  else (st, L ++ [E59.mk s x])
def wrN (st : ByteArray) (L : List PU) (rm s : Int) (x : ByteArray) (fua : Bool) : Nat → ByteArray × List PU
  | 0 => (st, L)
  | k + 1 => put1 (wrN st L rm s x fua k).1 (wrN st L rm s x fua k).2 rm (s + (k : Int)) (subs x ((k : Int) * 8) (((k + 1 : Nat) : Int) * 8)) fua
def writeF (st : ByteArray) (L : List PU) (rm s : Int) (x : ByteArray) (fua : Bool) : ByteArray × List PU × Int × Bool :=
  if okD st L rm ∧ okW (st.size : Int) s (x.size : Int) then ((wrN st L rm s x fua (x.size / 8)).1, (wrN st L rm s x fua (x.size / 8)).2, rm, true) else (⟨#[]⟩, [], 0, false)
def destF (st : ByteArray) (L : List PU) (rm k : Int) : ByteArray × List PU × Int × Bool :=
  if okD st L rm ∧ 0 ≤ k ∧ k < (L.length : Int) then (match L[k.toNat]? with
    | some p => (wim st p.f0 p.f1, selL p.f0 (fun i => decide (i ≤ k)) 0 L, rm, true)
    | none => (⟨#[]⟩, [], 0, false))
  else (⟨#[]⟩, [], 0, false)
def flSt (st : ByteArray) (L : List PU) : ByteArray := L.foldl (fun st p => wim st p.f0 p.f1) st
def flushF (st : ByteArray) (L : List PU) (rm : Int) : ByteArray × Int := if okD st L rm then (flSt st L, rm) else (⟨#[]⟩, 0)

theorem subs_zero (s : ByteArray) : subs s 0 0 = ⟨#[]⟩ := by apply bl_inj; rw [bl_subs]; simp [bl]
theorem okD_I {st : ByteArray} {L : List PU} {rm : Int} (h : okD st L rm) : (st.size : Int) % 8 = 0 ∧ (st.size : Int) ≤ 1024 ∧ 0 ≤ rm ∧ rm ≤ 64 ∧ (L.length : Int) ≤ rm := by
  obtain ⟨h1, h2, h3, _⟩ := h; unfold okI at h1; omega
theorem valid_end {st : ByteArray} {L : List PU} {rm : Int} (h1 : okI (st.size : Int)) (h2 : 0 ≤ rm) (h3 : rm ≤ 64) (h4 : (L.length : Int) ≤ rm) : (!(L.any fun p => !(decide (okP (st.size : Int) p)))) = decide (okD st L rm) := by
  by_cases h : ∀ p ∈ L, okP (st.size : Int) p
  · rw [decide_eq_true (show okD st L rm from ⟨h1, ⟨h2, h3⟩, h4, h⟩)]
    simp only [Bool.not_eq_true', List.any_eq_false]
    intro p hp; rw [decide_eq_true (h p hp)]; simp
  · rw [decide_eq_false (show ¬ okD st L rm from fun hd => h hd.2.2.2)]
    simp only [Bool.not_eq_false', List.any_eq_true]
    have : ∃ p ∈ L, ¬ okP (st.size : Int) p := by
      refine Classical.byContradiction fun hn => h fun p hp => Classical.byContradiction fun hq => hn ⟨p, hp, hq⟩
    obtain ⟨p, hp, hq⟩ := this
    exact ⟨p, hp, by rw [decide_eq_false hq]; rfl⟩
theorem valid_bad {st : ByteArray} {L : List PU} {rm : Int} {p : PU} {k : Nat} (hx : L[k]? = some p) (h : ¬ okP (st.size : Int) p) : false = decide (okD st L rm) := by
  rw [decide_eq_false]; exact fun hd => h (hd.2.2.2 p (List.mem_of_getElem? hx))
theorem valid_all {st : ByteArray} {L : List PU} {rm : Int} {k : Nat} (h1 : okI (st.size : Int)) (h2 : 0 ≤ rm) (h3 : rm ≤ 64) (h4 : (L.length : Int) ≤ rm) (h : ∀ p ∈ L.take k, okP (st.size : Int) p) (hk : L.length ≤ k) : true = decide (okD st L rm) := by
  rw [List.take_of_length_le hk] at h
  rw [decide_eq_true]; exact ⟨h1, ⟨h2, h3⟩, h4, h⟩
theorem all_takeP {st : ByteArray} {L : List PU} {k : Nat} {p : PU} (h : ∀ p ∈ L.take k, okP (st.size : Int) p) (hx : L[k]? = some p) (hp : okP (st.size : Int) p) : ∀ p ∈ L.take (k + 1), okP (st.size : Int) p := by
  intro q hq; rw [List.take_add_one, hx] at hq; simp at hq; rcases hq with hq | rfl
  · exact h q hq
  · exact hp

/-! ### the log -/
theorem selL_app (s : Int) (old : Int → Bool) : ∀ (l m : List PU) (i : Nat), selL s old i (l ++ m) = selL s old i l ++ selL s old (i + l.length) m
  | [], m, i => by simp [selL]
  | p :: r, m, i => by
    simp only [List.cons_append, selL, List.length_cons]
    rw [selL_app s old r m (i + 1), show i + 1 + r.length = i + (r.length + 1) by omega]
    split <;> simp
theorem selL_in {s : Int} {old : Int → Bool} {L : List PU} {k : Nat} {x : PU} (hx : L[k]? = some x) (h : x.f0 ≠ s ∨ old (k : Int) = false) : selL s old 0 (L.take k) ++ [x] = selL s old 0 (L.take (k + 1)) := by
  have hk := (List.getElem?_eq_some_iff.1 hx).1
  rw [List.take_add_one, hx, selL_app]
  have : 0 + (L.take k).length = k := by simp; omega
  rw [this]; simp only [Option.toList_some, selL]; rw [if_pos h]
theorem selL_out {s : Int} {old : Int → Bool} {L : List PU} {k : Nat} {x : PU} (hx : L[k]? = some x) (h1 : x.f0 = s) (h2 : old (k : Int) = true) : selL s old 0 (L.take k) = selL s old 0 (L.take (k + 1)) := by
  have hk := (List.getElem?_eq_some_iff.1 hx).1
  rw [List.take_add_one, hx, selL_app]
  have : 0 + (L.take k).length = k := by simp; omega
  rw [this]; simp only [Option.toList_some, selL]; rw [if_neg (by rintro (h | h); exact h h1; rw [h2] at h; cases h)]; simp
theorem mem_selL {s : Int} {old : Int → Bool} {x : PU} : ∀ {L : List PU} {i : Nat}, x ∈ selL s old i L → x ∈ L
  | [], i, h => by simp [selL] at h
  | p :: r, i, h => by
    unfold selL at h
    split at h
    · rcases List.mem_cons.1 h with h | h
      · exact List.mem_cons.2 (.inl h)
      · exact List.mem_cons_of_mem _ (mem_selL h)
    · exact List.mem_cons_of_mem _ (mem_selL h)
theorem len_selL {s : Int} {old : Int → Bool} : ∀ (L : List PU) (i : Nat), (selL s old i L).length ≤ L.length
  | [], i => by simp [selL]
  | p :: r, i => by
    have := len_selL (s := s) (old := old) r (i + 1)
    unfold selL; split <;> simp <;> omega
theorem selL_true (s : Int) : ∀ (L : List PU) (i : Nat), selL s (fun _ => true) i L = L.filter fun p => decide (p.f0 ≠ s)
  | [], i => by simp [selL]
  | p :: r, i => by
    unfold selL; rw [selL_true s r]
    by_cases h : p.f0 = s <;> simp [h]
theorem selL_rest (s : Int) (k : Nat) : ∀ (L : List PU) (i : Nat), k < i → selL s (fun i => decide (i ≤ (k : Int))) i L = L
  | [], i, h => by simp [selL]
  | p :: r, i, h => by
    unfold selL; rw [selL_rest s k r (i + 1) (by omega), if_pos (.inr (decide_eq_false (by omega)))]
theorem selL_head (p : PU) (r : List PU) : selL p.f0 (fun i => decide (i ≤ ((0 : Nat) : Int))) 0 (p :: r) = r := by
  unfold selL; rw [if_neg (by rintro (h | h); exact h rfl; simp at h), selL_rest _ _ _ _ (by omega)]
theorem versC_in {st : ByteArray} {L : List PU} {s : Int} {k : Nat} {x : PU} (hx : L[k]? = some x) (h : x.f0 = s) : versC st (L.take k) s ++ [x.f1] = versC st (L.take (k + 1)) s := by
  unfold versC; rw [List.take_add_one, hx]; simp [h]
theorem versC_out {st : ByteArray} {L : List PU} {s : Int} {k : Nat} {x : PU} (hx : L[k]? = some x) (h : ¬ x.f0 = s) : versC st (L.take k) s = versC st (L.take (k + 1)) s := by
  unfold versC; rw [List.take_add_one, hx]; simp [h]
theorem versC_len (st : ByteArray) (L : List PU) (s : Int) : 1 ≤ (versC st L s).length ∧ (versC st L s).length ≤ L.length + 1 := by
  unfold versC; simp only [List.length_cons, List.length_map]
  have := List.length_filter_le (fun p : PU => decide (p.f0 = s)) L
  omega
theorem vers_len (st : ByteArray) (L : List PU) (rm s : Int) : (vers st L rm s).length ≤ L.length + 1 := by
  unfold vers; split
  · exact (versC_len st L s).2
  · simp
theorem newest_at {st : ByteArray} {L : List PU} {s : Int} {k : Nat} {x : ByteArray} (hx : (versC st L s)[k]? = some x) (hk : k = (versC st L s).length - 1) : x = newest st L s := by
  subst hk
  unfold newest
  rw [← List.getLast?_eq_getElem?] at hx
  rw [List.getLastD_eq_getLast?, hx]; rfl

/-! ### images -/
theorem wim_size {im x : ByteArray} {s : Int} (h : okW (im.size : Int) s (x.size : Int)) : ((wim im s x).size : Int) = (im.size : Int) := by
  unfold okW okS okI at h
  unfold wim
  rw [cat_size, cat_size, subs_size (by omega) (by omega) (by omega), subs_size (by omega) (by omega) (by omega)]
  omega
theorem okW_of {n s : Int} {x : ByteArray} (h : okS n s 1) (hx : (x.size : Int) = 8) : okW n s (x.size : Int) := by
  rw [hx]; exact ⟨h, by omega⟩
theorem okP_W {n : Int} {p : PU} (h : okP n p) : okW n p.f0 (p.f1.size : Int) := okW_of h.1 h.2
theorem put1_ok {st st1 x : ByteArray} {L L1 : List PU} {rm s : Int} {fua : Bool} (hd : okD st L rm) (hs : okS (st.size : Int) s 1) (hx : (x.size : Int) = 8) (h : put1 st L rm s x fua = (st1, L1)) : okD st1 L1 rm ∧ (st1.size : Int) = (st.size : Int) := by
  obtain ⟨h1, h2, h3, h4⟩ := hd
  unfold put1 at h
  split at h
  · injection h with ha hb; subst ha hb
    have e := wim_size (okW_of hs hx)
    refine ⟨⟨by rw [e]; exact h1, h2, ?_, fun p hp => by rw [e]; exact h4 p (mem_selL hp)⟩, e⟩
    have := len_selL (s := s) (old := fun _ => true) L 0
    omega
  · split at h
    · rename_i hn hl
      cases L with
      | nil => simp at hl; exact absurd (.inr hl.symm) hn
      | cons p r =>
        simp only [List.getElem?_cons_zero] at h
        rw [selL_head] at h
        injection h with ha hb; subst ha hb
        have e := wim_size (okP_W (h4 p (by simp)))
        refine ⟨⟨by rw [e]; exact h1, h2, ?_, fun q hq => ?_⟩, e⟩
        · simp at h3 ⊢; omega
        · rw [e]; rcases List.mem_append.1 hq with hq | hq
          · exact h4 q (by simp [hq])
          · simp at hq; subst hq; exact ⟨hs, hx⟩
    · injection h with ha hb; subst ha hb
      rename_i hn hl
      refine ⟨⟨h1, h2, ?_, fun q hq => ?_⟩, rfl⟩
      · simp; omega
      · rcases List.mem_append.1 hq with hq | hq
        · exact h4 q hq
        · simp at hq; subst hq; exact ⟨hs, hx⟩
theorem wrN_ok {st x : ByteArray} {L : List PU} {rm s : Int} {fua : Bool} (hd : okD st L rm) (hw : okW (st.size : Int) s (x.size : Int)) : ∀ k : Nat, (k : Int) ≤ (x.size : Int) / 8 → okD (wrN st L rm s x fua k).1 (wrN st L rm s x fua k).2 rm ∧ ((wrN st L rm s x fua k).1.size : Int) = (st.size : Int)
  | 0, _ => ⟨hd, rfl⟩
  | k + 1, hk => by
    obtain ⟨h1, h2⟩ := wrN_ok hd hw k (by omega)
    have hw' := hw
    unfold okW okS okI at hw
    have h3 := put1_ok (s := s + (k : Int)) (x := subs x ((k : Int) * 8) (((k + 1 : Nat) : Int) * 8)) (fua := fua) h1 (by rw [h2]; unfold okS okI; omega) (by rw [subs_size (by omega) (by omega) (by omega)]; omega) rfl
    exact ⟨h3.1, h3.2.trans h2⟩
theorem writeF_ok {st st1 x : ByteArray} {L L1 : List PU} {rm s rm1 : Int} {fua b : Bool} (h : writeF st L rm s x fua = (st1, L1, rm1, b)) : (b = true ∧ okD st L rm ∧ okW (st.size : Int) s (x.size : Int) ∧ okD st1 L1 rm ∧ (st1.size : Int) = (st.size : Int) ∧ rm = rm1) ∨ (b = false ∧ ¬ (okD st L rm ∧ okW (st.size : Int) s (x.size : Int)) ∧ st1 = ⟨#[]⟩ ∧ L1 = [] ∧ rm1 = 0) := by
  unfold writeF at h
  split at h
  · rename_i hc
    injection h with h1 h; injection h with h2 h; injection h with h3 h4
    subst h1 h2 h3 h4
    have := wrN_ok (fua := fua) hc.1 hc.2 (x.size / 8) (by omega)
    exact .inl ⟨rfl, hc.1, hc.2, this.1, this.2, rfl⟩
  · rename_i hc
    injection h with h1 h; injection h with h2 h; injection h with h3 h4
    subst h1 h2 h3 h4
    exact .inr ⟨rfl, hc, rfl, rfl, rfl⟩
theorem writeF_bd {st st1 x : ByteArray} {L L1 : List PU} {rm s rm1 : Int} {fua b : Bool} (h : writeF st L rm s x fua = (st1, L1, rm1, b)) : (st1.size : Int) ≤ 1024 ∧ L1.length ≤ 64 ∧ 0 ≤ rm1 ∧ rm1 ≤ 64 := by
  rcases writeF_ok h with ⟨_, _, _, h4, _, rfl⟩ | ⟨_, _, rfl, rfl, rfl⟩
  · have := okD_I h4; omega
  · simp [ByteArray.size]
theorem destF_ok {st st1 : ByteArray} {L L1 : List PU} {rm k rm1 : Int} {b : Bool} (h : destF st L rm k = (st1, L1, rm1, b)) : (b = true ∧ okD st L rm ∧ 0 ≤ k ∧ k < (L.length : Int) ∧ okD st1 L1 rm ∧ (st1.size : Int) = (st.size : Int) ∧ rm = rm1) ∨ (b = false ∧ ¬ (okD st L rm ∧ 0 ≤ k ∧ k < (L.length : Int)) ∧ st1 = ⟨#[]⟩ ∧ L1 = [] ∧ rm1 = 0) := by
  unfold destF at h
  split at h
  · rename_i hc
    obtain ⟨hd, hk0, hk1⟩ := hc
    have hk : k.toNat < L.length := by omega
    rw [List.getElem?_eq_getElem hk] at h
    simp only at h
    injection h with h1 h; injection h with h2 h; injection h with h3 h4
    subst h1 h2 h3 h4
    have e := wim_size (okP_W (hd.2.2.2 _ (List.getElem_mem hk)))
    refine .inl ⟨rfl, hd, hk0, hk1, ⟨by rw [e]; exact hd.1, hd.2.1, ?_, fun p hp => by rw [e]; exact hd.2.2.2 p (mem_selL hp)⟩, e, rfl⟩
    have := len_selL (s := L[k.toNat].f0) (old := fun i => decide (i ≤ k)) L 0
    have := hd.2.2.1
    omega
  · rename_i hc
    injection h with h1 h; injection h with h2 h; injection h with h3 h4
    subst h1 h2 h3 h4
    exact .inr ⟨rfl, hc, rfl, rfl, rfl⟩
theorem destF_bd {st st1 : ByteArray} {L L1 : List PU} {rm k rm1 : Int} {b : Bool} (h : destF st L rm k = (st1, L1, rm1, b)) : (st1.size : Int) ≤ 1024 ∧ L1.length ≤ 64 ∧ 0 ≤ rm1 ∧ rm1 ≤ 64 := by
  rcases destF_ok h with ⟨_, _, _, _, h4, _, rfl⟩ | ⟨_, _, rfl, rfl, rfl⟩
  · have := okD_I h4; omega
  · simp [ByteArray.size]
theorem destF_at {st : ByteArray} {L : List PU} {rm : Int} {k : Nat} {p : PU} (hd : okD st L rm) (hp : L[k]? = some p) : destF st L rm (k : Int) = (wim st p.f0 p.f1, selL p.f0 (fun i => decide (i ≤ (k : Int))) 0 L, rm, true) := by
  have hk := (List.getElem?_eq_some_iff.1 hp).1
  unfold destF; rw [if_pos ⟨hd, by omega, by omega⟩]; simp only [Int.toNat_natCast, hp]
theorem foldl_size {st : ByteArray} : ∀ {L : List PU}, (∀ p ∈ L, okP (st.size : Int) p) → ((flSt st L).size : Int) = (st.size : Int)
  | [], _ => rfl
  | p :: r, h => by
    have e := wim_size (okP_W (h p (by simp)))
    have := foldl_size (st := wim st p.f0 p.f1) (L := r) (fun q hq => by rw [e]; exact h q (by simp [hq]))
    rw [e] at this; exact this
theorem flushF_bd {st st1 : ByteArray} {L : List PU} {rm rm1 : Int} (h : flushF st L rm = (st1, rm1)) : (st1.size : Int) ≤ 1024 ∧ 0 ≤ rm1 ∧ rm1 ≤ 64 := by
  unfold flushF at h
  split at h
  · rename_i hd; injection h with h1 h2; subst h1 h2
    have := foldl_size hd.2.2.2; have := okD_I hd; omega
  · injection h with h1 h2; subst h1 h2; simp [ByteArray.size]
theorem newest_size {st : ByteArray} {L : List PU} {s : Int} (h : ∀ p ∈ L, okP (st.size : Int) p) (hs : okS (st.size : Int) s 1) : ((newest st L s).size : Int) = 8 := by
  have hm : newest st L s ∈ versC st L s := by
    unfold newest; rw [List.getLastD_eq_getLast?]
    have hne : versC st L s ≠ [] := by simp [versC]
    rw [List.getLast?_eq_some_getLast hne]; exact List.getLast_mem hne
  unfold versC at hm
  rcases List.mem_cons.1 hm with hm | hm
  · rw [hm]; unfold okS okI at hs; rw [subs_size (by omega) (by omega) (by omega)]; omega
  · obtain ⟨p, hp, he⟩ := List.mem_map.1 hm
    rw [← he]; exact (h p (List.mem_filter.1 hp).1).2
theorem catF_size {f : Int → ByteArray} {s : Int} : ∀ {k : Nat}, (∀ i : Nat, i < k → ((f (s + (i : Int))).size : Int) = 8) → ((catF f s k).size : Int) = 8 * (k : Int)
  | 0, _ => by simp [catF, ByteArray.size]
  | k + 1, h => by
    have := catF_size (f := f) (s := s) (k := k) (fun i hi => h i (by omega))
    unfold catF; rw [cat_size, this, h k (by omega)]; omega
theorem read_size {st : ByteArray} {L : List PU} {s c : Int} {k : Nat} (h : ∀ p ∈ L, okP (st.size : Int) p) (hs : okS (st.size : Int) s c) (hk : (k : Int) ≤ c) : ((catF (newest st L) s k).size : Int) = 8 * (k : Int) := by
  refine catF_size fun i hi => newest_size h ?_
  unfold okS okI at *; omega
theorem readF_bd (st : ByteArray) (L : List PU) (rm s c : Int) : ((readF st L rm s c).1.size : Int) ≤ 1024 := by
  unfold readF
  split
  · rename_i h
    have h2 := h.2
    have := read_size (k := c.toNat) h.1.2.2.2 h.2 (by unfold okS okI at h2; omega)
    simp only; rw [this]; unfold okS okI at h2; omega
  · simp [ByteArray.size]
theorem wrN_succ {st st1 st2 x : ByteArray} {L L1 L2 : List PU} {rm s : Int} {fua : Bool} {k : Nat} (h : wrN st L rm s x fua k = (st1, L1)) (h2 : put1 st1 L1 rm (s + (k : Int)) (subs x ((k : Int) * 8) (((k + 1 : Nat) : Int) * 8)) fua = (st2, L2)) : wrN st L rm s x fua (k + 1) = (st2, L2) := by
  show put1 (wrN st L rm s x fua k).1 (wrN st L rm s x fua k).2 rm (s + (k : Int)) (subs x ((k : Int) * 8) (((k + 1 : Nat) : Int) * 8)) fua = _
  rw [h]; exact h2
theorem wrN_end {st st1 x : ByteArray} {L L1 : List PU} {rm s : Int} {fua : Bool} {k : Nat} (h : wrN st L rm s x fua k = (st1, L1)) (hd : okD st L rm) (hw : okW (st.size : Int) s (x.size : Int)) (hk : (k : Int) = (x.size : Int) / 8) : writeF st L rm s x fua = (st1, L1, rm, true) := by
  have e : k = x.size / 8 := by omega
  unfold writeF; rw [if_pos ⟨hd, hw⟩, ← e, h]
theorem wr_bad {st x : ByteArray} {L : List PU} {rm s : Int} {fua : Bool} (h : ¬ (okD st L rm ∧ okW (st.size : Int) s (x.size : Int))) : writeF st L rm s x fua = (⟨#[]⟩, [], 0, false) := by
  unfold writeF; rw [if_neg h]
theorem ds_bad {st : ByteArray} {L : List PU} {rm k : Int} (h : ¬ (okD st L rm ∧ 0 ≤ k ∧ k < (L.length : Int))) : destF st L rm k = (⟨#[]⟩, [], 0, false) := by
  unfold destF; rw [if_neg h]
theorem put1_1 {st x : ByteArray} {L : List PU} {rm s : Int} {fua : Bool} (h : fua = true ∨ rm = 0) : put1 st L rm s x fua = (wim st s x, selL s (fun _ => true) 0 L) := by unfold put1; rw [if_pos h]
theorem put1_2 {st x : ByteArray} {L : List PU} {rm s : Int} {fua : Bool} {p : PU} (hf : fua = false) (h1 : ¬ rm = 0) (h2 : (L.length : Int) = rm) (hp : L[0]? = some p) : put1 st L rm s x fua = (wim st p.f0 p.f1, selL p.f0 (fun i => decide (i ≤ ((0 : Nat) : Int))) 0 L ++ [E59.mk s x]) := by
  subst hf; unfold put1; rw [if_neg (by rintro (h | h); cases h; exact h1 h), if_pos h2, hp]
theorem put1_3 {st x : ByteArray} {L : List PU} {rm s : Int} {fua : Bool} (hf : fua = false) (h1 : ¬ rm = 0) (h2 : ¬ (L.length : Int) = rm) : put1 st L rm s x fua = (st, L ++ [E59.mk s x]) := by
  subst hf; unfold put1; rw [if_neg (by rintro (h | h); cases h; exact h1 h), if_neg h2]
theorem put1_room {st st1 x : ByteArray} {L L1 : List PU} {rm s : Int} {fua : Bool} (h : put1 st L rm s x fua = (st1, L1)) : L1.length ≤ L.length + 1 := by
  unfold put1 at h
  split at h
  · injection h with h1 h2; subst h2; have := len_selL (s := s) (old := fun _ => true) L 0; omega
  · split at h
    · split at h
      · rename_i p hp; injection h with h1 h2; subst h2
        have := len_selL (s := p.f0) (old := fun i => decide (i ≤ ((0 : Nat) : Int))) L 0
        simp; omega
      · injection h with h1 h2; subst h2; omega
    · injection h with h1 h2; subst h2; simp
theorem app_at {α : Type} {A B : List α} {i : Nat} {c : α} (h : B[i]? = some c) : (A ++ B)[A.length + i]? = some c := by
  rw [List.getElem?_append_right (by omega), Nat.add_sub_cancel_left]; exact h
/-! ### Data -/
def letF (n : Int) (i : Nat) : Int := IntKind.u8.wrap (97 + IntKind.u8.wrap (rnd (IntKind.i64.wrap (IntKind.i64.wrap (n + (i : Int) / 4 * 7) + (i : Int) / 8 * 3)) 26))
def datL (n : Int) (m : Nat) : List Int := (List.range m).map (letF n)
def dataF (n c : Int) : ByteArray := bstr (datL n (max 0 c * 8).toNat)
theorem dataF_size (n c : Int) : ((dataF n c).size : Int) = max 0 c * 8 := by
  unfold dataF datL; rw [bstr_size]; simp; omega
theorem set_fill {n : Int} {m k : Nat} (hk : k < m) : (datL n k ++ List.replicate (m - k) 0).set k (letF n k) = datL n (k + 1) ++ List.replicate (m - (k + 1)) 0 := by
  have hl : (datL n k).length = k := by simp [datL]
  rw [List.set_append_right _ _ (by omega), hl, Nat.sub_self, show m - k = (m - (k + 1)) + 1 by omega, List.replicate_succ, List.set_cons_zero]
  unfold datL; rw [List.range_succ]; simp
theorem dat_end {n c : Int} {k : Nat} (hk : k = (max 0 c * 8).toNat) : bstr (datL n k ++ List.replicate ((max 0 c * 8).toNat - k) 0) = dataF n c := by
  subst hk; rw [Nat.sub_self]; simp [dataF]
theorem fl_step {st : ByteArray} {L : List PU} {p : PU} (hp : L[0]? = some p) : flSt st L = flSt (wim st p.f0 p.f1) (selL p.f0 (fun i => decide (i ≤ ((0 : Nat) : Int))) 0 L) ∧ (selL p.f0 (fun i => decide (i ≤ ((0 : Nat) : Int))) 0 L).length < L.length := by
  cases L with
  | nil => simp at hp
  | cons q r => simp at hp; subst hp; rw [selL_head]; exact ⟨rfl, by simp⟩
theorem dest_ok {st : ByteArray} {L : List PU} {rm : Int} {k : Nat} {p : PU} (hd : okD st L rm) (hp : L[k]? = some p) : okD (wim st p.f0 p.f1) (selL p.f0 (fun i => decide (i ≤ (k : Int))) 0 L) rm ∧ ((wim st p.f0 p.f1).size : Int) = (st.size : Int) := by
  rcases destF_ok (destF_at hd hp) with ⟨_, _, _, _, h1, h2, _⟩ | ⟨h, _⟩
  · exact ⟨h1, h2⟩
  · cases h
theorem flush_end {st st1 : ByteArray} {L L1 : List PU} {rm : Int} (hd : okD st L rm) (h : flSt st L = flSt st1 L1) (hl : L1.length = 0) : flushF st L rm = (st1, rm) := by
  have : L1 = [] := List.eq_nil_of_length_eq_zero hl
  subst this; unfold flushF; rw [if_pos hd, h]; rfl
theorem fl_bad {st : ByteArray} {L : List PU} {rm : Int} (h : ¬ okD st L rm) : flushF st L rm = (⟨#[]⟩, 0) := by unfold flushF; rw [if_neg h]
theorem vers_no {st : ByteArray} {L : List PU} {rm s : Int} (h : ¬ (okD st L rm ∧ okS (st.size : Int) s 1)) : [] = vers st L rm s := by unfold vers; rw [if_neg h]
theorem vers_yes {st : ByteArray} {L : List PU} {rm s : Int} {k : Nat} (h1 : okD st L rm) (h2 : okS (st.size : Int) s 1) (hk : L.length ≤ k) : versC st (L.take k) s = vers st L rm s := by
  unfold vers; rw [if_pos ⟨h1, h2⟩, List.take_of_length_le hk]
theorem read_no {st : ByteArray} {L : List PU} {rm s c : Int} (h : ¬ (okD st L rm ∧ okS (st.size : Int) s c)) : readF st L rm s c = (⟨#[]⟩, false) := by unfold readF; rw [if_neg h]
theorem read_yes {st : ByteArray} {L : List PU} {rm s c : Int} {k : Nat} (h1 : okD st L rm) (h2 : okS (st.size : Int) s c) (hk : (k : Int) = c) : readF st L rm s c = (catF (newest st L) s k, true) := by
  unfold readF; rw [if_pos ⟨h1, h2⟩, show c.toNat = k by omega]
theorem okS_in {n s c i : Int} (h : okS n s c) (h1 : 0 ≤ i) (h2 : i < c) : okS n (s + i) 1 := by unfold okS okI at *; omega
theorem len_cons0 {α : Type} {L : List α} (h : L.length = 0) : L = [] := List.eq_nil_of_length_eq_zero h

end Go.Proofs.Ytlhcpeolkkadbaa

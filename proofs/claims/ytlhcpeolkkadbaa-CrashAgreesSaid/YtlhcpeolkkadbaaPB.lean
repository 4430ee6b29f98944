/- crash: choosing, in plain words -/
import Derived.Test.YtlhcpeolkkadbaaPA
namespace Go.Proofs.Ytlhcpeolkkadbaa
open Go.RowKit
set_option linter.unusedVariables false
set_option linter.unusedSimpArgs false

/- crash: what Permits and Choose find out step by step -/
def noW (l : List ByteArray) (x : ByteArray) (j : Nat) : Prop := ∀ (i : Nat) (a : ByteArray), i < j → l[i]? = some a → ¬ x = a ∧ (1 ≤ i → ∀ b, l[i - 1]? = some b → ¬ x = tornF a b)
def vC (l : List ByteArray) (x : ByteArray) (j : Nat) (b : Bool) : Prop := (b = true → okV l x) ∧ (b = false → noW l x j)
theorem noW_end {l : List ByteArray} {x : ByteArray} {j : Nat} (h : noW l x j) (hj : l.length ≤ j) : ¬ okV l x := by
  rintro (h9 | ⟨i, a, b, h1, h2, h3, h4⟩)
  · obtain ⟨i, hi⟩ := List.getElem?_of_mem h9
    have := (List.getElem?_eq_some_iff.1 hi).1
    exact (h i x (by omega) hi).1 rfl
  · have := (List.getElem?_eq_some_iff.1 h2).1
    exact (h i a (by omega) h2).2 h1 b h3 h4.symm
theorem vC_start (l : List ByteArray) (x : ByteArray) : vC l x 0 false := ⟨fun h => (by cases h), fun _ i a h => by omega⟩
theorem vC_old {l : List ByteArray} {x : ByteArray} {j : Nat} {b : Bool} (h : vC l x j b) (hb : b = true) : vC l x (j + 1) true := ⟨fun _ => h.1 hb, fun h9 => (by cases h9)⟩
theorem vC_hit {l : List ByteArray} {x a : ByteArray} {j : Nat} (ha : l[j]? = some a) (e : x = a) : vC l x (j + 1) true := ⟨fun _ => .inl (by subst e; exact List.mem_of_getElem? ha), fun h9 => (by cases h9)⟩
theorem noW_step {l : List ByteArray} {x a : ByteArray} {j : Nat} (h : noW l x j) (ha : l[j]? = some a) (e : ¬ x = a) (h2 : 1 ≤ j → ∀ b, l[j - 1]? = some b → ¬ x = tornF a b) : noW l x (j + 1) := by
  intro i a' hi ha'
  by_cases c : i = j
  · subst c; rw [ha] at ha'; injection ha' with ha'; subst ha'; exact ⟨e, h2⟩
  · exact h i a' (by omega) ha'
theorem vC_zero {l : List ByteArray} {x a : ByteArray} {j : Nat} {b : Bool} (h : vC l x j b) (hb : b = false) (ha : l[j]? = some a) (e : ¬ x = a) (hj : ¬ 1 ≤ j) : vC l x (j + 1) false :=
  ⟨fun h9 => (by cases h9), fun _ => noW_step (h.2 hb) ha e (fun h9 => absurd h9 hj)⟩
theorem vC_step {l : List ByteArray} {x a c : ByteArray} {j : Nat} {b : Bool} (h : vC l x j b) (hb : b = false) (ha : l[j]? = some a) (e : ¬ x = a) (hj : 1 ≤ j) (hc : l[j - 1]? = some c) : vC l x (j + 1) (decide (x = tornF a c)) := by
  refine ⟨fun h9 => .inr ⟨j, a, c, hj, ha, hc, (of_decide_eq_true h9).symm⟩, fun h9 => noW_step (h.2 hb) ha e (fun _ b' hb' => ?_)⟩
  rw [hc] at hb'; injection hb' with hb'; subst hb'; exact of_decide_eq_false h9
theorem pick_nat (a : Int) {n : Nat} (hn : 0 < n) : ∃ i : Nat, max a 0 % (n : Int) = (i : Int) ∧ i < n := by
  have h1 := Int.emod_nonneg (max a 0) (show (n : Int) ≠ 0 by omega)
  have h2 := Int.emod_lt_of_pos (max a 0) (show (0 : Int) < n by omega)
  exact ⟨(max a 0 % (n : Int)).toNat, by omega, by omega⟩
theorem pick_nat2 (a : Int) {n : Nat} (hn : 0 < n) : ∃ i : Nat, max 0 a % (n : Int) = (i : Int) ∧ i < n := by rw [Int.max_comm]; exact pick_nat a hn
section
variable {st : ByteArray} {L : List PU} {P : List Int} {T : List Bool} {s : Int} {x : ByteArray} {q : Nat}
theorem getD_of {l : List ByteArray} {i : Nat} {d : ByteArray} (hx : l[i]? = some x) : l.getD i d = x := by rw [List.getD_eq_getElem?_getD, hx]; rfl
theorem chS_one (h : ¬ 1 < (versC st L s).length) (hx : (versC st L s)[0]? = some x) : x = chS st L P T s := by
  unfold chS; rw [if_neg h, getD_of hx]
theorem pickI_at {n : Nat} {y : Int} {i : Nat} (hp : P[q]? = some y) (hi : max y 0 % (n : Int) = (i : Int)) : pickI n q P = (i : Int) := by unfold pickI; rw [hp]; exact hi
theorem chS_none (h : 1 < (versC st L s).length) (hq : q = (secN st L s.toNat).length) (hp : P.length ≤ q) (hx : (versC st L s)[0]? = some x) : x = chS st L P T s := by
  have e : pickI (versC st L s).length q P = 0 := by unfold pickI; rw [List.getElem?_eq_none hp]
  unfold chS pickD; rw [if_pos h, ← hq, e, if_neg (by omega)]; exact (getD_of hx).symm
theorem chS_plain {y : Int} {i : Nat} (h : 1 < (versC st L s).length) (hq : q = (secN st L s.toNat).length) (hp : P[q]? = some y) (hi : max y 0 % ((versC st L s).length : Int) = (i : Int)) (hx : (versC st L s)[i]? = some x) (hT : ¬ (1 ≤ i ∧ T[q]? = some true)) : x = chS st L P T s := by
  have e := pickI_at hp hi
  unfold chS pickD; rw [if_pos h, ← hq, e, if_neg (fun h9 => hT ⟨by omega, h9.2⟩)]; exact (getD_of (by simpa using hx)).symm
theorem chS_torn {y : Int} {i : Nat} {z : ByteArray} (h : 1 < (versC st L s).length) (hq : q = (secN st L s.toNat).length) (hp : P[q]? = some y) (hi : max y 0 % ((versC st L s).length : Int) = (i : Int)) (h1 : 1 ≤ i) (hT : T[q]? = some true) (hx : (versC st L s)[i]? = some x) (hz : (versC st L s)[i - 1]? = some z) : tornF x z = chS st L P T s := by
  have e := pickI_at hp hi
  unfold chS pickD; rw [if_pos h, ← hq, e, if_pos ⟨by omega, hT⟩]
  rw [getD_of (x := x) (by simpa using hx), getD_of (x := z) (by rw [show ((i : Int).toNat - 1) = i - 1 by omega]; exact hz)]
theorem secN_q1 {k : Nat} (h : 1 < (versC st L (k : Int)).length) (hq : q = (secN st L k).length) : q + 1 = (secN st L (k + 1)).length := by rw [← secN_in h]; simp [hq]
theorem secN_q0 {k : Nat} (h : ¬ 1 < (versC st L (k : Int)).length) (hq : q = (secN st L k).length) : q = (secN st L (k + 1)).length := by rw [← secN_out h]; exact hq
end
section
variable {st : ByteArray} {L F : List PU} {rm : Int} {P : List Int} {T : List Bool}
theorem getD_mem {l : List ByteArray} {i : Nat} {d : ByteArray} (hi : i < l.length) : l.getD i d ∈ l := by
  rw [List.getD_eq_getElem?_getD, List.getElem?_eq_getElem hi]; exact List.getElem_mem hi
theorem pickI_bd {n q : Nat} (hn : 1 ≤ n) : 0 ≤ pickI n q P ∧ pickI n q P < (n : Int) := by
  unfold pickI
  split
  · exact ⟨Int.emod_nonneg _ (by omega), Int.emod_lt_of_pos _ (by omega)⟩
  · omega
theorem pickD_ok {l : List ByteArray} {q : Nat} (hl : 1 ≤ l.length) : okV l (pickD l q P T) := by
  have hb := pickI_bd (n := l.length) (q := q) (P := P) hl
  unfold pickD
  split
  · rename_i h
    refine .inr ⟨(pickI l.length q P).toNat, _, _, by omega, ?_, ?_, rfl⟩
    · rw [List.getD_eq_getElem?_getD, List.getElem?_eq_getElem (show (pickI l.length q P).toNat < l.length by omega)]; rfl
    · rw [List.getD_eq_getElem?_getD, List.getElem?_eq_getElem (show (pickI l.length q P).toNat - 1 < l.length by omega)]; rfl
  · exact .inl (getD_mem (by omega))
theorem chS_ok (s : Int) : okV (versC st L s) (chS st L P T s) := by
  have hl := (versC_len st L s).1
  unfold chS
  split
  · exact pickD_ok hl
  · exact .inl (getD_mem (by omega))
theorem okV_size {l : List ByteArray} {x : ByteArray} (h : ∀ y ∈ l, (y.size : Int) = 8) (hx : okV l x) : (x.size : Int) = 8 := by
  rcases hx with hx | ⟨i, a, b, _, h2, h3, rfl⟩
  · exact h x hx
  · exact torn_size (h a (List.mem_of_getElem? h2)) (h b (List.mem_of_getElem? h3))
theorem chS_size {s : Int} (hC : okC st L F rm) (hs : okS (st.size : Int) s 1) : ((chS st (L ++ F) P T s).size : Int) = 8 := okV_size (versC_all hC hs) (chS_ok s)
theorem cat_chS {k : Nat} (hC : okC st L F rm) (hk : (k : Int) ≤ (st.size : Int) / 8) : ((catF (chS st (L ++ F) P T) 0 k).size : Int) = 8 * (k : Int) := by
  refine catF_size fun i hi => chS_size hC ?_
  rw [Int.zero_add]; exact okS_k hC (by omega)
theorem ch_no (h : ¬ okC st L F rm) : chooseF st L F rm P T = ⟨#[]⟩ := by unfold chooseF; rw [if_neg h]
theorem ch_yes {k : Nat} (h : okC st L F rm) (hk : (k : Int) = (st.size : Int) / 8) : chooseF st L F rm P T = catF (chS st (L ++ F) P T) 0 k := by
  unfold chooseF; rw [if_pos h, show k = st.size / 8 by omega]
theorem secN_get {st : ByteArray} {L : List PU} {x : Int} {i : Nat} : ∀ {n : Nat}, (secN st L n)[i]? = some x → 0 ≤ x ∧ x < (n : Int) ∧ 1 < (versC st L x).length ∧ i = (secN st L x.toNat).length
  | 0, h => by simp [secN] at h
  | n + 1, h => by
    unfold secN at h
    rw [List.getElem?_append] at h
    split at h
    · obtain ⟨h1, h2, h3⟩ := secN_get h; exact ⟨h1, by omega, h3⟩
    · split at h
      · rename_i hi hv
        cases hj : i - (secN st L n).length with
        | zero => rw [hj] at h; simp at h; subst h; exact ⟨by omega, by omega, hv, by simp; omega⟩
        | succ j => rw [hj] at h; simp at h
      · simp at h
theorem secN_mem {st : ByteArray} {L : List PU} {k : Nat} : ∀ {n : Nat}, k < n → 1 < (versC st L (k : Int)).length → (k : Int) ∈ secN st L n
  | 0, h, _ => by omega
  | n + 1, h, hv => by
    unfold secN
    by_cases c : k = n
    · subst c; rw [if_pos hv]; simp
    · exact List.mem_append.2 (.inl (secN_mem (by omega) hv))
theorem secN_S {x : Int} {i : Nat} (hC : okC st L F rm) (h : (secN st (L ++ F) (st.size / 8))[i]? = some x) : okS (st.size : Int) x 1 ∧ 1 < (versC st (L ++ F) x).length ∧ i = (secN st (L ++ F) x.toNat).length := by
  obtain ⟨h1, h2, h3⟩ := secN_get h
  exact ⟨⟨hC.1.1, by omega, by omega, by omega⟩, h3⟩
def imQ (st : ByteArray) (f : Int → ByteArray) (M : List Int) (k : Nat) (im : ByteArray) : Prop := (im.size : Int) = (st.size : Int) ∧ ∀ t : Int, 0 ≤ t → t < (st.size : Int) / 8 → sec im t = if t ∈ M.take k then f t else sec st t
theorem imQ_start (st : ByteArray) (f : Int → ByteArray) (M : List Int) : imQ st f M 0 st := ⟨rfl, fun t h0 h1 => by simp⟩
theorem imQ_step {st im d : ByteArray} {f : Int → ByteArray} {M : List Int} {k : Nat} {x : Int} (h : imQ st f M k im) (hx : M[k]? = some x) (hs : okS (st.size : Int) x 1) (hd : (d.size : Int) = 8) (he : d = f x) : imQ st f M (k + 1) (wim im x d) := by
  obtain ⟨h1, h2⟩ := h
  have hs' : okS (im.size : Int) x 1 := by rw [h1]; exact hs
  refine ⟨(wim_size (okW_of hs' hd)).trans h1, fun t h0 ht => ?_⟩
  rw [sec_wim1 hs' hd h0, List.take_add_one, hx]
  by_cases c : t = x
  · rw [if_pos c, if_pos (by simp [c]), he, c]
  · rw [if_neg c, h2 t h0 ht]
    by_cases c2 : t ∈ M.take k
    · rw [if_pos c2, if_pos (List.mem_append.2 (.inl c2))]
    · rw [if_neg c2, if_neg (by simp [c]; exact c2)]
theorem sec_cat0 {f : Int → ByteArray} {n : Nat} (h : ∀ i : Nat, i < n → ((f (0 + (i : Int))).size : Int) = 8) {t : Int} (h0 : 0 ≤ t) (ht : t < (n : Int)) : sec (catF f 0 n) t = f t := by
  have := sec_cat h (t := t.toNat) (by omega)
  rwa [show ((t.toNat : Nat) : Int) = t by omega] at this
theorem choose_sec {t : Int} (hC : okC st L F rm) (h0 : 0 ≤ t) (ht : t < (st.size : Int) / 8) : sec (chooseF st L F rm P T) t = chS st (L ++ F) P T t := by
  have hi := okD_I hC.1
  unfold chooseF; rw [if_pos hC]
  refine sec_cat0 (fun i hi => ?_) h0 (by omega)
  rw [Int.zero_add]; exact chS_size hC (okS_k hC (by omega))
theorem choose_size (hC : okC st L F rm) : ((chooseF st L F rm P T).size : Int) = (st.size : Int) := by
  have hi := okD_I hC.1
  unfold chooseF; rw [if_pos hC, cat_chS hC (by omega)]; omega
theorem choose_bd (st : ByteArray) (L F : List PU) (rm : Int) (P : List Int) (T : List Bool) : ((chooseF st L F rm P T).size : Int) ≤ 1024 := by
  by_cases h : okC st L F rm
  · rw [choose_size h]; exact (okD_I h.1).2.1
  · rw [ch_no h]; simp [ByteArray.size]
theorem chS_none1 {s : Int} (h : ¬ 1 < (versC st L s).length) : chS st L P T s = sec st s := by
  unfold chS; rw [if_neg h]; unfold versC; rfl
theorem choose_ext {im : ByteArray} (hC : okC st L F rm) (h1 : (im.size : Int) = (st.size : Int)) (h2 : ∀ t : Int, 0 ≤ t → t < (st.size : Int) / 8 → sec im t = chS st (L ++ F) P T t) : im = chooseF st L F rm P T := by
  have hi := okD_I hC.1
  have hz := choose_size (P := P) (T := T) hC
  exact text_ext (by omega) (by omega) fun t h0 ht => by rw [choose_sec hC h0 (by omega)]; exact h2 t h0 (by omega)
theorem imQ_end {im : ByteArray} {k : Nat} (hC : okC st L F rm) (h : imQ st (chS st (L ++ F) P T) (secN st (L ++ F) (st.size / 8)) k im) (hk : (secN st (L ++ F) (st.size / 8)).length ≤ k) : im = chooseF st L F rm P T := by
  obtain ⟨h1, h2⟩ := h
  refine choose_ext hC h1 fun t h0 ht => ?_
  rw [h2 t h0 ht, List.take_of_length_le hk]
  by_cases c : t ∈ secN st (L ++ F) (st.size / 8)
  · rw [if_pos c]
  · rw [if_neg c, chS_none1]
    intro h9
    obtain ⟨n, rfl⟩ : ∃ n : Nat, t = (n : Int) := ⟨t.toNat, by omega⟩
    exact c (secN_mem (by omega) h9)
end

end Go.Proofs.Ytlhcpeolkkadbaa

/- plain words, more -/
import Derived.Test.YtlhcpeolkkadbaaP
namespace Go.Proofs.Ytlhcpeolkkadbaa
open Go.RowKit
set_option linter.unusedVariables false
set_option linter.unusedSimpArgs false

/- what reading a drive gives, and what writes, destaging and flushing do to it -/
def sec (st : ByteArray) (t : Int) : ByteArray := subs st (t * 8) ((t + 1) * 8)
def logF (L : List PU) (s : Int) : List ByteArray := (L.filter fun p => decide (p.f0 = s)).map (·.f1)
theorem sub_at (s : ByteArray) (i j : Int) (k : Nat) : (bl (subs s i j))[k]? = if k < j.toNat - i.toNat then (bl s)[i.toNat + k]? else none := by
  rw [bl_subs, List.getElem?_take]; split <;> simp [List.getElem?_drop]
theorem wim_at {im x : ByteArray} {s : Int} (hw : okW (im.size : Int) s (x.size : Int)) (k : Nat) : (bl (wim im s x))[k]? = if k < (s * 8).toNat then (bl im)[k]? else if k < (s * 8).toNat + x.size then (bl x)[k - (s * 8).toNat]? else (bl im)[k]? := by
  unfold okW okS okI at hw
  have h1 : (bl (subs im 0 (s * 8))).length = (s * 8).toNat := by
    rw [bl_len]; have := subs_size (s := im) (i := 0) (j := s * 8) (by omega) (by omega) (by omega); omega
  have h2 : (bl x).length = x.size := bl_len x
  unfold wim
  rw [bl_app, bl_app, List.getElem?_append, List.getElem?_append, List.length_append, h1, h2]
  by_cases c1 : k < (s * 8).toNat
  · rw [if_pos (by omega), if_pos c1, if_pos c1, sub_at, if_pos (by omega)]; congr 1; omega
  · by_cases c2 : k < (s * 8).toNat + x.size
    · rw [if_pos c2, if_neg c1, if_neg c1, if_pos c2]
    · rw [if_neg c2, if_neg c1, if_neg c2, sub_at]
      split
      · congr 1; omega
      · rw [List.getElem?_eq_none (by rw [bl_len]; omega)]
theorem sec_wim {im x : ByteArray} {s t : Int} (hw : okW (im.size : Int) s (x.size : Int)) (h0 : 0 ≤ t) : sec (wim im s x) t = if s ≤ t ∧ t < s + (x.size : Int) / 8 then subs x ((t - s) * 8) ((t - s + 1) * 8) else sec im t := by
  have hw' := hw
  unfold okW okS okI at hw
  apply bl_inj
  apply List.ext_getElem?
  intro k
  unfold sec
  split
  · rename_i c
    rw [sub_at, sub_at, wim_at hw']
    by_cases hk : k < 8
    · rw [if_pos (by omega), if_neg (by omega), if_pos (by omega), if_pos (by omega)]; congr 1; omega
    · rw [if_neg (by omega), if_neg (by omega)]
  · rename_i c
    rw [sub_at, sub_at, wim_at hw']
    by_cases hk : k < 8
    · have e1 : k < ((t + 1) * 8).toNat - (t * 8).toNat := by omega
      rw [if_pos e1, if_pos e1]
      by_cases c1 : (t * 8).toNat + k < (s * 8).toNat
      · rw [if_pos c1]
      · have c2 : ¬ ((t * 8).toNat + k < (s * 8).toNat + x.size) := by omega
        rw [if_neg c1, if_neg c2]
    · rw [if_neg (by omega), if_neg (by omega)]
theorem subs_whole {x : ByteArray} (hx : (x.size : Int) = 8) : subs x 0 8 = x := by have := subs_all x; rwa [hx] at this
theorem sec_wim1 {im x : ByteArray} {s t : Int} (hs : okS (im.size : Int) s 1) (hx : (x.size : Int) = 8) (h0 : 0 ≤ t) : sec (wim im s x) t = if t = s then x else sec im t := by
  rw [sec_wim (okW_of hs hx) h0]
  by_cases h : t = s
  · subst h; rw [if_pos ⟨by omega, by omega⟩, if_pos rfl, show (t - t) * 8 = 0 by omega, show (t - t + 1) * 8 = 8 by omega, subs_whole hx]
  · rw [if_neg (by omega), if_neg h]
theorem text_ext {a b : ByteArray} (h : (a.size : Int) = (b.size : Int)) (h8 : (a.size : Int) % 8 = 0) (hs : ∀ t : Int, 0 ≤ t → t < (a.size : Int) / 8 → sec a t = sec b t) : a = b := by
  apply bl_inj
  apply List.ext_getElem?
  intro k
  by_cases hk : k < a.size
  · have h1 := congrArg (fun x => (bl x)[k % 8]?) (hs ((k / 8 : Nat) : Int) (by omega) (by omega))
    simp only [sec, sub_at] at h1
    rw [if_pos (by omega), if_pos (by omega)] at h1
    have e : (((k / 8 : Nat) : Int) * 8).toNat + k % 8 = k := by omega
    rwa [e] at h1
  · rw [List.getElem?_eq_none (by rw [bl_len]; omega), List.getElem?_eq_none (by rw [bl_len]; omega)]
theorem catF_at {f : Int → ByteArray} {s : Int} : ∀ {n : Nat}, (∀ i : Nat, i < n → ((f (s + (i : Int))).size : Int) = 8) → ∀ k : Nat, k < 8 * n → (bl (catF f s n))[k]? = (bl (f (s + ((k / 8 : Nat) : Int))))[k % 8]?
  | 0, _, k, hk => by omega
  | n + 1, h, k, hk => by
    have hl := catF_size (f := f) (s := s) (k := n) (fun i hi => h i (by omega))
    have ih := catF_at (f := f) (s := s) (n := n) (fun i hi => h i (by omega)) k
    have hl2 : (bl (catF f s n)).length = 8 * n := by rw [bl_len]; omega
    show (bl (catF f s n ++ f (s + (n : Int))))[k]? = _
    rw [bl_app, List.getElem?_append, hl2]
    by_cases c : k < 8 * n
    · rw [if_pos c]; exact ih c
    · rw [if_neg c, show k / 8 = n by omega, show k - 8 * n = k % 8 by omega]
theorem sec_cat {f : Int → ByteArray} {n : Nat} (h : ∀ i : Nat, i < n → ((f (0 + (i : Int))).size : Int) = 8) {t : Nat} (ht : t < n) : sec (catF f 0 n) (t : Int) = f (t : Int) := by
  have h8 := h t ht
  rw [Int.zero_add] at h8
  apply bl_inj
  apply List.ext_getElem?
  intro k
  unfold sec
  rw [sub_at]
  by_cases hk : k < 8
  · rw [if_pos (by omega), catF_at h _ (by omega)]
    have e1 : (((t : Int) * 8).toNat + k) / 8 = t := by omega
    have e2 : (((t : Int) * 8).toNat + k) % 8 = k := by omega
    rw [e1, e2, Int.zero_add]
  · rw [if_neg (by omega), List.getElem?_eq_none (by rw [bl_len]; omega)]
theorem newest_eq (st : ByteArray) (L : List PU) (s : Int) : newest st L s = (logF L s).getLastD (sec st s) := by
  unfold newest versC logF sec; rw [List.getLastD_cons]
theorem logF_app (A B : List PU) (s : Int) : logF (A ++ B) s = logF A s ++ logF B s := by unfold logF; simp
theorem logF_cons (p : PU) (B : List PU) (s : Int) : logF (p :: B) s = if p.f0 = s then p.f1 :: logF B s else logF B s := by
  unfold logF; by_cases h : p.f0 = s <;> simp [h]
theorem last_app {α : Type} (a b : List α) (d : α) : (a ++ b).getLastD d = b.getLastD (a.getLastD d) := by
  cases b with
  | nil => simp
  | cons x r => rw [List.getLastD_eq_getLast?, List.getLastD_eq_getLast?, List.getLast?_append]; simp [List.getLast?_cons]
theorem newest_snoc (st : ByteArray) (L : List PU) (p : PU) (t : Int) : newest st (L ++ [p]) t = if p.f0 = t then p.f1 else newest st L t := by
  rw [newest_eq, newest_eq, logF_app, logF_cons, last_app]
  by_cases h : p.f0 = t <;> simp [h, logF]
theorem newest_head {st : ByteArray} {p : PU} {r : List PU} {t : Int} (hp : okP (st.size : Int) p) (h0 : 0 ≤ t) : newest st (p :: r) t = newest (wim st p.f0 p.f1) r t := by
  rw [newest_eq, newest_eq, logF_cons, sec_wim1 hp.1 hp.2 h0]
  by_cases h : p.f0 = t
  · rw [if_pos h, if_pos h.symm, List.getLastD_cons]
  · rw [if_neg h, if_neg (fun e => h e.symm)]
theorem logF_filter (L : List PU) (s t : Int) : logF (L.filter fun p => decide (p.f0 ≠ s)) t = if t = s then [] else logF L t := by
  induction L with
  | nil => simp [logF]
  | cons p r ih =>
    rw [logF_cons]
    by_cases h : p.f0 = s
    · rw [List.filter_cons_of_neg (by simp [h]), ih]
      by_cases h2 : t = s
      · rw [if_pos h2, if_pos h2]
      · rw [if_neg h2, if_neg h2, if_neg (by omega)]
    · rw [List.filter_cons_of_pos (by simp [h]), logF_cons, ih]
      by_cases h2 : t = s
      · rw [if_pos h2, if_pos h2, if_neg (by omega)]
      · rw [if_neg h2, if_neg h2]
theorem selL_cut (s : Int) (k : Nat) : ∀ (A : List PU) (i : Nat) (B : List PU), i + A.length = k + 1 → selL s (fun i => decide (i ≤ (k : Int))) i (A ++ B) = (A.filter fun p => decide (p.f0 ≠ s)) ++ B
  | [], i, B, h => by simp at h; simp; exact selL_rest s k B i (by omega)
  | p :: r, i, B, h => by
    simp at h
    have ih := selL_cut s k r (i + 1) B (by omega)
    simp only [List.cons_append, selL]
    rw [ih]
    by_cases hp : p.f0 = s
    · rw [if_neg (by rintro (h1 | h1); exact h1 hp; simp at h1; omega), List.filter_cons_of_neg (by simp [hp])]
    · rw [if_pos (.inl hp), List.filter_cons_of_pos (by simp [hp])]; simp
theorem split_at {L : List PU} {k : Nat} {p : PU} (h : L[k]? = some p) : ∃ A B, L = A ++ p :: B ∧ A.length = k := by
  have hk := (List.getElem?_eq_some_iff.1 h)
  obtain ⟨hlt, he⟩ := hk
  exact ⟨L.take k, L.drop (k + 1), by rw [← he, ← List.drop_eq_getElem_cons hlt, List.take_append_drop], by simp; omega⟩
theorem newest_dest {st : ByteArray} {L : List PU} {k : Nat} {p : PU} {t : Int} (hp : L[k]? = some p) (hok : okP (st.size : Int) p) (h0 : 0 ≤ t) : newest (wim st p.f0 p.f1) (selL p.f0 (fun i => decide (i ≤ (k : Int))) 0 L) t = newest st L t := by
  obtain ⟨A, B, rfl, hA⟩ := split_at hp
  have e : selL p.f0 (fun i => decide (i ≤ (k : Int))) 0 (A ++ p :: B) = (A.filter fun q => decide (q.f0 ≠ p.f0)) ++ B := by
    have := selL_cut p.f0 k (A ++ [p]) 0 B (by simp; omega)
    rw [List.append_assoc] at this
    simp only [List.singleton_append] at this
    rw [this, List.filter_append]; simp
  rw [e, newest_eq, newest_eq, logF_app, logF_app, logF_cons, sec_wim1 hok.1 hok.2 h0, logF_filter, last_app, last_app]
  by_cases h : t = p.f0
  · rw [if_pos h, if_pos h, if_pos h.symm, List.getLastD_cons]; rfl
  · rw [if_neg h, if_neg h, if_neg (fun e => h e.symm)]
theorem newest_put1 {st st1 x : ByteArray} {L L1 : List PU} {rm s t : Int} {fua : Bool} (hd : okD st L rm) (hs : okS (st.size : Int) s 1) (hx : (x.size : Int) = 8) (h0 : 0 ≤ t) (h : put1 st L rm s x fua = (st1, L1)) : newest st1 L1 t = if t = s then x else newest st L t := by
  unfold put1 at h
  split at h
  · injection h with ha hb; subst ha hb
    rw [selL_true, newest_eq, logF_filter, sec_wim1 hs hx h0, newest_eq]
    by_cases h : t = s
    · rw [if_pos h, if_pos h, if_pos h]; rfl
    · rw [if_neg h, if_neg h, if_neg h]
  · split at h
    · rename_i hn hl
      cases L with
      | nil => simp at hl; exact absurd (.inr hl.symm) hn
      | cons p r =>
        simp only [List.getElem?_cons_zero] at h
        rw [selL_head] at h
        injection h with ha hb; subst ha hb
        rw [newest_snoc, newest_head (hd.2.2.2 p (by simp)) h0]
        by_cases h : t = s
        · rw [if_pos h.symm, if_pos h]
        · rw [if_neg (fun e => h e.symm), if_neg h]
    · injection h with ha hb; subst ha hb
      rw [newest_snoc]
      by_cases h : t = s
      · rw [if_pos h.symm, if_pos h]
      · rw [if_neg (fun e => h e.symm), if_neg h]
theorem newest_wrN {st x : ByteArray} {L : List PU} {rm s t : Int} {fua : Bool} (hd : okD st L rm) (hw : okW (st.size : Int) s (x.size : Int)) (h0 : 0 ≤ t) : ∀ k : Nat, (k : Int) ≤ (x.size : Int) / 8 → newest (wrN st L rm s x fua k).1 (wrN st L rm s x fua k).2 t = if s ≤ t ∧ t < s + (k : Int) then subs x ((t - s) * 8) ((t - s + 1) * 8) else newest st L t
  | 0, _ => by rw [if_neg (by omega)]; rfl
  | k + 1, hk => by
    have ih := newest_wrN (fua := fua) hd hw h0 k (by omega)
    obtain ⟨h1, h2⟩ := wrN_ok (fua := fua) hd hw k (by omega)
    have hw' := hw
    unfold okW okS okI at hw
    generalize hq : wrN st L rm s x fua k = q at *
    obtain ⟨q1, q2⟩ := q
    dsimp only at h1 h2 ih
    cases hp : put1 q1 q2 rm (s + (k : Int)) (subs x ((k : Int) * 8) (((k + 1 : Nat) : Int) * 8)) fua with
    | mk s2 L2 =>
    have h3 := newest_put1 (t := t) h1 (by rw [h2]; unfold okS okI; omega) (by rw [subs_size (by omega) (by omega) (by omega)]; omega) h0 hp
    rw [wrN_succ hq hp]
    dsimp only
    rw [h3, ih]
    by_cases c : t = s + (k : Int)
    · rw [if_pos c, if_pos (by omega)]; congr 1 <;> omega
    · rw [if_neg c]
      by_cases c2 : s ≤ t ∧ t < s + (k : Int)
      · rw [if_pos c2, if_pos (by omega)]
      · rw [if_neg c2, if_neg (by omega)]
theorem newest_fl {t : Int} (h0 : 0 ≤ t) : ∀ {L : List PU} {st : ByteArray}, (∀ p ∈ L, okP (st.size : Int) p) → newest st L t = sec (flSt st L) t
  | [], st, _ => by rw [newest_eq]; rfl
  | p :: r, st, h => by
    have e := wim_size (okP_W (h p (by simp)))
    rw [newest_head (h p (by simp)) h0]
    exact newest_fl h0 (L := r) (st := wim st p.f0 p.f1) (fun q hq => by rw [e]; exact h q (by simp [hq]))
/-- reading the whole drive gives what flushing leaves -/
theorem read_all {st : ByteArray} {L : List PU} {rm c : Int} (hd : okD st L rm) (hc : c = (st.size : Int) / 8) (h1 : 8 ≤ (st.size : Int)) : readF st L rm 0 c = (flSt st L, true) := by
  have hi := okD_I hd
  have hs : okS (st.size : Int) 0 c := by unfold okS okI; omega
  unfold readF
  rw [if_pos ⟨hd, hs⟩]
  have hsz := read_size (k := c.toNat) hd.2.2.2 hs (by omega)
  have hfl := foldl_size hd.2.2.2
  have hn : ∀ i : Nat, i < c.toNat → ((newest st L (0 + (i : Int))).size : Int) = 8 := fun i hi' => newest_size hd.2.2.2 (okS_in hs (by omega) (by omega))
  congr 1
  refine text_ext (by omega) (by omega) fun t h0 ht => ?_
  have ht' : t.toNat < c.toNat := by omega
  have := sec_cat hn ht'
  rw [show ((t.toNat : Nat) : Int) = t by omega] at this
  rw [this, newest_fl h0 hd.2.2.2]
theorem cur_ext {st st1 : ByteArray} {L L1 : List PU} {rm rm1 : Int} {im : ByteArray} (hd : okD st L rm) (h8 : (im.size : Int) = (st.size : Int)) (h : ∀ t : Int, 0 ≤ t → t < (st.size : Int) / 8 → newest st L t = sec im t) : flSt st L = im := by
  have hfl := foldl_size hd.2.2.2
  have hi := okD_I hd
  exact text_ext (by omega) (by omega) fun t h0 ht => by rw [← newest_fl h0 hd.2.2.2]; exact h t h0 (by omega)
theorem cur_write {st st1 x : ByteArray} {L L1 : List PU} {rm s rm1 : Int} {fua : Bool} (h : writeF st L rm s x fua = (st1, L1, rm1, true)) : flSt st1 L1 = wim (flSt st L) s x := by
  rcases writeF_ok h with ⟨_, hd, hw, hd1, hs1, _⟩ | ⟨hb, _⟩
  · have hfl := foldl_size hd.2.2.2
    have hw2 : okW ((flSt st L).size : Int) s (x.size : Int) := by rw [hfl]; exact hw
    have hws := wim_size hw2
    refine cur_ext (rm1 := 0) (st1 := st) (L1 := L) hd1 (by omega) fun t h0 ht => ?_
    unfold writeF at h
    rw [if_pos ⟨hd, hw⟩] at h
    injection h with h1 h; injection h with h2 h
    have := newest_wrN (fua := fua) hd hw h0 (x.size / 8) (by omega)
    rw [h1, h2] at this
    rw [this, sec_wim hw2 h0, newest_fl h0 hd.2.2.2]
    rfl
  · cases hb
theorem cur_dest {st st1 : ByteArray} {L L1 : List PU} {rm k rm1 : Int} (h : destF st L rm k = (st1, L1, rm1, true)) : flSt st1 L1 = flSt st L := by
  rcases destF_ok h with ⟨_, hd, hk0, hk1, hd1, hs1, _⟩ | ⟨hb, _⟩
  · have hfl := foldl_size hd.2.2.2
    refine cur_ext (rm1 := 0) (st1 := st) (L1 := L) hd1 (by omega) fun t h0 ht => ?_
    obtain ⟨kn, rfl⟩ : ∃ n : Nat, k = (n : Int) := ⟨k.toNat, by omega⟩
    obtain ⟨p, hp⟩ := get_some (L := L) (k := kn) (by omega)
    rw [destF_at hd hp] at h
    injection h with h1 h; injection h with h2 h
    rw [← h1, ← h2, newest_dest hp (hd.2.2.2 p (List.mem_of_getElem? hp)) h0, newest_fl h0 hd.2.2.2]
  · cases hb
theorem flSt_size {st : ByteArray} {L : List PU} {rm : Int} (hd : okD st L rm) : ((flSt st L).size : Int) = (st.size : Int) := foldl_size hd.2.2.2
theorem wim_comm {im x y : ByteArray} {s t : Int} (hs : okS (im.size : Int) s 1) (ht : okS (im.size : Int) t 1) (hx : (x.size : Int) = 8) (hy : (y.size : Int) = 8) (hne : s ≠ t) : wim (wim im s x) t y = wim (wim im t y) s x := by
  have e1 := wim_size (okW_of hs hx)
  have e2 := wim_size (okW_of ht hy)
  have ht' : okS ((wim im s x).size : Int) t 1 := by rw [e1]; exact ht
  have hs' : okS ((wim im t y).size : Int) s 1 := by rw [e2]; exact hs
  have e3 := wim_size (okW_of ht' hy)
  have e4 := wim_size (okW_of hs' hx)
  refine text_ext (by omega) (by rw [e3, e1]; unfold okS okI at hs; omega) fun u h0 hu => ?_
  rw [sec_wim1 ht' hy h0, sec_wim1 hs' hx h0, sec_wim1 hs hx h0, sec_wim1 ht hy h0]
  by_cases c1 : u = t
  · rw [if_pos c1, if_neg (by omega), if_pos c1]
  · rw [if_neg c1, if_neg c1]
theorem wrF_one {st x st1 : ByteArray} {L L1 : List PU} {rm s rm1 : Int} {fua : Bool} (hx : (x.size : Int) = 8) (h : writeF st L rm s x fua = (st1, L1, rm1, true)) : put1 st L rm s x fua = (st1, L1) ∧ okD st L rm ∧ okS (st.size : Int) s 1 := by
  rcases writeF_ok h with ⟨_, hd, hw, _⟩ | ⟨hb, _⟩
  · unfold writeF at h
    rw [if_pos ⟨hd, hw⟩, show x.size / 8 = 1 by omega] at h
    injection h with h1 h; injection h with h2 h
    have e : wrN st L rm s x fua 1 = put1 st L rm s x fua := by
      show put1 st L rm (s + ((0 : Nat) : Int)) (subs x (((0 : Nat) : Int) * 8) (((0 + 1 : Nat) : Int) * 8)) fua = _
      rw [show s + ((0 : Nat) : Int) = s by omega, show ((0 : Nat) : Int) * 8 = 0 by omega, show ((0 + 1 : Nat) : Int) * 8 = 8 by omega, subs_whole hx]
    rw [e] at h1 h2
    refine ⟨Prod.ext h1 h2, hd, ?_⟩
    unfold okW at hw; rw [hx] at hw; exact hw.1
  · cases hb
theorem put1_len {st st1 x : ByteArray} {L L1 : List PU} {rm s : Int} (hd : okD st L rm) (h : put1 st L rm s x false = (st1, L1)) : (L1.length : Int) = min ((L.length : Int) + 1) rm := by
  have hi := okD_I hd
  unfold put1 at h
  split at h
  · rename_i hc
    injection h with ha hb; subst ha hb
    have := len_selL (s := s) (old := fun _ => true) L 0
    rcases hc with hc | hc
    · cases hc
    · omega
  · split at h
    · rename_i hn hl
      cases L with
      | nil => simp at hl; exact absurd (.inr hl.symm) hn
      | cons p r =>
        simp only [List.getElem?_cons_zero] at h
        rw [selL_head] at h
        injection h with ha hb; subst ha hb
        simp at hl ⊢; omega
    · injection h with ha hb; subst ha hb
      simp; omega
theorem wr_len {st x st1 : ByteArray} {L L1 : List PU} {rm s rm1 : Int} (hx : (x.size : Int) = 8) (h : writeF st L rm s x false = (st1, L1, rm1, true)) : (L1.length : Int) = min ((L.length : Int) + 1) rm := by
  obtain ⟨h1, h2, _⟩ := wrF_one hx h
  exact put1_len h2 h1
theorem flSt_nil {st : ByteArray} {L : List PU} (h : L.length = 0) : flSt st L = st := by
  have : L = [] := List.eq_nil_of_length_eq_zero h
  subst this; rfl
theorem flushF_eq {st st1 : ByteArray} {L : List PU} {rm rm1 : Int} (hd : okD st L rm) (h : flushF st L rm = (st1, rm1)) : st1 = flSt st L ∧ rm = rm1 := by
  unfold flushF at h; rw [if_pos hd] at h; injection h with h1 h2; exact ⟨h1.symm, h2⟩
theorem okD_fl {st : ByteArray} {L : List PU} {rm : Int} (hd : okD st L rm) : okD (flSt st L) [] rm := by
  have e := flSt_size hd
  exact ⟨by rw [e]; exact hd.1, hd.2.1, by have := hd.2.1.1; simp; omega, by simp⟩
theorem rnd_any (n m : Int) : 0 ≤ rnd n m ∧ (rnd n m < m ∨ (m < 1 ∧ rnd n m = 0)) := by
  by_cases h : 1 ≤ m
  · have := rnd_bounds n m h; omega
  · unfold rnd; rw [if_pos (by omega)]; omega
theorem okD_room {st : ByteArray} {L : List PU} {rm r2 : Int} (hd : okD st L rm) (h1 : rm ≤ r2) (h2 : r2 ≤ 64) : okD st L r2 := by
  obtain ⟨a, b, c, d⟩ := hd; exact ⟨a, by omega, by omega, d⟩
theorem versC_sec (st : ByteArray) (L : List PU) (s : Int) : versC st L s = sec st s :: logF L s := rfl
theorem thr1 {st x st1 : ByteArray} {L L1 : List PU} {rm s rm1 : Int} (hx : (x.size : Int) = 8) (h : writeF st L rm s x true = (st1, L1, rm1, true)) : vers st1 L1 rm1 s = [x] := by
  obtain ⟨h1, h2, h3⟩ := wrF_one hx h
  rcases writeF_ok h with ⟨_, _, _, h4, h5, rfl⟩ | ⟨hb, _⟩
  · have h3' : okS (st1.size : Int) s 1 := by rw [h5]; exact h3
    have h30 : 0 ≤ s := by unfold okS at h3; omega
    unfold vers; rw [if_pos ⟨h4, h3'⟩, versC_sec]
    rw [put1_1 (.inl rfl)] at h1
    injection h1 with e1 e2
    rw [← e1, ← e2, selL_true, logF_filter, if_pos rfl, sec_wim1 h3 hx h30, if_pos rfl]
  · cases hb
theorem thr2 {st x y st1 : ByteArray} {L L1 : List PU} {rm s o rm1 : Int} (hy : (y.size : Int) = 8) (hs0 : okS (st.size : Int) s 1) (hne : ¬ o = s) (h : writeF st L rm o y false = (st1, L1, rm1, true)) (hv : vers st L rm s = [x]) : vers st1 L1 rm1 s = [x] := by
  obtain ⟨h1, h2, h3⟩ := wrF_one hy h
  have h00 : 0 ≤ s := by unfold okS at hs0; omega
  rcases writeF_ok h with ⟨_, _, _, h4, h5, rfl⟩ | ⟨hb, _⟩
  · have h3' : okS (st1.size : Int) s 1 := by rw [h5]; exact hs0
    unfold vers at hv; rw [if_pos ⟨h2, hs0⟩, versC_sec] at hv
    injection hv with hv1 hv2
    unfold vers; rw [if_pos ⟨h4, h3'⟩, versC_sec]
    have goal : sec st1 s = x ∧ logF L1 s = [] := by
      unfold put1 at h1
      split at h1
      · injection h1 with ha hb; subst ha hb
        rw [sec_wim1 h3 hy h00, if_neg (fun e => hne e.symm), selL_true, logF_filter, if_neg (fun e => hne e.symm)]; exact ⟨hv1, hv2⟩
      · split at h1
        · rename_i hn hl
          cases L with
          | nil => simp at hl; exact absurd (.inr hl.symm) hn
          | cons p r =>
            simp only [List.getElem?_cons_zero] at h1
            rw [selL_head] at h1
            injection h1 with ha hb; subst ha hb
            rw [logF_cons] at hv2
            by_cases hp : p.f0 = s
            · rw [if_pos hp] at hv2; cases hv2
            · rw [if_neg hp] at hv2
              have hpk := h2.2.2.2 p (by simp)
              rw [sec_wim1 hpk.1 hpk.2 h00, if_neg (fun e => hp e.symm), logF_app, logF_cons, if_neg hne, hv2]; exact ⟨hv1, rfl⟩
        · injection h1 with ha hb; subst ha hb
          rw [logF_app, logF_cons, if_neg hne, hv2]; exact ⟨hv1, rfl⟩
    rw [goal.1, goal.2]
  · cases hb
theorem ver1 {st x st1 : ByteArray} {L L1 : List PU} {rm s rm1 : Int} (hx : (x.size : Int) = 8) (hl : (L.length : Int) < rm) (h : writeF st L rm s x false = (st1, L1, rm1, true)) : vers st1 L1 rm1 s = vers st L rm s ++ [x] := by
  obtain ⟨h1, h2, h3⟩ := wrF_one hx h
  have hi := okD_I h2
  rcases writeF_ok h with ⟨_, _, _, h4, h5, rfl⟩ | ⟨hb, _⟩
  · rw [put1_3 rfl (by omega) (by omega)] at h1
    injection h1 with ha hb; subst ha hb
    unfold vers; rw [if_pos ⟨h4, h3⟩, if_pos ⟨h2, h3⟩, versC_sec, versC_sec, logF_app, logF_cons, if_pos rfl]; rfl
  · cases hb
theorem ver2 {st st1 : ByteArray} {L L1 : List PU} {rm rm1 : Int} {k : Nat} {p : PU} (hp : L[k]? = some p) (h : destF st L rm (k : Int) = (st1, L1, rm1, true)) : ∃ l, vers st1 L1 rm1 p.f0 = p.f1 :: l := by
  rcases destF_ok h with ⟨_, hd, _, _, h4, h5, rfl⟩ | ⟨hb, _⟩
  · have hpk := hd.2.2.2 p (List.mem_of_getElem? hp)
    have h3' : okS (st1.size : Int) p.f0 1 := by rw [h5]; exact hpk.1
    have h30 : 0 ≤ p.f0 := by have := hpk.1; unfold okS at this; omega
    unfold vers; rw [if_pos ⟨h4, h3'⟩, versC_sec]
    rw [destF_at hd hp] at h
    injection h with ha h
    rw [← ha, sec_wim1 hpk.1 hpk.2 h30, if_pos rfl]
    exact ⟨_, rfl⟩
  · cases hb
theorem new_write {st x st1 : ByteArray} {L L1 : List PU} {rm s rm1 : Int} {fua : Bool} (hx : (x.size : Int) = 8) (h : writeF st L rm s x fua = (st1, L1, rm1, true)) : newest st1 L1 s = x := by
  obtain ⟨h1, h2, h3⟩ := wrF_one hx h
  rw [newest_put1 h2 h3 hx (by unfold okS at h3; omega) h1, if_pos rfl]
theorem comm_cur {st a1 a2 b1 b2 x y : ByteArray} {L A1 A2 B1 B2 : List PU} {rm r1 r2 q1 q2 s t : Int} {fua : Bool} (hx : (x.size : Int) = 8) (hy : (y.size : Int) = 8) (hne : ¬ s = t)
    (h1 : writeF st L rm s x fua = (a1, A1, r1, true)) (h2 : writeF a1 A1 r1 t y false = (a2, A2, r2, true)) (h3 : writeF st L rm t y false = (b1, B1, q1, true)) (h4 : writeF b1 B1 q1 s x fua = (b2, B2, q2, true)) : flSt a2 A2 = flSt b2 B2 := by
  rw [cur_write h2, cur_write h1, cur_write h4, cur_write h3]
  obtain ⟨_, hd, hs⟩ := wrF_one hx h1
  obtain ⟨_, _, ht⟩ := wrF_one hy h3
  have e := flSt_size hd
  exact wim_comm (by rw [e]; exact hs) (by rw [e]; exact ht) hx hy hne
theorem data8 (n : Int) : ((dataF n 1).size : Int) = 8 := by rw [dataF_size]; rfl

end Go.Proofs.Ytlhcpeolkkadbaa

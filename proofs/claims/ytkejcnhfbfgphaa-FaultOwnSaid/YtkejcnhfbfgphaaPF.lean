/- plain words on commands -/
import Derived.Test.YtkejcnhfbfgphaaPE
namespace Go.Proofs.Ytkejcnhfbfgphaa
open Go.RowKit
set_option linter.unusedVariables false
set_option linter.unusedSimpArgs false

/- commands on drives, in plain words -/
def fitsP (st : ByteArray) (L : List PU) (rm k s c : Int) (x : ByteArray) : Prop := okD st L rm ∧ ((k = 3 ∧ (x.size : Int) = 0) ∨ (k = 1 ∧ okS (st.size : Int) s c ∧ (x.size : Int) = 0) ∨ (k = 2 ∧ okS (st.size : Int) s c ∧ (x.size : Int) = c * 8))
instance (st : ByteArray) (L : List PU) (rm k s c : Int) (x : ByteArray) : Decidable (fitsP st L rm k s c x) := by unfold fitsP; infer_instance
def doneF (dn c : Int) : Int := max 0 (min dn c)
def partF (st : ByteArray) (L : List PU) (s c : Int) (x : ByteArray) (dn : Int) (hf : Bool) : ByteArray :=
  if hf = true ∧ doneF dn c < c then subs x 0 (doneF dn c * 8) ++ (subs x (doneF dn c * 8) (doneF dn c * 8 + 4) ++ subs (newest st L (s + doneF dn c)) 4 ((newest st L (s + doneF dn c)).size : Int)) else subs x 0 (doneF dn c * 8)
def tornF (st : ByteArray) (L : List PU) (rm s c : Int) (x : ByteArray) (fua : Bool) (dn : Int) (hf : Bool) : ByteArray × List PU × Int :=
  if partF st L s c x dn hf = ⟨#[]⟩ then (st, L, rm) else ((writeF st L rm s (partF st L s c x dn hf) fua).1, (writeF st L rm s (partF st L s c x dn hf) fua).2.1, (writeF st L rm s (partF st L s c x dn hf) fua).2.2.1)
def runF (st : ByteArray) (L : List PU) (rm k s c : Int) (x : ByteArray) (fua : Bool) (er dn : Int) (hf : Bool) : ByteArray × List PU × Int × ByteArray × Int :=
  if ¬ fitsP st L rm k s c x then (st, L, rm, ⟨#[]⟩, 1)
  else if er ≠ 0 ∧ k = 2 then ((tornF st L rm s c x fua dn hf).1, (tornF st L rm s c x fua dn hf).2.1, (tornF st L rm s c x fua dn hf).2.2, ⟨#[]⟩, er)
  else if er ≠ 0 then (st, L, rm, ⟨#[]⟩, er)
  else if k = 1 then (st, L, rm, (readF st L rm s c).1, 0)
  else if k = 2 then ((writeF st L rm s x fua).1, (writeF st L rm s x fua).2.1, (writeF st L rm s x fua).2.2.1, ⟨#[]⟩, 0)
  else ((flushF st L rm).1, [], (flushF st L rm).2, ⟨#[]⟩, 0)
theorem doneF_b {dn c : Int} (h : 0 ≤ c) : 0 ≤ doneF dn c ∧ doneF dn c ≤ c := by unfold doneF; omega
theorem empty_iff (x : ByteArray) : x = ⟨#[]⟩ ↔ (x.size : Int) = 0 := by
  constructor
  · rintro rfl; rfl
  · intro h
    apply bl_inj
    have : (bl x).length = 0 := by rw [bl_len]; omega
    exact List.eq_nil_of_length_eq_zero this
theorem read_one {st : ByteArray} {L : List PU} {rm t : Int} (hd : okD st L rm) (hs : okS (st.size : Int) t 1) : readF st L rm t 1 = (newest st L t, true) := by
  unfold readF; rw [if_pos ⟨hd, hs⟩]
  show ((⟨#[]⟩ : ByteArray) ++ newest st L (t + ((0 : Nat) : Int)), true) = _
  rw [empty_cat, show t + ((0 : Nat) : Int) = t by omega]
section
variable {st x : ByteArray} {L : List PU} {rm k s c er dn : Int} {fua hf : Bool}
theorem part_size (hd : okD st L rm) (hs : okS (st.size : Int) s c) (hx : (x.size : Int) = c * 8) : ((partF st L s c x dn hf).size : Int) = doneF dn c * 8 + (if hf = true ∧ doneF dn c < c then 8 else 0) := by
  have hb := doneF_b (dn := dn) (c := c) (by unfold okS at hs; omega)
  unfold partF
  split
  · rename_i hc
    have hn := newest_size hd.2.2.2 (okS_in hs (i := doneF dn c) hb.1 hc.2)
    rw [cat_size, cat_size, subs_size (by omega) (by omega) (by omega), subs_size (by omega) (by omega) (by omega), subs_size (by omega) (by omega) (by omega)]; omega
  · rw [subs_size (by omega) (by omega) (by omega)]; omega
theorem part_ok (hd : okD st L rm) (hs : okS (st.size : Int) s c) (hx : (x.size : Int) = c * 8) (hne : ¬ partF st L s c x dn hf = ⟨#[]⟩) : okW (st.size : Int) s ((partF st L s c x dn hf).size : Int) := by
  have h1 := part_size (dn := dn) (hf := hf) hd hs hx
  rw [empty_iff] at hne
  have hb := doneF_b (dn := dn) (c := c) (by unfold okS at hs; omega)
  rw [h1] at hne ⊢
  unfold okW okS okI at *
  split at hne <;> rename_i hc
  · rw [if_pos hc]; have := hc.2; omega
  · rw [if_neg hc]; omega
theorem run_bad (h : ¬ fitsP st L rm k s c x) : runF st L rm k s c x fua er dn hf = (st, L, rm, ⟨#[]⟩, 1) := by unfold runF; rw [if_pos h]
theorem run_torn {a : ByteArray} {A : List PU} {r : Int} (h : fitsP st L rm k s c x) (he : ¬ er = 0) (hk : k = 2) (ht : tornF st L rm s c x fua dn hf = (a, A, r)) : runF st L rm k s c x fua er dn hf = (a, A, r, ⟨#[]⟩, er) := by
  unfold runF; rw [if_neg (not_not_intro h), if_pos ⟨he, hk⟩, ht]
theorem run_err (h : fitsP st L rm k s c x) (he : ¬ er = 0) (hk : ¬ k = 2) : runF st L rm k s c x fua er dn hf = (st, L, rm, ⟨#[]⟩, er) := by
  unfold runF; rw [if_neg (not_not_intro h), if_neg (fun h => hk h.2), if_pos he]
theorem run_read (h : fitsP st L rm k s c x) (he : er = 0) (hk : k = 1) : runF st L rm k s c x fua er dn hf = (st, L, rm, (readF st L rm s c).1, 0) := by
  unfold runF; rw [if_neg (not_not_intro h), if_neg (fun h => h.1 he), if_neg (not_not_intro he), if_pos hk]
theorem run_write {a : ByteArray} {A : List PU} {r : Int} {b : Bool} (h : fitsP st L rm k s c x) (he : er = 0) (hk : k = 2) (hw : writeF st L rm s x fua = (a, A, r, b)) : runF st L rm k s c x fua er dn hf = (a, A, r, ⟨#[]⟩, 0) := by
  unfold runF; rw [if_neg (not_not_intro h), if_neg (fun h => h.1 he), if_neg (not_not_intro he), if_neg (by omega), if_pos hk, hw]
theorem run_flush {a : ByteArray} {r : Int} (h : fitsP st L rm k s c x) (he : er = 0) (hk1 : ¬ k = 1) (hk2 : ¬ k = 2) (hw : flushF st L rm = (a, r)) : runF st L rm k s c x fua er dn hf = (a, [], r, ⟨#[]⟩, 0) := by
  unfold runF; rw [if_neg (not_not_intro h), if_neg (fun h => h.1 he), if_neg (not_not_intro he), if_neg hk1, if_neg hk2, hw]
theorem torn_no (h : partF st L s c x dn hf = ⟨#[]⟩) : tornF st L rm s c x fua dn hf = (st, L, rm) := by unfold tornF; rw [if_pos h]
theorem torn_yes {a : ByteArray} {A : List PU} {r : Int} {b : Bool} (h : ¬ partF st L s c x dn hf = ⟨#[]⟩) (hw : writeF st L rm s (partF st L s c x dn hf) fua = (a, A, r, b)) : tornF st L rm s c x fua dn hf = (a, A, r) := by unfold tornF; rw [if_neg h, hw]
theorem part_1 (h1 : hf = true) (h2 : doneF dn c < c) : subs x 0 (doneF dn c * 8) ++ (subs x (doneF dn c * 8) (doneF dn c * 8 + 4) ++ subs (newest st L (s + doneF dn c)) 4 ((newest st L (s + doneF dn c)).size : Int)) = partF st L s c x dn hf := by unfold partF; rw [if_pos ⟨h1, h2⟩]
theorem part_2 (h : ¬ (hf = true ∧ doneF dn c < c)) : subs x 0 (doneF dn c * 8) = partF st L s c x dn hf := by unfold partF; rw [if_neg h]
/-- parts of a sum -/
theorem subs_cat_l {a b : ByteArray} {i j : Int} (h0 : 0 ≤ i) (h1 : i ≤ j) (h2 : j ≤ (a.size : Int)) : subs (a ++ b) i j = subs a i j := by
  apply bl_inj; apply List.ext_getElem?; intro k
  rw [sub_at, sub_at, bl_app, List.getElem?_append, bl_len]
  split
  · rw [if_pos (by omega)]
  · rfl
theorem subs_cat_r {a b : ByteArray} (hb : (b.size : Int) = 8) : subs (a ++ b) (a.size : Int) ((a.size : Int) + 8) = b := by
  apply bl_inj; apply List.ext_getElem?; intro k
  rw [sub_at, bl_app, List.getElem?_append, bl_len]
  split
  · rw [if_neg (by omega)]; congr 1; omega
  · rw [List.getElem?_eq_none (by rw [bl_len]; omega)]
theorem subs_subs {a : ByteArray} {i j m n : Int} (h0 : 0 ≤ i) (h1 : 0 ≤ m) (h2 : m ≤ n) (h3 : i + n ≤ j) : subs (subs a i j) m n = subs a (i + m) (i + n) := by
  apply bl_inj; apply List.ext_getElem?; intro k
  rw [sub_at, sub_at, sub_at]
  by_cases hk : k < n.toNat - m.toNat
  · rw [if_pos hk, if_pos (by omega), if_pos (by omega)]; congr 1; omega
  · rw [if_neg hk, if_neg (by omega)]
theorem wrN_pre {a b : ByteArray} : ∀ k : Nat, (k : Int) * 8 ≤ (a.size : Int) → wrN st L rm s (a ++ b) fua k = wrN st L rm s a fua k
  | 0, _ => rfl
  | k + 1, h => by
    have ih := wrN_pre (a := a) (b := b) k (by omega)
    show put1 (wrN st L rm s (a ++ b) fua k).1 (wrN st L rm s (a ++ b) fua k).2 rm (s + (k : Int)) (subs (a ++ b) ((k : Int) * 8) (((k + 1 : Nat) : Int) * 8)) fua = put1 (wrN st L rm s a fua k).1 (wrN st L rm s a fua k).2 rm (s + (k : Int)) (subs a ((k : Int) * 8) (((k + 1 : Nat) : Int) * 8)) fua
    rw [ih, subs_cat_l (by omega) (by omega) (by omega)]
/-- two writes, one behind the other, are one -/
theorem wr_two {a b s1 s2 : ByteArray} {A B : List PU} {r1 r2 : Int} {n : Int} (ha : (a.size : Int) = n * 8) (hb : (b.size : Int) = 8) (hw : okW (st.size : Int) s ((a ++ b).size : Int)) (h1 : writeF st L rm s a fua = (s1, A, r1, true)) (h2 : writeF s1 A r1 (s + n) b fua = (s2, B, r2, true)) : writeF st L rm s (a ++ b) fua = (s2, B, r2, true) := by
  obtain ⟨hp, hd1, _⟩ := wrF_one hb h2
  rcases writeF_ok h1 with ⟨_, hd, hwa, _, _, rfl⟩ | ⟨h9, _⟩
  · rcases writeF_ok h2 with ⟨_, _, _, _, _, rfl⟩ | ⟨h9, _⟩
    · have hsz := cat_size a b
      have e : (a ++ b).size / 8 = a.size / 8 + 1 := by omega
      unfold writeF at h1 ⊢
      rw [if_pos ⟨hd, hwa⟩] at h1
      injection h1 with e1 h1; injection h1 with e2 h1
      rw [if_pos ⟨hd, hw⟩, e]
      have h3 : wrN st L rm s (a ++ b) fua (a.size / 8) = (s1, A) := by rw [wrN_pre _ (by omega)]; exact Prod.ext e1 e2
      have h4 := wrN_succ (k := a.size / 8) (st2 := s2) (L2 := B) h3 (by
        have e5 : ((a.size / 8 : Nat) : Int) = n := by omega
        have e6 : (((a.size / 8 : Nat) : Int)) * 8 = (a.size : Int) := by omega
        have e7 : (((a.size / 8 + 1 : Nat) : Int)) * 8 = (a.size : Int) + 8 := by omega
        rw [e5] at *
        rw [show n * 8 = (a.size : Int) by omega, e7, subs_cat_r hb]; exact hp)
      rw [h4]
    · cases h9
  · cases h9
end
/-- what a call gives back that is its own, its argument's, or nothing -/
def ownC : Bool → TypeId → Nat → Value → Nat → List Value → List Chunk
  | true, e, size, v, n, xs => [.row e size v n xs]
  | false, _, _, _, _, _ => []
theorem Sat.carry {wc w0 w' : World} {Hc : List Chunk} (hc : Sat wc w0 Hc) (i : Nat) {e size n n1 : Nat} {lv lv1 : Value} {xs xs1 : List Value} {ow : Bool} (hi : Hc[i]? = some (.ro size lv n xs)) (h' : Sat w0 w' (ownC ow e size lv1 n1 xs1)) (ho : ow = true ∨ (lv1 = lv ∧ n1 = n ∧ xs1 = xs) ∨ (∀ w, Rd w size lv1 n1 xs1)) : Sat wc w' (.ro size lv1 n1 xs1 :: Hc) := by
  cases ow with
  | true => exact (hc.callB (H' := [.row e size lv1 n1 xs1]) h' rfl).toRo 0 rfl
  | false =>
    have hg := hc.grow h'.below
    rcases ho with h | ⟨rfl, rfl, rfl⟩ | h
    · cases h
    · exact hg.dupRo i hi
    · exact hg.addRo (h _)
theorem run_mulW {P : Program} {t : TypeId} {w : World} {x y : Int} : (binOp .mul t (.int .i64 x) (.int .i64 y)).run P w = .ok (.int .i64 (IntKind.i64.wrap (x * y))) w := by rw [binOp_mul]; rfl
section
variable {st x a b N half : ByteArray} {L A B : List PU} {rm r1 r2 k s c er dn : Int} {fua hf : Bool}
theorem half_eq (hd : okD st L rm) (hs : okS (st.size : Int) s c) (hx : (x.size : Int) = c * 8) (hlt : doneF dn c < c) (hN : N = newest st L (s + doneF dn c)) :
    subs (subs x (doneF dn c * 8) (doneF dn c * 8 + 8)) 0 4 ++ subs N 4 (N.size : Int) = subs x (doneF dn c * 8) (doneF dn c * 8 + 4) ++ subs (newest st L (s + doneF dn c)) 4 ((newest st L (s + doneF dn c)).size : Int) := by
  have hb := doneF_b (dn := dn) (c := c) (by unfold okS at hs; omega)
  rw [hN, subs_subs (by omega) (by omega) (by omega) (by omega), show doneF dn c * 8 + 0 = doneF dn c * 8 by omega]
theorem part_ne (hd : okD st L rm) (hs : okS (st.size : Int) s c) (hx : (x.size : Int) = c * 8) (h : (hf = true ∧ doneF dn c < c) ∨ 0 < doneF dn c) : ¬ partF st L s c x dn hf = ⟨#[]⟩ := by
  rw [empty_iff, part_size hd hs hx]
  have hb := doneF_b (dn := dn) (c := c) (by unfold okS at hs; omega)
  rcases h with h | h
  · rw [if_pos h]; omega
  · split <;> omega
theorem torn_two (hd : okD st L rm) (hs : okS (st.size : Int) s c) (hx : (x.size : Int) = c * 8) (hh : hf = true) (hlt : doneF dn c < c) (hN : N = newest st L (s + doneF dn c)) (h8 : (half.size : Int) = 8) (hhf : half = subs (subs x (doneF dn c * 8) (doneF dn c * 8 + 8)) 0 4 ++ subs N 4 (N.size : Int))
    (h1 : writeF st L rm s (subs x 0 (doneF dn c * 8)) fua = (a, A, r1, true)) (h2 : writeF a A r1 (s + doneF dn c) half fua = (b, B, r2, true)) : tornF st L rm s c x fua dn hf = (b, B, r2) := by
  have hb := doneF_b (dn := dn) (c := c) (by unfold okS at hs; omega)
  have hne := part_ne (dn := dn) (hf := hf) hd hs hx (.inl ⟨hh, hlt⟩)
  have hok := part_ok (dn := dn) (hf := hf) hd hs hx hne
  have e : partF st L s c x dn hf = subs x 0 (doneF dn c * 8) ++ half := by rw [← part_1 hh hlt, hhf, half_eq hd hs hx hlt hN]
  refine torn_yes (b := true) hne ?_
  rw [e] at hok ⊢
  exact wr_two (n := doneF dn c) (by rw [subs_size (by omega) (by omega) (by omega)]; omega) h8 hok h1 h2
theorem torn_one {b1 : Bool} (hd : okD st L rm) (hs : okS (st.size : Int) s c) (hx : (x.size : Int) = c * 8) (hh : hf = true) (hlt : doneF dn c < c) (hN : N = newest st L (s + doneF dn c)) (hhf : half = subs (subs x (doneF dn c * 8) (doneF dn c * 8 + 8)) 0 4 ++ subs N 4 (N.size : Int))
    (h0 : doneF dn c = 0) (h2 : writeF st L rm (s + doneF dn c) half fua = (b, B, r2, b1)) : tornF st L rm s c x fua dn hf = (b, B, r2) := by
  have hne := part_ne (dn := dn) (hf := hf) hd hs hx (.inl ⟨hh, hlt⟩)
  have e : partF st L s c x dn hf = half := by rw [← part_1 hh hlt, hhf, half_eq hd hs hx hlt hN, h0]; rw [show (0 : Int) * 8 = 0 by omega, subs_zero, empty_cat]
  refine torn_yes (b := b1) hne ?_
  rw [e]; rw [h0, show s + 0 = s by omega] at h2; exact h2
theorem torn_pre {b1 : Bool} (hd : okD st L rm) (hs : okS (st.size : Int) s c) (hx : (x.size : Int) = c * 8) (hh : ¬ (hf = true ∧ doneF dn c < c)) (h0 : 0 < doneF dn c) (h1 : writeF st L rm s (subs x 0 (doneF dn c * 8)) fua = (a, A, r1, b1)) : tornF st L rm s c x fua dn hf = (a, A, r1) := by
  have hne := part_ne (dn := dn) (hf := hf) hd hs hx (.inr h0)
  refine torn_yes (b := b1) hne ?_
  rw [← part_2 hh]; exact h1
theorem torn_none (hh : ¬ (hf = true ∧ doneF dn c < c)) (h0 : doneF dn c = 0) : tornF st L rm s c x fua dn hf = (st, L, rm) := by
  refine torn_no ?_
  rw [← part_2 hh, h0, show (0 : Int) * 8 = 0 by omega, subs_zero]
end

end Go.Proofs.Ytkejcnhfbfgphaa

/- crash: the laws in plain words, more -/
import Derived.Test.YtlhcpeolkkadbaaPC
namespace Go.Proofs.Ytlhcpeolkkadbaa
open Go.RowKit
set_option linter.unusedVariables false
set_option linter.unusedSimpArgs false

/- crash: the laws in plain words, more -/
section
variable {st : ByteArray} {L F : List PU} {rm : Int} {P : List Int} {T : List Bool}
/-! ### Outside -/
theorem vers_noQ {s : Int} (hq : okQ st L) (hf : ∀ p ∈ F, noQ p.f1) : ∀ y ∈ versC st (L ++ F) s, noQ y := by
  intro y hy
  unfold versC at hy
  rcases List.mem_cons.1 hy with rfl | hy
  · exact noQ_subs hq.1 _ _
  · obtain ⟨p, hp, rfl⟩ := List.mem_map.1 hy
    rcases List.mem_append.1 (List.mem_filter.1 hp).1 with hp | hp
    · exact hq.2 p hp
    · exact hf p hp
theorem okV_noQ {l : List ByteArray} {x : ByteArray} (h : ∀ y ∈ l, noQ y) (hx : okV l x) : noQ x := by
  rcases hx with hx | ⟨i, a, b, _, h2, h3, rfl⟩
  · exact h x hx
  · exact noQ_app (noQ_subs (h a (List.mem_of_getElem? h2)) _ _) (noQ_subs (h b (List.mem_of_getElem? h3)) _ _)
theorem perm_quest {im q : ByteArray} {s : Int} (hd : okQ st L) (hf : flQ (st.size : Int) F) (hs : okS (im.size : Int) s 1) (hz : (im.size : Int) = (st.size : Int)) (h8 : (q.size : Int) = 8) (hq : (63 : UInt8) ∈ bl q) : ¬ Perm st L F rm (wim im s q) := by
  intro h
  have hs' := hs; unfold okS okI at hs'
  have h1 := h.2.2 s (by omega) (by omega)
  have h2 : subs (wim im s q) (s * 8) ((s + 1) * 8) = q := by have := sec_wim1 (t := s) hs h8 (by omega); rw [if_pos rfl] at this; exact this
  rw [h2] at h1
  exact okV_noQ (vers_noQ hd (fun p hp => (hf p hp).2)) h1 63 hq rfl
/-! ### Flushed -/
theorem fl_thr {x st1 : ByteArray} {L1 : List PU} {s rm1 : Int} (hx : (x.size : Int) = 8) (h : writeF st L rm s x true = (st1, L1, rm1, true)) : subs (chooseF st1 L1 [] rm1 P T) (s * 8) ((s + 1) * 8) = x := by
  have hv := thr1 hx h
  obtain ⟨_, h2, h3⟩ := wrF_one hx h
  rcases writeF_ok h with ⟨_, _, _, h4, h5, rfl⟩ | ⟨hb, _⟩
  · have h3' : okS (st1.size : Int) s 1 := by rw [h5]; exact h3
    unfold vers at hv; rw [if_pos ⟨h4, h3'⟩] at hv
    have hC : okC st1 L1 [] rm := ⟨h4, by simp⟩
    unfold okS okI at h3'
    have := choose_sec (P := P) (T := T) hC (t := s) (by omega) (by omega)
    unfold sec at this
    rw [this, List.append_nil, chS_none1 (by rw [hv]; simp)]
    rw [versC_sec] at hv
    injection hv
  · cases hb
theorem versC_nil (st : ByteArray) (s : Int) : versC st [] s = [sec st s] := by unfold versC sec; simp
theorem choose_empty (hd : okD st [] rm) : chooseF st [] [] rm P T = st := by
  symm
  refine choose_ext ⟨hd, by simp⟩ rfl fun t h0 h1 => ?_
  rw [List.append_nil, chS_none1 (by rw [versC_nil]; simp)]
theorem secN_nil (st : ByteArray) : ∀ n : Nat, secN st [] n = []
  | 0 => rfl
  | n + 1 => by unfold secN; rw [secN_nil st n, versC_nil]; simp
theorem secF_nil (st : ByteArray) (rm : Int) : secF st [] [] rm = [] := by
  unfold secF; split
  · rw [List.append_nil]; exact secN_nil st _
  · rfl
/-! ### Newest -/
theorem choose_none (hd : okD st L rm) : chooseF st L [] rm [] [] = st := by
  symm
  refine choose_ext ⟨hd, by simp⟩ rfl fun t h0 h1 => ?_
  rw [List.append_nil]
  unfold chS
  split
  · have e : ∀ n q, pickI n q [] = 0 := fun n q => by unfold pickI; simp
    unfold pickD; rw [e, if_neg (by omega)]; rfl
  · rfl
theorem chS_last {P : List Int} {t : Int} (h : 1 < (versC st L t).length → P[(secN st L t.toNat).length]? = some (((versC st L t).length : Int) - 1)) : chS st L P [] t = newest st L t := by
  have hl := (versC_len st L t).1
  have hnew : ∀ (i : Nat) (d : ByteArray), i = (versC st L t).length - 1 → (versC st L t).getD i d = newest st L t := fun i d hi => by
    have : i < (versC st L t).length := by omega
    rw [List.getD_eq_getElem?_getD]
    obtain ⟨x, hx⟩ := get_some this
    rw [hx]; exact newest_at hx hi
  unfold chS
  split
  · rename_i h1
    have h2 := h h1
    have e : pickI (versC st L t).length (secN st L t.toNat).length P = ((versC st L t).length : Int) - 1 := by
      unfold pickI; rw [h2]
      show max _ 0 % _ = _
      rw [Int.max_eq_left (by omega)]
      exact Int.emod_eq_of_lt (by omega) (by omega)
    unfold pickD; rw [e, if_neg (by rintro ⟨_, h9⟩; simp at h9)]
    exact hnew _ _ (by omega)
  · exact hnew 0 _ (by omega)
def lastP (st : ByteArray) (L : List PU) (M : List Int) : List Int := M.map fun x => ((versC st L x).length : Int) - 1
theorem lastP_step {M : List Int} {k : Nat} {x : Int} (hx : M[k]? = some x) : lastP st L (M.take k) ++ [((versC st L x).length : Int) - 1] = lastP st L (M.take (k + 1)) := by
  unfold lastP; rw [List.take_add_one, hx]; simp
theorem lastP_len {M : List Int} {k : Nat} (hk : k ≤ M.length) : (lastP st L (M.take k)).length = k := by unfold lastP; simp; omega
theorem secN_at {x : Int} : ∀ {n : Nat}, 0 ≤ x → x < (n : Int) → 1 < (versC st L x).length → (secN st L n)[(secN st L x.toNat).length]? = some x
  | 0, h0, h1, _ => by omega
  | n + 1, h0, h1, hv => by
    rw [show secN st L (n + 1) = secN st L n ++ (if 1 < (versC st L (n : Int)).length then [(n : Int)] else []) from rfl]
    by_cases c : x = (n : Int)
    · subst c; rw [if_pos hv, Int.toNat_natCast]; simp
    · have ih := secN_at (n := n) h0 (by omega) hv
      rw [List.getElem?_append, if_pos (List.getElem?_eq_some_iff.1 ih).1]; exact ih
theorem newest_choose {M : List Int} {k : Nat} (hd : okD st L rm) (hM : M = secF st L [] rm) (hk : M.length ≤ k) : chooseF st L [] rm (lastP st L (M.take k)) [] = flSt st L := by
  symm
  have hC : okC st L [] rm := ⟨hd, by simp⟩
  refine choose_ext hC (flSt_size hd) fun t h0 h1 => ?_
  rw [List.append_nil, ← newest_fl h0 hd.2.2.2, List.take_of_length_le hk]
  refine (chS_last fun hv => ?_).symm
  subst hM
  unfold secF lastP
  rw [if_pos hC, List.append_nil, List.getElem?_map, secN_at h0 (by omega) hv]; rfl
theorem secF_at {M : List Int} {k : Nat} {x : Int} (hd : okD st L rm) (hM : M = secF st L [] rm) (hx : M[k]? = some x) : okS (st.size : Int) x 1 := by
  have hC : okC st L [] rm := ⟨hd, by simp⟩
  subst hM; unfold secF at hx; rw [if_pos hC] at hx
  exact (secN_S hC hx).1
/-! ### More -/
theorem okV_pre {l m : List ByteArray} {x : ByteArray} (h : okV l x) : okV (l ++ m) x := by
  rcases h with h | ⟨i, a, b, h1, h2, h3, h4⟩
  · exact .inl (List.mem_append.2 (.inl h))
  · have hi := (List.getElem?_eq_some_iff.1 h2).1
    exact .inr ⟨i, a, b, h1, by rw [List.getElem?_append_left hi]; exact h2, by rw [List.getElem?_append_left (by omega)]; exact h3, h4⟩
theorem okV_suf {l m : List ByteArray} {x : ByteArray} (h : okV m x) : okV (l ++ m) x := by
  rcases h with h | ⟨i, a, b, h1, h2, h3, h4⟩
  · exact .inl (List.mem_append.2 (.inr h))
  · exact .inr ⟨l.length + i, a, b, by omega, by rw [List.getElem?_append_right (by omega), show l.length + i - l.length = i by omega]; exact h2, by rw [List.getElem?_append_right (by omega), show l.length + i - 1 - l.length = i - 1 by omega]; exact h3, h4⟩
theorem perm_nil {im : ByteArray} (hd : okD st L rm) (hz : (im.size : Int) = (st.size : Int)) (h : ∀ s : Int, 0 ≤ s → s < (st.size : Int) / 8 → okV (versC st L s) (sec im s)) : Perm st L [] rm im :=
  ⟨⟨hd, by simp⟩, hz, fun s h0 h1 => by rw [List.append_nil]; exact h s h0 h1⟩
theorem perm_sec {im : ByteArray} (h : Perm st L [] rm im) {s : Int} (h0 : 0 ≤ s) (h1 : s < (st.size : Int) / 8) : okV (versC st L s) (sec im s) := by
  have := h.2.2 s h0 h1; rwa [List.append_nil] at this
theorem versC_snoc (st : ByteArray) (L : List PU) (p : PU) (t : Int) : versC st (L ++ [p]) t = if p.f0 = t then versC st L t ++ [p.f1] else versC st L t := by
  rw [versC_sec, versC_sec, logF_app, logF_cons]; split <;> simp [logF]
theorem more_write {x st1 im : ByteArray} {L1 : List PU} {s rm1 : Int} (hx : (x.size : Int) = 8) (hl : (L.length : Int) < rm) (h : writeF st L rm s x false = (st1, L1, rm1, true)) (hp : Perm st L [] rm im) : Perm st1 L1 [] rm1 im := by
  obtain ⟨h1, h2, h3⟩ := wrF_one hx h
  have hi := okD_I h2
  rcases writeF_ok h with ⟨_, _, _, h4, h5, rfl⟩ | ⟨hb, _⟩
  · rw [put1_3 rfl (by omega) (by omega)] at h1
    injection h1 with ha hb; subst ha hb
    refine perm_nil h4 hp.2.1 fun t h0 ht => ?_
    have := perm_sec hp h0 ht
    rw [versC_snoc]; split
    · exact okV_pre this
    · exact this
  · cases hb
theorem versC_dest {k : Nat} {p : PU} {t : Int} (hp : L[k]? = some p) (hok : okP (st.size : Int) p) (h0 : 0 ≤ t) : ∃ l, versC st L t = l ++ versC (wim st p.f0 p.f1) (selL p.f0 (fun i => decide (i ≤ (k : Int))) 0 L) t := by
  obtain ⟨A, B, rfl, hA⟩ := split_at hp
  have e : selL p.f0 (fun i => decide (i ≤ (k : Int))) 0 (A ++ p :: B) = (A.filter fun q => decide (q.f0 ≠ p.f0)) ++ B := by
    have := selL_cut p.f0 k (A ++ [p]) 0 B (by simp; omega)
    rw [List.append_assoc] at this
    simp only [List.singleton_append] at this
    rw [this, List.filter_append]; simp
  rw [e, versC_sec, versC_sec, logF_app, logF_app, logF_cons, sec_wim1 hok.1 hok.2 h0, logF_filter]
  by_cases h : t = p.f0
  · rw [if_pos h, if_pos h, if_pos h.symm]; exact ⟨sec st t :: logF A t, by simp⟩
  · rw [if_neg h, if_neg h, if_neg (fun e => h e.symm)]; exact ⟨[], rfl⟩
theorem more_dest {st1 im : ByteArray} {L1 : List PU} {k rm1 : Int} (h : destF st L rm k = (st1, L1, rm1, true)) (hp : Perm st1 L1 [] rm1 im) : Perm st L [] rm im := by
  rcases destF_ok h with ⟨_, hd, hk0, hk1, hd1, hs1, rfl⟩ | ⟨hb, _⟩
  · obtain ⟨kn, rfl⟩ : ∃ n : Nat, k = (n : Int) := ⟨k.toNat, by omega⟩
    obtain ⟨p, hpp⟩ := get_some (L := L) (k := kn) (by omega)
    rw [destF_at hd hpp] at h
    injection h with h1 h; injection h with h2 h
    refine perm_nil hd (hp.2.1.trans hs1) fun t h0 ht => ?_
    have := perm_sec hp h0 (by omega)
    obtain ⟨l, hl⟩ := versC_dest hpp (hd.2.2.2 p (List.mem_of_getElem? hpp)) h0
    rw [hl, h1, h2]; exact okV_suf this
  · cases hb
theorem newest_mem (st : ByteArray) (L : List PU) (t : Int) : newest st L t ∈ versC st L t := by
  unfold newest; rw [List.getLastD_eq_getLast?]
  have hne : versC st L t ≠ [] := by simp [versC]
  rw [List.getLast?_eq_some_getLast hne]; exact List.getLast_mem hne
theorem okV_single {x y : ByteArray} (h : okV [y] x) : x = y := by
  rcases h with h | ⟨i, a, b, h1, h2, _⟩
  · simpa using h
  · have := (List.getElem?_eq_some_iff.1 h2).1; simp at this; omega
theorem more_flush {st1 im : ByteArray} {rm1 : Int} (hd : okD st L rm) (h : flushF st L rm = (st1, rm1)) (hp : Perm st1 [] [] rm1 im) : Perm st L [] rm im := by
  obtain ⟨rfl, rfl⟩ := flushF_eq hd h
  have hz := flSt_size hd
  refine perm_nil hd (hp.2.1.trans hz) fun t h0 ht => ?_
  have := perm_sec hp h0 (by omega)
  rw [versC_nil] at this
  rw [okV_single this, ← newest_fl h0 hd.2.2.2]
  exact .inl (newest_mem st L t)
theorem okD_flush {st1 : ByteArray} {rm1 : Int} (hd : okD st L rm) (h : flushF st L rm = (st1, rm1)) : okD st1 [] rm1 ∧ (st1.size : Int) = (st.size : Int) := by
  obtain ⟨rfl, rfl⟩ := flushF_eq hd h; exact ⟨okD_fl hd, flSt_size hd⟩
/-! ### Flying -/
theorem fly_perm {x y : ByteArray} {s : Int} (hd : okD st [] rm) (hs : okS (st.size : Int) s 1) (hx : (x.size : Int) = 8) (hy : (y.size : Int) = 8) : Perm st [] [E59.mk s x] rm (wim st s y) ↔ (y = sec st s ∨ y = x ∨ y = tornF x (sec st s)) := by
  have hs' := hs; unfold okS okI at hs'
  have e1 : versC st ([] ++ [E59.mk s x]) s = [sec st s, x] := by rw [versC_snoc, if_pos rfl, versC_nil]; rfl
  have e2 : ∀ t : Int, t ≠ s → versC st ([] ++ [E59.mk s x]) t = [sec st t] := fun t ht => by rw [versC_snoc, if_neg (fun e => ht e.symm), versC_nil]
  have e3 : sec (wim st s y) s = y := by rw [sec_wim1 hs hy (by omega), if_pos rfl]
  constructor
  · intro h
    have h1 := h.2.2 s (by omega) (by omega)
    rw [e1, show subs (wim st s y) (s * 8) ((s + 1) * 8) = y from e3] at h1
    rcases h1 with h1 | ⟨i, a, b, h1, h2, h3, h4⟩
    · simp at h1; rcases h1 with h1 | h1
      · exact .inl h1
      · exact .inr (.inl h1)
    · have hi := (List.getElem?_eq_some_iff.1 h2).1
      simp at hi
      have : i = 1 := by omega
      subst this
      simp at h2 h3; subst h2 h3; exact .inr (.inr h4.symm)
  · intro h
    refine ⟨⟨hd, fun p hp => by simp at hp; subst hp; exact ⟨hs, hx⟩⟩, wim_size (okW_of hs hy), fun t h0 ht => ?_⟩
    by_cases c : t = s
    · subst c
      rw [e1, show subs (wim st t y) (t * 8) ((t + 1) * 8) = y from e3]
      rcases h with h | h | h
      · exact .inl (by simp [h])
      · exact .inl (by simp [h])
      · exact .inr ⟨1, x, sec st t, by omega, rfl, rfl, h.symm⟩
    · rw [e2 t c, show subs (wim st s y) (t * 8) ((t + 1) * 8) = sec st t from by have := sec_wim1 (t := t) hs hy h0; rw [if_neg c] at this; exact this]
      exact .inl (by simp)
theorem wim_inj {y z : ByteArray} {s : Int} (hs : okS (st.size : Int) s 1) (hy : (y.size : Int) = 8) (hz : (z.size : Int) = 8) : wim st s y = wim st s z ↔ y = z := by
  have hs' := hs; unfold okS okI at hs'
  constructor
  · intro h
    have h1 := sec_wim1 (t := s) hs hy (by omega); rw [h, sec_wim1 hs hz (by omega), if_pos rfl, if_pos rfl] at h1; exact h1.symm
  · rintro rfl; rfl
theorem wim_self {s : Int} (hs : okS (st.size : Int) s 1) : wim st s (sec st s) = st := by
  have hs' := hs; unfold okS okI at hs'
  have h8 : ((sec st s).size : Int) = 8 := by unfold sec; rw [subs_size (by omega) (by omega) (by omega)]; omega
  have e := wim_size (okW_of hs h8)
  refine text_ext e (by omega) fun t h0 ht => ?_
  rw [sec_wim1 hs h8 h0]; split
  · rename_i h; rw [h]
  · rfl
theorem sec_size {s : Int} (hs : okS (st.size : Int) s 1) : ((subs st (s * 8) ((s + 1) * 8)).size : Int) = 8 := by
  unfold okS okI at hs; rw [subs_size (by omega) (by omega) (by omega)]; omega
end

end Go.Proofs.Ytlhcpeolkkadbaa

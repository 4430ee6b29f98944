/- plain words: commands that are repeated -/
import Derived.Test.YtkejcnhfbfgphaaPG
namespace Go.Proofs.Ytkejcnhfbfgphaa
open Go.RowKit
set_option linter.unusedVariables false
set_option linter.unusedSimpArgs false

/- carrying commands out again -/
section
variable {st x a dt s1 s2 s3 dt1 dt2 dt3 : ByteArray} {L A L1 L2 L3 : List PU} {rm r r1 r2 r3 k s c er e1 e2 e3 dn : Int} {fua hf : Bool}
theorem wim_over {im : ByteArray} (ha : okW (im.size : Int) s (a.size : Int)) (hx : okW (im.size : Int) s (x.size : Int)) (hle : (a.size : Int) ≤ (x.size : Int)) : wim (wim im s a) s x = wim im s x := by
  have e1 := wim_size ha
  have e2 := wim_size hx
  have hx' : okW ((wim im s a).size : Int) s (x.size : Int) := by rw [e1]; exact hx
  have e3 := wim_size hx'
  refine text_ext (by omega) (by rw [e3, e1]; unfold okW okS okI at hx; omega) fun t h0 ht => ?_
  rw [sec_wim hx' h0, sec_wim hx h0, sec_wim ha h0]
  by_cases h : s ≤ t ∧ t < s + (x.size : Int) / 8
  · rw [if_pos h, if_pos h]
  · rw [if_neg h, if_neg h, if_neg (by omega)]
theorem fits_keep (hd : okD st L rm) (hd1 : okD s1 L1 r1) (hs : (s1.size : Int) = (st.size : Int)) (h : fitsP st L rm k s c x) : fitsP s1 L1 r1 k s c x := by
  obtain ⟨_, h⟩ := h; refine ⟨hd1, ?_⟩; rw [hs]; exact h
theorem fits_W (h : fitsP st L rm k s c x) (hk : k = 2) : okS (st.size : Int) s c ∧ (x.size : Int) = c * 8 ∧ okW (st.size : Int) s (x.size : Int) := by
  obtain ⟨_, h⟩ := h
  rcases h with h | h | h
  · omega
  · omega
  · refine ⟨h.2.1, h.2.2, ?_⟩
    have h1 := h.2.1; have h2 := h.2.2
    unfold okW okS okI at *; omega
theorem run0 (hd : okD st L rm) (h : runF st L rm k s c x fua 0 dn hf = (s1, L1, r1, dt, e1)) : okD s1 L1 r1 ∧ (s1.size : Int) = (st.size : Int) ∧ r1 = rm ∧
    ((¬ fitsP st L rm k s c x ∧ s1 = st ∧ L1 = L ∧ dt = ⟨#[]⟩ ∧ e1 = 1) ∨ (fitsP st L rm k s c x ∧ k = 1 ∧ s1 = st ∧ L1 = L ∧ dt = (readF st L rm s c).1 ∧ e1 = 0) ∨ (fitsP st L rm k s c x ∧ k = 2 ∧ flSt s1 L1 = wim (flSt st L) s x ∧ dt = ⟨#[]⟩ ∧ e1 = 0) ∨ (fitsP st L rm k s c x ∧ k = 3 ∧ flSt s1 L1 = flSt st L ∧ dt = ⟨#[]⟩ ∧ e1 = 0)) := by
  by_cases hf' : fitsP st L rm k s c x
  · rcases hf'.2 with hk | hk | hk
    · cases hw : flushF st L rm with
      | mk a r =>
        rw [run_flush hf' rfl (by omega) (by omega) hw] at h
        injection h with h1 h; injection h with h2 h; injection h with h3 h; injection h with h4 h5
        obtain ⟨q1, q2⟩ := flushF_eq hd hw
        subst h1 h2 h3 h4 h5 q1 q2
        exact ⟨okD_fl hd, flSt_size hd, rfl, .inr (.inr (.inr ⟨hf', hk.1, rfl, rfl, rfl⟩))⟩
    · rw [run_read hf' rfl hk.1] at h
      injection h with h1 h; injection h with h2 h; injection h with h3 h; injection h with h4 h5
      subst h1 h2 h3 h4 h5
      exact ⟨hd, rfl, rfl, .inr (.inl ⟨hf', hk.1, rfl, rfl, rfl, rfl⟩)⟩
    · cases hw : writeF st L rm s x fua with
      | mk a q =>
        obtain ⟨B, r, b⟩ := q
        rw [run_write hf' rfl hk.1 hw] at h
        injection h with h1 h; injection h with h2 h; injection h with h3 h; injection h with h4 h5
        obtain ⟨_, _, hW⟩ := fits_W hf' hk.1
        rcases writeF_ok hw with ⟨rfl, _, _, q1, q2, q3⟩ | ⟨_, q, _⟩
        · subst h1 h2 h3 h4 h5 q3
          exact ⟨q1, q2, rfl, .inr (.inr (.inl ⟨hf', hk.1, cur_write hw, rfl, rfl⟩))⟩
        · exact absurd ⟨hd, hW⟩ q
  · rw [run_bad hf'] at h
    injection h with h1 h; injection h with h2 h; injection h with h3 h; injection h with h4 h5
    subst h1 h2 h3 h4 h5
    exact ⟨hd, rfl, rfl, .inl ⟨hf', rfl, rfl, rfl, rfl⟩⟩
theorem okW_cur (hd : okD st L rm) (h : okW (st.size : Int) s (x.size : Int)) : okW ((flSt st L).size : Int) s (x.size : Int) := by rw [flSt_size hd]; exact h
theorem twice (hd : okD st L rm) (h1 : runF st L rm k s c x fua 0 0 false = (s1, L1, r1, dt1, e1)) (h2 : runF s1 L1 r1 k s c x fua 0 0 false = (s2, L2, r2, dt2, e2)) :
    e1 = e2 ∧ dt1 = dt2 ∧ okD s1 L1 r1 ∧ okD s2 L2 r2 ∧ (s1.size : Int) = (st.size : Int) ∧ (s2.size : Int) = (st.size : Int) ∧ flSt s1 L1 = flSt s2 L2 := by
  obtain ⟨hd1, hs1, hr1, A⟩ := run0 hd h1
  obtain ⟨hd2, hs2, hr2, B⟩ := run0 hd1 h2
  subst hr1 hr2
  have key : e1 = e2 ∧ dt1 = dt2 ∧ flSt s1 L1 = flSt s2 L2 := by
    rcases A with ⟨a1, a2, a3, a4, a5⟩ | ⟨a1, a2, a3, a4, a5, a6⟩ | ⟨a1, a2, a3, a4, a5⟩ | ⟨a1, a2, a3, a4, a5⟩
    · rcases B with ⟨b1, b2, b3, b4, b5⟩ | ⟨b1, _⟩ | ⟨b1, _⟩ | ⟨b1, _⟩
      · exact ⟨a5.trans b5.symm, a4.trans b4.symm, by rw [b2, b3]⟩
      all_goals exact absurd (fits_keep hd1 hd hs1.symm b1) a1
    · rcases B with ⟨b1, _⟩ | ⟨b1, b2, b3, b4, b5, b6⟩ | ⟨b1, b2, _⟩ | ⟨b1, b2, _⟩
      · exact absurd (fits_keep hd hd1 hs1 a1) b1
      · exact ⟨a6.trans b6.symm, by rw [a5, b5, a3, a4], by rw [b3, b4]⟩
      all_goals omega
    · rcases B with ⟨b1, _⟩ | ⟨b1, b2, _⟩ | ⟨b1, b2, b3, b4, b5⟩ | ⟨b1, b2, _⟩
      · exact absurd (fits_keep hd hd1 hs1 a1) b1
      · omega
      · have hW := okW_cur hd (fits_W a1 a2).2.2
        exact ⟨a5.trans b5.symm, a4.trans b4.symm, by rw [b3, a3, wim_over hW hW (Int.le_refl _)]⟩
      · omega
    · rcases B with ⟨b1, _⟩ | ⟨b1, b2, _⟩ | ⟨b1, b2, _⟩ | ⟨b1, b2, b3, b4, b5⟩
      · exact absurd (fits_keep hd hd1 hs1 a1) b1
      · omega
      · omega
      · exact ⟨a5.trans b5.symm, a4.trans b4.symm, b3.symm⟩
  exact ⟨key.1, key.2.1, hd1, hd2, hs1, hs2.trans hs1, key.2.2⟩
/-- what a command that went wrong leaves -/
theorem run_mid (hd : okD st L rm) (hf' : fitsP st L rm k s c x) (h : runF st L rm k s c x fua er dn hf = (s1, L1, r1, dt, e1)) : okD s1 L1 r1 ∧ (s1.size : Int) = (st.size : Int) ∧ r1 = rm ∧ (k = 1 → s1 = st ∧ L1 = L) ∧ (k = 3 → flSt s1 L1 = flSt st L) ∧
    (k = 2 → flSt s1 L1 = flSt st L ∨ ∃ a : ByteArray, okW (st.size : Int) s (a.size : Int) ∧ (a.size : Int) ≤ (x.size : Int) ∧ flSt s1 L1 = wim (flSt st L) s a) ∧ e1 = er := by
  by_cases he : er = 0
  · subst he
    obtain ⟨hd1, hs1, hr1, A⟩ := run0 hd h
    rcases A with ⟨a1, _⟩ | ⟨a1, a2, a3, a4, a5, a6⟩ | ⟨a1, a2, a3, a4, a5⟩ | ⟨a1, a2, a3, a4, a5⟩
    · exact absurd hf' a1
    · exact ⟨hd1, hs1, hr1, fun _ => ⟨a3, a4⟩, fun h => by omega, fun h => by omega, a6⟩
    · exact ⟨hd1, hs1, hr1, fun h => by omega, fun h => by omega, fun _ => .inr ⟨x, (fits_W a1 a2).2.2, Int.le_refl _, a3⟩, a5⟩
    · exact ⟨hd1, hs1, hr1, fun h => by omega, fun _ => a3, fun h => by omega, a5⟩
  · by_cases hk : k = 2
    · obtain ⟨hs, hx, hW⟩ := fits_W hf' hk
      cases ht : tornF st L rm s c x fua dn hf with
      | mk a q =>
        obtain ⟨B, r⟩ := q
        rw [run_torn hf' he hk ht] at h
        injection h with h1 h; injection h with h2 h; injection h with h3 h; injection h with h4 h5
        by_cases hp : partF st L s c x dn hf = ⟨#[]⟩
        · rw [torn_no hp] at ht
          injection ht with q1 q; injection q with q2 q3
          subst h1 h2 h3 h4 h5 q1 q2 q3
          exact ⟨hd, rfl, rfl, fun h => by omega, fun h => by omega, fun _ => .inl rfl, rfl⟩
        · cases hw : writeF st L rm s (partF st L s c x dn hf) fua with
          | mk b q =>
            obtain ⟨B2, r2, b2⟩ := q
            rw [torn_yes hp hw] at ht
            injection ht with q1 q; injection q with q2 q3
            have hok := part_ok (dn := dn) (hf := hf) hd hs hx hp
            rcases writeF_ok hw with ⟨rfl, _, _, p1, p2, p3⟩ | ⟨_, q, _⟩
            · have hps := part_size (dn := dn) (hf := hf) hd hs hx
              have hdb := doneF_b (dn := dn) (c := c) (by unfold okS at hs; omega)
              subst h1 h2 h3 h4 h5 q1 q2 q3 p3
              exact ⟨p1, p2, rfl, fun h => by omega, fun h => by omega, fun _ => .inr ⟨_, hok, by rw [hps]; split <;> omega, cur_write hw⟩, rfl⟩
            · exact absurd ⟨hd, hok⟩ q
    · rw [run_err hf' he hk] at h
      injection h with h1 h; injection h with h2 h; injection h with h3 h; injection h with h4 h5
      subst h1 h2 h3 h4 h5
      exact ⟨hd, rfl, rfl, fun _ => ⟨rfl, rfl⟩, fun _ => rfl, fun h => absurd h hk, rfl⟩
theorem repairs (hd : okD st L rm) (hne : er ≠ 1) (h1 : runF st L rm k s c x fua er dn hf = (s1, L1, r1, dt1, e1)) (he : ¬ e1 = 1) (h2 : runF s1 L1 r1 k s c x fua 0 0 false = (s2, L2, r2, dt2, e2)) (h3 : runF st L rm k s c x fua 0 0 false = (s3, L3, r3, dt3, e3)) :
    e2 = 0 ∧ e3 = 0 ∧ dt2 = dt3 ∧ okD s2 L2 r2 ∧ okD s3 L3 r3 ∧ (s2.size : Int) = (st.size : Int) ∧ (s3.size : Int) = (st.size : Int) ∧ flSt s2 L2 = flSt s3 L3 := by
  have hf' : fitsP st L rm k s c x := Classical.byContradiction fun hn => by
    rw [run_bad hn] at h1; injection h1 with _ h; injection h with _ h; injection h with _ h; injection h with _ h; exact he h.symm
  obtain ⟨hd1, hs1, hr1, m1, m3, m2, _⟩ := run_mid hd hf' h1
  obtain ⟨hd2, hs2, hr2, A⟩ := run0 hd1 h2
  obtain ⟨hd3, hs3, hr3, B⟩ := run0 hd h3
  subst hr1 hr2
  have hf1 := fits_keep hd hd1 hs1 hf'
  have key : e2 = 0 ∧ e3 = 0 ∧ dt2 = dt3 ∧ flSt s2 L2 = flSt s3 L3 := by
    rcases A with ⟨a1, _⟩ | ⟨a1, a2, a3, a4, a5, a6⟩ | ⟨a1, a2, a3, a4, a5⟩ | ⟨a1, a2, a3, a4, a5⟩
    · exact absurd hf1 a1
    · rcases B with ⟨b1, _⟩ | ⟨b1, b2, b3, b4, b5, b6⟩ | ⟨b1, b2, _⟩ | ⟨b1, b2, _⟩
      · exact absurd hf' b1
      · obtain ⟨q1, q2⟩ := m1 a2
        exact ⟨a6, b6, by rw [a5, b5, q1, q2], by rw [a3, a4, b3, b4, q1, q2]⟩
      all_goals omega
    · rcases B with ⟨b1, _⟩ | ⟨b1, b2, _⟩ | ⟨b1, b2, b3, b4, b5⟩ | ⟨b1, b2, _⟩
      · exact absurd hf' b1
      · omega
      · refine ⟨a5, b5, a4.trans b4.symm, ?_⟩
        rw [a3, b3]
        rcases m2 a2 with q | ⟨a, q1, q2, q3⟩
        · rw [q]
        · rw [q3, wim_over (okW_cur hd q1) (okW_cur hd (fits_W hf' a2).2.2) q2]
      · omega
    · rcases B with ⟨b1, _⟩ | ⟨b1, b2, _⟩ | ⟨b1, b2, _⟩ | ⟨b1, b2, b3, b4, b5⟩
      · exact absurd hf' b1
      · omega
      · omega
      · exact ⟨a5, b5, a4.trans b4.symm, by rw [a3, b3, m3 a2]⟩
  exact ⟨key.1, key.2.1, key.2.2.1, hd2, hd3, hs2.trans hs1, hs3, key.2.2.2⟩
end

end Go.Proofs.Ytkejcnhfbfgphaa

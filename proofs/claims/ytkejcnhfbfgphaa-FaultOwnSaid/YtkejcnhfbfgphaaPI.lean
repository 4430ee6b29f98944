/- plain words: failed writes -/
import Derived.Test.YtkejcnhfbfgphaaPH
namespace Go.Proofs.Ytkejcnhfbfgphaa
open Go.RowKit
set_option linter.unusedVariables false
set_option linter.unusedSimpArgs false

/- a failed write changes its own sectors only -/
section
variable {st x s1 dt : ByteArray} {L L1 : List PU} {rm r1 k s c er e1 dn t : Int} {fua hf : Bool}
theorem own_fit (h : runF st L rm k s c x fua er dn hf = (s1, L1, r1, dt, e1)) (he : ¬ e1 = 1) : fitsP st L rm k s c x := Classical.byContradiction fun hn => by
  rw [run_bad hn] at h; injection h with _ h; injection h with _ h; injection h with _ h; injection h with _ h; exact he h.symm
theorem own1 (h : runF st L rm k s c x fua er dn hf = (s1, L1, r1, dt, e1)) (h0 : ¬ e1 = 0) (hk : ¬ k = 2 ∨ e1 = 1) (hne : er ≠ 1) : s1 = st ∧ r1 = rm ∧ L1 = L := by
  by_cases hf' : fitsP st L rm k s c x
  · by_cases he : er = 0
    · subst he
      unfold runF at h
      rw [if_neg (not_not_intro hf'), if_neg (fun h => h.1 rfl), if_neg (not_not_intro rfl)] at h
      split at h
      · injection h with _ h; injection h with _ h; injection h with _ h; injection h with _ h; exact absurd h.symm h0
      · split at h
        · injection h with _ h; injection h with _ h; injection h with _ h; injection h with _ h; exact absurd h.symm h0
        · injection h with _ h; injection h with _ h; injection h with _ h; injection h with _ h; exact absurd h.symm h0
    · by_cases hk2 : k = 2
      · unfold runF at h
        rw [if_neg (not_not_intro hf'), if_pos ⟨he, hk2⟩] at h
        injection h with _ h; injection h with _ h; injection h with _ h; injection h with _ h
        omega
      · rw [run_err hf' he hk2] at h
        injection h with h1 h; injection h with h2 h; injection h with h3 h
        exact ⟨h1.symm, h3.symm, h2.symm⟩
  · rw [run_bad hf'] at h
    injection h with h1 h; injection h with h2 h; injection h with h3 h
    exact ⟨h1.symm, h3.symm, h2.symm⟩
theorem own2 (hd : okD st L rm) (hf' : fitsP st L rm k s c x) (hk : k = 2) (h : runF st L rm k s c x fua er dn hf = (s1, L1, r1, dt, e1)) (h0 : ¬ e1 = 0) : okD s1 L1 r1 ∧ (s1.size : Int) = (st.size : Int) ∧
    ∀ t : Int, 0 ≤ t → (newest s1 L1 t = newest st L t ∨ (s ≤ t ∧ t < s + c ∧ (newest s1 L1 t = subs x ((t - s) * 8) ((t - s) * 8 + 8) ∨ newest s1 L1 t = subs (subs x ((t - s) * 8) ((t - s) * 8 + 8)) 0 4 ++ subs (newest st L t) 4 ((newest st L t).size : Int)))) := by
  obtain ⟨hd1, hs1, _, _, _, _, he1⟩ := run_mid hd hf' h
  refine ⟨hd1, hs1, fun t ht => ?_⟩
  have he : ¬ er = 0 := by omega
  obtain ⟨hs, hx, hW⟩ := fits_W hf' hk
  have hdb := doneF_b (dn := dn) (c := c) (by unfold okS at hs; omega)
  cases htn : tornF st L rm s c x fua dn hf with
  | mk a q =>
    obtain ⟨B, r⟩ := q
    rw [run_torn hf' he hk htn] at h
    injection h with h1 h; injection h with h2 h; injection h with h3 h
    by_cases hp : partF st L s c x dn hf = ⟨#[]⟩
    · rw [torn_no hp] at htn
      injection htn with q1 q; injection q with q2 q3
      subst h1 h2 q1 q2
      exact .inl rfl
    · cases hw : writeF st L rm s (partF st L s c x dn hf) fua with
      | mk b q =>
        obtain ⟨B2, r2, b2⟩ := q
        rw [torn_yes hp hw] at htn
        injection htn with q1 q; injection q with q2 q3
        have hok := part_ok (dn := dn) (hf := hf) hd hs hx hp
        have hps := part_size (dn := dn) (hf := hf) hd hs hx
        rcases writeF_ok hw with ⟨rfl, _, _, p1, p2, p3⟩ | ⟨_, q, _⟩
        · subst h1 h2 q1 q2
          rw [newest_fl ht p1.2.2.2, cur_write hw, sec_wim (okW_cur hd hok) ht, ← newest_fl ht hd.2.2.2]
          by_cases hr : s ≤ t ∧ t < s + ((partF st L s c x dn hf).size : Int) / 8
          · rw [if_pos hr]
            right
            have hlt : t - s < doneF dn c ∨ ((hf = true ∧ doneF dn c < c) ∧ t - s = doneF dn c) := by
              rw [hps] at hr
              split at hr
              · rename_i hc
                by_cases h5 : t - s < doneF dn c
                · exact .inl h5
                · exact .inr ⟨hc, by omega⟩
              · exact .inl (by omega)
            rcases hlt with hlt | ⟨hc, hlt⟩
            · refine ⟨hr.1, by omega, .inl ?_⟩
              have e8 : (t - s + 1) * 8 = (t - s) * 8 + 8 := by omega
              rw [e8]
              by_cases hc : hf = true ∧ doneF dn c < c
              · have hz := subs_size (s := x) (i := 0) (j := doneF dn c * 8) (by omega) (by omega) (by omega)
                rw [← part_1 hc.1 hc.2, subs_cat_l (by omega) (by omega) (by omega), subs_subs (by omega) (by omega) (by omega) (by omega), show (0 : Int) + (t - s) * 8 = (t - s) * 8 by omega, show (0 : Int) + ((t - s) * 8 + 8) = (t - s) * 8 + 8 by omega]
              · rw [← part_2 hc, subs_subs (by omega) (by omega) (by omega) (by omega), show (0 : Int) + (t - s) * 8 = (t - s) * 8 by omega, show (0 : Int) + ((t - s) * 8 + 8) = (t - s) * 8 + 8 by omega]
            · refine ⟨hr.1, by omega, .inr ?_⟩
              have ht2 : t = s + doneF dn c := by omega
              have hz := subs_size (s := x) (i := 0) (j := doneF dn c * 8) (by omega) (by omega) (by omega)
              have hn := newest_size hd.2.2.2 (okS_in hs (i := doneF dn c) hdb.1 hc.2)
              have e9 : (t - s) * 8 = ((subs x 0 (doneF dn c * 8)).size : Int) := by omega
              have e10 : (t - s + 1) * 8 = ((subs x 0 (doneF dn c * 8)).size : Int) + 8 := by omega
              rw [← part_1 hc.1 hc.2, e10, e9, subs_cat_r (by rw [cat_size, subs_size (by omega) (by omega) (by omega), subs_size (by omega) (by omega) (by omega)]; omega), ← half_eq hd hs hx hc.2 rfl, ← e9, hlt, ht2]
          · rw [if_neg hr]; exact .inl rfl
        · exact absurd ⟨hd, hok⟩ q
end

end Go.Proofs.Ytkejcnhfbfgphaa

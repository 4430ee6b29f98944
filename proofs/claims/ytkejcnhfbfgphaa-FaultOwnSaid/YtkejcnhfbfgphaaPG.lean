/- plain words: bounds -/
import Derived.Test.YtkejcnhfbfgphaaPF
namespace Go.Proofs.Ytkejcnhfbfgphaa
open Go.RowKit
set_option linter.unusedVariables false
set_option linter.unusedSimpArgs false

/- bounds on what commands leave -/
section
variable {st x a dt : ByteArray} {L A : List PU} {rm r k s c er e1 dn : Int} {fua hf : Bool}
theorem torn_bd {n : Nat} (hn : 64 ≤ n) (hL : L.length ≤ n) (hz : (st.size : Int) ≤ 2000) (h : tornF st L rm s c x fua dn hf = (a, A, r)) : A.length ≤ n ∧ (a.size : Int) ≤ 2000 := by
  unfold tornF at h
  split at h
  · injection h with h1 h; injection h with h2 h; subst h1 h2; exact ⟨hL, hz⟩
  · cases hw : writeF st L rm s (partF st L s c x dn hf) fua with
    | mk b q => obtain ⟨B, r3, b3⟩ := q; rw [hw] at h; injection h with h1 h; injection h with h2 h; dsimp only at h1 h2; subst h1 h2; have := writeF_bd hw; omega
theorem runF_bd (hL : L.length ≤ 100) (hz : (st.size : Int) ≤ 2000) (h : runF st L rm k s c x fua er dn hf = (a, A, r, dt, e1)) : A.length ≤ 100 ∧ (a.size : Int) ≤ 2000 ∧ (dt.size : Int) ≤ 2000 := by
  unfold runF at h
  split at h
  · injection h with h1 h; injection h with h2 h; injection h with h3 h; injection h with h4 h; subst h1 h2 h4; exact ⟨hL, hz, by simp [ByteArray.size]⟩
  · split at h
    · injection h with h1 h; injection h with h2 h; injection h with h3 h; injection h with h4 h; subst h4
      have := torn_bd (n := 100) (by omega) hL hz (show tornF st L rm s c x fua dn hf = (a, A, r) from Prod.ext h1 (Prod.ext h2 h3))
      exact ⟨this.1, this.2, by simp [ByteArray.size]⟩
    · split at h
      · injection h with h1 h; injection h with h2 h; injection h with h3 h; injection h with h4 h; subst h1 h2 h4; exact ⟨hL, hz, by simp [ByteArray.size]⟩
      · split at h
        · injection h with h1 h; injection h with h2 h; injection h with h3 h; injection h with h4 h; subst h1 h2 h4; have := readF_bd st L rm s c; exact ⟨hL, hz, by omega⟩
        · split at h
          · injection h with h1 h; injection h with h2 h; injection h with h3 h; injection h with h4 h; subst h4
            cases hw : writeF st L rm s x fua with
            | mk b q => obtain ⟨B, r3, b3⟩ := q; rw [hw] at h1 h2; dsimp only at h1 h2; subst h1 h2; have := writeF_bd hw; exact ⟨by omega, by omega, by simp [ByteArray.size]⟩
          · injection h with h1 h; injection h with h2 h; injection h with h3 h; injection h with h4 h; subst h2 h4
            cases hw : flushF st L rm with
            | mk b q => rw [hw] at h1; dsimp only at h1; subst h1; have := flushF_bd hw; exact ⟨by simp, by omega, by simp [ByteArray.size]⟩
end

end Go.Proofs.Ytkejcnhfbfgphaa

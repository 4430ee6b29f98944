/- crash: the laws in plain words -/
import Derived.Test.YtlhcpeolkkadbaaPB
import Derived.Test.YtlhcpeolkkadbaaPQ
import Derived.Test.YtlhcpeolkkadbaaP2
namespace Go.Proofs.Ytlhcpeolkkadbaa
open Go.RowKit
set_option linter.unusedVariables false
set_option linter.unusedSimpArgs false

/- crash: the laws in plain words -/
section
variable {st : ByteArray} {L F : List PU} {rm : Int} {P : List Int} {T : List Bool}
theorem secF_len (st : ByteArray) (L F : List PU) (rm : Int) : (secF st L F rm).length ≤ 128 := by
  unfold secF
  split
  · rename_i h; have := secN_len st (L ++ F) (st.size / 8); have := okD_I h.1; omega
  · simp
theorem perm_choose (hC : okC st L F rm) : Perm st L F rm (chooseF st L F rm P T) := by
  refine ⟨hC, choose_size hC, fun s h0 h1 => ?_⟩
  have := choose_sec (P := P) (T := T) hC h0 h1
  unfold sec at this; rw [this]; exact chS_ok s
def okVb (l : List ByteArray) (x : ByteArray) : Bool := l.any (fun y => decide (x = y)) || (List.range l.length).any (fun i => decide (1 ≤ i) && decide (tornF (l.getD i ⟨#[]⟩) (l.getD (i - 1) ⟨#[]⟩) = x))
theorem okVb_of {l : List ByteArray} {x : ByteArray} (h : okV l x) : okVb l x = true := by
  unfold okVb
  rcases h with h | ⟨i, a, b, h1, h2, h3, h4⟩
  · rw [Bool.or_eq_true]; left; rw [List.any_eq_true]; exact ⟨x, h, by simp⟩
  · rw [Bool.or_eq_true]; right; rw [List.any_eq_true]
    have hi := (List.getElem?_eq_some_iff.1 h2).1
    exact ⟨i, List.mem_range.2 hi, by rw [getD_of h2, getD_of h3]; simp [h1, h4]⟩
theorem perm_nob {im : ByteArray} (s : Int) (h0 : 0 ≤ s) (h1 : s < (st.size : Int) / 8) (h : okVb (versC st (L ++ F) s) (subs im (s * 8) ((s + 1) * 8)) = false) : ¬ Perm st L F rm im :=
  perm_no h0 h1 (fun h9 => by rw [okVb_of h9] at h; cases h)
theorem okC_of (hd : okD st L rm) (hf : flQ (st.size : Int) F) : okC st L F rm := ⟨hd, fun p hp => (hf p hp).1⟩
theorem okC_nil (hd : okD st L rm) : okC st L [] rm := ⟨hd, by simp⟩
end

end Go.Proofs.Ytlhcpeolkkadbaa

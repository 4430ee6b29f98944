/- texts without a question mark -/
import Derived.Test.YtlhcpeolkkadbaaP
namespace Go.Proofs.Ytlhcpeolkkadbaa
open Go.RowKit
set_option linter.unusedVariables false
set_option linter.unusedSimpArgs false

/- texts without a question mark -/
def noQ (x : ByteArray) : Prop := ∀ b ∈ bl x, b ≠ (63 : UInt8)
def okQ (st : ByteArray) (L : List PU) : Prop := noQ st ∧ ∀ p ∈ L, noQ p.f1
theorem noQ_app {a b : ByteArray} (ha : noQ a) (hb : noQ b) : noQ (a ++ b) := by
  intro c hc; rw [bl_app] at hc; rcases List.mem_append.1 hc with h | h
  · exact ha c h
  · exact hb c h
theorem noQ_subs {a : ByteArray} (ha : noQ a) (i j : Int) : noQ (subs a i j) := by
  intro c hc; rw [bl_subs] at hc; exact ha c (List.mem_of_mem_drop (List.mem_of_mem_take hc))
theorem noQ_wim {im x : ByteArray} (hi : noQ im) (hx : noQ x) (s : Int) : noQ (wim im s x) := noQ_app (noQ_app (noQ_subs hi _ _) hx) (noQ_subs hi _ _)
theorem wrap_u8 {x : Int} : IntKind.u8.wrap x = x % 256 := by simp [IntKind.wrap, IntKind.signed, IntKind.bits]
theorem letF_bd (n : Int) (i : Nat) : 97 ≤ letF n i ∧ letF n i < 123 := by
  unfold letF
  have := rnd_bounds (IntKind.i64.wrap (IntKind.i64.wrap (n + (i : Int) / 4 * 7) + (i : Int) / 8 * 3)) 26 (by omega)
  rw [wrap_u8, wrap_u8]; omega
theorem noQ_data (n c : Int) : noQ (dataF n c) := by
  intro b hb
  unfold dataF datL at hb
  rw [bl_bstr] at hb
  obtain ⟨x, hx, rfl⟩ := List.mem_map.1 hb
  obtain ⟨i, _, rfl⟩ := List.mem_map.1 hx
  have := letF_bd n i
  intro h
  have h := congrArg UInt8.toNat h
  simp at h
  omega
theorem okQ_start {st : ByteArray} (h : noQ st) : okQ st [] := ⟨h, by simp⟩
theorem okQ_put1 {st st1 x : ByteArray} {L L1 : List PU} {rm s : Int} {fua : Bool} (h : put1 st L rm s x fua = (st1, L1)) (hx : noQ x) (hq : okQ st L) : okQ st1 L1 := by
  unfold put1 at h
  split at h
  · injection h with h1 h2; subst h1 h2; exact ⟨noQ_wim hq.1 hx s, fun p hp => hq.2 p (mem_selL hp)⟩
  · split at h
    · split at h
      · rename_i p hp; injection h with h1 h2; subst h1 h2
        refine ⟨noQ_wim hq.1 (hq.2 p (List.mem_of_getElem? hp)) _, fun r hr => ?_⟩
        rcases List.mem_append.1 hr with hr | hr
        · exact hq.2 r (mem_selL hr)
        · simp at hr; subst hr; exact hx
      · injection h with h1 h2; subst h1 h2; exact hq
    · injection h with h1 h2; subst h1 h2
      refine ⟨hq.1, fun r hr => ?_⟩
      rcases List.mem_append.1 hr with hr | hr
      · exact hq.2 r hr
      · simp at hr; subst hr; exact hx
theorem okQ_wrN {st x : ByteArray} {L : List PU} {rm s : Int} {fua : Bool} (hx : noQ x) (hq : okQ st L) : ∀ k : Nat, okQ (wrN st L rm s x fua k).1 (wrN st L rm s x fua k).2
  | 0 => hq
  | k + 1 => okQ_put1 rfl (noQ_subs hx _ _) (okQ_wrN hx hq k)
theorem okQ_write {st st1 x : ByteArray} {L L1 : List PU} {rm s rm1 : Int} {fua : Bool} (h : writeF st L rm s x fua = (st1, L1, rm1, true)) (hx : noQ x) (hq : okQ st L) : okQ st1 L1 := by
  unfold writeF at h
  split at h
  · injection h with h1 h; injection h with h2 h; subst h1 h2; exact okQ_wrN hx hq _
  · injection h with _ h; injection h with _ h; injection h with _ h; cases h
def flQ (n : Int) (F : List PU) : Prop := ∀ p ∈ F, okP n p ∧ noQ p.f1
theorem flQ_nil (n : Int) : flQ n [] := by simp [flQ]
theorem flQ_app {n : Int} {F : List PU} {p : PU} (h : flQ n F) (h1 : okP n p) (h2 : noQ p.f1) : flQ n (F ++ [p]) := by
  intro q hq; rcases List.mem_append.1 hq with hq | hq
  · exact h q hq
  · simp at hq; subst hq; exact ⟨h1, h2⟩

end Go.Proofs.Ytlhcpeolkkadbaa

/- walks, printed by wip/gen -/
import Derived.Test.YtffaminjbcfojaaP
namespace Go.Proofs.Ytffaminjbcfojaa
open Go.RowKit
set_option linter.unusedVariables false
set_option linter.unusedSimpArgs false

/- AgingAgain -/
def rl (G : List E44) (i : Nat) : List E44 := G.take i ++ G.drop (i + 1)
theorem rl_len {G : List E44} {i : Nat} {d : E44} (h : i < G.length) : (rl G i ++ [d]).length = G.length := by unfold rl; simp; omega
theorem rl_rem {G : List E44} {i : Nat} {x : E44} (hok : okA G) (hx : G[i]? = some x) : List.any G (fun y : E44 => decide (y.f0 = x.f0)) = true ∧ remL G x.f0 = rl G i := by
  have hi := (List.getElem?_eq_some_iff.1 hx).1
  have hd : G.drop i = x :: G.drop (i + 1) := by rw [List.drop_eq_getElem_cons hi, (List.getElem?_eq_some_iff.1 hx).2]
  have h4 := hok.2
  rw [← List.take_append_drop i G, List.pairwise_append, hd, List.pairwise_cons] at h4
  refine ⟨List.any_eq_true.2 ⟨x, List.mem_of_getElem? hx, by simp⟩, ?_⟩
  have h1 : ∀ y ∈ G.take i, y.f0 ≠ x.f0 := fun y hy => (h4.2.2 y hy x (by simp)).2
  have h3 : ∀ y ∈ G.drop (i + 1), y.f0 ≠ x.f0 := fun y hy he => (h4.2.1.1 y hy).2 he.symm
  have e : remL G x.f0 = remL (G.take i) x.f0 ++ remL (G.drop (i + 1)) x.f0 := by
    conv => lhs; rw [← List.take_append_drop i G, hd]
    unfold remL; rw [List.filter_append, List.filter_cons]; simp
  rw [e, filt_all h1, filt_all h3]; rfl
theorem last_max {G : List E44} {z : E44} (hok : okA G) (hz : G[G.length - 1]? = some z) : ∀ y ∈ G, y.f1 ≤ z.f1 := by
  have hl := (List.getElem?_eq_some_iff.1 hz).1
  have h := le_prev (L := G) (i := G.length) (z := z) (n := z.f1) (by rw [List.take_length]; exact hok) (by omega) hz (Int.le_refl _)
  rwa [List.take_length] at h
theorem late_ok {G : List E44} {x z : E44} {i : Nat} {n : Int} (hok : okA G) (hx : G[i]? = some x) (hz : G[G.length - 1]? = some z) (hn : z.f1 ≤ n ∧ 0 ≤ n ∧ n ≤ 1000000) : lateA G x.f0 n = 0 := by
  have hf := hok.1 x (List.mem_of_getElem? hx)
  unfold fok at hf
  exact lt_0x hok ⟨by omega, by omega⟩ ⟨by omega, by omega⟩ hz hn.1
theorem again_is {G L1 : List E44} {x z : E44} {i : Nat} {n e : Int} (hok : okA G) (hx : G[i]? = some x) (hz : G[G.length - 1]? = some z) (hn : z.f1 ≤ n ∧ 0 ≤ n ∧ n ≤ 1000000) (h : againF G x.f0 n = (L1, e)) : L1 = rl G i ++ [⟨x.f0, n⟩] ∧ e = 0 := by
  obtain ⟨h1, h2⟩ := rl_rem hok hx
  rw [ag_yes (late_ok hok hx hz hn) h1, h2] at h
  injection h with h3 h4; exact ⟨h3.symm, h4.symm⟩
theorem rem_is {G L1 : List E44} {x : E44} {i : Nat} {e : Int} (hok : okA G) (hx : G[i]? = some x) (h : remF G x.f0 = (L1, e)) : L1 = rl G i ∧ e = 0 := by
  obtain ⟨h1, h2⟩ := rl_rem hok hx
  have hf := hok.1 x (List.mem_of_getElem? hx)
  unfold fok at hf
  rw [rem_has (wr_0 hok ⟨by omega, by omega⟩) h1, h2] at h
  injection h with h3 h4; exact ⟨h3.symm, h4.symm⟩
theorem add_is {G L1 : List E44} {x z : E44} {i : Nat} {n e : Int} (hok : okA G) (hx : G[i]? = some x) (hz : G[G.length - 1]? = some z) (hn : z.f1 ≤ n ∧ 0 ≤ n ∧ n ≤ 1000000) (h : addF (rl G i) x.f0 n = (L1, e)) : L1 = rl G i ++ [⟨x.f0, n⟩] ∧ e = 0 := by
  have h2 := (rl_rem hok hx).2
  have hf := hok.1 x (List.mem_of_getElem? hx)
  unfold fok at hf
  have hsub : ∀ y ∈ rl G i, y ∈ G ∧ y.f0 ≠ x.f0 := by
    intro y hy; rw [← h2] at hy; unfold remL at hy; rw [List.mem_filter] at hy
    exact ⟨hy.1, by simpa using hy.2⟩
  have hok2 : okA (rl G i) := by rw [← h2]; exact ⟨fun y hy => hok.1 y (List.mem_filter.1 hy).1, hok.2.filter _⟩
  have h0 : lateA (rl G i) x.f0 n = 0 := by
    unfold lateA; rw [if_pos hok2, if_pos ⟨⟨by omega, by omega⟩, ⟨by omega, by omega⟩, fun y hy => by have := last_max hok hz y (hsub y (List.mem_of_getElem? hy)).1; omega⟩]
  have ha : List.any (rl G i) (fun y : E44 => decide (y.f0 = x.f0)) = false := by
    rw [List.any_eq_false]; intro y hy; simp [(hsub y hy).2]
  rw [add_new h0 ha] at h
  injection h with h3 h4; exact ⟨h3.symm, h4.symm⟩
theorem last_get {G : List E44} {d : E44} : (G ++ [d])[(G ++ [d]).length - 1]? = some d := by simp
theorem rl_get {G : List E44} {i j k : Nat} {d : E44} (hj : j < G.length) (hji : j ≠ i) (h1 : j ≤ i → k = j) (h2 : i < j → k + 1 = j) : (rl G i ++ [d])[k]? = G[j]? := by
  unfold rl
  rcases Nat.lt_or_ge j i with h | h
  · have := h1 (by omega); subst this
    rw [List.getElem?_append_left (by simp; omega), List.getElem?_append_left (by simp; omega), List.getElem?_take, if_pos h]
  · have h3 := h2 (by omega)
    rw [List.getElem?_append_left (by simp; omega), List.getElem?_append_right (by simp; omega), List.getElem?_drop]
    congr 1; simp; omega

end Go.Proofs.Ytffaminjbcfojaa

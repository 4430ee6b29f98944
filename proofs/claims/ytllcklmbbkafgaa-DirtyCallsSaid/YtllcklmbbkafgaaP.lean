/- Plain facts about proportions. -/
import Derived.Test.YtllcklmbbkafgaaU
namespace Go.Proofs.Ytllcklmbbkafgaa
open Go.RowKit
set_option linter.unusedVariables false
set_option linter.unusedSimpArgs false

def chkF (L : List Int) (p q : Int) : Bool := decide ((∀ e ∈ L, 0 ≤ e ∧ e ≤ 1000000) ∧ 1 ≤ L.length ∧ L.length ≤ 4 ∧ 1 ≤ p ∧ p ≤ 1000000 ∧ 1 ≤ q ∧ q ≤ p) && true
theorem all_step {P : Int → Prop} {L : List Int} {k : Nat} {x : Int} (h : ∀ e ∈ L.take k, P e) (hx : L[k]? = some x) (hp : P x) : ∀ e ∈ L.take (k + 1), P e := by
  intro e he
  rw [List.take_add_one, hx] at he
  simp at he
  rcases he with he | rfl
  · exact h e he
  · exact hp
theorem chk_no {L : List Int} {p q x : Int} {k : Nat} (hx : L[k]? = some x) (h : ¬ (0 ≤ x ∧ x ≤ 1000000)) : false = chkF L p q := by
  symm; unfold chkF; rw [Bool.and_true, decide_eq_false_iff_not]
  rintro ⟨h1, _⟩
  exact h (h1 x (List.mem_of_getElem? hx))
theorem chk_all {L : List Int} {p q : Int} {b : Bool} (h : ∀ e ∈ L, 0 ≤ e ∧ e ≤ 1000000) (hb : b = decide (1 ≤ L.length ∧ L.length ≤ 4 ∧ 1 ≤ p ∧ p ≤ 1000000 ∧ 1 ≤ q ∧ q ≤ p)) : b = chkF L p q := by
  subst hb; unfold chkF
  rw [Bool.and_true, decide_eq_decide]
  exact ⟨fun h2 => ⟨h, h2⟩, fun h2 => h2.2⟩
theorem chk_few {L : List Int} {p q : Int} (h : ¬ (1 ≤ L.length ∧ L.length ≤ 4 ∧ 1 ≤ p ∧ p ≤ 1000000 ∧ 1 ≤ q ∧ q ≤ p)) : false = chkF L p q := by
  symm; unfold chkF; rw [Bool.and_true, decide_eq_false_iff_not]
  exact fun h2 => h h2.2
def newOk (d n : Int) : Bool := decide (1 ≤ d ∧ d ≤ 4 ∧ 1 ≤ n ∧ n ≤ 1000000)
theorem newOk_t {d n : Int} (h : 1 ≤ d ∧ d ≤ 4 ∧ 1 ≤ n ∧ n ≤ 1000000) : newOk d n = true := decide_eq_true h
theorem newOk_f {d n : Int} (h : ¬ (1 ≤ d ∧ d ≤ 4 ∧ 1 ≤ n ∧ n ≤ 1000000)) : newOk d n = false := decide_eq_false h
def half (L : List Int) : List Int := L.map (· / 2)
def cstep (d : Nat) (p : Int) (s : List Int × Int) : List Int × Int :=
  if 0 < s.2 - 1 then (s.1.set d (min ((s.1[d]?).getD 0 + 1) 1000000), s.2 - 1) else (half (s.1.set d (min ((s.1[d]?).getD 0 + 1) 1000000)), p)
def crun (d : Nat) (p : Int) : Nat → List Int × Int → List Int × Int
  | 0, s => s
  | k + 1, s => cstep d p (crun d p k s)
def CI (n : Nat) (p : Int) (s : List Int × Int) : Prop := s.1.length = n ∧ (∀ e ∈ s.1, 0 ≤ e ∧ e ≤ 1000000) ∧ 1 ≤ s.2 ∧ s.2 ≤ p
theorem getD_in {L : List Int} (h : ∀ e ∈ L, 0 ≤ e ∧ e ≤ 1000000) (d : Nat) : 0 ≤ (L[d]?).getD 0 ∧ (L[d]?).getD 0 ≤ 1000000 := by
  cases hx : L[d]? with
  | none => simp
  | some x => exact h x (List.mem_of_getElem? hx)
theorem half_in {L : List Int} (h : ∀ e ∈ L, 0 ≤ e ∧ e ≤ 1000000) : ∀ e ∈ half L, 0 ≤ e ∧ e ≤ 1000000 := by
  intro e he
  obtain ⟨x, hx, rfl⟩ := List.mem_map.1 he
  have := h x hx
  show 0 ≤ x / 2 ∧ x / 2 ≤ 1000000
  omega
theorem set_in {L : List Int} (h : ∀ e ∈ L, 0 ≤ e ∧ e ≤ 1000000) (d : Nat) {z : Int} (hz : 0 ≤ z ∧ z ≤ 1000000) : ∀ e ∈ L.set d z, 0 ≤ e ∧ e ≤ 1000000 := by
  intro e he
  rcases List.mem_or_eq_of_mem_set he with he | rfl
  · exact h e he
  · exact hz
theorem cstep_inv {n d : Nat} {p : Int} {s : List Int × Int} (hp : 1 ≤ p) (h : CI n p s) : CI n p (cstep d p s) := by
  obtain ⟨h1, h2, h3, h4⟩ := h
  have h5 := getD_in h2 d
  have h6 := set_in h2 d (z := min ((s.1[d]?).getD 0 + 1) 1000000) (by omega)
  unfold cstep
  split
  · exact ⟨by simp [h1], h6, by show 1 ≤ s.2 - 1; omega, by show s.2 - 1 ≤ p; omega⟩
  · exact ⟨by simp [half, h1], half_in h6, hp, Int.le_refl _⟩
theorem crun_inv {n d : Nat} {p : Int} {s : List Int × Int} (hp : 1 ≤ p) (h : CI n p s) : ∀ k, CI n p (crun d p k s)
  | 0 => h
  | k + 1 => cstep_inv hp (crun_inv hp h k)
theorem CI_of {L : List Int} {p q : Int} (h : chkF L p q = true) : CI L.length p (L, q) ∧ 1 ≤ p ∧ p ≤ 1000000 ∧ 1 ≤ L.length ∧ L.length ≤ 4 := by
  unfold chkF at h
  rw [Bool.and_true] at h
  have h := of_decide_eq_true h
  exact ⟨⟨rfl, h.1, by omega, by omega⟩, by omega, by omega, by omega, by omega⟩
theorem run_no {d k : Nat} {p q' x : Int} {s : List Int × Int} {E : List Int} (h : crun d p k s = (E, q')) (hx : E[d]? = some x) (hq : 0 < q' - 1) : crun d p (k + 1) s = (E.set d (min (x + 1) 1000000), q' - 1) := by
  show cstep d p (crun d p k s) = _
  rw [h]; unfold cstep; simp only [hx, Option.getD_some]; rw [if_pos hq]
theorem run_half {d k : Nat} {p q' x : Int} {s : List Int × Int} {E F : List Int} (h : crun d p k s = (E, q')) (hx : E[d]? = some x) (hq : ¬ 0 < q' - 1) (hF : F = half (E.set d (min (x + 1) 1000000))) : crun d p (k + 1) s = (F, p) := by
  show cstep d p (crun d p k s) = _
  rw [h]; unfold cstep; simp only [hx, Option.getD_some]; rw [if_neg hq, hF]
theorem half_step {E F : List Int} {j : Nat} {x : Int} (hF : F = half (E.take j) ++ E.drop j) (hx : F[j]? = some x) (hj : j < E.length) : F.set j (x / 2) = half (E.take (j + 1)) ++ E.drop (j + 1) := by
  subst hF
  have hl : (half (E.take j)).length = j := by simp [half]; omega
  rw [List.getElem?_append_right (by omega), hl, Nat.sub_self, List.getElem?_drop, Nat.add_zero] at hx
  rw [List.set_append_right _ _ (by omega), hl, Nat.sub_self, List.take_add_one, hx]
  have e : E.drop j = x :: E.drop (j + 1) := by
    rw [List.drop_eq_getElem_cons hj]
    congr 1
    have := List.getElem?_eq_getElem hj
    rw [hx] at this; exact (Option.some.inj this).symm
  rw [e]
  simp [half]
theorem half_done {E F : List Int} {j : Nat} (hF : F = half (E.take j) ++ E.drop j) (hj : E.length ≤ j) : F = half E := by
  subst hF
  rw [List.take_of_length_le hj, List.drop_eq_nil_of_le hj, List.append_nil]
theorem half_len {E F : List Int} {j : Nat} (hF : F = half (E.take j) ++ E.drop j) (hj : j ≤ E.length) : F.length = E.length := by
  subst hF; simp [half]; omega
def inF (L : List Int) (d n : Int) : Bool := decide (0 ≤ d ∧ d < L.length ∧ 0 ≤ n ∧ n ≤ 64)
def stF (L : List Int) (p q d n : Int) : List Int × Int := bif chkF L p q && inF L d n then crun d.toNat p n.toNat (L, q) else (L, q)
def errF (L : List Int) (p q d n : Int) : Int := bif chkF L p q then (bif inF L d n then 0 else 2) else 1
theorem st_1 {L : List Int} {p q d n : Int} (h : chkF L p q = false) : stF L p q d n = (L, q) ∧ errF L p q d n = 1 := by simp [stF, errF, h]
theorem st_2 {L : List Int} {p q d n : Int} (h : chkF L p q = true) (h2 : ¬ (0 ≤ d ∧ d < L.length ∧ 0 ≤ n ∧ n ≤ 64)) : stF L p q d n = (L, q) ∧ errF L p q d n = 2 := by
  have : inF L d n = false := decide_eq_false h2
  simp [stF, errF, h, this]
theorem st_0 {L : List Int} {p q d n : Int} (h : chkF L p q = true) (h2 : 0 ≤ d ∧ d < L.length ∧ 0 ≤ n ∧ n ≤ 64) {k : Nat} (hk : (k : Int) = n) {E : List Int} {q' : Int} (hr : crun d.toNat p k (L, q) = (E, q')) : stF L p q d n = (E, q') ∧ errF L p q d n = 0 := by
  have : inF L d n = true := decide_eq_true h2
  have hk2 : n.toNat = k := by omega
  simp [stF, errF, h, this, hk2, hr]
theorem sum_step {L : List Int} {k : Nat} {x : Int} (hx : L[k]? = some x) : (L.take (k + 1)).sum = (L.take k).sum + x := by
  rw [List.take_add_one, hx]; simp
theorem sum_in : ∀ {L : List Int}, (∀ e ∈ L, 0 ≤ e ∧ e ≤ 1000000) → 0 ≤ L.sum ∧ L.sum ≤ 1000000 * L.length
  | [], _ => by simp
  | x :: r, h => by
    have h1 := h x (by simp)
    have h2 := sum_in (L := r) (fun e he => h e (List.mem_cons_of_mem _ he))
    simp only [List.sum_cons, List.length_cons]
    omega
theorem sum_ge : ∀ {L : List Int} {k : Nat} {x : Int}, (∀ e ∈ L, 0 ≤ e ∧ e ≤ 1000000) → L[k]? = some x → x ≤ L.sum
  | [], k, x, _, h => by simp at h
  | y :: r, 0, x, h, hx => by
    simp at hx; subst hx
    have h2 := sum_in (L := r) (fun e he => h e (List.mem_cons_of_mem _ he))
    simp only [List.sum_cons]; omega
  | y :: r, k + 1, x, h, hx => by
    have h1 := h y (by simp)
    have h2 := sum_ge (L := r) (k := k) (x := x) (fun e he => h e (List.mem_cons_of_mem _ he)) (by simpa using hx)
    simp only [List.sum_cons]; omega
def shIn (L : List Int) (d l : Int) : Bool := decide (0 ≤ d ∧ d < L.length ∧ 0 ≤ l ∧ l ≤ 64)
def shareF (L : List Int) (p q d l : Int) : Int := bif chkF L p q && shIn L d l then (if l ≤ 5 then l else 5 + (l - 5) * ((L[d.toNat]?).getD 0 + 1) / (L.sum + L.length)) else 0
theorem sh_1 {L : List Int} {p q d l : Int} (h : chkF L p q = false) : 0 = shareF L p q d l := by simp [shareF, h]
theorem sh_2 {L : List Int} {p q d l : Int} (h : ¬ (0 ≤ d ∧ d < L.length ∧ 0 ≤ l ∧ l ≤ 64)) : 0 = shareF L p q d l := by
  have : shIn L d l = false := decide_eq_false h
  simp [shareF, this]
theorem sh_3 {L : List Int} {p q d l : Int} (hc : chkF L p q = true) (h : 0 ≤ d ∧ d < L.length ∧ 0 ≤ l ∧ l ≤ 64) (h5 : l ≤ 5) : l = shareF L p q d l := by
  have : shIn L d l = true := decide_eq_true h
  simp [shareF, this, hc, h5]
theorem sh_4 {L : List Int} {p q d l x : Int} (hc : chkF L p q = true) (h : 0 ≤ d ∧ d < L.length ∧ 0 ≤ l ∧ l ≤ 64) (h5 : ¬ l ≤ 5) (hx : L[d.toNat]? = some x) : 5 + (l - 5) * (x + 1) / (L.sum + L.length) = shareF L p q d l := by
  have : shIn L d l = true := decide_eq_true h
  simp [shareF, this, hc, h5, hx]
theorem sh_q {L : List Int} {p q l x : Int} {k : Nat} (hc : chkF L p q = true) (h5 : 0 ≤ l) (hx : L[k]? = some x) : l * (x + 1) / (L.sum + L.length) ≤ l ∧ 0 ≤ l * (x + 1) / (L.sum + L.length) := by
  obtain ⟨⟨_, hm, _⟩, _, _, h1, h4⟩ := CI_of hc
  have hb := hm x (List.mem_of_getElem? hx)
  have hs : x ≤ L.sum := sum_ge hm hx
  have hpos : 0 < L.sum + (L.length : Int) := by omega
  refine ⟨?_, Int.ediv_nonneg (Int.mul_nonneg h5 (by omega)) (by omega)⟩
  have h2 : l * (x + 1) ≤ l * (L.sum + L.length) := Int.mul_le_mul_of_nonneg_left (by omega) h5
  have h3 := Int.ediv_le_ediv hpos h2
  rwa [Int.mul_ediv_cancel _ (by omega)] at h3
theorem sh_ref {L : List Int} {p q d l x : Int} (hc : chkF L p q = true) (h : 0 ≤ d ∧ d < L.length ∧ 0 ≤ l ∧ l ≤ 64) (hx : L[d.toNat]? = some x) : min (5 + max (l - 5) 0 * (x + 1) / (L.sum + L.length)) l = shareF L p q d l := by
  by_cases h5 : l ≤ 5
  · rw [← sh_3 hc h h5, Int.max_eq_right (by omega), Int.zero_mul, Int.zero_ediv]; omega
  · rw [← sh_4 hc h h5 hx, Int.max_eq_left (by omega)]
    have := (sh_q (l := l - 5) hc (by omega) hx).1
    omega
def limF (a b : Int) : Int := if (6 ≤ a ∧ a ≤ 64) ∧ 0 ≤ b ∧ b ≤ 100 then min a (max 6 (a * b / 100)) else 0
theorem lim_q {a b : Int} (h : (6 ≤ a ∧ a ≤ 64) ∧ 0 ≤ b ∧ b ≤ 100) : 0 ≤ a * b / 100 ∧ a * b / 100 ≤ a ∧ i64 (a * b) ∧ 0 ≤ a * b ∧ a * b ≤ 6400 := by
  have h1 : 0 ≤ a * b := Int.mul_nonneg (by omega) (by omega)
  have h2 : a * b ≤ a * 100 := Int.mul_le_mul_of_nonneg_left (by omega) (by omega)
  refine ⟨by omega, by omega, ⟨by omega, by omega⟩, h1, by omega⟩
theorem take_eq {a b : List Int} {k : Nat} {x y : Int} (ha : a[k]? = some x) (hb : b[k]? = some y) (hxy : x = y) (h : a.take k = b.take k) : a.take (k+1) = b.take (k+1) := by
  subst hxy; rw [List.take_add_one, List.take_add_one, h, ha, hb]
theorem crun_len (d : Nat) (p : Int) (s : List Int × Int) : ∀ k, (crun d p k s).1.length = s.1.length
  | 0 => rfl
  | k + 1 => by
    have := crun_len d p s k
    show (cstep d p (crun d p k s)).1.length = _
    unfold cstep; split <;> simp [half, this]
theorem stF_len (L : List Int) (p q d n : Int) : (stF L p q d n).1.length = L.length := by
  unfold stF
  cases chkF L p q && inF L d n with
  | true => exact crun_len _ _ _ _
  | false => rfl
theorem chk_two {x K q : Int} (hx : 0 ≤ x ∧ x ≤ 1000000) (hK : 1 ≤ K ∧ K ≤ 1000000) (hq : 1 ≤ q ∧ q ≤ K) : chkF [0, x] K q = true := by
  unfold chkF; rw [Bool.and_true, decide_eq_true_eq]
  refine ⟨fun e he => ?_, by simp, by simp, hK.1, hK.2, hq.1, hq.2⟩
  simp at he; omega
theorem fades_ok {K n : Int} (hK : 1 ≤ K ∧ K ≤ 1000000) (hn : 0 ≤ n ∧ n ≤ 64) : errF (List.replicate (2 : Int).toNat (0 : Int)) K K 1 n = 0 ∧ stF (List.replicate (2 : Int).toNat (0 : Int)) K K 1 n = crun 1 K n.toNat ([0, 0], K) := by
  have h1 : chkF (List.replicate (2 : Int).toNat (0 : Int)) K K = true := chk_two (x := 0) (by omega) hK (by omega)
  have h2 : inF (List.replicate (2 : Int).toNat (0 : Int)) 1 n = true := decide_eq_true ⟨by omega, by decide, hn.1, hn.2⟩
  refine ⟨by unfold errF; rw [h1, h2]; rfl, ?_⟩
  unfold stF; rw [h1, h2]; rfl
theorem fade_all {K ev q : Int} (hK : 1 ≤ K ∧ K ≤ 1000000) (he : 0 ≤ ev ∧ ev ≤ 1000) (hq : 1 ≤ q ∧ q ≤ K) : errF [0, ev] K q 1 1 = 0 ∧ stF [0, ev] K q 1 1 = crun 1 K 1 ([0, ev], q) ∧ crun 1 K 1 ([0, ev], q) = (if q - 1 = 0 then ([0, (ev + 1) / 2], K) else ([0, ev + 1], q - 1)) := by
  have h1 := chk_two (x := ev) (by omega) hK hq
  have h2 : inF [0, ev] 1 1 = true := decide_eq_true ⟨by omega, by simp, by omega, by omega⟩
  refine ⟨by unfold errF; rw [h1, h2]; rfl, ?_, ?_⟩
  · unfold stF; rw [h1, h2]; rfl
  · show cstep 1 K ([0, ev], q) = _
    have hm : min (ev + 1) 1000000 = ev + 1 := by omega
    unfold cstep
    by_cases hz : q - 1 = 0
    · rw [if_pos hz, if_neg (by simp only; omega)]; simp [half, hm]
    · rw [if_neg hz, if_pos (by simp only; omega)]; simp [hm]
theorem crun_succ {K : Int} {s t : List Int × Int} {i : Nat} (h : crun 1 K i s = t) : crun 1 K (i + 1) s = crun 1 K 1 t := by subst h; rfl

end Go.Proofs.Ytllcklmbbkafgaa

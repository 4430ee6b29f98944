/- walks, printed by wip/gen -/
import Derived.Test.YtjjjmpkmjicpbaaP2
namespace Go.Proofs.Ytjjjmpkmjicpbaa
open Go.RowKit
set_option linter.unusedVariables false
set_option linter.unusedSimpArgs false

/- queues that were pushed -/
theorem cost_small {b e m h k s c : Int} (hb : 1 ≤ b ∧ b ≤ 4) (he : 0 ≤ e ∧ e ≤ 2) (hm : 0 ≤ m ∧ m ≤ 2) (hh : 0 ≤ h ∧ h ≤ 128) (hs : 0 ≤ s ∧ s ≤ 60) (hc : 0 ≤ c ∧ c ≤ 40) (hk : k = 1 ∨ k = 2 ∨ k = 3) : 1 ≤ costF b e m h k s c ∧ costF b e m h k s c ≤ 340 := by
  have hn : ((1 ≤ b ∧ b ≤ 1000) ∧ (0 ≤ e ∧ e ≤ 1000) ∧ (0 ≤ m ∧ m ≤ 1000)) ∧ (0 ≤ h ∧ h ≤ 128) ∧ (0 ≤ s ∧ s ≤ 128) ∧ (0 ≤ c ∧ c ≤ 128) := by omega
  by_cases h3 : k = 3
  · rw [cost_3 hn h3]; omega
  · rw [cost_rw hn (by omega)]
    have h5 := mul_in (a := e) (b := c) 2 40 he.1 he.2 hc.1 hc.2
    have h6 := mul_in (a := m) (b := max (s - h) (h - s)) 2 128 hm.1 hm.2 (by omega) (by omega)
    omega
structure PQ (q : Qu) (k : Int) : Prop where
  d : 1 ≤ q.d ∧ q.d ≤ 8
  h : 0 ≤ q.h ∧ q.h ≤ 128
  f : 0 ≤ q.f ∧ q.f ≤ 1000 + 400 * k
  len : (q.L.length : Int) ≤ q.d
  ids : ∀ x ∈ q.L, 0 ≤ x.f0 ∧ x.f0 < k
  nd : q.L.Pairwise (fun x y => x.f0 ≠ y.f0)
  ends : ∀ x ∈ q.L, x.f7 = -1 ∨ (1 ≤ x.f7 ∧ x.f7 ≤ q.f)
  incr : q.L.Pairwise (fun x y => x.f7 ≠ -1 → y.f7 ≠ -1 → x.f7 < y.f7)
theorem pq_zero {d : Int} (h : 1 ≤ d ∧ d ≤ 8) : PQ ⟨d, 0, 0, []⟩ 0 :=
  ⟨h, ⟨by simp, by simp⟩, ⟨by simp, by simp⟩, by simp; omega, by simp, List.Pairwise.nil, by simp, List.Pairwise.nil⟩
theorem pq_mono {q : Qu} {k : Int} (h : PQ q k) : PQ q (k + 1) :=
  ⟨h.d, h.h, ⟨h.f.1, by have := h.f.2; omega⟩, h.len, fun x hx => by have := h.ids x hx; omega, h.nd, h.ends, h.incr⟩
theorem pq_to {q : Qu} {k m : Int} (h : PQ q k) (hm : k ≤ m) : PQ q m :=
  ⟨h.d, h.h, ⟨h.f.1, by have := h.f.2; omega⟩, h.len, fun x hx => by have := h.ids x hx; omega, h.nd, h.ends, h.incr⟩
structure Cm (c : E39) (k : Int) : Prop where
  id : c.f0 = k
  kind : c.f1 = 1 ∨ c.f1 = 2 ∨ c.f1 = 3
  sec : 0 ≤ c.f2 ∧ c.f2 ≤ 60
  cnt : 0 ≤ c.f3 ∧ c.f3 ≤ 40
  dl : 0 ≤ c.f11 ∧ c.f11 ≤ 5
theorem push_run {q q' : Qu} {b e m now k er : Int} {c : E39} (hp : pushF q b e m now c = (q', er)) (hq : PQ q k) (hk : 0 ≤ k ∧ k ≤ 10) (hc : Cm c k) (hb : 1 ≤ b ∧ b ≤ 4) (he : 0 ≤ e ∧ e ≤ 2) (hm : 0 ≤ m ∧ m ≤ 2) (hn : 0 ≤ now ∧ now ≤ 1000) :
    (q.d ≤ (q.L.length : Int) ∧ er = 3) ∨ (er = 0 ∧ (q.L.length : Int) < q.d ∧ q'.d = q.d ∧ q'.L.length = q.L.length + 1 ∧ PQ q' (k + 1) ∧ (c.f1 ≠ 3 → c.f8 ≠ 11 → q'.h = min (c.f2 + c.f3) 128) ∧ ∃ en, q'.L = q.L ++ [ended c (max now q.f) en] ∧ q'.L[q.L.length]? = some (ended c (max now q.f) en) ∧
      ((c.f8 = 11 ∧ en = -1 ∧ q'.f = q.f) ∨ (c.f8 ≠ 11 ∧ max now q.f < en ∧ q'.f = en ∧ en = max now q.f + costF b e m q.h c.f1 c.f2 c.f3 + c.f11))) := by
  have hcs := cost_small (h := q.h) (s := c.f2) (c := c.f3) (k := c.f1) hb he hm hq.h hc.sec hc.cnt hc.kind
  have h1 := hq.d; have h2 := hq.h; have h3 := hq.f; have h4 := hc.sec; have h5 := hc.cnt; have h6 := hc.kind; have h7 := hc.dl; have h8 := hc.id; have h9 := hq.len
  have hok : okP b e m q.h q.f now c.f1 c.f2 c.f3 c.f11 := by unfold okP; omega
  have hany : q.L.any (fun x => decide (x.f0 = c.f0)) = false := by
    rw [List.any_eq_false]; intro x hx
    have := hq.ids x hx
    simp; omega
  by_cases hfull : min q.d 8 ≤ (q.L.length : Int)
  · rw [push_3 hok hany hfull] at hp
    injection hp with _ hp
    exact .inl ⟨by omega, by omega⟩
  · have step : ∀ (q1 : Qu) (en : Int), q1.d = q.d → (0 ≤ q1.h ∧ q1.h ≤ 128) → q1.L = q.L ++ [ended c (max now q.f) en] → ((en = -1 ∧ q1.f = q.f) ∨ (max now q.f < en ∧ q1.f = en ∧ en ≤ max now q.f + 345)) → PQ q1 (k + 1) ∧ q1.L.length = q.L.length + 1 ∧ q1.L[q.L.length]? = some (ended c (max now q.f) en) := fun q1 en hd hh hL hcase => by
      have hl : q1.L.length = q.L.length + 1 := by rw [hL]; simp
      refine ⟨⟨by omega, hh, by omega, by omega, fun x hx => ?_, ?_, fun x hx => ?_, ?_⟩, hl, by rw [hL]; simp⟩
      · rw [hL] at hx
        rcases List.mem_append.1 hx with hx | hx
        · have := hq.ids x hx; omega
        · simp at hx; subst hx; show 0 ≤ c.f0 ∧ c.f0 < k + 1; omega
      · rw [hL, List.pairwise_append]
        refine ⟨hq.nd, List.pairwise_singleton _ _, fun x hx y hy => ?_⟩
        simp at hy; subst hy
        have := hq.ids x hx
        show x.f0 ≠ c.f0
        omega
      · rw [hL] at hx
        rcases List.mem_append.1 hx with hx | hx
        · have := hq.ends x hx; omega
        · simp at hx; subst hx; show en = -1 ∨ (1 ≤ en ∧ en ≤ q1.f); omega
      · rw [hL, List.pairwise_append]
        refine ⟨hq.incr, List.pairwise_singleton _ _, fun x hx y hy => ?_⟩
        simp at hy; subst hy
        have := hq.ends x hx
        show x.f7 ≠ -1 → en ≠ -1 → x.f7 < en
        intro _ _; omega
    by_cases h11 : c.f8 = 11
    · rw [push_hang hok hany hfull h11] at hp
      injection hp with hp1 hp2; subst hp1
      obtain ⟨a1, a2, a3⟩ := step ⟨q.d, q.h, q.f, q.L ++ [ended c (max now q.f) (-1)]⟩ (-1) rfl h2 rfl (.inl ⟨rfl, rfl⟩)
      by_cases hk3 : c.f1 = 3
      · exact .inr ⟨hp2.symm, by omega, rfl, a2, a1, fun h _ => absurd hk3 h, _, rfl, a3, .inl ⟨h11, rfl, rfl⟩⟩
      · exact .inr ⟨hp2.symm, by omega, rfl, a2, a1, fun _ h => absurd h11 h, _, rfl, a3, .inl ⟨h11, rfl, rfl⟩⟩
    · by_cases hk3 : c.f1 = 3
      · rw [push_fl hok hany hfull h11 hk3] at hp
        injection hp with hp1 hp2; subst hp1
        obtain ⟨a1, a2, a3⟩ := step ⟨q.d, q.h, max now q.f + costF b e m q.h c.f1 c.f2 c.f3 + c.f11, q.L ++ [ended c (max now q.f) (max now q.f + costF b e m q.h c.f1 c.f2 c.f3 + c.f11)]⟩ (max now q.f + costF b e m q.h c.f1 c.f2 c.f3 + c.f11) rfl h2 rfl (.inr ⟨by omega, rfl, by omega⟩)
        exact .inr ⟨hp2.symm, by omega, rfl, a2, a1, fun h _ => absurd hk3 h, _, rfl, a3, .inr ⟨h11, by omega, rfl, rfl⟩⟩
      · rw [push_rw hok hany hfull h11 hk3] at hp
        injection hp with hp1 hp2; subst hp1
        obtain ⟨a1, a2, a3⟩ := step ⟨q.d, min (c.f2 + c.f3) 128, max now q.f + costF b e m q.h c.f1 c.f2 c.f3 + c.f11, q.L ++ [ended c (max now q.f) (max now q.f + costF b e m q.h c.f1 c.f2 c.f3 + c.f11)]⟩ (max now q.f + costF b e m q.h c.f1 c.f2 c.f3 + c.f11) rfl ⟨by show 0 ≤ min (c.f2 + c.f3) 128; omega, by show min (c.f2 + c.f3) 128 ≤ 128; omega⟩ rfl (.inr ⟨by omega, rfl, by omega⟩)
        exact .inr ⟨hp2.symm, by omega, rfl, a2, a1, fun _ _ => rfl, _, rfl, a3, .inr ⟨h11, by omega, rfl, rfl⟩⟩
/-- Done, Next -/
structure Gd (L : List E39) : Prop where
  ends : ∀ x ∈ L, x.f7 = -1 ∨ (1 ≤ x.f7 ∧ x.f7 ≤ 100000)
  incr : L.Pairwise (fun x y => x.f7 ≠ -1 → y.f7 ≠ -1 → x.f7 < y.f7)
def cntE (L : List E39) : Nat := (L.filter (fun x => decide (0 ≤ x.f7))).length
theorem cnt_yes {L : List E39} {k : Nat} {x : E39} (hx : L[k]? = some x) (h : 0 ≤ x.f7) : cntE (L.take (k + 1)) = cntE (L.take k) + 1 := by
  unfold cntE; rw [filter_step hx, if_pos (decide_eq_true h)]; simp
theorem cnt_no {L : List E39} {k : Nat} {x : E39} (hx : L[k]? = some x) (h : ¬ 0 ≤ x.f7) : cntE (L.take (k + 1)) = cntE (L.take k) := by
  unfold cntE; rw [filter_step hx, if_neg (by simpa using h)]; simp
theorem cnt_le (L : List E39) : cntE L ≤ L.length := List.length_filter_le _ _
theorem pq_gd {q : Qu} {k : Int} (h : PQ q k) (hk : k ≤ 10) : Gd q.L := ⟨fun x hx => by have := h.ends x hx; have := h.f; omega, h.incr⟩
theorem next_stay : ∀ {L : List E39} {l : Int}, (∀ x ∈ L, x.f7 = -1 ∨ l < x.f7) → nextF L l true = (l, true)
  | [], _, _ => rfl
  | c :: r, l, h => by
    have hc := h c (by simp)
    unfold nextF
    rw [if_neg (by rintro ⟨h1, h2 | h2⟩; cases h2; omega)]
    exact next_stay (fun x hx => h x (List.mem_cons_of_mem _ hx))
theorem gd_tail {c : E39} {r : List E39} (h : Gd (c :: r)) : Gd r := ⟨fun x hx => h.ends x (List.mem_cons_of_mem _ hx), (List.pairwise_cons.1 h.incr).2⟩
theorem gd_sub {L M : List E39} (h : Gd L) (hs : List.Sublist M L) : Gd M := ⟨fun x hx => h.ends x (hs.subset hx), h.incr.sublist hs⟩
theorem done_cons (c : E39) (r : List E39) (t : Int) : doneF (c :: r) t = if 0 ≤ c.f7 ∧ c.f7 ≤ t then c :: doneF r t else doneF r t := by
  unfold doneF; rw [List.filter_cons]
  by_cases h : 0 ≤ c.f7 ∧ c.f7 ≤ t
  · rw [if_pos (show dueB t c = true from decide_eq_true h), if_pos h]
  · rw [if_neg (by rw [show dueB t c = false from decide_eq_false h]; simp), if_neg h]
theorem rest_cons (c : E39) (r : List E39) (t : Int) : restF (c :: r) t = if 0 ≤ c.f7 ∧ c.f7 ≤ t then restF r t else c :: restF r t := by
  unfold restF; rw [List.filter_cons]
  by_cases h : 0 ≤ c.f7 ∧ c.f7 ≤ t
  · rw [if_neg (by rw [show dueB t c = true from decide_eq_true h]; simp), if_pos h]
  · rw [if_pos (by rw [show dueB t c = false from decide_eq_false h]; rfl), if_neg h]
theorem cnt_cons (c : E39) (r : List E39) : cntE (c :: r) = (if 0 ≤ c.f7 then 1 else 0) + cntE r := by
  unfold cntE; rw [List.filter_cons]
  by_cases h : 0 ≤ c.f7
  · rw [if_pos (decide_eq_true h), if_pos h]; simp; omega
  · rw [if_neg (by simpa using h), if_neg h]; simp
theorem done_none : ∀ {L : List E39} {t : Int}, (∀ x ∈ L, x.f7 = -1 ∨ t < x.f7) → doneF L t = [] ∧ restF L t = L
  | [], _, _ => ⟨rfl, rfl⟩
  | c :: r, t, h => by
    have hc := h c (by simp)
    obtain ⟨h1, h2⟩ := done_none (L := r) (fun x hx => h x (List.mem_cons_of_mem _ hx))
    rw [done_cons, rest_cons, if_neg (by omega), if_neg (by omega), h1, h2]; exact ⟨rfl, rfl⟩
theorem next_spec : ∀ {L : List E39} {l : Int} {fd : Bool}, Gd L → nextF L 0 false = (l, fd) →
    (fd = false ∧ cntE L = 0) ∨ (fd = true ∧ (1 ≤ l ∧ l ≤ 100000) ∧ doneF L (l - 1) = [] ∧ restF L (l - 1) = L ∧ (doneF L l).length = 1 ∧ (∃ x, doneF L l = [x] ∧ x.f7 = l) ∧ cntE (restF L l) + 1 = cntE L ∧ (restF L l).length + 1 = L.length)
  | [], l, fd, _, h => by
    injection h with h1 h2; subst h2; exact .inl ⟨rfl, rfl⟩
  | c :: r, l, fd, hg, h => by
    have hc := hg.ends c (by simp)
    have hp := (List.pairwise_cons.1 hg.incr).1
    unfold nextF at h
    by_cases hn : c.f7 = -1
    · rw [if_neg (by rintro ⟨h1, _⟩; exact h1 hn)] at h
      rcases next_spec (gd_tail hg) h with ⟨h1, h2⟩ | ⟨h1, h2, h3, h4, h5, ⟨x, h6, h7⟩, h8, h9⟩
      · exact .inl ⟨h1, by rw [cnt_cons, if_neg (by omega), h2]⟩
      · refine .inr ⟨h1, h2, ?_, ?_, ?_, ⟨x, ?_, h7⟩, ?_, ?_⟩
        · rw [done_cons, if_neg (by omega), h3]
        · rw [rest_cons, if_neg (by omega), h4]
        · rw [done_cons, if_neg (by omega), h5]
        · rw [done_cons, if_neg (by omega), h6]
        · rw [rest_cons, if_neg (by omega), cnt_cons, cnt_cons, if_neg (by omega)]; omega
        · rw [rest_cons, if_neg (by omega), List.length_cons, List.length_cons, h9]
    · rw [if_pos ⟨hn, .inl rfl⟩] at h
      have hall : ∀ x ∈ r, x.f7 = -1 ∨ c.f7 < x.f7 := fun x hx => by
        have h1 := hg.ends x (List.mem_cons_of_mem _ hx)
        rcases h1 with h1 | h1
        · exact .inl h1
        · exact .inr (hp x hx hn (by omega))
      rw [next_stay hall] at h
      injection h with h1 h2; subst h1 h2
      obtain ⟨d1, d2⟩ := done_none (t := c.f7 - 1) (fun x hx => by have := hall x hx; omega)
      obtain ⟨d3, d4⟩ := done_none hall
      refine .inr ⟨rfl, by omega, ?_, ?_, ?_, ⟨c, ?_, rfl⟩, ?_, ?_⟩
      · rw [done_cons, if_neg (by omega), d1]
      · rw [rest_cons, if_neg (by omega), d2]
      · rw [done_cons, if_pos (by omega), d3]; rfl
      · rw [done_cons, if_pos (by omega), d3]
      · rw [rest_cons, if_pos (by omega), d4, cnt_cons, if_pos (by omega)]; omega
      · rw [rest_cons, if_pos (by omega), d4]; rfl
theorem gd_rest {L : List E39} (h : Gd L) (t : Int) : Gd (restF L t) := gd_sub h List.filter_sublist
/-- Take -/
theorem idx_at {L : List E39} {k : Nat} {x : E39} (hn : L.Pairwise (fun x y => x.f0 ≠ y.f0)) (hx : L[k]? = some x) : idxF (fun y : E39 => decide (y.f0 = x.f0)) L = (k : Int) := by
  refine (idx_hit hx (decide_eq_true rfl) (fun y hy => ?_)).symm
  have hk := (List.getElem?_eq_some_iff.1 hx).1
  obtain ⟨j, hj, rfl⟩ := List.mem_take_iff_getElem.1 hy
  have h2 := List.pairwise_iff_getElem.1 hn j k (by omega) hk (by omega)
  have h3 := (List.getElem?_eq_some_iff.1 hx).2
  rw [h3] at h2
  exact decide_eq_false h2
theorem take_at {L L1 : List E39} {k : Nat} {x y : E39} {b : Bool} (hn : L.Pairwise (fun x y => x.f0 ≠ y.f0)) (hx : L[k]? = some x) (ht : takeF L x.f0 = (L1, y, b)) : L1 = L.take k ++ L.drop (k + 1) ∧ y = x ∧ b = true ∧ L1.length + 1 = L.length := by
  have hk := (List.getElem?_eq_some_iff.1 hx).1
  rw [take_yes (idx_at hn hx) hx] at ht
  injection ht with h1 h2; injection h2 with h2 h3
  refine ⟨h1.symm, h2.symm, h3.symm, ?_⟩
  rw [← h1]; simp; omega
theorem push_len {q q' : Qu} {b e m now er : Int} {c : E39} (hp : pushF q b e m now c = (q', er)) : q'.L.length ≤ q.L.length + 1 := by
  unfold pushF at hp
  split at hp
  · injection hp with hp _; subst hp; simp
  · split at hp
    · injection hp with hp _; subst hp; simp
    · split at hp
      · injection hp with hp _; subst hp; simp
      · split at hp <;> (injection hp with hp _; subst hp; simp)
theorem take_gone {L L1 L2 : List E39} {k : Nat} {x y : E39} {b : Bool} (hL1 : L1 = L.take k ++ L.drop (k + 1)) (hn : L.Pairwise (fun x y => x.f0 ≠ y.f0)) (hx : L[k]? = some x) (ht : takeF L1 x.f0 = (L2, y, b)) : b = false := by
  subst hL1
  have hk := (List.getElem?_eq_some_iff.1 hx).1
  have h3 := (List.getElem?_eq_some_iff.1 hx).2
  have hall : ∀ z ∈ L.take k ++ L.drop (k + 1), (fun y : E39 => decide (y.f0 = x.f0)) z = false := fun z hz => by
    refine decide_eq_false ?_
    rcases List.mem_append.1 hz with hz | hz
    · obtain ⟨j, hj, rfl⟩ := List.mem_take_iff_getElem.1 hz
      have h2 := List.pairwise_iff_getElem.1 hn j k (by omega) hk (by omega)
      rwa [h3] at h2
    · obtain ⟨j, hj, rfl⟩ := List.mem_drop_iff_getElem.1 hz
      have h2 := List.pairwise_iff_getElem.1 hn k (k + 1 + j) hk (by omega) (by omega)
      rw [h3] at h2
      exact fun e => h2 e.symm
  have hi : idxF (fun y : E39 => decide (y.f0 = x.f0)) (L.take k ++ L.drop (k + 1)) = -1 := (idx_none (k := (L.take k ++ L.drop (k + 1)).length) (fun z hz => hall z (List.mem_of_mem_take hz)) (Nat.le_refl _)).symm
  rw [take_no (by omega)] at ht
  injection ht with _ h2; injection h2 with _ h2; exact h2.symm
/-- sums -/
structure Su (q : Qu) (i : Nat) : Prop where
  len : q.L.length = i
  le : ∀ x ∈ q.L, 1 ≤ x.f7 ∧ x.f7 ≤ q.f
  early : i = 0 ∨ (doneF q.L (q.f - 1)).length + 1 = i
theorem done_all : ∀ {L : List E39} {t : Int}, (∀ x ∈ L, 1 ≤ x.f7 ∧ x.f7 ≤ t) → doneF L t = L ∧ restF L t = []
  | [], _, _ => ⟨rfl, rfl⟩
  | c :: r, t, h => by
    have hc := h c (by simp)
    obtain ⟨h1, h2⟩ := done_all (L := r) (fun x hx => h x (List.mem_cons_of_mem _ hx))
    rw [done_cons, rest_cons, if_pos (by omega), if_pos (by omega), h1, h2]; exact ⟨rfl, rfl⟩
theorem su_zero {q : Qu} (h : q.L = []) : Su q 0 := ⟨by rw [h]; rfl, (by rw [h]; simp), .inl rfl⟩
theorem su_push {q q' : Qu} {i : Nat} {c : E39} {bg en : Int} (h : Su q i) (hL : q'.L = q.L ++ [ended c bg en]) (h0 : 1 ≤ en) (hf : q'.f = en) (hlt : q.f < en) : Su q' (i + 1) := by
  refine ⟨by rw [hL]; simp [h.len], fun x hx => ?_, .inr ?_⟩
  · rw [hL] at hx
    rcases List.mem_append.1 hx with hx | hx
    · have := h.le x hx; omega
    · simp at hx; subst hx; show 1 ≤ en ∧ en ≤ q'.f; omega
  · have h1 : doneF q'.L (q'.f - 1) = q.L := by
      rw [hL, hf]
      have h2 : doneF (q.L ++ [ended c bg en]) (en - 1) = doneF q.L (en - 1) ++ doneF [ended c bg en] (en - 1) := List.filter_append ..
      rw [h2, (done_all (t := en - 1) (fun x hx => by have := h.le x hx; omega)).1, done_cons, if_neg (by show ¬ (0 ≤ en ∧ en ≤ en - 1); omega)]
      show q.L ++ [] = q.L
      simp
    rw [h1, h.len]
theorem su_done {q : Qu} {i : Nat} {F : Int} (h : Su q i) (hF : 0 < i → q.f = F) : (doneF q.L F).length = q.L.length ∧ (restF q.L F).length = 0 ∧ (q.L.length = 0 ∨ (doneF q.L (F - 1)).length + 1 = q.L.length) := by
  have hl := h.len
  rcases Nat.eq_zero_or_pos i with h0 | h0
  · have hn : q.L = [] := List.eq_nil_of_length_eq_zero (by omega)
    rw [hn]; exact ⟨rfl, rfl, .inl rfl⟩
  · have hf := hF h0
    obtain ⟨h1, h2⟩ := done_all (t := F) (fun x hx => by have := h.le x hx; omega)
    rw [h1, h2]
    refine ⟨rfl, rfl, .inr ?_⟩
    rcases h.early with h3 | h3
    · omega
    · rw [hf] at h3; omega
theorem cost_law {b e m h s c d : Int} (hb : 1 ≤ b ∧ b ≤ 4) (he : 0 ≤ e ∧ e ≤ 2) (hm : 0 ≤ m ∧ m ≤ 2) (hh : 0 ≤ h ∧ h < 60) (hs : 0 ≤ s ∧ s < 60) (hc : 0 ≤ c ∧ c < 20) (hd : c ≤ d ∧ d < 40) :
    b ≤ costF b e m h 1 s c ∧ costF b e m h 1 s c ≤ costF b e m h 1 s d ∧ costF b e m s 2 h c = costF b e m h 1 s c ∧ costF b e m h 3 s c = b ∧ costF b e m h 1 s d - costF b e m h 1 s c = e * (d - c) ∧ (0 ≤ e * (d - c) ∧ e * (d - c) ≤ 80) ∧ costF b e m h 1 s d ≤ 340 := by
  have hn : ∀ h s c : Int, 0 ≤ h ∧ h < 60 → 0 ≤ s ∧ s < 60 → 0 ≤ c ∧ c < 40 → ((1 ≤ b ∧ b ≤ 1000) ∧ (0 ≤ e ∧ e ≤ 1000) ∧ (0 ≤ m ∧ m ≤ 1000)) ∧ (0 ≤ h ∧ h ≤ 128) ∧ (0 ≤ s ∧ s ≤ 128) ∧ (0 ≤ c ∧ c ≤ 128) := fun h s c h1 h2 h3 => by omega
  have h5 := cost_small (h := h) (s := s) (c := d) (k := 1) hb he hm (by omega) (by omega) (by omega) (.inl rfl)
  rw [cost_rw (hn h s d hh hs (by omega)) (.inl rfl)] at h5
  rw [cost_rw (hn h s c hh hs (by omega)) (.inl rfl), cost_rw (hn h s d hh hs (by omega)) (.inl rfl), cost_rw (hn s h c hs hh (by omega)) (.inr rfl), cost_3 (hn h s c hh hs (by omega)) rfl]
  have h1 := mul_in (a := e) (b := c) 2 20 he.1 he.2 hc.1 (by omega)
  have h2 := mul_in (a := m) (b := max (s - h) (h - s)) 2 128 hm.1 hm.2 (by omega) (by omega)
  have h3 := mul_in (a := e) (b := d - c) 2 40 he.1 he.2 (by omega) (by omega)
  have h4 : e * d = e * c + e * (d - c) := by rw [← Int.mul_add]; congr 1; omega
  rw [Int.max_comm (h - s) (s - h)]
  refine ⟨by omega, by omega, rfl, rfl, by omega, by omega, by omega⟩

end Go.Proofs.Ytjjjmpkmjicpbaa

/- walks, printed by wip/gen -/
import Derived.Test.YtglooclndbfhgaaW5
namespace Go.Proofs.Ytglooclndbfhgaa
open Go.RowKit
set_option linter.unusedVariables false
set_option linter.unusedSimpArgs false


def rng : Int → Nat → List Int
  | _, 0 => []
  | a, n + 1 => a :: rng (a + 1) n
theorem rng_len : ∀ (n : Nat) (a : Int), (rng a n).length = n
  | 0, _ => rfl
  | n + 1, a => by simp [rng, rng_len n]
theorem rng_app : ∀ (n m : Nat) (a : Int), rng a n ++ rng (a + n) m = rng a (n + m)
  | 0, m, a => by simp [rng]
  | n + 1, m, a => by
    rw [show n + 1 + m = (n + m) + 1 by omega]
    simp only [rng, List.cons_append, List.cons.injEq, true_and]
    rw [← rng_app n m (a + 1)]
    congr 2; omega
theorem rng_get : ∀ (n k : Nat) (a x : Int), (rng a n)[k]? = some x → x = a + k ∧ k < n
  | 0, k, a, x, h => by simp [rng] at h
  | n + 1, 0, a, x, h => by simp [rng] at h; subst h; simp
  | n + 1, k + 1, a, x, h => by
    simp [rng] at h
    obtain ⟨h1, h2⟩ := rng_get n k (a + 1) x h
    exact ⟨by omega, by omega⟩
def RInv (W R : List Int) (b : Bool) (asked rode begun : Int) (i : Nat) : Prop :=
  R = rng rode R.length ∧ W = rng (rode + R.length) W.length ∧ asked = rode + R.length + W.length ∧ (b = true → begun = rode + R.length) ∧ (b = false → R = []) ∧ 0 ≤ rode ∧ asked ≤ i ∧ i ≤ 30
theorem RInv.bounds {W R : List Int} {b : Bool} {asked rode begun : Int} {i : Nat} (h : RInv W R b asked rode begun i) : W.length ≤ 30 ∧ R.length ≤ 30 ∧ 0 ≤ rode ∧ rode ≤ 30 ∧ 0 ≤ asked ∧ asked ≤ 30 ∧ asked = rode + R.length + W.length ∧ i ≤ 30 := by
  obtain ⟨_, _, h3, _, _, h6, h7, h8⟩ := h
  omega
theorem RInv.ask {W R : List Int} {b : Bool} {asked rode begun : Int} {i : Nat} (h : RInv W R b asked rode begun i) (hi : i < 30) : RInv (W ++ [asked]) R b (asked + 1) rode begun (i + 1) := by
  obtain ⟨h1, h2, h3, h4, h5, h6, h7, h8⟩ := h
  refine ⟨h1, ?_, by simp; omega, h4, h5, h6, by omega, by omega⟩
  rw [List.length_append, List.length_singleton, ← rng_app, ← h2, ← h3]
  rfl
theorem RInv.next {W R : List Int} {b : Bool} {asked rode begun : Int} {i : Nat} (h : RInv W R b asked rode begun i) (hi : i < 30) : RInv W R b asked rode begun (i + 1) := by
  obtain ⟨h1, h2, h3, h4, h5, h6, h7, h8⟩ := h
  exact ⟨h1, h2, h3, h4, h5, h6, by omega, by omega⟩
theorem RInv.begOk {W R : List Int} {b : Bool} {asked rode begun : Int} {i : Nat} (h : RInv W R b asked rode begun i) : (begF W R b).2.2.2 = (!b && decide (rode < asked)) := by
  obtain ⟨h1, h2, h3, h4, h5, h6, h7, h8⟩ := h
  unfold begF
  cases b with
  | true => simp
  | false =>
    have := h5 rfl
    subst this
    cases W with
    | nil => simp at h3 ⊢; omega
    | cons x r => simp at h3 ⊢; omega
theorem RInv.beg {W R : List Int} {b : Bool} {asked rode begun : Int} {i : Nat} (h : RInv W R b asked rode begun i) (hi : i < 30) : RInv (begF W R b).1 (begF W R b).2.1 (begF W R b).2.2.1 asked rode (if (begF W R b).2.2.2 = true then asked else begun) (i + 1) := by
  have h0 := h
  obtain ⟨h1, h2, h3, h4, h5, h6, h7, h8⟩ := h
  unfold begF
  split
  · simpa using h0.next hi
  · rename_i hn
    have hb : b = false := by
      cases b with
      | true => exact absurd (.inl rfl) hn
      | false => rfl
    subst hb
    have := h5 rfl
    subst this
    simp at h2 h3
    refine ⟨by simpa using h2, by simp [rng], by simp; omega, by simp; omega, by simp, h6, by omega, by omega⟩
theorem RInv.fin {W R : List Int} {b : Bool} {asked rode begun : Int} {i : Nat} (h : RInv W R b asked rode begun i) (hi : i < 30) : RInv (endF W R b).1 (endF W R b).2.1 false asked (rode + (endF W R b).2.2.length) begun (i + 1) := by
  obtain ⟨h1, h2, h3, h4, h5, h6, h7, h8⟩ := h
  cases b with
  | true => exact ⟨by simp [endF, rng], by simpa [endF] using h2, by simp [endF]; omega, by simp, by simp [endF], by simp [endF]; omega, by omega, by omega⟩
  | false =>
    have := h5 rfl
    subst this
    exact ⟨by simp [endF, rng], by simpa [endF] using h2, by simp [endF]; simpa using h3, by simp, by simp [endF], by simp [endF]; omega, by omega, by omega⟩
theorem RInv.rode {W R : List Int} {b : Bool} {asked rode begun : Int} {i k : Nat} {x : Int} (h : RInv W R b asked rode begun i) (hx : (endF W R b).2.2[k]? = some x) : x = rode + k ∧ x < begun := by
  obtain ⟨h1, h2, h3, h4, h5, h6, h7, h8⟩ := h
  cases b with
  | true =>
    simp [endF] at hx
    rw [h1] at hx
    obtain ⟨h9, h10⟩ := rng_get _ _ _ _ hx
    have := h4 rfl
    exact ⟨h9, by omega⟩
  | false => simp [endF] at hx
theorem RInv.done {W R : List Int} {b : Bool} {asked rode begun : Int} {i : Nat} (h : RInv W R b asked rode begun i) : b = true → rode + (endF W R b).2.2.length = begun := by
  intro e
  obtain ⟨h1, h2, h3, h4, h5, h6, h7, h8⟩ := h
  subst e
  simp [endF]; exact (h4 rfl).symm
theorem RInv.idle {W R : List Int} {b : Bool} (hb : b = false) : ((endF W R b).2.2.length : Int) = 0 := by subst hb; rfl

theorem ridesLaw_any (v : Value) (L : List Int) (w0 : World) (hv : Rd w0 1 v (L).length (cells encI (L))) (hL : L.length ≤ maxLen) :
    Fn Try.prog 5 #[v] w0 (fun v w' => v = .bool true ∧ Sat w0 w' []) := by
  simp only [maxLen] at hL
  obtain ⟨Av, cv, rfl⟩ := Rd.form hv
  refine c_enter (N := 115) (l := [_]) Try.func5 rfl rfl (fun a w hF hS => ?_)
  replace hS := hS.addRo hv
  refine c_seq ?_
  refine c_region ?_
  refine seq_yl hF (wn_none rfl) rfl rfl (yl_assign hF rfl rfl) ?_
  clear hF; intro a hF
  refine wpList_nil ?_
  refine then_n ?_
  refine c_seq ?_
  refine c_region ?_
  refine seq_wp (wn_none rfl) (wp_alloc (cs := #[_, _, _]) hF hS rfl rfl rfl zr24 rfl ?_)
  clear hF hS; intro a w g201 hF hS
  refine wpList_nil ?_
  refine then_n ?_
  refine c_seq ?_
  refine c_region ?_
  refine seq_yl hF (wn_none rfl) rfl rfl (yl_assign hF rfl rfl) ?_
  clear hF; intro a hF
  refine seq_yl hF (wn_none rfl) rfl rfl (yl_assign hF rfl rfl) ?_
  clear hF; intro a hF
  refine wpList_nil ?_
  refine then_n ?_
  refine c_seq ?_
  refine c_region ?_
  refine seq_yl hF (wn_none rfl) rfl rfl (yl_assign hF rfl rfl) ?_
  clear hF; intro a hF
  refine wpList_nil ?_
  refine then_n ?_
  refine c_seq ?_
  refine c_seq ?_
  refine c_region ?_
  refine seq_yl hF (wn_none rfl) rfl rfl (yl_assign hF rfl rfl) ?_
  clear hF; intro a hF
  refine wpList_nil ?_
  refine then_n ?_
  refine wp_block ?_
  replace hS := hS.addNil 3 1
  replace hS := hS.addNil 3 1
  refine c_loop (fun m a w => ∃ (i : Nat) (W R : List Int) (b : Bool) (asked rode begun : Int) (AvW AvR : Option Addr) (cvW cvR : Nat), m = 30 - i ∧ (RInv W R b asked rode begun i) ∧ Fr 115 a [(0, .slice Av (L).length cv), (3, .pointer (some ⟨g201, 0, none⟩)), (4, .int .i64 (asked)), (5, .int .i64 (rode)), (6, .int .i64 (begun)), (7, .int .i64 ((i : Nat) : Int))] ∧ Sat w0 w [.ro 1 (.slice Av (L).length cv) (L).length (cells encI (L)), .box g201 24 #[.slice AvW (W).length cvW, .slice AvR (R).length cvR, .bool b], .row 3 1 (.slice AvW (W).length cvW) (W).length (cells encI (W)), .row 3 1 (.slice AvR (R).length cvR) (R).length (cells encI (R))]) (30 - 0) ?_ ?_
  · exact ⟨0, [], [], false, 0, 0, -1, none, none, 0, 0, rfl, ⟨by simp [rng], by simp [rng], by simp, by simp, by simp, by simp, by simp, by simp⟩, hF.to [0, 3, 4, 5, 6, 7] rfl, (hS.sub [3, 2, 1, 0] (by decide) rfl (by simp))⟩
  · clear hF hS a w; rintro m a w ⟨i, W, R, b, asked, rode, begun, AvW, AvR, cvW, cvR, rfl, hinv, hF, hS⟩
    have hbd := hinv.bounds
    refine c_seq ?_
    refine c_seq ?_
    refine c_region ?_
    refine seq_yl hF (wn_none rfl) rfl rfl (yl_move hF rfl rfl) ?_
    clear hF; intro a hF
    refine seq_yl hF (wn_none rfl) rfl rfl (yl_move hF rfl rfl) ?_
    clear hF; intro a hF
    refine seq_yl hF (wn_none rfl) rfl rfl (yl_len hF rfl rfl (fun _ => run_lenRd sl22 (hS.rdRo 0 rfl))) ?_
    clear hF; intro a hF
    refine seq_yl hF (wn_none rfl) rfl rfl (yl_bin hF rfl rfl rfl rfl (fun _ => run_lss)) ?_
    clear hF; intro a hF
    refine seq_yl hF (wn_none rfl) rfl rfl (yl_move hF rfl rfl) ?_
    clear hF; intro a hF
    refine fr_split hF (fun hc202 hF => ?_) (fun hc202 hF => ?_)
    · first | (replace hc202 := of_decide_eq_true hc202) | (replace hc202 := bnot_t hc202) | skip
      refine seq_yl hF (wn_t hF rfl rfl rfl rfl) rfl rfl (yl_move hF rfl rfl) ?_
      clear hF; intro a hF
      refine seq_yl hF (wn_t hF rfl rfl rfl rfl) rfl rfl (yl_bin hF rfl rfl rfl rfl (fun _ => run_lss)) ?_
      clear hF; intro a hF
      refine seq_yl hF (wn_none rfl) rfl rfl (yl_pick (u := _) (v := undef) hF rfl rfl (fun _ => rfl) (fun h => by cases h)) ?_
      clear hF; intro a hF
      refine wpList_nil ?_
      refine then_n ?_
      refine c_cond hF rfl (fun hc203 => ?_) (fun hc203 => ?_)
      · first | (replace hc203 := of_decide_eq_true hc203) | (replace hc203 := bnot_t hc203) | skip
        refine wp_skip ?_
        refine then_n ?_
        refine c_seq ?_
        refine wp_block ?_
        refine c_seq ?_
        refine c_region ?_
        refine seq_yl hF (wn_none rfl) rfl rfl (yl_move hF rfl rfl) ?_
        clear hF; intro a hF
        refine seq_yl hF (wn_none rfl) rfl rfl (yl_move hF rfl rfl) ?_
        clear hF; intro a hF
        have hlt_hx204 : i < (L).length := by first | omega | (simp; done) | (simp; omega)
        obtain ⟨ad205, rfl⟩ := rd_some (hS.rdRo 0 rfl) hlt_hx204
        obtain ⟨x204, hx204⟩ := get_some hlt_hx204
        refine seq_yl hF (wn_none rfl) rfl rfl (yl_indexAddr hF rfl rfl rfl (fun _ => run_idx sl22 sz3 hlt_hx204)) ?_
        clear hF; intro a hF
        refine seq_yl hF (wn_none rfl) rfl rfl (yl_loadAt hF rfl rfl ag3 (fun _ h => rd_cell0 (by subst h; exact hS.rdRo 0 rfl) encI_len hx204 rfl rfl)) ?_
        clear hF; intro a hF
        have hr206 := rnd_bounds (x204) (3) (by omega)
        refine seq_wp (wn_none rfl) (wp_call (vs := [_, _]) hF rfl rfl rfl rfl cf17 (round_any (x204) (3) _ (by omega)) ?_)
        clear hF; rintro _ w ⟨rfl, hS1⟩ a hF
        replace hS := hS.callB hS1 rfl; clear hS1
        refine wpList_nil ?_
        refine then_n ?_
        refine wp_block ?_
        refine c_seq ?_
        refine c_region ?_
        refine seq_yl hF (wn_none rfl) rfl rfl (yl_bin hF rfl rfl rfl rfl (fun _ => run_eql)) ?_
        clear hF; intro a hF
        refine seq_yl hF (wn_none rfl) rfl rfl (yl_assign hF rfl rfl) ?_
        clear hF; intro a hF
        refine wpList_nil ?_
        refine then_n ?_
        refine c_cond hF rfl (fun hc207 => ?_) (fun hc207 => ?_)
        · first | (replace hc207 := of_decide_eq_true hc207) | (replace hc207 := bnot_t hc207) | skip
          refine c_seq ?_
          refine c_region ?_
          refine seq_yl hF (wn_none rfl) rfl rfl (yl_loadK (rs := [_, _, _]) (fun _ h => h ▸ hS) hF rfl rfl 1 rfl ag24 sz24 rfl rfl) ?_
          clear hF; intro a hF
          refine seq_yl hF (wn_none rfl) rfl rfl (yl_move hF rfl rfl) ?_
          clear hF; intro a hF
          refine seq_wp (wn_none rfl) (wp_call (vs := [_, _]) hF rfl rfl rfl rfl cf14 (ask_any _ _ _ _ _ _ _ (hS.rdRow 2 rfl) (hS.rdRow 3 rfl) (by first | omega | decide | (simp only [List.length_append, List.length_cons, List.length_nil]; omega)) (by first | omega | decide | (simp only [List.length_append, List.length_cons, List.length_nil]; omega))) ?_)
          clear hF; rintro _ w ⟨v208, v209, rfl, hS1⟩ a hF
          replace hS := hS.callB hS1 rfl; clear hS1
          obtain ⟨Av208, cv208, rfl⟩ := hS.form 0 rfl
          obtain ⟨Av209, cv209, rfl⟩ := hS.form 1 rfl
          refine seq_wp (wn_none rfl) (wp_store (cs' := #[_, _, _]) hF hS rfl rfl rfl rfl 3 rfl sz24 (by simp [Value.cells, Value.oneCell']) (by simp [Value.cells]) rfl ?_)
          clear hF hS; intro a w hF hS
          refine wpList_nil ?_
          refine then_n ?_
          refine c_region ?_
          refine seq_yl hF (wn_none rfl) rfl rfl (yl_move hF rfl rfl) ?_
          clear hF; intro a hF
          refine seq_yl hF (wn_none rfl) rfl rfl (yl_bin hF rfl rfl rfl rfl (fun _ => run_add (by refine ⟨?_, ?_⟩ <;> omega))) ?_
          clear hF; intro a hF
          refine seq_yl hF (wn_none rfl) rfl rfl (yl_assign hF rfl rfl) ?_
          clear hF; intro a hF
          refine wpList_nil ?_
          refine inb_n ?_
          refine inb_n ?_
          refine then_n ?_
          refine c_region ?_
          refine seq_yl hF (wn_none rfl) rfl rfl (yl_move hF rfl rfl) ?_
          clear hF; intro a hF
          refine seq_yl hF (wn_none rfl) rfl rfl (yl_bin hF rfl rfl rfl rfl (fun _ => run_inc (by omega))) ?_
          clear hF; intro a hF
          refine seq_yl hF (wn_none rfl) rfl rfl (yl_assign hF rfl rfl) ?_
          clear hF; intro a hF
          refine wpList_nil ?_
          refine then_n ?_
          exact ⟨_, (by omega), i + 1, W ++ [asked], R, b, ((asked) + (1)), rode, begun, _, _, _, _, rfl, hinv.ask (by omega), hF.to [0, 3, 4, 5, 6, 7] rfl, (hS.sub [2, 3, 0, 1] (by decide) rfl (by simp))⟩
        · first | (replace hc207 := of_decide_eq_false hc207) | (replace hc207 := bnot_f hc207) | skip
          refine c_seq ?_
          refine c_region ?_
          refine seq_yl hF (wn_none rfl) rfl rfl (yl_bin hF rfl rfl rfl rfl (fun _ => run_eql)) ?_
          clear hF; intro a hF
          refine seq_yl hF (wn_none rfl) rfl rfl (yl_assign hF rfl rfl) ?_
          clear hF; intro a hF
          refine wpList_nil ?_
          refine then_n ?_
          refine c_cond hF rfl (fun hc210 => ?_) (fun hc210 => ?_)
          · first | (replace hc210 := of_decide_eq_true hc210) | (replace hc210 := bnot_t hc210) | skip
            refine c_seq ?_
            refine c_region ?_
            refine seq_yl hF (wn_none rfl) rfl rfl (yl_loadK (rs := [_, _, _]) (fun _ h => h ▸ hS) hF rfl rfl 1 rfl ag24 sz24 rfl rfl) ?_
            clear hF; intro a hF
            refine seq_wp (wn_none rfl) (wp_call (vs := [_]) hF rfl rfl rfl rfl cf6 (begin_any _ _ _ _ _ _ (hS.rdRow 2 rfl) (hS.rdRow 3 rfl) (by first | omega | decide | (simp only [List.length_append, List.length_cons, List.length_nil]; omega)) (by first | omega | decide | (simp only [List.length_append, List.length_cons, List.length_nil]; omega))) ?_)
            clear hF; rintro _ w ⟨v211, v212, rfl, hS1⟩ a hF
            replace hS := hS.callB hS1 rfl; clear hS1
            obtain ⟨Av211, cv211, rfl⟩ := hS.form 0 rfl
            obtain ⟨Av212, cv212, rfl⟩ := hS.form 1 rfl
            refine seq_yl hF (wn_none rfl) rfl rfl (yl_move hF rfl rfl) ?_
            clear hF; intro a hF
            refine seq_yl hF (wn_none rfl) rfl rfl (yl_extract hF rfl rfl rfl) ?_
            clear hF; intro a hF
            refine seq_yl hF (wn_none rfl) rfl rfl (yl_extract hF rfl rfl rfl) ?_
            clear hF; intro a hF
            refine seq_wp (wn_none rfl) (wp_alloc (cs := #[_, _, _]) hF hS rfl rfl rfl zr24 rfl ?_)
            clear hF hS; intro a w g213 hF hS
            refine seq_wp (wn_none rfl) (wp_store (cs' := #[_, _, _]) hF hS rfl rfl rfl rfl 0 rfl sz24 (by simp [Value.cells, Value.oneCell']) (by simp [Value.cells]) rfl ?_)
            clear hF hS; intro a w hF hS
            refine seq_yl hF (wn_none rfl) rfl rfl (yl_assign hF rfl rfl) ?_
            clear hF; intro a hF
            refine wpList_nil ?_
            refine then_n ?_
            refine c_seq ?_
            refine c_seq ?_
            refine c_region ?_
            refine seq_yl hF (wn_none rfl) rfl rfl (yl_move hF rfl rfl) ?_
            clear hF; intro a hF
            refine seq_yl hF (wn_none rfl) rfl rfl (yl_fieldAddr hF rfl rfl (fun w => by kernel_rfl : ∀ w, (Instr.fieldAt 24 (.pointer (some ⟨g201, 0, none⟩)) 2).run Try.prog w = .ok (.pointer (some ⟨g201, 2, none⟩)) w)) ?_
            clear hF; intro a hF
            refine seq_yl hF (wn_none rfl) rfl rfl (yl_load (fun _ h => h ▸ hS) hF rfl rfl 4 rfl ag4 rfl) ?_
            clear hF; intro a hF
            refine seq_yl hF (wn_none rfl) rfl rfl (yl_un hF rfl rfl (fun _ => run_not)) ?_
            clear hF; intro a hF
            refine seq_yl hF (wn_none rfl) rfl rfl (yl_move hF rfl rfl) ?_
            clear hF; intro a hF
            refine fr_split hF (fun hc214 hF => ?_) (fun hc214 hF => ?_)
            · first | (replace hc214 := of_decide_eq_true hc214) | (replace hc214 := bnot_t hc214) | skip
              refine seq_yl hF (wn_t hF rfl rfl rfl rfl) rfl rfl (yl_move hF rfl rfl) ?_
              clear hF; intro a hF
              refine seq_yl hF (wn_t hF rfl rfl rfl rfl) rfl rfl (yl_move hF rfl rfl) ?_
              clear hF; intro a hF
              refine seq_yl hF (wn_t hF rfl rfl rfl rfl) rfl rfl (yl_bin hF rfl rfl rfl rfl (fun _ => run_gtr)) ?_
              clear hF; intro a hF
              refine seq_yl hF (wn_none rfl) rfl rfl (yl_pick (u := _) (v := undef) hF rfl rfl (fun _ => rfl) (fun h => by cases h)) ?_
              clear hF; intro a hF
              refine seq_yl hF (wn_none rfl) rfl rfl (yl_bin hF rfl rfl rfl rfl (fun _ => run_neb Try.underlying4)) ?_
              clear hF; intro a hF
              replace hF := fr_set (b' := false) hF (by rw [hinv.begOk]; first | (rw [(by assumption : b = false)]; simp; done) | (rw [(by assumption : b = true)]; simp; done))
              refine wpList_nil ?_
              refine then_n ?_
              refine c_cond_f hF rfl ?_
              refine wp_skip ?_
              refine then_n ?_
              refine c_seq ?_
              refine c_seq ?_
              refine c_region ?_
              refine seq_yl hF (wn_none rfl) rfl rfl (yl_move hF rfl rfl) ?_
              clear hF; intro a hF
              refine wpList_nil ?_
              refine then_n ?_
              refine c_cond hF rfl (fun hc215 => ?_) (fun hc215 => ?_)
              · first | (replace hc215 := of_decide_eq_true hc215) | (replace hc215 := bnot_t hc215) | skip
                refine c_region ?_
                refine seq_yl hF (wn_none rfl) rfl rfl (yl_move hF rfl rfl) ?_
                clear hF; intro a hF
                refine seq_yl hF (wn_none rfl) rfl rfl (yl_assign hF rfl rfl) ?_
                clear hF; intro a hF
                refine wpList_nil ?_
                refine then_n ?_
                refine c_region ?_
                refine seq_yl hF (wn_none rfl) rfl rfl (yl_loadK (rs := [_, _, _]) (fun _ h => h ▸ hS) hF rfl rfl 0 rfl ag24 sz24 rfl rfl) ?_
                clear hF; intro a hF
                refine seq_wp (wn_none rfl) (wp_store (cs' := #[_, _, _]) hF hS rfl rfl rfl rfl 4 rfl sz24 (by simp [Value.cells, Value.oneCell']) (by simp [Value.cells]) rfl ?_)
                clear hF hS; intro a w hF hS
                refine wpList_nil ?_
                refine inb_n ?_
                refine inb_n ?_
                refine then_n ?_
                refine c_region ?_
                refine seq_yl hF (wn_none rfl) rfl rfl (yl_move hF rfl rfl) ?_
                clear hF; intro a hF
                refine seq_yl hF (wn_none rfl) rfl rfl (yl_bin hF rfl rfl rfl rfl (fun _ => run_inc (by omega))) ?_
                clear hF; intro a hF
                refine seq_yl hF (wn_none rfl) rfl rfl (yl_assign hF rfl rfl) ?_
                clear hF; intro a hF
                refine wpList_nil ?_
                refine then_n ?_
                exact ⟨_, (by omega), i + 1, (begF (W) (R) b).1, (begF (W) (R) b).2.1, (begF (W) (R) b).2.2.1, asked, rode, asked, _, _, _, _, rfl, (by have h9 := hinv.beg (by omega); rwa [if_pos (by assumption)] at h9), hF.to [0, 3, 4, 5, 6, 7] rfl, (hS.sub [3, 4, 1, 2] (by decide) rfl (by simp))⟩
              · first | (replace hc215 := of_decide_eq_false hc215) | (replace hc215 := bnot_f hc215) | skip
                refine wp_skip ?_
                refine then_n ?_
                refine c_region ?_
                refine seq_yl hF (wn_none rfl) rfl rfl (yl_loadK (rs := [_, _, _]) (fun _ h => h ▸ hS) hF rfl rfl 0 rfl ag24 sz24 rfl rfl) ?_
                clear hF; intro a hF
                refine seq_wp (wn_none rfl) (wp_store (cs' := #[_, _, _]) hF hS rfl rfl rfl rfl 4 rfl sz24 (by simp [Value.cells, Value.oneCell']) (by simp [Value.cells]) rfl ?_)
                clear hF hS; intro a w hF hS
                refine wpList_nil ?_
                refine inb_n ?_
                refine inb_n ?_
                refine then_n ?_
                refine c_region ?_
                refine seq_yl hF (wn_none rfl) rfl rfl (yl_move hF rfl rfl) ?_
                clear hF; intro a hF
                refine seq_yl hF (wn_none rfl) rfl rfl (yl_bin hF rfl rfl rfl rfl (fun _ => run_inc (by omega))) ?_
                clear hF; intro a hF
                refine seq_yl hF (wn_none rfl) rfl rfl (yl_assign hF rfl rfl) ?_
                clear hF; intro a hF
                refine wpList_nil ?_
                refine then_n ?_
                exact ⟨_, (by omega), i + 1, (begF (W) (R) b).1, (begF (W) (R) b).2.1, (begF (W) (R) b).2.2.1, asked, rode, begun, _, _, _, _, rfl, (by have h9 := hinv.beg (by omega); rwa [if_neg (by rw [(by assumption : (begF W R b).2.2.2 = false)]; simp)] at h9), hF.to [0, 3, 4, 5, 6, 7] rfl, (hS.sub [3, 4, 1, 2] (by decide) rfl (by simp))⟩
            · first | (replace hc214 := of_decide_eq_false hc214) | (replace hc214 := bnot_f hc214) | skip
              refine seq_skip hF (wn_f hF rfl rfl rfl rfl) rfl rfl ?_
              clear hF; intro a hF
              refine seq_skip hF (wn_f hF rfl rfl rfl rfl) rfl rfl ?_
              clear hF; intro a hF
              refine seq_skip hF (wn_f hF rfl rfl rfl rfl) rfl rfl ?_
              clear hF; intro a hF
              refine seq_yl hF (wn_none rfl) rfl rfl (yl_pick (u := _) (v := undef) hF rfl rfl (fun h => by cases h) (fun _ => rfl)) ?_
              clear hF; intro a hF
              refine seq_yl hF (wn_none rfl) rfl rfl (yl_bin hF rfl rfl rfl rfl (fun _ => run_neb Try.underlying4)) ?_
              clear hF; intro a hF
              replace hF := fr_set (b' := false) hF (by rw [hinv.begOk]; first | (rw [(by assumption : b = false)]; simp; done) | (rw [(by assumption : b = true)]; simp; done))
              refine wpList_nil ?_
              refine then_n ?_
              refine c_cond_f hF rfl ?_
              refine wp_skip ?_
              refine then_n ?_
              refine c_seq ?_
              refine c_seq ?_
              refine c_region ?_
              refine seq_yl hF (wn_none rfl) rfl rfl (yl_move hF rfl rfl) ?_
              clear hF; intro a hF
              refine wpList_nil ?_
              refine then_n ?_
              refine c_cond hF rfl (fun hc216 => ?_) (fun hc216 => ?_)
              · first | (replace hc216 := of_decide_eq_true hc216) | (replace hc216 := bnot_t hc216) | skip
                refine c_region ?_
                refine seq_yl hF (wn_none rfl) rfl rfl (yl_move hF rfl rfl) ?_
                clear hF; intro a hF
                refine seq_yl hF (wn_none rfl) rfl rfl (yl_assign hF rfl rfl) ?_
                clear hF; intro a hF
                refine wpList_nil ?_
                refine then_n ?_
                refine c_region ?_
                refine seq_yl hF (wn_none rfl) rfl rfl (yl_loadK (rs := [_, _, _]) (fun _ h => h ▸ hS) hF rfl rfl 0 rfl ag24 sz24 rfl rfl) ?_
                clear hF; intro a hF
                refine seq_wp (wn_none rfl) (wp_store (cs' := #[_, _, _]) hF hS rfl rfl rfl rfl 4 rfl sz24 (by simp [Value.cells, Value.oneCell']) (by simp [Value.cells]) rfl ?_)
                clear hF hS; intro a w hF hS
                refine wpList_nil ?_
                refine inb_n ?_
                refine inb_n ?_
                refine then_n ?_
                refine c_region ?_
                refine seq_yl hF (wn_none rfl) rfl rfl (yl_move hF rfl rfl) ?_
                clear hF; intro a hF
                refine seq_yl hF (wn_none rfl) rfl rfl (yl_bin hF rfl rfl rfl rfl (fun _ => run_inc (by omega))) ?_
                clear hF; intro a hF
                refine seq_yl hF (wn_none rfl) rfl rfl (yl_assign hF rfl rfl) ?_
                clear hF; intro a hF
                refine wpList_nil ?_
                refine then_n ?_
                exact ⟨_, (by omega), i + 1, (begF (W) (R) b).1, (begF (W) (R) b).2.1, (begF (W) (R) b).2.2.1, asked, rode, asked, _, _, _, _, rfl, (by have h9 := hinv.beg (by omega); rwa [if_pos (by assumption)] at h9), hF.to [0, 3, 4, 5, 6, 7] rfl, (hS.sub [3, 4, 1, 2] (by decide) rfl (by simp))⟩
              · first | (replace hc216 := of_decide_eq_false hc216) | (replace hc216 := bnot_f hc216) | skip
                refine wp_skip ?_
                refine then_n ?_
                refine c_region ?_
                refine seq_yl hF (wn_none rfl) rfl rfl (yl_loadK (rs := [_, _, _]) (fun _ h => h ▸ hS) hF rfl rfl 0 rfl ag24 sz24 rfl rfl) ?_
                clear hF; intro a hF
                refine seq_wp (wn_none rfl) (wp_store (cs' := #[_, _, _]) hF hS rfl rfl rfl rfl 4 rfl sz24 (by simp [Value.cells, Value.oneCell']) (by simp [Value.cells]) rfl ?_)
                clear hF hS; intro a w hF hS
                refine wpList_nil ?_
                refine inb_n ?_
                refine inb_n ?_
                refine then_n ?_
                refine c_region ?_
                refine seq_yl hF (wn_none rfl) rfl rfl (yl_move hF rfl rfl) ?_
                clear hF; intro a hF
                refine seq_yl hF (wn_none rfl) rfl rfl (yl_bin hF rfl rfl rfl rfl (fun _ => run_inc (by omega))) ?_
                clear hF; intro a hF
                refine seq_yl hF (wn_none rfl) rfl rfl (yl_assign hF rfl rfl) ?_
                clear hF; intro a hF
                refine wpList_nil ?_
                refine then_n ?_
                exact ⟨_, (by omega), i + 1, (begF (W) (R) b).1, (begF (W) (R) b).2.1, (begF (W) (R) b).2.2.1, asked, rode, begun, _, _, _, _, rfl, (by have h9 := hinv.beg (by omega); rwa [if_neg (by rw [(by assumption : (begF W R b).2.2.2 = false)]; simp)] at h9), hF.to [0, 3, 4, 5, 6, 7] rfl, (hS.sub [3, 4, 1, 2] (by decide) rfl (by simp))⟩
          · first | (replace hc210 := of_decide_eq_false hc210) | (replace hc210 := bnot_f hc210) | skip
            refine c_seq ?_
            refine c_region ?_
            refine seq_yl hF (wn_none rfl) rfl rfl (yl_fieldAddr hF rfl rfl (fun w => by kernel_rfl : ∀ w, (Instr.fieldAt 24 (.pointer (some ⟨g201, 0, none⟩)) 2).run Try.prog w = .ok (.pointer (some ⟨g201, 2, none⟩)) w)) ?_
            clear hF; intro a hF
            refine seq_yl hF (wn_none rfl) rfl rfl (yl_load (fun _ h => h ▸ hS) hF rfl rfl 1 rfl ag4 rfl) ?_
            clear hF; intro a hF
            refine seq_yl hF (wn_none rfl) rfl rfl (yl_assign hF rfl rfl) ?_
            clear hF; intro a hF
            refine wpList_nil ?_
            refine then_n ?_
            refine c_seq ?_
            refine c_region ?_
            refine seq_yl hF (wn_none rfl) rfl rfl (yl_loadK (rs := [_, _, _]) (fun _ h => h ▸ hS) hF rfl rfl 1 rfl ag24 sz24 rfl rfl) ?_
            clear hF; intro a hF
            refine seq_wp (wn_none rfl) (wp_call (vs := [_]) hF rfl rfl rfl rfl cf8 (end_any _ _ _ _ _ _ (hS.rdRow 2 rfl) (hS.rdRow 3 rfl) (by first | omega | decide | (simp only [List.length_append, List.length_cons, List.length_nil]; omega)) (by first | omega | decide | (simp only [List.length_append, List.length_cons, List.length_nil]; omega))) ?_)
            clear hF; rintro _ w ⟨v217, v218, v219, rfl, hS1⟩ a hF
            replace hS := hS.callB hS1 rfl; clear hS1
            obtain ⟨Av217, cv217, rfl⟩ := hS.form 0 rfl
            obtain ⟨Av218, cv218, rfl⟩ := hS.form 1 rfl
            obtain ⟨Av219, cv219, rfl⟩ := hS.form 2 rfl
            refine seq_yl hF (wn_none rfl) rfl rfl (yl_move hF rfl rfl) ?_
            clear hF; intro a hF
            refine seq_yl hF (wn_none rfl) rfl rfl (yl_extract hF rfl rfl rfl) ?_
            clear hF; intro a hF
            refine seq_yl hF (wn_none rfl) rfl rfl (yl_extract hF rfl rfl rfl) ?_
            clear hF; intro a hF
            refine seq_wp (wn_none rfl) (wp_alloc (cs := #[_, _, _]) hF hS rfl rfl rfl zr24 rfl ?_)
            clear hF hS; intro a w g220 hF hS
            refine seq_wp (wn_none rfl) (wp_store (cs' := #[_, _, _]) hF hS rfl rfl rfl rfl 0 rfl sz24 (by simp [Value.cells, Value.oneCell']) (by simp [Value.cells]) rfl ?_)
            clear hF hS; intro a w hF hS
            refine seq_yl hF (wn_none rfl) rfl rfl (yl_assign hF rfl rfl) ?_
            clear hF; intro a hF
            refine wpList_nil ?_
            refine then_n ?_
            refine c_seq ?_
            refine c_seq ?_
            refine c_region ?_
            refine seq_yl hF (wn_none rfl) rfl rfl (yl_assign hF rfl rfl) ?_
            clear hF; intro a hF
            refine wpList_nil ?_
            refine then_n ?_
            refine wp_block ?_
            have hel := endF_len W R b
            refine c_loop (fun m a w => ∃ (k : Nat) (q : Int), m = (endF W R b).2.2.length - k ∧ (k ≤ (endF W R b).2.2.length ∧ q = rode + k) ∧ Fr 115 a [(0, .slice (some ad205) (L).length cv), (3, .pointer (some ⟨g201, 0, none⟩)), (4, .int .i64 (asked)), (5, .int .i64 (q)), (6, .int .i64 (begun)), (7, .int .i64 ((i : Nat) : Int)), (10, .bool b), (11, .pointer (some ⟨g220, 0, none⟩)), (12, .slice Av219 ((endF (W) (R) b).2.2).length cv219), (13, .int .i64 ((k : Nat) : Int))] ∧ Sat w0 w [.ro 1 (.slice (some ad205) (L).length cv) (L).length (cells encI (L)), .box g201 24 #[.slice AvW (W).length cvW, .slice AvR (R).length cvR, .bool b], .row 3 1 (.slice AvW (W).length cvW) (W).length (cells encI (W)), .row 3 1 (.slice AvR (R).length cvR) (R).length (cells encI (R)), .box g220 24 #[.slice Av217 ((endF (W) (R) b).1).length cv217, .slice Av218 ((endF (W) (R) b).2.1).length cv218, .bool false], .row 3 1 (.slice Av217 ((endF (W) (R) b).1).length cv217) ((endF (W) (R) b).1).length (cells encI ((endF (W) (R) b).1)), .row 3 1 (.slice Av218 ((endF (W) (R) b).2.1).length cv218) ((endF (W) (R) b).2.1).length (cells encI ((endF (W) (R) b).2.1)), .row 3 1 (.slice Av219 ((endF (W) (R) b).2.2).length cv219) ((endF (W) (R) b).2.2).length (cells encI ((endF (W) (R) b).2.2))]) ((endF W R b).2.2.length - 0) ?_ ?_
            · exact ⟨0, rode, rfl, ⟨Nat.zero_le _, by simp⟩, hF.to [0, 3, 4, 5, 6, 7, 10, 11, 12, 13] rfl, (hS.sub [4, 5, 6, 7, 0, 1, 2, 3] (by decide) rfl (by simp))⟩
            · clear hF hS a w; rintro m a w ⟨k, q, rfl, hinv, hF, hS⟩
              have hinv2 := hinv
              clear hinv
              rename RInv _ _ _ _ _ _ _ => hinv
              have hk2 := hinv2.1
              have hq2 := hinv2.2
              refine c_seq ?_
              refine c_seq ?_
              refine c_region ?_
              refine seq_yl hF (wn_none rfl) rfl rfl (yl_move hF rfl rfl) ?_
              clear hF; intro a hF
              refine seq_yl hF (wn_none rfl) rfl rfl (yl_move hF rfl rfl) ?_
              clear hF; intro a hF
              refine seq_yl hF (wn_none rfl) rfl rfl (yl_len hF rfl rfl (fun _ => run_lenRd sl22 (hS.rdRow 7 rfl))) ?_
              clear hF; intro a hF
              refine seq_yl hF (wn_none rfl) rfl rfl (yl_bin hF rfl rfl rfl rfl (fun _ => run_lss)) ?_
              clear hF; intro a hF
              refine wpList_nil ?_
              refine then_n ?_
              refine c_cond hF rfl (fun hc221 => ?_) (fun hc221 => ?_)
              · first | (replace hc221 := of_decide_eq_true hc221) | (replace hc221 := bnot_t hc221) | skip
                refine wp_skip ?_
                refine then_n ?_
                refine c_seq ?_
                refine wp_block ?_
                refine c_seq ?_
                refine c_seq ?_
                refine c_region ?_
                refine seq_yl hF (wn_none rfl) rfl rfl (yl_move hF rfl rfl) ?_
                clear hF; intro a hF
                refine seq_yl hF (wn_none rfl) rfl rfl (yl_move hF rfl rfl) ?_
                clear hF; intro a hF
                have hlt_hx222 : k < ((endF (W) (R) b).2.2).length := by first | omega | (simp; done) | (simp; omega)
                obtain ⟨ad223, rfl⟩ := rd_some (hS.rdRow 7 rfl) hlt_hx222
                obtain ⟨x222, hx222⟩ := get_some hlt_hx222
                refine seq_yl hF (wn_none rfl) rfl rfl (yl_indexAddr hF rfl rfl rfl (fun _ => run_idx sl22 sz3 hlt_hx222)) ?_
                clear hF; intro a hF
                refine seq_yl hF (wn_none rfl) rfl rfl (yl_loadAt hF rfl rfl ag3 (fun _ h => rd_cell0 (by subst h; exact hS.rdRow 7 rfl) encI_len hx222 rfl rfl)) ?_
                clear hF; intro a hF
                refine seq_yl hF (wn_none rfl) rfl rfl (yl_move hF rfl rfl) ?_
                clear hF; intro a hF
                refine seq_yl hF (wn_none rfl) rfl rfl (yl_bin hF rfl rfl rfl rfl (fun _ => run_neq)) ?_
                clear hF; intro a hF
                replace hF := fr_set (b' := false) hF (by have h9 := hinv.rode hx222; simp; omega)
                refine seq_yl hF (wn_none rfl) rfl rfl (yl_move hF rfl rfl) ?_
                clear hF; intro a hF
                refine seq_yl hF (wn_t hF rfl rfl rfl rfl) rfl rfl (yl_move hF rfl rfl) ?_
                clear hF; intro a hF
                refine seq_yl hF (wn_t hF rfl rfl rfl rfl) rfl rfl (yl_move hF rfl rfl) ?_
                clear hF; intro a hF
                refine seq_yl hF (wn_t hF rfl rfl rfl rfl) rfl rfl (yl_indexAddr hF rfl rfl rfl (fun _ => run_idx sl22 sz3 hlt_hx222)) ?_
                clear hF; intro a hF
                refine seq_yl hF (wn_t hF rfl rfl rfl rfl) rfl rfl (yl_loadAt hF rfl rfl ag3 (fun _ h => rd_cell0 (by subst h; exact hS.rdRow 7 rfl) encI_len hx222 rfl rfl)) ?_
                clear hF; intro a hF
                refine seq_yl hF (wn_t hF rfl rfl rfl rfl) rfl rfl (yl_move hF rfl rfl) ?_
                clear hF; intro a hF
                refine seq_yl hF (wn_t hF rfl rfl rfl rfl) rfl rfl (yl_bin hF rfl rfl rfl rfl (fun _ => run_geq)) ?_
                clear hF; intro a hF
                replace hF := fr_set (b' := false) hF (by have h9 := hinv.rode hx222; simp; omega)
                refine seq_yl hF (wn_none rfl) rfl rfl (yl_pick (u := _) (v := undef) hF rfl rfl (fun h => by cases h) (fun _ => rfl)) ?_
                clear hF; intro a hF
                refine wpList_nil ?_
                refine then_n ?_
                refine c_cond_f hF rfl ?_
                refine wp_skip ?_
                refine then_n ?_
                refine c_region ?_
                refine seq_yl hF (wn_none rfl) rfl rfl (yl_move hF rfl rfl) ?_
                clear hF; intro a hF
                refine seq_yl hF (wn_none rfl) rfl rfl (yl_bin hF rfl rfl rfl rfl (fun _ => run_add (by refine ⟨?_, ?_⟩ <;> omega))) ?_
                clear hF; intro a hF
                refine seq_yl hF (wn_none rfl) rfl rfl (yl_assign hF rfl rfl) ?_
                clear hF; intro a hF
                refine wpList_nil ?_
                refine inb_n ?_
                refine then_n ?_
                refine c_region ?_
                refine seq_yl hF (wn_none rfl) rfl rfl (yl_move hF rfl rfl) ?_
                clear hF; intro a hF
                refine seq_yl hF (wn_none rfl) rfl rfl (yl_bin hF rfl rfl rfl rfl (fun _ => run_inc (by omega))) ?_
                clear hF; intro a hF
                refine seq_yl hF (wn_none rfl) rfl rfl (yl_assign hF rfl rfl) ?_
                clear hF; intro a hF
                refine wpList_nil ?_
                refine then_n ?_
                exact ⟨_, (by omega), k + 1, _, rfl, ⟨by omega, by omega⟩, hF.to [0, 3, 4, 5, 6, 7, 10, 11, 12, 13] rfl, (hS.sub [0, 1, 2, 3, 4, 5, 6, 7] (by decide) rfl (by simp))⟩
              · first | (replace hc221 := of_decide_eq_false hc221) | (replace hc221 := bnot_f hc221) | skip
                refine wp_exit ?_
                refine then_x ?_
                refine then_x ?_
                refine inb_x ?_
                refine then_n ?_
                refine c_seq ?_
                refine c_seq ?_
                refine c_region ?_
                refine seq_yl hF (wn_none rfl) rfl rfl (yl_move hF rfl rfl) ?_
                clear hF; intro a hF
                refine seq_yl hF (wn_none rfl) rfl rfl (yl_move hF rfl rfl) ?_
                clear hF; intro a hF
                refine fr_split hF (fun hc224 hF => ?_) (fun hc224 hF => ?_)
                · first | (replace hc224 := of_decide_eq_true hc224) | (replace hc224 := bnot_t hc224) | skip
                  refine seq_yl hF (wn_t hF rfl rfl rfl rfl) rfl rfl (yl_move hF rfl rfl) ?_
                  clear hF; intro a hF
                  refine seq_yl hF (wn_t hF rfl rfl rfl rfl) rfl rfl (yl_move hF rfl rfl) ?_
                  clear hF; intro a hF
                  refine seq_yl hF (wn_t hF rfl rfl rfl rfl) rfl rfl (yl_bin hF rfl rfl rfl rfl (fun _ => run_neq)) ?_
                  clear hF; intro a hF
                  replace hF := fr_set (b' := false) hF (by have h9 := hinv.done (by assumption); simp; omega)
                  refine seq_yl hF (wn_none rfl) rfl rfl (yl_pick (u := _) (v := undef) hF rfl rfl (fun _ => rfl) (fun h => by cases h)) ?_
                  clear hF; intro a hF
                  refine seq_yl hF (wn_none rfl) rfl rfl (yl_move hF rfl rfl) ?_
                  clear hF; intro a hF
                  refine seq_yl hF (wn_t hF rfl rfl rfl rfl) rfl rfl (yl_move hF rfl rfl) ?_
                  clear hF; intro a hF
                  refine seq_yl hF (wn_t hF rfl rfl rfl rfl) rfl rfl (yl_un hF rfl rfl (fun _ => run_not)) ?_
                  clear hF; intro a hF
                  refine seq_yl hF (wn_t hF rfl rfl rfl rfl) rfl rfl (yl_move hF rfl rfl) ?_
                  clear hF; intro a hF
                  refine fr_split hF (fun hc225 hF => ?_) (fun hc225 hF => ?_)
                  · first | (replace hc225 := of_decide_eq_true hc225) | (replace hc225 := bnot_t hc225) | skip
                    refine seq_yl hF (wn_t hF rfl rfl rfl rfl) rfl rfl (yl_move hF rfl rfl) ?_
                    clear hF; intro a hF
                    refine seq_yl hF (wn_t hF rfl rfl rfl rfl) rfl rfl (yl_len hF rfl rfl (fun _ => run_lenRd sl22 (hS.rdRow 7 rfl))) ?_
                    clear hF; intro a hF
                    refine seq_yl hF (wn_t hF rfl rfl rfl rfl) rfl rfl (yl_bin hF rfl rfl rfl rfl (fun _ => run_neq)) ?_
                    clear hF; intro a hF
                    replace hF := fr_set (b' := false) hF (by first | (exfalso; simp_all; done) | (have h9 := RInv.idle (W := W) (R := R) (b := b) (by assumption); simp only [h9]; rfl))
                    refine seq_yl hF (wn_t hF rfl rfl rfl rfl) rfl rfl (yl_pick (u := _) (v := undef) hF rfl rfl (fun _ => rfl) (fun h => by cases h)) ?_
                    clear hF; intro a hF
                    refine seq_yl hF (wn_none rfl) rfl rfl (yl_pick (u := _) (v := undef) hF rfl rfl (fun h => by cases h) (fun _ => rfl)) ?_
                    clear hF; intro a hF
                    refine wpList_nil ?_
                    refine then_n ?_
                    refine c_cond_f hF rfl ?_
                    refine wp_skip ?_
                    refine then_n ?_
                    refine c_region ?_
                    refine seq_yl hF (wn_none rfl) rfl rfl (yl_loadK (rs := [_, _, _]) (fun _ h => h ▸ hS) hF rfl rfl 4 rfl ag24 sz24 rfl rfl) ?_
                    clear hF; intro a hF
                    refine seq_wp (wn_none rfl) (wp_store (cs' := #[_, _, _]) hF hS rfl rfl rfl rfl 1 rfl sz24 (by simp [Value.cells, Value.oneCell']) (by simp [Value.cells]) rfl ?_)
                    clear hF hS; intro a w hF hS
                    refine wpList_nil ?_
                    refine inb_n ?_
                    refine inb_n ?_
                    refine then_n ?_
                    refine c_region ?_
                    refine seq_yl hF (wn_none rfl) rfl rfl (yl_move hF rfl rfl) ?_
                    clear hF; intro a hF
                    refine seq_yl hF (wn_none rfl) rfl rfl (yl_bin hF rfl rfl rfl rfl (fun _ => run_inc (by omega))) ?_
                    clear hF; intro a hF
                    refine seq_yl hF (wn_none rfl) rfl rfl (yl_assign hF rfl rfl) ?_
                    clear hF; intro a hF
                    refine wpList_nil ?_
                    refine then_n ?_
                    exact ⟨_, (by omega), i + 1, (endF (W) (R) b).1, (endF (W) (R) b).2.1, false, asked, q, begun, _, _, _, _, rfl, (by have h9 := hinv.fin (by omega); rw [show (q : Int) = rode + ((endF W R b).2.2.length : Nat) by omega]; exact h9), hF.to [0, 3, 4, 5, 6, 7] rfl, (hS.sub [0, 1, 5, 6] (by decide) rfl (by simp))⟩
                  · first | (replace hc225 := of_decide_eq_false hc225) | (replace hc225 := bnot_f hc225) | skip
                    refine seq_skip hF (wn_f hF rfl rfl rfl rfl) rfl rfl ?_
                    clear hF; intro a hF
                    refine seq_skip hF (wn_f hF rfl rfl rfl rfl) rfl rfl ?_
                    clear hF; intro a hF
                    refine seq_skip hF (wn_f hF rfl rfl rfl rfl) rfl rfl ?_
                    clear hF; intro a hF
                    refine seq_yl hF (wn_t hF rfl rfl rfl rfl) rfl rfl (yl_pick (u := _) (v := undef) hF rfl rfl (fun h => by cases h) (fun _ => rfl)) ?_
                    clear hF; intro a hF
                    refine seq_yl hF (wn_none rfl) rfl rfl (yl_pick (u := _) (v := undef) hF rfl rfl (fun h => by cases h) (fun _ => rfl)) ?_
                    clear hF; intro a hF
                    refine wpList_nil ?_
                    refine then_n ?_
                    refine c_cond_f hF rfl ?_
                    refine wp_skip ?_
                    refine then_n ?_
                    refine c_region ?_
                    refine seq_yl hF (wn_none rfl) rfl rfl (yl_loadK (rs := [_, _, _]) (fun _ h => h ▸ hS) hF rfl rfl 4 rfl ag24 sz24 rfl rfl) ?_
                    clear hF; intro a hF
                    refine seq_wp (wn_none rfl) (wp_store (cs' := #[_, _, _]) hF hS rfl rfl rfl rfl 1 rfl sz24 (by simp [Value.cells, Value.oneCell']) (by simp [Value.cells]) rfl ?_)
                    clear hF hS; intro a w hF hS
                    refine wpList_nil ?_
                    refine inb_n ?_
                    refine inb_n ?_
                    refine then_n ?_
                    refine c_region ?_
                    refine seq_yl hF (wn_none rfl) rfl rfl (yl_move hF rfl rfl) ?_
                    clear hF; intro a hF
                    refine seq_yl hF (wn_none rfl) rfl rfl (yl_bin hF rfl rfl rfl rfl (fun _ => run_inc (by omega))) ?_
                    clear hF; intro a hF
                    refine seq_yl hF (wn_none rfl) rfl rfl (yl_assign hF rfl rfl) ?_
                    clear hF; intro a hF
                    refine wpList_nil ?_
                    refine then_n ?_
                    exact ⟨_, (by omega), i + 1, (endF (W) (R) b).1, (endF (W) (R) b).2.1, false, asked, q, begun, _, _, _, _, rfl, (by have h9 := hinv.fin (by omega); rw [show (q : Int) = rode + ((endF W R b).2.2.length : Nat) by omega]; exact h9), hF.to [0, 3, 4, 5, 6, 7] rfl, (hS.sub [0, 1, 5, 6] (by decide) rfl (by simp))⟩
                · first | (replace hc224 := of_decide_eq_false hc224) | (replace hc224 := bnot_f hc224) | skip
                  refine seq_skip hF (wn_f hF rfl rfl rfl rfl) rfl rfl ?_
                  clear hF; intro a hF
                  refine seq_skip hF (wn_f hF rfl rfl rfl rfl) rfl rfl ?_
                  clear hF; intro a hF
                  refine seq_skip hF (wn_f hF rfl rfl rfl rfl) rfl rfl ?_
                  clear hF; intro a hF
                  refine seq_yl hF (wn_none rfl) rfl rfl (yl_pick (u := _) (v := undef) hF rfl rfl (fun h => by cases h) (fun _ => rfl)) ?_
                  clear hF; intro a hF
                  refine seq_yl hF (wn_none rfl) rfl rfl (yl_move hF rfl rfl) ?_
                  clear hF; intro a hF
                  refine seq_yl hF (wn_t hF rfl rfl rfl rfl) rfl rfl (yl_move hF rfl rfl) ?_
                  clear hF; intro a hF
                  refine seq_yl hF (wn_t hF rfl rfl rfl rfl) rfl rfl (yl_un hF rfl rfl (fun _ => run_not)) ?_
                  clear hF; intro a hF
                  refine seq_yl hF (wn_t hF rfl rfl rfl rfl) rfl rfl (yl_move hF rfl rfl) ?_
                  clear hF; intro a hF
                  refine fr_split hF (fun hc226 hF => ?_) (fun hc226 hF => ?_)
                  · first | (replace hc226 := of_decide_eq_true hc226) | (replace hc226 := bnot_t hc226) | skip
                    refine seq_yl hF (wn_t hF rfl rfl rfl rfl) rfl rfl (yl_move hF rfl rfl) ?_
                    clear hF; intro a hF
                    refine seq_yl hF (wn_t hF rfl rfl rfl rfl) rfl rfl (yl_len hF rfl rfl (fun _ => run_lenRd sl22 (hS.rdRow 7 rfl))) ?_
                    clear hF; intro a hF
                    refine seq_yl hF (wn_t hF rfl rfl rfl rfl) rfl rfl (yl_bin hF rfl rfl rfl rfl (fun _ => run_neq)) ?_
                    clear hF; intro a hF
                    replace hF := fr_set (b' := false) hF (by first | (exfalso; simp_all; done) | (have h9 := RInv.idle (W := W) (R := R) (b := b) (by assumption); simp only [h9]; rfl))
                    refine seq_yl hF (wn_t hF rfl rfl rfl rfl) rfl rfl (yl_pick (u := _) (v := undef) hF rfl rfl (fun _ => rfl) (fun h => by cases h)) ?_
                    clear hF; intro a hF
                    refine seq_yl hF (wn_none rfl) rfl rfl (yl_pick (u := _) (v := undef) hF rfl rfl (fun h => by cases h) (fun _ => rfl)) ?_
                    clear hF; intro a hF
                    refine wpList_nil ?_
                    refine then_n ?_
                    refine c_cond_f hF rfl ?_
                    refine wp_skip ?_
                    refine then_n ?_
                    refine c_region ?_
                    refine seq_yl hF (wn_none rfl) rfl rfl (yl_loadK (rs := [_, _, _]) (fun _ h => h ▸ hS) hF rfl rfl 4 rfl ag24 sz24 rfl rfl) ?_
                    clear hF; intro a hF
                    refine seq_wp (wn_none rfl) (wp_store (cs' := #[_, _, _]) hF hS rfl rfl rfl rfl 1 rfl sz24 (by simp [Value.cells, Value.oneCell']) (by simp [Value.cells]) rfl ?_)
                    clear hF hS; intro a w hF hS
                    refine wpList_nil ?_
                    refine inb_n ?_
                    refine inb_n ?_
                    refine then_n ?_
                    refine c_region ?_
                    refine seq_yl hF (wn_none rfl) rfl rfl (yl_move hF rfl rfl) ?_
                    clear hF; intro a hF
                    refine seq_yl hF (wn_none rfl) rfl rfl (yl_bin hF rfl rfl rfl rfl (fun _ => run_inc (by omega))) ?_
                    clear hF; intro a hF
                    refine seq_yl hF (wn_none rfl) rfl rfl (yl_assign hF rfl rfl) ?_
                    clear hF; intro a hF
                    refine wpList_nil ?_
                    refine then_n ?_
                    exact ⟨_, (by omega), i + 1, (endF (W) (R) b).1, (endF (W) (R) b).2.1, false, asked, q, begun, _, _, _, _, rfl, (by have h9 := hinv.fin (by omega); rw [show (q : Int) = rode + ((endF W R b).2.2.length : Nat) by omega]; exact h9), hF.to [0, 3, 4, 5, 6, 7] rfl, (hS.sub [0, 1, 5, 6] (by decide) rfl (by simp))⟩
                  · first | (replace hc226 := of_decide_eq_false hc226) | (replace hc226 := bnot_f hc226) | skip
                    refine seq_skip hF (wn_f hF rfl rfl rfl rfl) rfl rfl ?_
                    clear hF; intro a hF
                    refine seq_skip hF (wn_f hF rfl rfl rfl rfl) rfl rfl ?_
                    clear hF; intro a hF
                    refine seq_skip hF (wn_f hF rfl rfl rfl rfl) rfl rfl ?_
                    clear hF; intro a hF
                    refine seq_yl hF (wn_t hF rfl rfl rfl rfl) rfl rfl (yl_pick (u := _) (v := undef) hF rfl rfl (fun h => by cases h) (fun _ => rfl)) ?_
                    clear hF; intro a hF
                    refine seq_yl hF (wn_none rfl) rfl rfl (yl_pick (u := _) (v := undef) hF rfl rfl (fun h => by cases h) (fun _ => rfl)) ?_
                    clear hF; intro a hF
                    refine wpList_nil ?_
                    refine then_n ?_
                    refine c_cond_f hF rfl ?_
                    refine wp_skip ?_
                    refine then_n ?_
                    refine c_region ?_
                    refine seq_yl hF (wn_none rfl) rfl rfl (yl_loadK (rs := [_, _, _]) (fun _ h => h ▸ hS) hF rfl rfl 4 rfl ag24 sz24 rfl rfl) ?_
                    clear hF; intro a hF
                    refine seq_wp (wn_none rfl) (wp_store (cs' := #[_, _, _]) hF hS rfl rfl rfl rfl 1 rfl sz24 (by simp [Value.cells, Value.oneCell']) (by simp [Value.cells]) rfl ?_)
                    clear hF hS; intro a w hF hS
                    refine wpList_nil ?_
                    refine inb_n ?_
                    refine inb_n ?_
                    refine then_n ?_
                    refine c_region ?_
                    refine seq_yl hF (wn_none rfl) rfl rfl (yl_move hF rfl rfl) ?_
                    clear hF; intro a hF
                    refine seq_yl hF (wn_none rfl) rfl rfl (yl_bin hF rfl rfl rfl rfl (fun _ => run_inc (by omega))) ?_
                    clear hF; intro a hF
                    refine seq_yl hF (wn_none rfl) rfl rfl (yl_assign hF rfl rfl) ?_
                    clear hF; intro a hF
                    refine wpList_nil ?_
                    refine then_n ?_
                    exact ⟨_, (by omega), i + 1, (endF (W) (R) b).1, (endF (W) (R) b).2.1, false, asked, q, begun, _, _, _, _, rfl, (by have h9 := hinv.fin (by omega); rw [show (q : Int) = rode + ((endF W R b).2.2.length : Nat) by omega]; exact h9), hF.to [0, 3, 4, 5, 6, 7] rfl, (hS.sub [0, 1, 5, 6] (by decide) rfl (by simp))⟩
      · first | (replace hc203 := of_decide_eq_false hc203) | (replace hc203 := bnot_f hc203) | skip
        refine wp_exit ?_
        refine then_x ?_
        refine then_x ?_
        refine inb_x ?_
        refine then_n ?_
        refine c_seq ?_
        refine c_region ?_
        refine seq_yl hF (wn_none rfl) rfl rfl (yl_fieldAddr hF rfl rfl (fun w => by kernel_rfl : ∀ w, (Instr.fieldAt 24 (.pointer (some ⟨g201, 0, none⟩)) 0).run Try.prog w = .ok (.pointer (some ⟨g201, 0, none⟩)) w)) ?_
        clear hF; intro a hF
        refine seq_yl hF (wn_none rfl) rfl rfl (yl_load (fun _ h => h ▸ hS) hF rfl rfl 1 rfl ag22 rfl) ?_
        clear hF; intro a hF
        refine seq_yl hF (wn_none rfl) rfl rfl (yl_len hF rfl rfl (fun _ => run_lenRd sl22 (hS.rdRow 2 rfl))) ?_
        clear hF; intro a hF
        refine seq_yl hF (wn_none rfl) rfl rfl (yl_fieldAddr hF rfl rfl (fun w => by kernel_rfl : ∀ w, (Instr.fieldAt 24 (.pointer (some ⟨g201, 0, none⟩)) 1).run Try.prog w = .ok (.pointer (some ⟨g201, 1, none⟩)) w)) ?_
        clear hF; intro a hF
        refine seq_yl hF (wn_none rfl) rfl rfl (yl_load (fun _ h => h ▸ hS) hF rfl rfl 1 rfl ag22 rfl) ?_
        clear hF; intro a hF
        refine seq_yl hF (wn_none rfl) rfl rfl (yl_len hF rfl rfl (fun _ => run_lenRd sl22 (hS.rdRow 3 rfl))) ?_
        clear hF; intro a hF
        refine seq_yl hF (wn_none rfl) rfl rfl (yl_bin hF rfl rfl rfl rfl (fun _ => run_add (by refine ⟨?_, ?_⟩ <;> omega))) ?_
        clear hF; intro a hF
        refine seq_yl hF (wn_none rfl) rfl rfl (yl_move hF rfl rfl) ?_
        clear hF; intro a hF
        refine seq_yl hF (wn_none rfl) rfl rfl (yl_move hF rfl rfl) ?_
        clear hF; intro a hF
        refine seq_yl hF (wn_none rfl) rfl rfl (yl_bin hF rfl rfl rfl rfl (fun _ => run_sub (by refine ⟨?_, ?_⟩ <;> omega))) ?_
        clear hF; intro a hF
        refine seq_yl hF (wn_none rfl) rfl rfl (yl_bin hF rfl rfl rfl rfl (fun _ => run_eql)) ?_
        clear hF; intro a hF
        replace hF := fr_set (b' := true) hF (by simp; omega)
        refine seq_yl hF (wn_none rfl) rfl rfl (yl_move hF rfl rfl) ?_
        clear hF; intro a hF
        refine seq_wp (wn_t hF rfl rfl rfl rfl) (wp_call (vs := []) hF rfl rfl rfl rfl cf16 (awake_any _) ?_)
        clear hF; rintro _ w ⟨rfl, hS1⟩ a hF
        replace hS := hS.callB hS1 rfl; clear hS1
        refine seq_yl hF (wn_none rfl) rfl rfl (yl_pick (u := _) (v := undef) hF rfl rfl (fun _ => rfl) (fun h => by cases h)) ?_
        clear hF; intro a hF
        refine seq_yl hF (wn_none rfl) rfl rfl (yl_assign hF rfl rfl) ?_
        clear hF; intro a hF
        refine wpList_nil ?_
        refine then_n ?_
        refine wp_ret ?_
        refine ret_t hF rfl rfl ?_
        exact ⟨_, rfl, rfl, (hS.sub [] (by decide) rfl (by simp))⟩
    · first | (replace hc202 := of_decide_eq_false hc202) | (replace hc202 := bnot_f hc202) | skip
      refine seq_skip hF (wn_f hF rfl rfl rfl rfl) rfl rfl ?_
      clear hF; intro a hF
      refine seq_skip hF (wn_f hF rfl rfl rfl rfl) rfl rfl ?_
      clear hF; intro a hF
      refine seq_yl hF (wn_none rfl) rfl rfl (yl_pick (u := _) (v := undef) hF rfl rfl (fun h => by cases h) (fun _ => rfl)) ?_
      clear hF; intro a hF
      refine wpList_nil ?_
      refine then_n ?_
      refine c_cond_f hF rfl ?_
      refine wp_exit ?_
      refine then_x ?_
      refine then_x ?_
      refine inb_x ?_
      refine then_n ?_
      refine c_seq ?_
      refine c_region ?_
      refine seq_yl hF (wn_none rfl) rfl rfl (yl_fieldAddr hF rfl rfl (fun w => by kernel_rfl : ∀ w, (Instr.fieldAt 24 (.pointer (some ⟨g201, 0, none⟩)) 0).run Try.prog w = .ok (.pointer (some ⟨g201, 0, none⟩)) w)) ?_
      clear hF; intro a hF
      refine seq_yl hF (wn_none rfl) rfl rfl (yl_load (fun _ h => h ▸ hS) hF rfl rfl 1 rfl ag22 rfl) ?_
      clear hF; intro a hF
      refine seq_yl hF (wn_none rfl) rfl rfl (yl_len hF rfl rfl (fun _ => run_lenRd sl22 (hS.rdRow 2 rfl))) ?_
      clear hF; intro a hF
      refine seq_yl hF (wn_none rfl) rfl rfl (yl_fieldAddr hF rfl rfl (fun w => by kernel_rfl : ∀ w, (Instr.fieldAt 24 (.pointer (some ⟨g201, 0, none⟩)) 1).run Try.prog w = .ok (.pointer (some ⟨g201, 1, none⟩)) w)) ?_
      clear hF; intro a hF
      refine seq_yl hF (wn_none rfl) rfl rfl (yl_load (fun _ h => h ▸ hS) hF rfl rfl 1 rfl ag22 rfl) ?_
      clear hF; intro a hF
      refine seq_yl hF (wn_none rfl) rfl rfl (yl_len hF rfl rfl (fun _ => run_lenRd sl22 (hS.rdRow 3 rfl))) ?_
      clear hF; intro a hF
      refine seq_yl hF (wn_none rfl) rfl rfl (yl_bin hF rfl rfl rfl rfl (fun _ => run_add (by refine ⟨?_, ?_⟩ <;> omega))) ?_
      clear hF; intro a hF
      refine seq_yl hF (wn_none rfl) rfl rfl (yl_move hF rfl rfl) ?_
      clear hF; intro a hF
      refine seq_yl hF (wn_none rfl) rfl rfl (yl_move hF rfl rfl) ?_
      clear hF; intro a hF
      refine seq_yl hF (wn_none rfl) rfl rfl (yl_bin hF rfl rfl rfl rfl (fun _ => run_sub (by refine ⟨?_, ?_⟩ <;> omega))) ?_
      clear hF; intro a hF
      refine seq_yl hF (wn_none rfl) rfl rfl (yl_bin hF rfl rfl rfl rfl (fun _ => run_eql)) ?_
      clear hF; intro a hF
      replace hF := fr_set (b' := true) hF (by simp; omega)
      refine seq_yl hF (wn_none rfl) rfl rfl (yl_move hF rfl rfl) ?_
      clear hF; intro a hF
      refine seq_wp (wn_t hF rfl rfl rfl rfl) (wp_call (vs := []) hF rfl rfl rfl rfl cf16 (awake_any _) ?_)
      clear hF; rintro _ w ⟨rfl, hS1⟩ a hF
      replace hS := hS.callB hS1 rfl; clear hS1
      refine seq_yl hF (wn_none rfl) rfl rfl (yl_pick (u := _) (v := undef) hF rfl rfl (fun _ => rfl) (fun h => by cases h)) ?_
      clear hF; intro a hF
      refine seq_yl hF (wn_none rfl) rfl rfl (yl_assign hF rfl rfl) ?_
      clear hF; intro a hF
      refine wpList_nil ?_
      refine then_n ?_
      refine wp_ret ?_
      refine ret_t hF rfl rfl ?_
      exact ⟨_, rfl, rfl, (hS.sub [] (by decide) rfl (by simp))⟩

end Go.Proofs.Ytglooclndbfhgaa

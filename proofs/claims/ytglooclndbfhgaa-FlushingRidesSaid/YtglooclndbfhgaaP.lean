/- plain facts on lists -/
namespace Go.Proofs.Ytglooclndbfhgaa
theorem take_succ_eq {a b : List Int} {k : Nat} {x y : Int} (ha : a[k]? = some x) (hb : b[k]? = some y) (hxy : x = y) (h : a.take k = b.take k) : a.take (k+1) = b.take (k+1) := by
  subst hxy; rw [List.take_add_one, List.take_add_one, h, ha, hb]
theorem same_yes {a b : List Int} {k : Nat} (hk : a.length ≤ k ∧ a.length = b.length) (h : a.take k = b.take k) : true = decide (a = b) := by
  rw [List.take_of_length_le hk.1, List.take_of_length_le (by omega)] at h
  simp [h]
theorem same_no_len {a b : List Int} (h : a.length ≠ b.length) : false = decide (a = b) := by
  symm; rw [decide_eq_false_iff_not]; rintro rfl; exact h rfl
theorem same_no {a b : List Int} {k : Nat} {x y : Int} (ha : a[k]? = some x) (hb : b[k]? = some y) (hxy : x ≠ y) : false = decide (a = b) := by
  symm; rw [decide_eq_false_iff_not]; rintro rfl; rw [ha] at hb; exact hxy (Option.some.inj hb)
/-- what Begin does: waiting, riding, busy, whether it began -/
def begF (W R : List Int) (b : Bool) : List Int × List Int × Bool × Bool := if b = true ∨ W = [] then (W, R, b, false) else ([], R ++ W, true, true)
/-- what End does: waiting, riding (busy is false then), who rode -/
def endF (W R : List Int) (b : Bool) : List Int × List Int × List Int := if b then (W, [], R) else (W, R, [])
end Go.Proofs.Ytglooclndbfhgaa
namespace Go.Proofs.Ytglooclndbfhgaa
theorem begF_t (W R : List Int) : begF W R true = (W, R, true, false) := by simp [begF]
theorem begF_n (W R : List Int) (b : Bool) (h : (W.length : Int) = 0) : begF W R b = (W, R, b, false) := by
  have : W = [] := List.eq_nil_of_length_eq_zero (by omega)
  simp [begF, this]
theorem begF_g (W R : List Int) (h : ¬ (W.length : Int) = 0) : begF W R false = ([], R ++ W, true, true) := by
  have : ¬ W = [] := fun e => h (by rw [e]; rfl)
  simp [begF, this]
theorem endF_t (W R : List Int) : endF W R true = (W, [], R) := rfl
theorem endF_f (W R : List Int) : endF W R false = (W, R, []) := rfl
/-- the stages of a request -/
def stF (kind : Int) (p fu fua : Bool) : List Int :=
  if kind = 3 then [1] else if kind = 1 then [2] else if kind = 2 then ((if p = true then [1] else []) ++ [2]) ++ (if fu = true ∧ fua = false then [3] else []) else []
theorem stF_len (kind : Int) (p fu fua : Bool) : (stF kind p fu fua).length ≤ 3 := by
  unfold stF
  split
  · simp
  · split
    · simp
    · split
      · cases p <;> cases fu <;> cases fua <;> simp
      · simp
theorem begF_len (W R : List Int) (b : Bool) : (begF W R b).1.length ≤ W.length ∧ (begF W R b).2.1.length ≤ R.length + W.length := by
  unfold begF; split <;> simp <;> omega
theorem endF_len (W R : List Int) (b : Bool) : (endF W R b).1.length ≤ W.length ∧ (endF W R b).2.1.length ≤ R.length ∧ (endF W R b).2.2.length ≤ R.length := by
  unfold endF; split <;> simp
end Go.Proofs.Ytglooclndbfhgaa
namespace Go.Proofs.Ytglooclndbfhgaa
section
variable {kind : Int} {p fu fua : Bool}
theorem stF_3 (h : kind = 3) : stF kind p fu fua = [1] := by simp [stF, h]
theorem stF_1 (h : kind = 1) : stF kind p fu fua = [2] := by simp [stF, h]
theorem stF_w1 (h : kind = 2) : stF kind p true false = ((if p = true then [1] else []) ++ [2]) ++ [3] := by simp [stF, h]
theorem stF_wa (h : kind = 2) : stF kind p false fua = ((if p = true then [1] else []) ++ [2]) ++ [] := by simp [stF, h]
theorem stF_wb (h : kind = 2) : stF kind p fu true = ((if p = true then [1] else []) ++ [2]) ++ [] := by simp [stF, h]
theorem stF_o (h3 : ¬ kind = 3) (h1 : ¬ kind = 1) (h2 : ¬ kind = 2) : stF kind p fu fua = [] := by simp [stF, h1, h2, h3]
end
end Go.Proofs.Ytglooclndbfhgaa

/- walks, printed by wip/gen -/
import Derived.Test.YtkejcnhfbfgphaaX2
import Derived.Test.YtkejcnhfbfgphaaSH
import Derived.Test.YtkejcnhfbfgphaaX3
namespace Go.Proofs.Ytkejcnhfbfgphaa
open Go.RowKit
set_option linter.unusedVariables false
set_option linter.unusedSimpArgs false

set_option maxRecDepth 100000 in
theorem cc_fresh (w0 w : World) (Ht : List Chunk) (gb : Nat) (vb : Value) (hS : Sat w0 w (.box gb 85 #[.pointer none, vb] :: Ht)) :
  Fn Try.prog 78 #[.pointer (some ⟨gb, 0, none⟩)] w (fun v w' => v = .tuple #[] ∧ Sat w0 w' (.box gb 85 #[(.pointer (some ⟨gb, 0, none⟩)), vb] :: Ht)) := by
 refine c_enterS (N := 20) (l := [_]) Try.func78 rfl rfl (fun a hF => ?_)
 refine c_seq ?_
 refine c_region ?_
 refine mvN hF rfl rfl rfl rfl rfl ?_; clear hF; intro a hF
 refine seq_yl hF (wn_none rfl) rfl rfl (yl_nilCheck hF rfl rfl) ?_; clear hF; intro a hF
 refine seq_yl hF (wn_none rfl) rfl rfl (yl_fieldAddr hF rfl rfl (fun w => by kernel_rfl : ∀ w, (Instr.fieldAt 85 (.pointer (some ⟨gb, 0, none⟩)) 0).run Try.prog w = .ok (.pointer (some ⟨gb, 0, none⟩)) w)) ?_; clear hF; intro a hF
 refine seq_yl hF (wn_none rfl) rfl rfl (yl_load (fun _ h => h ▸ hS) hF rfl rfl 0 rfl ag82 rfl) ?_; clear hF; intro a hF
 refine seq_yl hF (wn_none rfl) rfl rfl (yl_bin hF rfl rfl rfl rfl (fun _ => run_eqp_nn Try.underlying82 (by kernel_rfl))) ?_; clear hF; intro a hF
 refine wpList_nil ?_
 refine then_n ?_
 refine c_cond_t hF rfl ?_
 refine c_region ?_
 refine mvN hF rfl rfl rfl rfl rfl ?_; clear hF; intro a hF
 refine mvN hF rfl rfl rfl rfl rfl ?_; clear hF; intro a hF
 refine seq_yl hF (wn_none rfl) rfl rfl (yl_toUnsafe (fun _ h => h ▸ hS) hF rfl rfl 0 rfl (by kernel_rfl) Try.underlying82 Try.underlying108 (by kernel_rfl)) ?_; clear hF; intro a hF
 refine seq_wp (wn_none rfl) (wp_yl (S := fun w' => w' = w) hF rfl rfl rfl (yl_extern (xs := [_]) (vs := [_]) hF rfl rfl (fun w => run_noEsc Try.func84 (by kernel_rfl) (by kernel_rfl) (by kernel_rfl) (by kernel_rfl) _ w)) ?_)
 clear hF; intro a hF
 refine seq_yl hF (wn_none rfl) rfl rfl (yl_fromUnsafe (fun _ h => h ▸ hS) hF rfl rfl 0 rfl Try.underlying108 Try.underlying82 (by kernel_rfl) (by kernel_rfl)) ?_; clear hF; intro a hF
 refine seq_yl hF (wn_none rfl) rfl rfl (yl_nilCheck hF rfl rfl) ?_; clear hF; intro a hF
 refine seq_yl hF (wn_none rfl) rfl rfl (yl_fieldAddr hF rfl rfl (fun w => by kernel_rfl : ∀ w, (Instr.fieldAt 85 (.pointer (some ⟨gb, 0, none⟩)) 0).run Try.prog w = .ok (.pointer (some ⟨gb, 0, none⟩)) w)) ?_; clear hF; intro a hF
 refine seq_wp (wn_none rfl) (wp_store (cs' := #[_, _]) hF hS rfl rfl rfl rfl 0 rfl sz82 (by simp [Value.cells, Value.oneCell']) (by simp [Value.cells]) rfl ?_)
 clear hF hS; intro a w hF hS
 refine wpList_nil ?_
 refine ret_n ?_
 refine ret_0 hF rfl  ?_
 exact ⟨_, rfl, rfl, (hS.subT 1 [0] (by decide) (by first | rfl | simp) (by simp) (by simp))⟩

set_option maxRecDepth 100000 in
theorem cc_used (w0 w : World) (Ht : List Chunk) (gb : Nat) (vb : Value) (hS : Sat w0 w (.box gb 85 #[(.pointer (some ⟨gb, 0, none⟩)), vb] :: Ht)) :
  Fn Try.prog 78 #[.pointer (some ⟨gb, 0, none⟩)] w (fun v w' => v = .tuple #[] ∧ Sat w0 w' (.box gb 85 #[(.pointer (some ⟨gb, 0, none⟩)), vb] :: Ht)) := by
 refine c_enterS (N := 20) (l := [_]) Try.func78 rfl rfl (fun a hF => ?_)
 refine c_seq ?_
 refine c_region ?_
 refine mvN hF rfl rfl rfl rfl rfl ?_; clear hF; intro a hF
 refine seq_yl hF (wn_none rfl) rfl rfl (yl_nilCheck hF rfl rfl) ?_; clear hF; intro a hF
 refine seq_yl hF (wn_none rfl) rfl rfl (yl_fieldAddr hF rfl rfl (fun w => by kernel_rfl : ∀ w, (Instr.fieldAt 85 (.pointer (some ⟨gb, 0, none⟩)) 0).run Try.prog w = .ok (.pointer (some ⟨gb, 0, none⟩)) w)) ?_; clear hF; intro a hF
 refine seq_yl hF (wn_none rfl) rfl rfl (yl_load (fun _ h => h ▸ hS) hF rfl rfl 0 rfl ag82 rfl) ?_; clear hF; intro a hF
 refine seq_yl hF (wn_none rfl) rfl rfl (yl_bin hF rfl rfl rfl rfl (fun _ => run_eqp_sn Try.underlying82 (by kernel_rfl))) ?_; clear hF; intro a hF
 refine wpList_nil ?_
 refine then_n ?_
 refine c_cond_f hF rfl ?_
 refine c_seq ?_
 refine c_region ?_
 refine mvN hF rfl rfl rfl rfl rfl ?_; clear hF; intro a hF
 refine seq_yl hF (wn_none rfl) rfl rfl (yl_nilCheck hF rfl rfl) ?_; clear hF; intro a hF
 refine seq_yl hF (wn_none rfl) rfl rfl (yl_fieldAddr hF rfl rfl (fun w => by kernel_rfl : ∀ w, (Instr.fieldAt 85 (.pointer (some ⟨gb, 0, none⟩)) 0).run Try.prog w = .ok (.pointer (some ⟨gb, 0, none⟩)) w)) ?_; clear hF; intro a hF
 refine seq_yl hF (wn_none rfl) rfl rfl (yl_load (fun _ h => h ▸ hS) hF rfl rfl 0 rfl ag82 rfl) ?_; clear hF; intro a hF
 refine mvN hF rfl rfl rfl rfl rfl ?_; clear hF; intro a hF
 refine seq_yl hF (wn_none rfl) rfl rfl (yl_bin hF rfl rfl rfl rfl (fun _ => run_neqp_same Try.underlying82 (by kernel_rfl))) ?_; clear hF; intro a hF
 refine wpList_nil ?_
 refine then_n ?_
 refine c_cond_f hF rfl ?_
 refine wp_skip ?_
 refine ret_n ?_
 refine ret_0 hF rfl  ?_
 exact ⟨_, rfl, rfl, (hS.subT 1 [0] (by decide) (by first | rfl | simp) (by simp) (by simp))⟩

theorem cc_any (w0 w : World) (Ht : List Chunk) (gb : Nat) (p vb : Value) (hp : p = .pointer none ∨ p = (.pointer (some ⟨gb, 0, none⟩))) (hS : Sat w0 w (.box gb 85 #[p, vb] :: Ht)) : Fn Try.prog 78 #[.pointer (some ⟨gb, 0, none⟩)] w (fun v w' => v = .tuple #[] ∧ Sat w0 w' (.box gb 85 #[(.pointer (some ⟨gb, 0, none⟩)), vb] :: Ht)) := by
 rcases hp with rfl | rfl
 ·exact cc_fresh _ _ _ _ _ hS
 ·exact cc_used _ _ _ _ _ hS

set_option maxRecDepth 100000 in
theorem wstr_any (w0 w : World) (Ht : List Chunk) (gb : Nat) (p : Value) (Avb : Option Addr) (cvb : Nat) (acc x : ByteArray) (hS : Sat w0 w (.box gb 85 #[p, .slice Avb (byteL acc).length cvb] :: .row 5 1 (.slice Avb (byteL acc).length cvb) (byteL acc).length (cells encU (byteL acc)) :: Ht)) (hp : p = .pointer none ∨ p = (.pointer (some ⟨gb, 0, none⟩))) (hz : (acc.size : Int) + (x.size : Int) ≤ 1000000) :
  Fn Try.prog 63 #[.pointer (some ⟨gb, 0, none⟩), .string x] w (fun v w' => ∃ v1, v = .tuple #[.int .i64 (x.size : Int), .nilIface] ∧ Sat w0 w' (.box gb 85 #[(.pointer (some ⟨gb, 0, none⟩)), v1] :: .row 5 1 v1 (byteL (acc ++ x)).length (cells encU (byteL (acc ++ x))) :: Ht)) := by
 have hbl := byteL_len acc
 refine c_enterS (N := 19) (l := [_, _]) Try.func63 rfl rfl (fun a hF => ?_)
 refine c_seq ?_
 refine c_region ?_
 refine asN hF rfl rfl rfl rfl rfl ?_; clear hF; intro a hF
 refine asN hF rfl rfl rfl rfl rfl ?_; clear hF; intro a hF
 refine wpList_nil ?_
 refine then_n ?_
 refine c_seq ?_
 refine c_region ?_
 refine mvN hF rfl rfl rfl rfl rfl ?_; clear hF; intro a hF
 refine seq_wp (wn_none rfl) (wp_call (vs := [_]) hF rfl rfl rfl rfl cf78 (cc_any _ _ _ _ _ _ hp hS) ?_)
 clear hF hS; rintro _ w ⟨rfl, hS⟩ a hF
 refine wpList_nil ?_
 refine then_n ?_
 refine c_seq ?_
 refine c_region ?_
 refine mvN hF rfl rfl rfl rfl rfl ?_; clear hF; intro a hF
 refine mvN hF rfl rfl rfl rfl rfl ?_; clear hF; intro a hF
 refine seq_yl hF (wn_none rfl) rfl rfl (yl_nilCheck hF rfl rfl) ?_; clear hF; intro a hF
 refine seq_yl hF (wn_none rfl) rfl rfl (yl_fieldAddr hF rfl rfl (fun w => by kernel_rfl : ∀ w, (Instr.fieldAt 85 (.pointer (some ⟨gb, 0, none⟩)) 1).run Try.prog w = .ok (.pointer (some ⟨gb, 1, none⟩)) w)) ?_; clear hF; intro a hF
 refine seq_yl hF (wn_none rfl) rfl rfl (yl_load (fun _ h => h ▸ hS) hF rfl rfl 0 rfl ag83 rfl) ?_; clear hF; intro a hF
 refine mvN hF rfl rfl rfl rfl rfl ?_; clear hF; intro a hF
 refine seq_wp (wn_none rfl) (wp_appS (s := x) (L := (byteL acc)) hF hS rfl rfl rfl rfl rfl 1 rfl sl83 Try.underlying9 inf5 (by omega) ?_)
 clear hF hS; intro a w v647 hF hS
 obtain ⟨Av647, cv647, rfl⟩ := hS.form 1 rfl
 refine seq_yl hF (wn_none rfl) rfl rfl (yl_nilCheck hF rfl rfl) ?_; clear hF; intro a hF
 refine seq_yl hF (wn_none rfl) rfl rfl (yl_fieldAddr hF rfl rfl (fun w => by kernel_rfl : ∀ w, (Instr.fieldAt 85 (.pointer (some ⟨gb, 0, none⟩)) 1).run Try.prog w = .ok (.pointer (some ⟨gb, 1, none⟩)) w)) ?_; clear hF; intro a hF
 refine seq_wp (wn_none rfl) (wp_store (cs' := #[_, _]) hF hS rfl rfl rfl rfl 0 rfl sz83 (by simp [Value.cells, Value.oneCell']) (by simp [Value.cells]) rfl ?_)
 clear hF hS; intro a w hF hS
 refine wpList_nil ?_
 refine then_n ?_
 refine c_seq ?_
 refine c_region ?_
 refine mvN hF rfl rfl rfl rfl rfl ?_; clear hF; intro a hF
 refine seq_yl hF (wn_none rfl) rfl rfl (yl_len hF rfl rfl (fun _ => run_lenStr Try.underlying9)) ?_; clear hF; intro a hF
 refine asN hF rfl rfl rfl rfl rfl ?_; clear hF; intro a hF
 refine asN hF rfl rfl rfl rfl rfl ?_; clear hF; intro a hF
 refine wpList_nil ?_
 refine then_n ?_
 refine wp_ret ?_
 refine ret_tt hF rfl rfl rfl ?_
 rw [byteL_app] at hS; exact ⟨_, rfl, _, rfl, (hS.subT 2 [0, 1] (by decide) (by first | rfl | simp) (by simp) (by simp))⟩

set_option maxRecDepth 100000 in
theorem read_any (st : ByteArray) (lv : Value) (L : List E67) (rm : Int) (s c : Int) (w0 : World) (hv : Rd w0 2 lv (L).length (cells enc67 (L))) (hz : (st.size : Int) ≤ 9223372036854775807) (hL : L.length ≤ 1000000) :
  Fn Try.prog 41 #[.agg #[.string st, lv, .int .i64 rm], .int .i64 s, .int .i64 c] w0 (fun v w' => v = .tuple #[.string (readF st L rm s c).1, .bool (readF st L rm s c).2] ∧ Sat w0 w' []) := by
 obtain ⟨Alv, clv, rfl⟩ := Rd.form hv
 refine c_enter (N := 40) (l := [_, _, _]) Try.func41 rfl rfl (fun a w hF hS => ?_)
 replace hS := hS.addRo hv
 refine c_seq ?_
 refine c_region ?_
 refine seq_wp (wn_none rfl) (wp_box (cs := #[_, _, _]) hF hS rfl rfl rfl rfl rfl ?_)
 clear hF hS; intro a w g648 hF hS
 refine asN hF rfl rfl rfl rfl rfl ?_; clear hF; intro a hF
 refine asN hF rfl rfl rfl rfl rfl ?_; clear hF; intro a hF
 refine wpList_nil ?_
 refine then_n ?_
 refine c_seq ?_
 refine c_seq ?_
 refine c_region ?_
 refine seq_yl hF (wn_none rfl) rfl rfl (yl_loadK (rs := [_, _, _]) (fun _ h => h ▸ hS) hF rfl rfl 0 rfl ag43 sz43 rfl rfl) ?_; clear hF; intro a hF
 refine seq_wp (wn_none rfl) (wp_call (vs := [_]) hF rfl rfl rfl rfl cf60 (dValid_any st _ L (rm) _ (hS.rdRo 1 rfl) (by first | omega | (simp; done)) (by first | omega | (simp; done))) ?_)
 clear hF; rintro _ w ⟨rfl, hS1⟩ a hF
 replace hS := hS.callB hS1 rfl; clear hS1
 refine seq_yl hF (wn_none rfl) rfl rfl (yl_un hF rfl rfl (fun _ => run_not)) ?_; clear hF; intro a hF
 refine mvN hF rfl rfl rfl rfl rfl ?_; clear hF; intro a hF
 refine fr_split hF (fun hc649 hF => ?_) (fun hc649 hF => ?_)
 ·first | (replace hc649 := of_decide_eq_true hc649) | (replace hc649 := of_decide_eq_false (bnot_t hc649)) | (subst hc649) | (replace hc649 := bnot_t hc649; subst hc649) | (replace hc649 := bnot_t hc649) | skip
  try (have hc649x := hc649; simp only [okS, okI, okW, okP] at hc649x)
  refine skF hF rfl rfl rfl rfl rfl rfl ?_; clear hF; intro a hF
  refine skF hF rfl rfl rfl rfl rfl rfl ?_; clear hF; intro a hF
  refine skF hF rfl rfl rfl rfl rfl rfl ?_; clear hF; intro a hF
  refine skF hF rfl rfl rfl rfl rfl rfl ?_; clear hF; intro a hF
  refine skF hF rfl rfl rfl rfl rfl rfl ?_; clear hF; intro a hF
  refine seq_yl hF (wn_none rfl) rfl rfl (pkT hF rfl rfl rfl) ?_; clear hF; intro a hF
  refine wpList_nil ?_
  refine then_n ?_
  refine c_cond_t hF rfl ?_
  refine c_seq ?_
  refine c_region ?_
  refine asN hF rfl rfl rfl rfl rfl ?_; clear hF; intro a hF
  refine asN hF rfl rfl rfl rfl rfl ?_; clear hF; intro a hF
  refine wpList_nil ?_
  refine then_n ?_
  refine wp_ret ?_
  refine then_r ?_
  refine ret_tt hF rfl rfl rfl ?_
  have hrd := (read_no (st := st) (L := L) (rm := rm) (s := s) (c := c) (fun h9 => by have h8 := h9.2; have h7 := okD_I h9.1; simp only [okW, okS, okI] at h8; first | exact absurd h9.1 (by assumption) | exact absurd h9.2 (by assumption) | omega))
  rw [hrd]; exact ⟨_, rfl, rfl, (hS.sub [] (by decide) (by first | rfl | simp) (by simp))⟩
 ·first | (replace hc649 := of_decide_eq_false hc649) | (replace hc649 := of_decide_eq_true (bnot_f hc649)) | (subst hc649) | (replace hc649 := bnot_f hc649; subst hc649) | (replace hc649 := bnot_f hc649) | skip
  try (have hc649x := hc649; simp only [okS, okI, okW, okP] at hc649x)
  refine seq_yl hF (wn_t hF rfl rfl rfl rfl) rfl rfl (yl_loadK (rs := [_, _, _]) (fun _ h => h ▸ hS) hF rfl rfl 0 rfl ag43 sz43 rfl rfl) ?_; clear hF; intro a hF
  refine seq_yl hF (wn_t hF rfl rfl rfl rfl) rfl rfl (yl_move hF rfl rfl) ?_; clear hF; intro a hF
  refine seq_yl hF (wn_t hF rfl rfl rfl rfl) rfl rfl (yl_move hF rfl rfl) ?_; clear hF; intro a hF
  refine seq_wp (wn_t hF rfl rfl rfl rfl) (wp_call (vs := [_, _, _]) hF rfl rfl rfl rfl cf61 (has_any st _ _ (s) (c) _ (by omega)) ?_)
  clear hF; rintro _ w ⟨rfl, hS1⟩ a hF
  replace hS := hS.callB hS1 rfl; clear hS1
  refine seq_yl hF (wn_t hF rfl rfl rfl rfl) rfl rfl (yl_un hF rfl rfl (fun _ => run_not)) ?_; clear hF; intro a hF
  refine seq_yl hF (wn_none rfl) rfl rfl (pkF hF rfl rfl rfl) ?_; clear hF; intro a hF
  refine wpList_nil ?_
  refine then_n ?_
  refine c_cond hF rfl (fun hc650 => ?_) (fun hc650 => ?_)
  ·first | (replace hc650 := of_decide_eq_true hc650) | (replace hc650 := of_decide_eq_false (bnot_t hc650)) | (subst hc650) | (replace hc650 := bnot_t hc650; subst hc650) | (replace hc650 := bnot_t hc650) | skip
   try (have hc650x := hc650; simp only [okS, okI, okW, okP] at hc650x)
   refine c_seq ?_
   refine c_region ?_
   refine asN hF rfl rfl rfl rfl rfl ?_; clear hF; intro a hF
   refine asN hF rfl rfl rfl rfl rfl ?_; clear hF; intro a hF
   refine wpList_nil ?_
   refine then_n ?_
   refine wp_ret ?_
   refine then_r ?_
   refine ret_tt hF rfl rfl rfl ?_
   have hrd := (read_no (st := st) (L := L) (rm := rm) (s := s) (c := c) (fun h9 => by have h8 := h9.2; have h7 := okD_I h9.1; simp only [okW, okS, okI] at h8; first | exact absurd h9.1 (by assumption) | exact absurd h9.2 (by assumption) | omega))
   rw [hrd]; exact ⟨_, rfl, rfl, (hS.sub [] (by decide) (by first | rfl | simp) (by simp))⟩
  ·first | (replace hc650 := of_decide_eq_false hc650) | (replace hc650 := of_decide_eq_true (bnot_f hc650)) | (subst hc650) | (replace hc650 := bnot_f hc650; subst hc650) | (replace hc650 := bnot_f hc650) | skip
   try (have hc650x := hc650; simp only [okS, okI, okW, okP] at hc650x)
   refine wp_skip ?_
   refine then_n ?_
   refine c_seq ?_
   refine c_region ?_
   refine seq_wp (wn_none rfl) (wp_alloc (cs := #[_, _]) hF hS rfl rfl rfl zr85 rfl ?_)
   clear hF hS; intro a w g651 hF hS
   refine wpList_nil ?_
   refine then_n ?_
   refine c_seq ?_
   refine c_seq ?_
   refine c_region ?_
   refine mvN hF rfl rfl rfl rfl rfl ?_; clear hF; intro a hF
   refine asN hF rfl rfl rfl rfl rfl ?_; clear hF; intro a hF
   refine wpList_nil ?_
   refine then_n ?_
   refine wp_block ?_
   replace hS := hS.addNil 5 1
   have hd9 : okD st L rm := by assumption
   have hs9 : okS (st.size : Int) s c := by assumption
   have hs9x := hs9
   simp only [okS, okI] at hs9x
   refine c_loop (fun m a w => ∃ (k : Nat) (pB : Value) (AvB : Option Addr) (mv cvB : Nat) (i9 : Int), m = (c - (k : Int)).toNat ∧ ((k : Int) ≤ c ∧ (pB = .pointer none ∨ pB = .pointer (some ⟨g651, 0, none⟩)) ∧ i9 = s + (k : Int)) ∧ Fr 40 a [(1, .int .i64 (s)), (2, .int .i64 (c)), (3, .pointer (some ⟨g648, 0, none⟩)), (8, .pointer (some ⟨g651, 0, none⟩)), (9, .int .i64 (i9))] ∧ Sat w0 w (.box g648 43 #[.string st, .slice Alv (L).length clv, .int .i64 (rm)] :: .box g651 85 #[pB, .slice AvB mv cvB] :: .row 5 1 (.slice AvB mv cvB) ((byteL (catF (newest st L) s k))).length (cells encU ((byteL (catF (newest st L) s k)))) :: .ro 2 (.slice Alv (L).length clv) (L).length (cells enc67 (L)) :: [])) ((c - ((0 : Nat) : Int)).toNat) ?_ ?_
   ·exact ⟨0, _, none, 0, 0, s, rfl, ⟨by unfold okS at hs9; omega, .inl rfl, by omega⟩, hF.to [1, 2, 3, 8, 9] rfl, (hS.sub [2, 1, 0, 3] (by decide) (by first | rfl | simp) (by simp))⟩
   ·clear hF hS; try clear hSS
    clear a w; rintro m a w ⟨k, pB, AvB, mv, cvB, i9, rfl, hinv, hF, hS⟩
    obtain ⟨hk, hpB, rfl⟩ := hinv
    have hacc := read_size hd9.2.2.2 hs9 (k := k) hk
    obtain rfl := (hS.rdRow 2 rfl).len
    refine c_seq ?_
    refine c_seq ?_
    refine c_region ?_
    refine mvN hF rfl rfl rfl rfl rfl ?_; clear hF; intro a hF
    refine mvN hF rfl rfl rfl rfl rfl ?_; clear hF; intro a hF
    refine mvN hF rfl rfl rfl rfl rfl ?_; clear hF; intro a hF
    refine seq_yl hF (wn_none rfl) rfl rfl (yl_bin hF rfl rfl rfl rfl (fun _ => run_add (by refine ⟨?_, ?_⟩ <;> omega))) ?_; clear hF; intro a hF
    refine seq_yl hF (wn_none rfl) rfl rfl (yl_bin hF rfl rfl rfl rfl (fun _ => run_lss)) ?_; clear hF; intro a hF
    refine wpList_nil ?_
    refine then_n ?_
    refine c_cond hF rfl (fun hc652 => ?_) (fun hc652 => ?_)
    ·first | (replace hc652 := of_decide_eq_true hc652) | (replace hc652 := of_decide_eq_false (bnot_t hc652)) | (subst hc652) | (replace hc652 := bnot_t hc652; subst hc652) | (replace hc652 := bnot_t hc652) | skip
     try (have hc652x := hc652; simp only [okS, okI, okW, okP] at hc652x)
     refine wp_skip ?_
     refine then_n ?_
     refine c_seq ?_
     refine wp_block ?_
     refine c_seq ?_
     refine c_region ?_
     refine seq_yl hF (wn_none rfl) rfl rfl (yl_loadK (rs := [_, _, _]) (fun _ h => h ▸ hS) hF rfl rfl 0 rfl ag43 sz43 rfl rfl) ?_; clear hF; intro a hF
     refine mvN hF rfl rfl rfl rfl rfl ?_; clear hF; intro a hF
     refine seq_wp (wn_none rfl) (wp_call (vs := [_, _]) hF rfl rfl rfl rfl cf62 (vers_any st _ L (rm) ((s + (k : Int))) _ (hS.rdRo 3 rfl) (by first | omega | (simp; done)) (by first | omega | (simp; done))) ?_)
     clear hF; rintro _ w ⟨v653, M654, rfl, hM655, hS1⟩ a hF
     replace hS := hS.callB hS1 rfl; clear hS1
     obtain ⟨Av653, cv653, rfl⟩ := hS.form 0 rfl
     have hM655l := vers_len st L (rm) ((s + (k : Int))); rw [← hM655] at hM655l
     have hM6552 : M654 = versC st L ((s + (k : Int))) := hM655.trans (if_pos ⟨hd9, okS_in hs9 (i := (k : Int)) (by omega) (by omega)⟩)
     have hM655n := versC_len st L ((s + (k : Int))); rw [← hM6552] at hM655n
     refine asN hF rfl rfl rfl rfl rfl ?_; clear hF; intro a hF
     refine wpList_nil ?_
     refine then_n ?_
     refine c_region ?_
     refine mvN hF rfl rfl rfl rfl rfl ?_; clear hF; intro a hF
     refine mvN hF rfl rfl rfl rfl rfl ?_; clear hF; intro a hF
     refine seq_yl hF (wn_none rfl) rfl rfl (yl_len hF rfl rfl (fun _ => run_lenRd sl76 (hS.rdRow 0 rfl))) ?_; clear hF; intro a hF
     refine seq_yl hF (wn_none rfl) rfl rfl (yl_bin hF rfl rfl rfl rfl (fun _ => run_dec (c := 1) (by omega) (by omega))) ?_; clear hF; intro a hF
     have hlt_hx656 : ((M654).length - 1) < (M654).length := by first | omega | (simp; done) | (simp; omega)
     obtain ⟨ad657, rfl⟩ := rd_some (hS.rdRow 0 rfl) hlt_hx656
     obtain ⟨x656, hx656⟩ := get_some hlt_hx656
     refine seq_yl hF (wn_none rfl) rfl rfl (yl_indexAddr hF rfl rfl rfl (fun _ => run_idx' sl76 sz9 (hS.rdRow 0 rfl) hlt_hx656)) ?_; clear hF; intro a hF
     refine seq_yl hF (wn_none rfl) rfl rfl (yl_loadAt hF rfl rfl ag9 (fun _ h => rd_cell0 (enc := encS) (by subst h; exact hS.rdRow 0 rfl) encS_len hx656 rfl rfl)) ?_; clear hF; intro a hF
     have hxn := newest_at (k := M654.length - 1) (by rw [← hM6552]; exact hx656) (by rw [← hM6552])
     have hxs := newest_size hd9.2.2.2 (okS_in hs9 (i := (k : Int)) (by omega) (by omega)); rw [← hxn] at hxs
     replace hS := (hS.sub [2, 3, 0, 1, 4] (by decide) (by first | rfl | simp) (by simp))
     refine seq_wp (wn_none rfl) (wp_call (vs := [_, _]) hF rfl rfl rfl rfl cf63 (wstr_any _ _ _ _ _ _ _ (catF (newest st L) s k) x656 hS hpB (by omega)) ?_)
     clear hF hS; rintro _ w ⟨v658, rfl, hS⟩ a hF
     obtain ⟨Av658, cv658, rfl⟩ := hS.form 1 rfl
     refine wpList_nil ?_
     refine inb_n ?_
     refine then_n ?_
     refine c_region ?_
     refine mvN hF rfl rfl rfl rfl rfl ?_; clear hF; intro a hF
     refine seq_yl hF (wn_none rfl) rfl rfl (yl_bin hF rfl rfl rfl rfl (fun _ => run_add (by refine ⟨?_, ?_⟩ <;> omega))) ?_; clear hF; intro a hF
     refine asN hF rfl rfl rfl rfl rfl ?_; clear hF; intro a hF
     refine wpList_nil ?_
     refine then_n ?_
     rw [hxn] at hS hF
     exact ⟨_, (by omega), k + 1, _, Av658, _, cv658, _, rfl, ⟨by omega, .inr rfl, by omega⟩, hF.to [1, 2, 3, 8, 9] rfl, (hS.sub [3, 0, 1, 4] (by decide) (by first | rfl | simp) (by simp))⟩
    ·first | (replace hc652 := of_decide_eq_false hc652) | (replace hc652 := of_decide_eq_true (bnot_f hc652)) | (subst hc652) | (replace hc652 := bnot_f hc652; subst hc652) | (replace hc652 := bnot_f hc652) | skip
     try (have hc652x := hc652; simp only [okS, okI, okW, okP] at hc652x)
     refine wp_exit ?_
     refine then_x ?_
     refine then_x ?_
     refine inb_x ?_
     refine then_n ?_
     refine c_seq ?_
     refine c_region ?_
     replace hS := (hS.sub [1, 2, 0, 3] (by decide) (by first | rfl | simp) (by simp))
     refine seq_wp (wn_none rfl) (wp_call (vs := [_]) hF rfl rfl rfl rfl cf64 (bld_string (fun B b l w => Builder_String_any B b l w) (acc := (catF (newest st L) s k)) hS hpB) ?_)
     clear hF hS; rintro _ w ⟨rfl, hS⟩ a hF
     replace hS := hS.addRo hv
     refine asN hF rfl rfl rfl rfl rfl ?_; clear hF; intro a hF
     refine asN hF rfl rfl rfl rfl rfl ?_; clear hF; intro a hF
     refine wpList_nil ?_
     refine then_n ?_
     refine wp_ret ?_
     refine ret_tt hF rfl rfl rfl ?_
     have hrd := (read_yes (k := k) hd9 hs9 (by omega))
     rw [hrd]; exact ⟨_, rfl, rfl, (hS.sub [] (by decide) (by first | rfl | simp) (by simp))⟩

end Go.Proofs.Ytkejcnhfbfgphaa

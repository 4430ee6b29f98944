/- walks, printed by wip/gen -/
import Derived.Test.YtkejcnhfbfgphaaW0
namespace Go.Proofs.Ytkejcnhfbfgphaa
open Go.RowKit
set_option linter.unusedVariables false
set_option linter.unusedSimpArgs false

set_option maxHeartbeats 1000000 in
set_option maxRecDepth 100000 in
theorem valid2_any (r : E37) (w0 : World) :
  Fn Try.prog 24 #[.agg #[.int .i64 r.f0, .int .i64 r.f1, .int .i64 r.f2, .int .i64 r.f3, .int .i64 r.f4, .int .i64 r.f5, .int .i64 r.f6, .bool r.f7, .int .i64 r.f8]] w0 (fun v w' => v = .bool (decide (validR r)) ∧ Sat w0 w' []) := by
 refine c_enter (N := 88) (l := [_]) Try.func24 rfl rfl (fun a w hF hS => ?_)
 refine c_seq ?_
 refine c_region ?_
 refine seq_wp (wn_none rfl) (wp_box (cs := #[_, _, _, _, _, _, _, _, _]) hF hS rfl rfl rfl rfl rfl ?_)
 clear hF hS; intro a w g94 hF hS
 refine asN hF rfl rfl rfl rfl rfl ?_; clear hF; intro a hF
 refine wpList_nil ?_
 refine then_n ?_
 refine c_seq ?_
 refine c_region ?_
 refine seq_yl hF (wn_none rfl) rfl rfl (yl_fieldAddr hF rfl rfl (fun w => by kernel_rfl : ∀ w, (Instr.fieldAt 37 (.pointer (some ⟨g94, 0, none⟩)) 5).run Try.prog w = .ok (.pointer (some ⟨g94, 5, none⟩)) w)) ?_; clear hF; intro a hF
 refine seq_yl hF (wn_none rfl) rfl rfl (yl_loadK (rs := [_, _, _, _]) (fun _ h => h ▸ hS) hF rfl rfl 0 rfl ag27 sz27 rfl rfl) ?_; clear hF; intro a hF
 refine seq_wp (wn_none rfl) (wp_alloc (cs := #[_, _, _, _]) hF hS rfl rfl rfl zr27 rfl ?_)
 clear hF hS; intro a w g95 hF hS
 refine seq_wp (wn_none rfl) (wp_store (cs' := #[_, _, _, _]) hF hS rfl rfl rfl rfl 0 rfl sz27 (by simp [Value.cells, Value.oneCell']) (by simp [Value.cells]) rfl ?_)
 clear hF hS; intro a w hF hS
 refine wpList_nil ?_
 refine then_n ?_
 refine c_seq ?_
 refine c_cut (fun a w => ∃ (fine : Bool) , (fine = decide (r.f5 = 0 ∨ r.f5 = 10 ∨ r.f5 = 11 ∨ r.f5 = 13 ∨ r.f5 = 50)) ∧ Fr 88 a [(1, .pointer (some ⟨g94, 0, none⟩)), (2, .bool false), (3, .pointer (some ⟨g95, 0, none⟩)), (4, .bool fine)] ∧ Sat w0 w (.box g95 27 #[.int .i64 (r.f5), .int .i64 (r.f6), .bool r.f7, .int .i64 (r.f8)] :: .box g94 37 #[.int .i64 (r.f0), .int .i64 (r.f1), .int .i64 (r.f2), .int .i64 (r.f3), .int .i64 (r.f4), .int .i64 (r.f5), .int .i64 (r.f6), .bool r.f7, .int .i64 (r.f8)] :: [])) ?_ ?_
 ·skip
  refine c_region ?_
  refine seq_yl hF (wn_none rfl) rfl rfl (yl_fieldAddr hF rfl rfl (fun w => by kernel_rfl : ∀ w, (Instr.fieldAt 27 (.pointer (some ⟨g95, 0, none⟩)) 0).run Try.prog w = .ok (.pointer (some ⟨g95, 0, none⟩)) w)) ?_; clear hF; intro a hF
  refine seq_yl hF (wn_none rfl) rfl rfl (yl_load (fun _ h => h ▸ hS) hF rfl rfl 0 rfl ag25 rfl) ?_; clear hF; intro a hF
  refine seq_yl hF (wn_none rfl) rfl rfl (yl_bin hF rfl rfl rfl rfl (fun _ => run_eql)) ?_; clear hF; intro a hF
  refine mvN hF rfl rfl rfl rfl rfl ?_; clear hF; intro a hF
  refine fr_split hF (fun hc97 hF => ?_) (fun hc97 hF => ?_)
  ·first | (replace hc97 := of_decide_eq_true hc97) | (replace hc97 := of_decide_eq_false (bnot_t hc97)) | (replace hc97 := bnot_t hc97) | skip
   refine skF hF rfl rfl rfl rfl rfl rfl ?_; clear hF; intro a hF
   refine skF hF rfl rfl rfl rfl rfl rfl ?_; clear hF; intro a hF
   refine skF hF rfl rfl rfl rfl rfl rfl ?_; clear hF; intro a hF
   refine seq_yl hF (wn_none rfl) rfl rfl (pkT hF rfl rfl rfl) ?_; clear hF; intro a hF
   refine mvN hF rfl rfl rfl rfl rfl ?_; clear hF; intro a hF
   refine skF hF rfl rfl rfl rfl rfl rfl ?_; clear hF; intro a hF
   refine skF hF rfl rfl rfl rfl rfl rfl ?_; clear hF; intro a hF
   refine skF hF rfl rfl rfl rfl rfl rfl ?_; clear hF; intro a hF
   refine seq_yl hF (wn_none rfl) rfl rfl (pkT hF rfl rfl rfl) ?_; clear hF; intro a hF
   refine mvN hF rfl rfl rfl rfl rfl ?_; clear hF; intro a hF
   refine skF hF rfl rfl rfl rfl rfl rfl ?_; clear hF; intro a hF
   refine skF hF rfl rfl rfl rfl rfl rfl ?_; clear hF; intro a hF
   refine skF hF rfl rfl rfl rfl rfl rfl ?_; clear hF; intro a hF
   refine seq_yl hF (wn_none rfl) rfl rfl (pkT hF rfl rfl rfl) ?_; clear hF; intro a hF
   refine mvN hF rfl rfl rfl rfl rfl ?_; clear hF; intro a hF
   refine skF hF rfl rfl rfl rfl rfl rfl ?_; clear hF; intro a hF
   refine skF hF rfl rfl rfl rfl rfl rfl ?_; clear hF; intro a hF
   refine skF hF rfl rfl rfl rfl rfl rfl ?_; clear hF; intro a hF
   refine seq_yl hF (wn_none rfl) rfl rfl (pkT hF rfl rfl rfl) ?_; clear hF; intro a hF
   refine asN hF rfl rfl rfl rfl rfl ?_; clear hF; intro a hF
   refine wpList_nil ?_
   refine cut_n ?_
   exact ⟨_, dec_t (by omega), hF.to [1, 2, 3, 4] rfl, (hS.sub [0, 1] (by decide) (by first | rfl | simp) (by simp))⟩
  ·first | (replace hc97 := of_decide_eq_false hc97) | (replace hc97 := of_decide_eq_true (bnot_f hc97)) | (replace hc97 := bnot_f hc97) | skip
   refine seq_yl hF (wn_t hF rfl rfl rfl rfl) rfl rfl (yl_fieldAddr hF rfl rfl (fun w => by kernel_rfl : ∀ w, (Instr.fieldAt 27 (.pointer (some ⟨g95, 0, none⟩)) 0).run Try.prog w = .ok (.pointer (some ⟨g95, 0, none⟩)) w)) ?_; clear hF; intro a hF
   refine seq_yl hF (wn_t hF rfl rfl rfl rfl) rfl rfl (yl_load (fun _ h => h ▸ hS) hF rfl rfl 0 rfl ag25 rfl) ?_; clear hF; intro a hF
   refine seq_yl hF (wn_t hF rfl rfl rfl rfl) rfl rfl (yl_bin hF rfl rfl rfl rfl (fun _ => run_eql)) ?_; clear hF; intro a hF
   refine seq_yl hF (wn_none rfl) rfl rfl (pkF hF rfl rfl rfl) ?_; clear hF; intro a hF
   refine mvN hF rfl rfl rfl rfl rfl ?_; clear hF; intro a hF
   refine fr_split hF (fun hc98 hF => ?_) (fun hc98 hF => ?_)
   ·first | (replace hc98 := of_decide_eq_true hc98) | (replace hc98 := of_decide_eq_false (bnot_t hc98)) | (replace hc98 := bnot_t hc98) | skip
    refine skF hF rfl rfl rfl rfl rfl rfl ?_; clear hF; intro a hF
    refine skF hF rfl rfl rfl rfl rfl rfl ?_; clear hF; intro a hF
    refine skF hF rfl rfl rfl rfl rfl rfl ?_; clear hF; intro a hF
    refine seq_yl hF (wn_none rfl) rfl rfl (pkT hF rfl rfl rfl) ?_; clear hF; intro a hF
    refine mvN hF rfl rfl rfl rfl rfl ?_; clear hF; intro a hF
    refine skF hF rfl rfl rfl rfl rfl rfl ?_; clear hF; intro a hF
    refine skF hF rfl rfl rfl rfl rfl rfl ?_; clear hF; intro a hF
    refine skF hF rfl rfl rfl rfl rfl rfl ?_; clear hF; intro a hF
    refine seq_yl hF (wn_none rfl) rfl rfl (pkT hF rfl rfl rfl) ?_; clear hF; intro a hF
    refine mvN hF rfl rfl rfl rfl rfl ?_; clear hF; intro a hF
    refine skF hF rfl rfl rfl rfl rfl rfl ?_; clear hF; intro a hF
    refine skF hF rfl rfl rfl rfl rfl rfl ?_; clear hF; intro a hF
    refine skF hF rfl rfl rfl rfl rfl rfl ?_; clear hF; intro a hF
    refine seq_yl hF (wn_none rfl) rfl rfl (pkT hF rfl rfl rfl) ?_; clear hF; intro a hF
    refine asN hF rfl rfl rfl rfl rfl ?_; clear hF; intro a hF
    refine wpList_nil ?_
    refine cut_n ?_
    exact ⟨_, dec_t (by omega), hF.to [1, 2, 3, 4] rfl, (hS.sub [0, 1] (by decide) (by first | rfl | simp) (by simp))⟩
   ·first | (replace hc98 := of_decide_eq_false hc98) | (replace hc98 := of_decide_eq_true (bnot_f hc98)) | (replace hc98 := bnot_f hc98) | skip
    refine seq_yl hF (wn_t hF rfl rfl rfl rfl) rfl rfl (yl_fieldAddr hF rfl rfl (fun w => by kernel_rfl : ∀ w, (Instr.fieldAt 27 (.pointer (some ⟨g95, 0, none⟩)) 0).run Try.prog w = .ok (.pointer (some ⟨g95, 0, none⟩)) w)) ?_; clear hF; intro a hF
    refine seq_yl hF (wn_t hF rfl rfl rfl rfl) rfl rfl (yl_load (fun _ h => h ▸ hS) hF rfl rfl 0 rfl ag25 rfl) ?_; clear hF; intro a hF
    refine seq_yl hF (wn_t hF rfl rfl rfl rfl) rfl rfl (yl_bin hF rfl rfl rfl rfl (fun _ => run_eql)) ?_; clear hF; intro a hF
    refine seq_yl hF (wn_none rfl) rfl rfl (pkF hF rfl rfl rfl) ?_; clear hF; intro a hF
    refine mvN hF rfl rfl rfl rfl rfl ?_; clear hF; intro a hF
    refine fr_split hF (fun hc99 hF => ?_) (fun hc99 hF => ?_)
    ·first | (replace hc99 := of_decide_eq_true hc99) | (replace hc99 := of_decide_eq_false (bnot_t hc99)) | (replace hc99 := bnot_t hc99) | skip
     refine skF hF rfl rfl rfl rfl rfl rfl ?_; clear hF; intro a hF
     refine skF hF rfl rfl rfl rfl rfl rfl ?_; clear hF; intro a hF
     refine skF hF rfl rfl rfl rfl rfl rfl ?_; clear hF; intro a hF
     refine seq_yl hF (wn_none rfl) rfl rfl (pkT hF rfl rfl rfl) ?_; clear hF; intro a hF
     refine mvN hF rfl rfl rfl rfl rfl ?_; clear hF; intro a hF
     refine skF hF rfl rfl rfl rfl rfl rfl ?_; clear hF; intro a hF
     refine skF hF rfl rfl rfl rfl rfl rfl ?_; clear hF; intro a hF
     refine skF hF rfl rfl rfl rfl rfl rfl ?_; clear hF; intro a hF
     refine seq_yl hF (wn_none rfl) rfl rfl (pkT hF rfl rfl rfl) ?_; clear hF; intro a hF
     refine asN hF rfl rfl rfl rfl rfl ?_; clear hF; intro a hF
     refine wpList_nil ?_
     refine cut_n ?_
     exact ⟨_, dec_t (by omega), hF.to [1, 2, 3, 4] rfl, (hS.sub [0, 1] (by decide) (by first | rfl | simp) (by simp))⟩
    ·first | (replace hc99 := of_decide_eq_false hc99) | (replace hc99 := of_decide_eq_true (bnot_f hc99)) | (replace hc99 := bnot_f hc99) | skip
     refine seq_yl hF (wn_t hF rfl rfl rfl rfl) rfl rfl (yl_fieldAddr hF rfl rfl (fun w => by kernel_rfl : ∀ w, (Instr.fieldAt 27 (.pointer (some ⟨g95, 0, none⟩)) 0).run Try.prog w = .ok (.pointer (some ⟨g95, 0, none⟩)) w)) ?_; clear hF; intro a hF
     refine seq_yl hF (wn_t hF rfl rfl rfl rfl) rfl rfl (yl_load (fun _ h => h ▸ hS) hF rfl rfl 0 rfl ag25 rfl) ?_; clear hF; intro a hF
     refine seq_yl hF (wn_t hF rfl rfl rfl rfl) rfl rfl (yl_bin hF rfl rfl rfl rfl (fun _ => run_eql)) ?_; clear hF; intro a hF
     refine seq_yl hF (wn_none rfl) rfl rfl (pkF hF rfl rfl rfl) ?_; clear hF; intro a hF
     refine mvN hF rfl rfl rfl rfl rfl ?_; clear hF; intro a hF
     refine fr_split hF (fun hc100 hF => ?_) (fun hc100 hF => ?_)
     ·first | (replace hc100 := of_decide_eq_true hc100) | (replace hc100 := of_decide_eq_false (bnot_t hc100)) | (replace hc100 := bnot_t hc100) | skip
      refine skF hF rfl rfl rfl rfl rfl rfl ?_; clear hF; intro a hF
      refine skF hF rfl rfl rfl rfl rfl rfl ?_; clear hF; intro a hF
      refine skF hF rfl rfl rfl rfl rfl rfl ?_; clear hF; intro a hF
      refine seq_yl hF (wn_none rfl) rfl rfl (pkT hF rfl rfl rfl) ?_; clear hF; intro a hF
      refine asN hF rfl rfl rfl rfl rfl ?_; clear hF; intro a hF
      refine wpList_nil ?_
      refine cut_n ?_
      exact ⟨_, dec_t (by omega), hF.to [1, 2, 3, 4] rfl, (hS.sub [0, 1] (by decide) (by first | rfl | simp) (by simp))⟩
     ·first | (replace hc100 := of_decide_eq_false hc100) | (replace hc100 := of_decide_eq_true (bnot_f hc100)) | (replace hc100 := bnot_f hc100) | skip
      refine seq_yl hF (wn_t hF rfl rfl rfl rfl) rfl rfl (yl_fieldAddr hF rfl rfl (fun w => by kernel_rfl : ∀ w, (Instr.fieldAt 27 (.pointer (some ⟨g95, 0, none⟩)) 0).run Try.prog w = .ok (.pointer (some ⟨g95, 0, none⟩)) w)) ?_; clear hF; intro a hF
      refine seq_yl hF (wn_t hF rfl rfl rfl rfl) rfl rfl (yl_load (fun _ h => h ▸ hS) hF rfl rfl 0 rfl ag25 rfl) ?_; clear hF; intro a hF
      refine seq_yl hF (wn_t hF rfl rfl rfl rfl) rfl rfl (yl_bin hF rfl rfl rfl rfl (fun _ => run_eql)) ?_; clear hF; intro a hF
      refine seq_yl hF (wn_none rfl) rfl rfl (pkF hF rfl rfl rfl) ?_; clear hF; intro a hF
      refine asN hF rfl rfl rfl rfl rfl ?_; clear hF; intro a hF
      refine wpList_nil ?_
      refine cut_n ?_
      exact ⟨_, dec_d (by constructor <;> intro _ <;> omega), hF.to [1, 2, 3, 4] rfl, (hS.sub [0, 1] (by decide) (by first | rfl | simp) (by simp))⟩
 clear hF hS
 rintro a w ⟨fine, hcut95_0, hF, hS⟩
 have hfine : fine = true ↔ (r.f5 = 0 ∨ r.f5 = 10 ∨ r.f5 = 11 ∨ r.f5 = 13 ∨ r.f5 = 50) := by rw [hcut95_0]; exact decide_eq_true_iff
 refine then_n ?_
 refine c_seq ?_
 refine c_region ?_
 refine seq_yl hF (wn_none rfl) rfl rfl (yl_fieldAddr hF rfl rfl (fun w => by kernel_rfl : ∀ w, (Instr.fieldAt 37 (.pointer (some ⟨g94, 0, none⟩)) 0).run Try.prog w = .ok (.pointer (some ⟨g94, 0, none⟩)) w)) ?_; clear hF; intro a hF
 refine seq_yl hF (wn_none rfl) rfl rfl (yl_load (fun _ h => h ▸ hS) hF rfl rfl 1 rfl ag3 rfl) ?_; clear hF; intro a hF
 refine seq_yl hF (wn_none rfl) rfl rfl (yl_bin hF rfl rfl rfl rfl (fun _ => run_eql)) ?_; clear hF; intro a hF
 refine mvN hF rfl rfl rfl rfl rfl ?_; clear hF; intro a hF
 refine fr_split hF (fun hc101 hF => ?_) (fun hc101 hF => ?_)
 ·first | (replace hc101 := of_decide_eq_true hc101) | (replace hc101 := of_decide_eq_false (bnot_t hc101)) | (replace hc101 := bnot_t hc101) | skip
  refine skF hF rfl rfl rfl rfl rfl rfl ?_; clear hF; intro a hF
  refine skF hF rfl rfl rfl rfl rfl rfl ?_; clear hF; intro a hF
  refine skF hF rfl rfl rfl rfl rfl rfl ?_; clear hF; intro a hF
  refine seq_yl hF (wn_none rfl) rfl rfl (pkT hF rfl rfl rfl) ?_; clear hF; intro a hF
  refine mvN hF rfl rfl rfl rfl rfl ?_; clear hF; intro a hF
  refine seq_yl hF (wn_t hF rfl rfl rfl rfl) rfl rfl (yl_fieldAddr hF rfl rfl (fun w => by kernel_rfl : ∀ w, (Instr.fieldAt 37 (.pointer (some ⟨g94, 0, none⟩)) 1).run Try.prog w = .ok (.pointer (some ⟨g94, 1, none⟩)) w)) ?_; clear hF; intro a hF
  refine seq_yl hF (wn_t hF rfl rfl rfl rfl) rfl rfl (yl_load (fun _ h => h ▸ hS) hF rfl rfl 1 rfl ag3 rfl) ?_; clear hF; intro a hF
  refine seq_yl hF (wn_t hF rfl rfl rfl rfl) rfl rfl (yl_bin hF rfl rfl rfl rfl (fun _ => run_geq)) ?_; clear hF; intro a hF
  refine seq_yl hF (wn_none rfl) rfl rfl (pkT hF rfl rfl rfl) ?_; clear hF; intro a hF
  refine mvN hF rfl rfl rfl rfl rfl ?_; clear hF; intro a hF
  refine fr_split hF (fun hc102 hF => ?_) (fun hc102 hF => ?_)
  ·first | (replace hc102 := of_decide_eq_true hc102) | (replace hc102 := of_decide_eq_false (bnot_t hc102)) | (replace hc102 := bnot_t hc102) | skip
   refine seq_yl hF (wn_t hF rfl rfl rfl rfl) rfl rfl (yl_fieldAddr hF rfl rfl (fun w => by kernel_rfl : ∀ w, (Instr.fieldAt 37 (.pointer (some ⟨g94, 0, none⟩)) 1).run Try.prog w = .ok (.pointer (some ⟨g94, 1, none⟩)) w)) ?_; clear hF; intro a hF
   refine seq_yl hF (wn_t hF rfl rfl rfl rfl) rfl rfl (yl_load (fun _ h => h ▸ hS) hF rfl rfl 1 rfl ag3 rfl) ?_; clear hF; intro a hF
   refine seq_yl hF (wn_t hF rfl rfl rfl rfl) rfl rfl (yl_fieldAddr hF rfl rfl (fun w => by kernel_rfl : ∀ w, (Instr.fieldAt 37 (.pointer (some ⟨g94, 0, none⟩)) 2).run Try.prog w = .ok (.pointer (some ⟨g94, 2, none⟩)) w)) ?_; clear hF; intro a hF
   refine seq_yl hF (wn_t hF rfl rfl rfl rfl) rfl rfl (yl_load (fun _ h => h ▸ hS) hF rfl rfl 1 rfl ag3 rfl) ?_; clear hF; intro a hF
   refine seq_yl hF (wn_t hF rfl rfl rfl rfl) rfl rfl (yl_bin hF rfl rfl rfl rfl (fun _ => run_leq)) ?_; clear hF; intro a hF
   refine seq_yl hF (wn_none rfl) rfl rfl (pkT hF rfl rfl rfl) ?_; clear hF; intro a hF
   refine mvN hF rfl rfl rfl rfl rfl ?_; clear hF; intro a hF
   refine fr_split hF (fun hc103 hF => ?_) (fun hc103 hF => ?_)
   ·first | (replace hc103 := of_decide_eq_true hc103) | (replace hc103 := of_decide_eq_false (bnot_t hc103)) | (replace hc103 := bnot_t hc103) | skip
    refine seq_yl hF (wn_t hF rfl rfl rfl rfl) rfl rfl (yl_fieldAddr hF rfl rfl (fun w => by kernel_rfl : ∀ w, (Instr.fieldAt 37 (.pointer (some ⟨g94, 0, none⟩)) 2).run Try.prog w = .ok (.pointer (some ⟨g94, 2, none⟩)) w)) ?_; clear hF; intro a hF
    refine seq_yl hF (wn_t hF rfl rfl rfl rfl) rfl rfl (yl_load (fun _ h => h ▸ hS) hF rfl rfl 1 rfl ag3 rfl) ?_; clear hF; intro a hF
    refine seq_yl hF (wn_t hF rfl rfl rfl rfl) rfl rfl (yl_bin hF rfl rfl rfl rfl (fun _ => run_lss)) ?_; clear hF; intro a hF
    refine seq_yl hF (wn_none rfl) rfl rfl (pkT hF rfl rfl rfl) ?_; clear hF; intro a hF
    refine mvN hF rfl rfl rfl rfl rfl ?_; clear hF; intro a hF
    refine fr_split hF (fun hc104 hF => ?_) (fun hc104 hF => ?_)
    ·first | (replace hc104 := of_decide_eq_true hc104) | (replace hc104 := of_decide_eq_false (bnot_t hc104)) | (replace hc104 := bnot_t hc104) | skip
     refine seq_yl hF (wn_t hF rfl rfl rfl rfl) rfl rfl (yl_fieldAddr hF rfl rfl (fun w => by kernel_rfl : ∀ w, (Instr.fieldAt 37 (.pointer (some ⟨g94, 0, none⟩)) 3).run Try.prog w = .ok (.pointer (some ⟨g94, 3, none⟩)) w)) ?_; clear hF; intro a hF
     refine seq_yl hF (wn_t hF rfl rfl rfl rfl) rfl rfl (yl_load (fun _ h => h ▸ hS) hF rfl rfl 1 rfl ag3 rfl) ?_; clear hF; intro a hF
     refine seq_wp (wn_t hF rfl rfl rfl rfl) (wp_call (vs := [_]) hF rfl rfl rfl rfl cf53 (tick2_any (r.f3) _) ?_)
     clear hF; rintro _ w ⟨rfl, hS1⟩ a hF
     replace hS := hS.callB hS1 rfl; clear hS1
     refine seq_yl hF (wn_none rfl) rfl rfl (pkT hF rfl rfl rfl) ?_; clear hF; intro a hF
     refine mvN hF rfl rfl rfl rfl rfl ?_; clear hF; intro a hF
     refine fr_split hF (fun hc105 hF => ?_) (fun hc105 hF => ?_)
     ·first | (replace hc105 := of_decide_eq_true hc105) | (replace hc105 := of_decide_eq_false (bnot_t hc105)) | (replace hc105 := bnot_t hc105) | skip
      refine seq_yl hF (wn_t hF rfl rfl rfl rfl) rfl rfl (yl_fieldAddr hF rfl rfl (fun w => by kernel_rfl : ∀ w, (Instr.fieldAt 37 (.pointer (some ⟨g94, 0, none⟩)) 4).run Try.prog w = .ok (.pointer (some ⟨g94, 4, none⟩)) w)) ?_; clear hF; intro a hF
      refine seq_yl hF (wn_t hF rfl rfl rfl rfl) rfl rfl (yl_load (fun _ h => h ▸ hS) hF rfl rfl 1 rfl ag3 rfl) ?_; clear hF; intro a hF
      refine seq_yl hF (wn_t hF rfl rfl rfl rfl) rfl rfl (yl_bin hF rfl rfl rfl rfl (fun _ => run_geq)) ?_; clear hF; intro a hF
      refine seq_yl hF (wn_none rfl) rfl rfl (pkT hF rfl rfl rfl) ?_; clear hF; intro a hF
      refine mvN hF rfl rfl rfl rfl rfl ?_; clear hF; intro a hF
      refine fr_split hF (fun hc106 hF => ?_) (fun hc106 hF => ?_)
      ·first | (replace hc106 := of_decide_eq_true hc106) | (replace hc106 := of_decide_eq_false (bnot_t hc106)) | (replace hc106 := bnot_t hc106) | skip
       refine seq_yl hF (wn_t hF rfl rfl rfl rfl) rfl rfl (yl_fieldAddr hF rfl rfl (fun w => by kernel_rfl : ∀ w, (Instr.fieldAt 37 (.pointer (some ⟨g94, 0, none⟩)) 4).run Try.prog w = .ok (.pointer (some ⟨g94, 4, none⟩)) w)) ?_; clear hF; intro a hF
       refine seq_yl hF (wn_t hF rfl rfl rfl rfl) rfl rfl (yl_load (fun _ h => h ▸ hS) hF rfl rfl 1 rfl ag3 rfl) ?_; clear hF; intro a hF
       refine seq_yl hF (wn_t hF rfl rfl rfl rfl) rfl rfl (yl_bin hF rfl rfl rfl rfl (fun _ => run_leq)) ?_; clear hF; intro a hF
       refine seq_yl hF (wn_none rfl) rfl rfl (pkT hF rfl rfl rfl) ?_; clear hF; intro a hF
       refine mvN hF rfl rfl rfl rfl rfl ?_; clear hF; intro a hF
       refine fr_split hF (fun hc107 hF => ?_) (fun hc107 hF => ?_)
       ·first | (replace hc107 := of_decide_eq_true hc107) | (replace hc107 := of_decide_eq_false (bnot_t hc107)) | (replace hc107 := bnot_t hc107) | skip
        refine seq_yl hF (wn_t hF rfl rfl rfl rfl) rfl rfl (yl_move hF rfl rfl) ?_; clear hF; intro a hF
        refine seq_yl hF (wn_none rfl) rfl rfl (pkT hF rfl rfl rfl) ?_; clear hF; intro a hF
        refine mvN hF rfl rfl rfl rfl rfl ?_; clear hF; intro a hF
        refine fr_split hF (fun hc108 hF => ?_) (fun hc108 hF => ?_)
        ·first | (replace hc108 := of_decide_eq_true hc108) | (replace hc108 := of_decide_eq_false (bnot_t hc108)) | (replace hc108 := bnot_t hc108) | skip
         refine seq_yl hF (wn_t hF rfl rfl rfl rfl) rfl rfl (yl_fieldAddr hF rfl rfl (fun w => by kernel_rfl : ∀ w, (Instr.fieldAt 27 (.pointer (some ⟨g95, 0, none⟩)) 1).run Try.prog w = .ok (.pointer (some ⟨g95, 1, none⟩)) w)) ?_; clear hF; intro a hF
         refine seq_yl hF (wn_t hF rfl rfl rfl rfl) rfl rfl (yl_load (fun _ h => h ▸ hS) hF rfl rfl 0 rfl ag3 rfl) ?_; clear hF; intro a hF
         refine seq_yl hF (wn_t hF rfl rfl rfl rfl) rfl rfl (yl_bin hF rfl rfl rfl rfl (fun _ => run_geq)) ?_; clear hF; intro a hF
         refine seq_yl hF (wn_none rfl) rfl rfl (pkT hF rfl rfl rfl) ?_; clear hF; intro a hF
         refine mvN hF rfl rfl rfl rfl rfl ?_; clear hF; intro a hF
         refine fr_split hF (fun hc109 hF => ?_) (fun hc109 hF => ?_)
         ·first | (replace hc109 := of_decide_eq_true hc109) | (replace hc109 := of_decide_eq_false (bnot_t hc109)) | (replace hc109 := bnot_t hc109) | skip
          refine seq_yl hF (wn_t hF rfl rfl rfl rfl) rfl rfl (yl_fieldAddr hF rfl rfl (fun w => by kernel_rfl : ∀ w, (Instr.fieldAt 27 (.pointer (some ⟨g95, 0, none⟩)) 1).run Try.prog w = .ok (.pointer (some ⟨g95, 1, none⟩)) w)) ?_; clear hF; intro a hF
          refine seq_yl hF (wn_t hF rfl rfl rfl rfl) rfl rfl (yl_load (fun _ h => h ▸ hS) hF rfl rfl 0 rfl ag3 rfl) ?_; clear hF; intro a hF
          refine seq_yl hF (wn_t hF rfl rfl rfl rfl) rfl rfl (yl_bin hF rfl rfl rfl rfl (fun _ => run_leq)) ?_; clear hF; intro a hF
          refine seq_yl hF (wn_none rfl) rfl rfl (pkT hF rfl rfl rfl) ?_; clear hF; intro a hF
          refine mvN hF rfl rfl rfl rfl rfl ?_; clear hF; intro a hF
          refine fr_split hF (fun hc110 hF => ?_) (fun hc110 hF => ?_)
          ·first | (replace hc110 := of_decide_eq_true hc110) | (replace hc110 := of_decide_eq_false (bnot_t hc110)) | (replace hc110 := bnot_t hc110) | skip
           refine seq_yl hF (wn_t hF rfl rfl rfl rfl) rfl rfl (yl_fieldAddr hF rfl rfl (fun w => by kernel_rfl : ∀ w, (Instr.fieldAt 27 (.pointer (some ⟨g95, 0, none⟩)) 3).run Try.prog w = .ok (.pointer (some ⟨g95, 3, none⟩)) w)) ?_; clear hF; intro a hF
           refine seq_yl hF (wn_t hF rfl rfl rfl rfl) rfl rfl (yl_load (fun _ h => h ▸ hS) hF rfl rfl 0 rfl ag3 rfl) ?_; clear hF; intro a hF
           refine seq_wp (wn_t hF rfl rfl rfl rfl) (wp_call (vs := [_]) hF rfl rfl rfl rfl cf53 (tick2_any (r.f8) _) ?_)
           clear hF; rintro _ w ⟨rfl, hS1⟩ a hF
           replace hS := hS.callB hS1 rfl; clear hS1
           refine seq_yl hF (wn_none rfl) rfl rfl (pkT hF rfl rfl rfl) ?_; clear hF; intro a hF
           refine asN hF rfl rfl rfl rfl rfl ?_; clear hF; intro a hF
           refine wpList_nil ?_
           refine then_n ?_
           refine wp_ret ?_
           refine ret_t hF rfl rfl ?_
           exact ⟨_, rfl, congrArg Value.bool (dec_d (by constructor <;> intro _ <;> (first | (unfold validR at *; omega) | (have h9 := hfine.1 (by assumption); unfold validR at *; omega) | (have h9 : ¬ (r.f5 = 0 ∨ r.f5 = 10 ∨ r.f5 = 11 ∨ r.f5 = 13 ∨ r.f5 = 50) := (fun h => by have := hfine.2 h; simp_all); unfold validR at *; omega)))), (hS.sub [] (by decide) (by first | rfl | simp) (by simp))⟩
          ·first | (replace hc110 := of_decide_eq_false hc110) | (replace hc110 := of_decide_eq_true (bnot_f hc110)) | (replace hc110 := bnot_f hc110) | skip
           refine skF hF rfl rfl rfl rfl rfl rfl ?_; clear hF; intro a hF
           refine skF hF rfl rfl rfl rfl rfl rfl ?_; clear hF; intro a hF
           refine skF hF rfl rfl rfl rfl rfl rfl ?_; clear hF; intro a hF
           refine seq_yl hF (wn_none rfl) rfl rfl (pkF hF rfl rfl rfl) ?_; clear hF; intro a hF
           refine asN hF rfl rfl rfl rfl rfl ?_; clear hF; intro a hF
           refine wpList_nil ?_
           refine then_n ?_
           refine wp_ret ?_
           refine ret_t hF rfl rfl ?_
           exact ⟨_, rfl, congrArg Value.bool (dec_f (by (first | (unfold validR at *; omega) | (have h9 := hfine.1 (by assumption); unfold validR at *; omega) | (have h9 : ¬ (r.f5 = 0 ∨ r.f5 = 10 ∨ r.f5 = 11 ∨ r.f5 = 13 ∨ r.f5 = 50) := (fun h => by have := hfine.2 h; simp_all); unfold validR at *; omega)))), (hS.sub [] (by decide) (by first | rfl | simp) (by simp))⟩
         ·first | (replace hc109 := of_decide_eq_false hc109) | (replace hc109 := of_decide_eq_true (bnot_f hc109)) | (replace hc109 := bnot_f hc109) | skip
          refine skF hF rfl rfl rfl rfl rfl rfl ?_; clear hF; intro a hF
          refine skF hF rfl rfl rfl rfl rfl rfl ?_; clear hF; intro a hF
          refine skF hF rfl rfl rfl rfl rfl rfl ?_; clear hF; intro a hF
          refine seq_yl hF (wn_none rfl) rfl rfl (pkF hF rfl rfl rfl) ?_; clear hF; intro a hF
          refine mvN hF rfl rfl rfl rfl rfl ?_; clear hF; intro a hF
          refine skF hF rfl rfl rfl rfl rfl rfl ?_; clear hF; intro a hF
          refine skF hF rfl rfl rfl rfl rfl rfl ?_; clear hF; intro a hF
          refine skF hF rfl rfl rfl rfl rfl rfl ?_; clear hF; intro a hF
          refine seq_yl hF (wn_none rfl) rfl rfl (pkF hF rfl rfl rfl) ?_; clear hF; intro a hF
          refine asN hF rfl rfl rfl rfl rfl ?_; clear hF; intro a hF
          refine wpList_nil ?_
          refine then_n ?_
          refine wp_ret ?_
          refine ret_t hF rfl rfl ?_
          exact ⟨_, rfl, congrArg Value.bool (dec_f (by (first | (unfold validR at *; omega) | (have h9 := hfine.1 (by assumption); unfold validR at *; omega) | (have h9 : ¬ (r.f5 = 0 ∨ r.f5 = 10 ∨ r.f5 = 11 ∨ r.f5 = 13 ∨ r.f5 = 50) := (fun h => by have := hfine.2 h; simp_all); unfold validR at *; omega)))), (hS.sub [] (by decide) (by first | rfl | simp) (by simp))⟩
        ·first | (replace hc108 := of_decide_eq_false hc108) | (replace hc108 := of_decide_eq_true (bnot_f hc108)) | (replace hc108 := bnot_f hc108) | skip
         refine skF hF rfl rfl rfl rfl rfl rfl ?_; clear hF; intro a hF
         refine skF hF rfl rfl rfl rfl rfl rfl ?_; clear hF; intro a hF
         refine skF hF rfl rfl rfl rfl rfl rfl ?_; clear hF; intro a hF
         refine seq_yl hF (wn_none rfl) rfl rfl (pkF hF rfl rfl rfl) ?_; clear hF; intro a hF
         refine mvN hF rfl rfl rfl rfl rfl ?_; clear hF; intro a hF
         refine skF hF rfl rfl rfl rfl rfl rfl ?_; clear hF; intro a hF
         refine skF hF rfl rfl rfl rfl rfl rfl ?_; clear hF; intro a hF
         refine skF hF rfl rfl rfl rfl rfl rfl ?_; clear hF; intro a hF
         refine seq_yl hF (wn_none rfl) rfl rfl (pkF hF rfl rfl rfl) ?_; clear hF; intro a hF
         refine mvN hF rfl rfl rfl rfl rfl ?_; clear hF; intro a hF
         refine skF hF rfl rfl rfl rfl rfl rfl ?_; clear hF; intro a hF
         refine skF hF rfl rfl rfl rfl rfl rfl ?_; clear hF; intro a hF
         refine skF hF rfl rfl rfl rfl rfl rfl ?_; clear hF; intro a hF
         refine seq_yl hF (wn_none rfl) rfl rfl (pkF hF rfl rfl rfl) ?_; clear hF; intro a hF
         refine asN hF rfl rfl rfl rfl rfl ?_; clear hF; intro a hF
         refine wpList_nil ?_
         refine then_n ?_
         refine wp_ret ?_
         refine ret_t hF rfl rfl ?_
         exact ⟨_, rfl, congrArg Value.bool (dec_f (by (first | (unfold validR at *; omega) | (have h9 := hfine.1 (by assumption); unfold validR at *; omega) | (have h9 : ¬ (r.f5 = 0 ∨ r.f5 = 10 ∨ r.f5 = 11 ∨ r.f5 = 13 ∨ r.f5 = 50) := (fun h => by have := hfine.2 h; simp_all); unfold validR at *; omega)))), (hS.sub [] (by decide) (by first | rfl | simp) (by simp))⟩
       ·first | (replace hc107 := of_decide_eq_false hc107) | (replace hc107 := of_decide_eq_true (bnot_f hc107)) | (replace hc107 := bnot_f hc107) | skip
        refine skF hF rfl rfl rfl rfl rfl rfl ?_; clear hF; intro a hF
        refine seq_yl hF (wn_none rfl) rfl rfl (pkF hF rfl rfl rfl) ?_; clear hF; intro a hF
        refine mvN hF rfl rfl rfl rfl rfl ?_; clear hF; intro a hF
        refine skF hF rfl rfl rfl rfl rfl rfl ?_; clear hF; intro a hF
        refine skF hF rfl rfl rfl rfl rfl rfl ?_; clear hF; intro a hF
        refine skF hF rfl rfl rfl rfl rfl rfl ?_; clear hF; intro a hF
        refine seq_yl hF (wn_none rfl) rfl rfl (pkF hF rfl rfl rfl) ?_; clear hF; intro a hF
        refine mvN hF rfl rfl rfl rfl rfl ?_; clear hF; intro a hF
        refine skF hF rfl rfl rfl rfl rfl rfl ?_; clear hF; intro a hF
        refine skF hF rfl rfl rfl rfl rfl rfl ?_; clear hF; intro a hF
        refine skF hF rfl rfl rfl rfl rfl rfl ?_; clear hF; intro a hF
        refine seq_yl hF (wn_none rfl) rfl rfl (pkF hF rfl rfl rfl) ?_; clear hF; intro a hF
        refine mvN hF rfl rfl rfl rfl rfl ?_; clear hF; intro a hF
        refine skF hF rfl rfl rfl rfl rfl rfl ?_; clear hF; intro a hF
        refine skF hF rfl rfl rfl rfl rfl rfl ?_; clear hF; intro a hF
        refine skF hF rfl rfl rfl rfl rfl rfl ?_; clear hF; intro a hF
        refine seq_yl hF (wn_none rfl) rfl rfl (pkF hF rfl rfl rfl) ?_; clear hF; intro a hF
        refine asN hF rfl rfl rfl rfl rfl ?_; clear hF; intro a hF
        refine wpList_nil ?_
        refine then_n ?_
        refine wp_ret ?_
        refine ret_t hF rfl rfl ?_
        exact ⟨_, rfl, congrArg Value.bool (dec_f (by (first | (unfold validR at *; omega) | (have h9 := hfine.1 (by assumption); unfold validR at *; omega) | (have h9 : ¬ (r.f5 = 0 ∨ r.f5 = 10 ∨ r.f5 = 11 ∨ r.f5 = 13 ∨ r.f5 = 50) := (fun h => by have := hfine.2 h; simp_all); unfold validR at *; omega)))), (hS.sub [] (by decide) (by first | rfl | simp) (by simp))⟩
      ·first | (replace hc106 := of_decide_eq_false hc106) | (replace hc106 := of_decide_eq_true (bnot_f hc106)) | (replace hc106 := bnot_f hc106) | skip
       refine skF hF rfl rfl rfl rfl rfl rfl ?_; clear hF; intro a hF
       refine skF hF rfl rfl rfl rfl rfl rfl ?_; clear hF; intro a hF
       refine skF hF rfl rfl rfl rfl rfl rfl ?_; clear hF; intro a hF
       refine seq_yl hF (wn_none rfl) rfl rfl (pkF hF rfl rfl rfl) ?_; clear hF; intro a hF
       refine mvN hF rfl rfl rfl rfl rfl ?_; clear hF; intro a hF
       refine skF hF rfl rfl rfl rfl rfl rfl ?_; clear hF; intro a hF
       refine seq_yl hF (wn_none rfl) rfl rfl (pkF hF rfl rfl rfl) ?_; clear hF; intro a hF
       refine mvN hF rfl rfl rfl rfl rfl ?_; clear hF; intro a hF
       refine skF hF rfl rfl rfl rfl rfl rfl ?_; clear hF; intro a hF
       refine skF hF rfl rfl rfl rfl rfl rfl ?_; clear hF; intro a hF
       refine skF hF rfl rfl rfl rfl rfl rfl ?_; clear hF; intro a hF
       refine seq_yl hF (wn_none rfl) rfl rfl (pkF hF rfl rfl rfl) ?_; clear hF; intro a hF
       refine mvN hF rfl rfl rfl rfl rfl ?_; clear hF; intro a hF
       refine skF hF rfl rfl rfl rfl rfl rfl ?_; clear hF; intro a hF
       refine skF hF rfl rfl rfl rfl rfl rfl ?_; clear hF; intro a hF
       refine skF hF rfl rfl rfl rfl rfl rfl ?_; clear hF; intro a hF
       refine seq_yl hF (wn_none rfl) rfl rfl (pkF hF rfl rfl rfl) ?_; clear hF; intro a hF
       refine mvN hF rfl rfl rfl rfl rfl ?_; clear hF; intro a hF
       refine skF hF rfl rfl rfl rfl rfl rfl ?_; clear hF; intro a hF
       refine skF hF rfl rfl rfl rfl rfl rfl ?_; clear hF; intro a hF
       refine skF hF rfl rfl rfl rfl rfl rfl ?_; clear hF; intro a hF
       refine seq_yl hF (wn_none rfl) rfl rfl (pkF hF rfl rfl rfl) ?_; clear hF; intro a hF
       refine asN hF rfl rfl rfl rfl rfl ?_; clear hF; intro a hF
       refine wpList_nil ?_
       refine then_n ?_
       refine wp_ret ?_
       refine ret_t hF rfl rfl ?_
       exact ⟨_, rfl, congrArg Value.bool (dec_f (by (first | (unfold validR at *; omega) | (have h9 := hfine.1 (by assumption); unfold validR at *; omega) | (have h9 : ¬ (r.f5 = 0 ∨ r.f5 = 10 ∨ r.f5 = 11 ∨ r.f5 = 13 ∨ r.f5 = 50) := (fun h => by have := hfine.2 h; simp_all); unfold validR at *; omega)))), (hS.sub [] (by decide) (by first | rfl | simp) (by simp))⟩
     ·first | (replace hc105 := of_decide_eq_false hc105) | (replace hc105 := of_decide_eq_true (bnot_f hc105)) | (replace hc105 := bnot_f hc105) | skip
      refine skF hF rfl rfl rfl rfl rfl rfl ?_; clear hF; intro a hF
      refine skF hF rfl rfl rfl rfl rfl rfl ?_; clear hF; intro a hF
      refine skF hF rfl rfl rfl rfl rfl rfl ?_; clear hF; intro a hF
      refine seq_yl hF (wn_none rfl) rfl rfl (pkF hF rfl rfl rfl) ?_; clear hF; intro a hF
      refine mvN hF rfl rfl rfl rfl rfl ?_; clear hF; intro a hF
      refine skF hF rfl rfl rfl rfl rfl rfl ?_; clear hF; intro a hF
      refine skF hF rfl rfl rfl rfl rfl rfl ?_; clear hF; intro a hF
      refine skF hF rfl rfl rfl rfl rfl rfl ?_; clear hF; intro a hF
      refine seq_yl hF (wn_none rfl) rfl rfl (pkF hF rfl rfl rfl) ?_; clear hF; intro a hF
      refine mvN hF rfl rfl rfl rfl rfl ?_; clear hF; intro a hF
      refine skF hF rfl rfl rfl rfl rfl rfl ?_; clear hF; intro a hF
      refine seq_yl hF (wn_none rfl) rfl rfl (pkF hF rfl rfl rfl) ?_; clear hF; intro a hF
      refine mvN hF rfl rfl rfl rfl rfl ?_; clear hF; intro a hF
      refine skF hF rfl rfl rfl rfl rfl rfl ?_; clear hF; intro a hF
      refine skF hF rfl rfl rfl rfl rfl rfl ?_; clear hF; intro a hF
      refine skF hF rfl rfl rfl rfl rfl rfl ?_; clear hF; intro a hF
      refine seq_yl hF (wn_none rfl) rfl rfl (pkF hF rfl rfl rfl) ?_; clear hF; intro a hF
      refine mvN hF rfl rfl rfl rfl rfl ?_; clear hF; intro a hF
      refine skF hF rfl rfl rfl rfl rfl rfl ?_; clear hF; intro a hF
      refine skF hF rfl rfl rfl rfl rfl rfl ?_; clear hF; intro a hF
      refine skF hF rfl rfl rfl rfl rfl rfl ?_; clear hF; intro a hF
      refine seq_yl hF (wn_none rfl) rfl rfl (pkF hF rfl rfl rfl) ?_; clear hF; intro a hF
      refine mvN hF rfl rfl rfl rfl rfl ?_; clear hF; intro a hF
      refine skF hF rfl rfl rfl rfl rfl rfl ?_; clear hF; intro a hF
      refine skF hF rfl rfl rfl rfl rfl rfl ?_; clear hF; intro a hF
      refine skF hF rfl rfl rfl rfl rfl rfl ?_; clear hF; intro a hF
      refine seq_yl hF (wn_none rfl) rfl rfl (pkF hF rfl rfl rfl) ?_; clear hF; intro a hF
      refine asN hF rfl rfl rfl rfl rfl ?_; clear hF; intro a hF
      refine wpList_nil ?_
      refine then_n ?_
      refine wp_ret ?_
      refine ret_t hF rfl rfl ?_
      exact ⟨_, rfl, congrArg Value.bool (dec_f (by (first | (unfold validR at *; omega) | (have h9 := hfine.1 (by assumption); unfold validR at *; omega) | (have h9 : ¬ (r.f5 = 0 ∨ r.f5 = 10 ∨ r.f5 = 11 ∨ r.f5 = 13 ∨ r.f5 = 50) := (fun h => by have := hfine.2 h; simp_all); unfold validR at *; omega)))), (hS.sub [] (by decide) (by first | rfl | simp) (by simp))⟩
    ·first | (replace hc104 := of_decide_eq_false hc104) | (replace hc104 := of_decide_eq_true (bnot_f hc104)) | (replace hc104 := bnot_f hc104) | skip
     refine skF hF rfl rfl rfl rfl rfl rfl ?_; clear hF; intro a hF
     refine skF hF rfl rfl rfl rfl rfl rfl ?_; clear hF; intro a hF
     refine skF hF rfl rfl rfl rfl rfl rfl ?_; clear hF; intro a hF
     refine seq_yl hF (wn_none rfl) rfl rfl (pkF hF rfl rfl rfl) ?_; clear hF; intro a hF
     refine mvN hF rfl rfl rfl rfl rfl ?_; clear hF; intro a hF
     refine skF hF rfl rfl rfl rfl rfl rfl ?_; clear hF; intro a hF
     refine skF hF rfl rfl rfl rfl rfl rfl ?_; clear hF; intro a hF
     refine skF hF rfl rfl rfl rfl rfl rfl ?_; clear hF; intro a hF
     refine seq_yl hF (wn_none rfl) rfl rfl (pkF hF rfl rfl rfl) ?_; clear hF; intro a hF
     refine mvN hF rfl rfl rfl rfl rfl ?_; clear hF; intro a hF
     refine skF hF rfl rfl rfl rfl rfl rfl ?_; clear hF; intro a hF
     refine skF hF rfl rfl rfl rfl rfl rfl ?_; clear hF; intro a hF
     refine skF hF rfl rfl rfl rfl rfl rfl ?_; clear hF; intro a hF
     refine seq_yl hF (wn_none rfl) rfl rfl (pkF hF rfl rfl rfl) ?_; clear hF; intro a hF
     refine mvN hF rfl rfl rfl rfl rfl ?_; clear hF; intro a hF
     refine skF hF rfl rfl rfl rfl rfl rfl ?_; clear hF; intro a hF
     refine seq_yl hF (wn_none rfl) rfl rfl (pkF hF rfl rfl rfl) ?_; clear hF; intro a hF
     refine mvN hF rfl rfl rfl rfl rfl ?_; clear hF; intro a hF
     refine skF hF rfl rfl rfl rfl rfl rfl ?_; clear hF; intro a hF
     refine skF hF rfl rfl rfl rfl rfl rfl ?_; clear hF; intro a hF
     refine skF hF rfl rfl rfl rfl rfl rfl ?_; clear hF; intro a hF
     refine seq_yl hF (wn_none rfl) rfl rfl (pkF hF rfl rfl rfl) ?_; clear hF; intro a hF
     refine mvN hF rfl rfl rfl rfl rfl ?_; clear hF; intro a hF
     refine skF hF rfl rfl rfl rfl rfl rfl ?_; clear hF; intro a hF
     refine skF hF rfl rfl rfl rfl rfl rfl ?_; clear hF; intro a hF
     refine skF hF rfl rfl rfl rfl rfl rfl ?_; clear hF; intro a hF
     refine seq_yl hF (wn_none rfl) rfl rfl (pkF hF rfl rfl rfl) ?_; clear hF; intro a hF
     refine mvN hF rfl rfl rfl rfl rfl ?_; clear hF; intro a hF
     refine skF hF rfl rfl rfl rfl rfl rfl ?_; clear hF; intro a hF
     refine skF hF rfl rfl rfl rfl rfl rfl ?_; clear hF; intro a hF
     refine skF hF rfl rfl rfl rfl rfl rfl ?_; clear hF; intro a hF
     refine seq_yl hF (wn_none rfl) rfl rfl (pkF hF rfl rfl rfl) ?_; clear hF; intro a hF
     refine asN hF rfl rfl rfl rfl rfl ?_; clear hF; intro a hF
     refine wpList_nil ?_
     refine then_n ?_
     refine wp_ret ?_
     refine ret_t hF rfl rfl ?_
     exact ⟨_, rfl, congrArg Value.bool (dec_f (by (first | (unfold validR at *; omega) | (have h9 := hfine.1 (by assumption); unfold validR at *; omega) | (have h9 : ¬ (r.f5 = 0 ∨ r.f5 = 10 ∨ r.f5 = 11 ∨ r.f5 = 13 ∨ r.f5 = 50) := (fun h => by have := hfine.2 h; simp_all); unfold validR at *; omega)))), (hS.sub [] (by decide) (by first | rfl | simp) (by simp))⟩
   ·first | (replace hc103 := of_decide_eq_false hc103) | (replace hc103 := of_decide_eq_true (bnot_f hc103)) | (replace hc103 := bnot_f hc103) | skip
    refine skF hF rfl rfl rfl rfl rfl rfl ?_; clear hF; intro a hF
    refine skF hF rfl rfl rfl rfl rfl rfl ?_; clear hF; intro a hF
    refine skF hF rfl rfl rfl rfl rfl rfl ?_; clear hF; intro a hF
    refine seq_yl hF (wn_none rfl) rfl rfl (pkF hF rfl rfl rfl) ?_; clear hF; intro a hF
    refine mvN hF rfl rfl rfl rfl rfl ?_; clear hF; intro a hF
    refine skF hF rfl rfl rfl rfl rfl rfl ?_; clear hF; intro a hF
    refine skF hF rfl rfl rfl rfl rfl rfl ?_; clear hF; intro a hF
    refine skF hF rfl rfl rfl rfl rfl rfl ?_; clear hF; intro a hF
    refine seq_yl hF (wn_none rfl) rfl rfl (pkF hF rfl rfl rfl) ?_; clear hF; intro a hF
    refine mvN hF rfl rfl rfl rfl rfl ?_; clear hF; intro a hF
    refine skF hF rfl rfl rfl rfl rfl rfl ?_; clear hF; intro a hF
    refine skF hF rfl rfl rfl rfl rfl rfl ?_; clear hF; intro a hF
    refine skF hF rfl rfl rfl rfl rfl rfl ?_; clear hF; intro a hF
    refine seq_yl hF (wn_none rfl) rfl rfl (pkF hF rfl rfl rfl) ?_; clear hF; intro a hF
    refine mvN hF rfl rfl rfl rfl rfl ?_; clear hF; intro a hF
    refine skF hF rfl rfl rfl rfl rfl rfl ?_; clear hF; intro a hF
    refine skF hF rfl rfl rfl rfl rfl rfl ?_; clear hF; intro a hF
    refine skF hF rfl rfl rfl rfl rfl rfl ?_; clear hF; intro a hF
    refine seq_yl hF (wn_none rfl) rfl rfl (pkF hF rfl rfl rfl) ?_; clear hF; intro a hF
    refine mvN hF rfl rfl rfl rfl rfl ?_; clear hF; intro a hF
    refine skF hF rfl rfl rfl rfl rfl rfl ?_; clear hF; intro a hF
    refine seq_yl hF (wn_none rfl) rfl rfl (pkF hF rfl rfl rfl) ?_; clear hF; intro a hF
    refine mvN hF rfl rfl rfl rfl rfl ?_; clear hF; intro a hF
    refine skF hF rfl rfl rfl rfl rfl rfl ?_; clear hF; intro a hF
    refine skF hF rfl rfl rfl rfl rfl rfl ?_; clear hF; intro a hF
    refine skF hF rfl rfl rfl rfl rfl rfl ?_; clear hF; intro a hF
    refine seq_yl hF (wn_none rfl) rfl rfl (pkF hF rfl rfl rfl) ?_; clear hF; intro a hF
    refine mvN hF rfl rfl rfl rfl rfl ?_; clear hF; intro a hF
    refine skF hF rfl rfl rfl rfl rfl rfl ?_; clear hF; intro a hF
    refine skF hF rfl rfl rfl rfl rfl rfl ?_; clear hF; intro a hF
    refine skF hF rfl rfl rfl rfl rfl rfl ?_; clear hF; intro a hF
    refine seq_yl hF (wn_none rfl) rfl rfl (pkF hF rfl rfl rfl) ?_; clear hF; intro a hF
    refine mvN hF rfl rfl rfl rfl rfl ?_; clear hF; intro a hF
    refine skF hF rfl rfl rfl rfl rfl rfl ?_; clear hF; intro a hF
    refine skF hF rfl rfl rfl rfl rfl rfl ?_; clear hF; intro a hF
    refine skF hF rfl rfl rfl rfl rfl rfl ?_; clear hF; intro a hF
    refine seq_yl hF (wn_none rfl) rfl rfl (pkF hF rfl rfl rfl) ?_; clear hF; intro a hF
    refine asN hF rfl rfl rfl rfl rfl ?_; clear hF; intro a hF
    refine wpList_nil ?_
    refine then_n ?_
    refine wp_ret ?_
    refine ret_t hF rfl rfl ?_
    exact ⟨_, rfl, congrArg Value.bool (dec_f (by (first | (unfold validR at *; omega) | (have h9 := hfine.1 (by assumption); unfold validR at *; omega) | (have h9 : ¬ (r.f5 = 0 ∨ r.f5 = 10 ∨ r.f5 = 11 ∨ r.f5 = 13 ∨ r.f5 = 50) := (fun h => by have := hfine.2 h; simp_all); unfold validR at *; omega)))), (hS.sub [] (by decide) (by first | rfl | simp) (by simp))⟩
  ·first | (replace hc102 := of_decide_eq_false hc102) | (replace hc102 := of_decide_eq_true (bnot_f hc102)) | (replace hc102 := bnot_f hc102) | skip
   refine skF hF rfl rfl rfl rfl rfl rfl ?_; clear hF; intro a hF
   refine skF hF rfl rfl rfl rfl rfl rfl ?_; clear hF; intro a hF
   refine skF hF rfl rfl rfl rfl rfl rfl ?_; clear hF; intro a hF
   refine skF hF rfl rfl rfl rfl rfl rfl ?_; clear hF; intro a hF
   refine skF hF rfl rfl rfl rfl rfl rfl ?_; clear hF; intro a hF
   refine seq_yl hF (wn_none rfl) rfl rfl (pkF hF rfl rfl rfl) ?_; clear hF; intro a hF
   refine mvN hF rfl rfl rfl rfl rfl ?_; clear hF; intro a hF
   refine skF hF rfl rfl rfl rfl rfl rfl ?_; clear hF; intro a hF
   refine skF hF rfl rfl rfl rfl rfl rfl ?_; clear hF; intro a hF
   refine skF hF rfl rfl rfl rfl rfl rfl ?_; clear hF; intro a hF
   refine seq_yl hF (wn_none rfl) rfl rfl (pkF hF rfl rfl rfl) ?_; clear hF; intro a hF
   refine mvN hF rfl rfl rfl rfl rfl ?_; clear hF; intro a hF
   refine skF hF rfl rfl rfl rfl rfl rfl ?_; clear hF; intro a hF
   refine skF hF rfl rfl rfl rfl rfl rfl ?_; clear hF; intro a hF
   refine skF hF rfl rfl rfl rfl rfl rfl ?_; clear hF; intro a hF
   refine seq_yl hF (wn_none rfl) rfl rfl (pkF hF rfl rfl rfl) ?_; clear hF; intro a hF
   refine mvN hF rfl rfl rfl rfl rfl ?_; clear hF; intro a hF
   refine skF hF rfl rfl rfl rfl rfl rfl ?_; clear hF; intro a hF
   refine skF hF rfl rfl rfl rfl rfl rfl ?_; clear hF; intro a hF
   refine skF hF rfl rfl rfl rfl rfl rfl ?_; clear hF; intro a hF
   refine seq_yl hF (wn_none rfl) rfl rfl (pkF hF rfl rfl rfl) ?_; clear hF; intro a hF
   refine mvN hF rfl rfl rfl rfl rfl ?_; clear hF; intro a hF
   refine skF hF rfl rfl rfl rfl rfl rfl ?_; clear hF; intro a hF
   refine skF hF rfl rfl rfl rfl rfl rfl ?_; clear hF; intro a hF
   refine skF hF rfl rfl rfl rfl rfl rfl ?_; clear hF; intro a hF
   refine seq_yl hF (wn_none rfl) rfl rfl (pkF hF rfl rfl rfl) ?_; clear hF; intro a hF
   refine mvN hF rfl rfl rfl rfl rfl ?_; clear hF; intro a hF
   refine skF hF rfl rfl rfl rfl rfl rfl ?_; clear hF; intro a hF
   refine seq_yl hF (wn_none rfl) rfl rfl (pkF hF rfl rfl rfl) ?_; clear hF; intro a hF
   refine mvN hF rfl rfl rfl rfl rfl ?_; clear hF; intro a hF
   refine skF hF rfl rfl rfl rfl rfl rfl ?_; clear hF; intro a hF
   refine skF hF rfl rfl rfl rfl rfl rfl ?_; clear hF; intro a hF
   refine skF hF rfl rfl rfl rfl rfl rfl ?_; clear hF; intro a hF
   refine seq_yl hF (wn_none rfl) rfl rfl (pkF hF rfl rfl rfl) ?_; clear hF; intro a hF
   refine mvN hF rfl rfl rfl rfl rfl ?_; clear hF; intro a hF
   refine skF hF rfl rfl rfl rfl rfl rfl ?_; clear hF; intro a hF
   refine skF hF rfl rfl rfl rfl rfl rfl ?_; clear hF; intro a hF
   refine skF hF rfl rfl rfl rfl rfl rfl ?_; clear hF; intro a hF
   refine seq_yl hF (wn_none rfl) rfl rfl (pkF hF rfl rfl rfl) ?_; clear hF; intro a hF
   refine mvN hF rfl rfl rfl rfl rfl ?_; clear hF; intro a hF
   refine skF hF rfl rfl rfl rfl rfl rfl ?_; clear hF; intro a hF
   refine skF hF rfl rfl rfl rfl rfl rfl ?_; clear hF; intro a hF
   refine skF hF rfl rfl rfl rfl rfl rfl ?_; clear hF; intro a hF
   refine seq_yl hF (wn_none rfl) rfl rfl (pkF hF rfl rfl rfl) ?_; clear hF; intro a hF
   refine asN hF rfl rfl rfl rfl rfl ?_; clear hF; intro a hF
   refine wpList_nil ?_
   refine then_n ?_
   refine wp_ret ?_
   refine ret_t hF rfl rfl ?_
   exact ⟨_, rfl, congrArg Value.bool (dec_f (by (first | (unfold validR at *; omega) | (have h9 := hfine.1 (by assumption); unfold validR at *; omega) | (have h9 : ¬ (r.f5 = 0 ∨ r.f5 = 10 ∨ r.f5 = 11 ∨ r.f5 = 13 ∨ r.f5 = 50) := (fun h => by have := hfine.2 h; simp_all); unfold validR at *; omega)))), (hS.sub [] (by decide) (by first | rfl | simp) (by simp))⟩
 ·first | (replace hc101 := of_decide_eq_false hc101) | (replace hc101 := of_decide_eq_true (bnot_f hc101)) | (replace hc101 := bnot_f hc101) | skip
  refine seq_yl hF (wn_t hF rfl rfl rfl rfl) rfl rfl (yl_fieldAddr hF rfl rfl (fun w => by kernel_rfl : ∀ w, (Instr.fieldAt 37 (.pointer (some ⟨g94, 0, none⟩)) 0).run Try.prog w = .ok (.pointer (some ⟨g94, 0, none⟩)) w)) ?_; clear hF; intro a hF
  refine seq_yl hF (wn_t hF rfl rfl rfl rfl) rfl rfl (yl_load (fun _ h => h ▸ hS) hF rfl rfl 1 rfl ag3 rfl) ?_; clear hF; intro a hF
  refine seq_wp (wn_t hF rfl rfl rfl rfl) (wp_call (vs := [_]) hF rfl rfl rfl rfl cf45 (kind2_any (r.f0) _) ?_)
  clear hF; rintro _ w ⟨rfl, hS1⟩ a hF
  replace hS := hS.callB hS1 rfl; clear hS1
  refine seq_yl hF (wn_none rfl) rfl rfl (pkF hF rfl rfl rfl) ?_; clear hF; intro a hF
  refine mvN hF rfl rfl rfl rfl rfl ?_; clear hF; intro a hF
  refine fr_split hF (fun hc111 hF => ?_) (fun hc111 hF => ?_)
  ·first | (replace hc111 := of_decide_eq_true hc111) | (replace hc111 := of_decide_eq_false (bnot_t hc111)) | (replace hc111 := bnot_t hc111) | skip
   refine seq_yl hF (wn_t hF rfl rfl rfl rfl) rfl rfl (yl_fieldAddr hF rfl rfl (fun w => by kernel_rfl : ∀ w, (Instr.fieldAt 37 (.pointer (some ⟨g94, 0, none⟩)) 1).run Try.prog w = .ok (.pointer (some ⟨g94, 1, none⟩)) w)) ?_; clear hF; intro a hF
   refine seq_yl hF (wn_t hF rfl rfl rfl rfl) rfl rfl (yl_load (fun _ h => h ▸ hS) hF rfl rfl 1 rfl ag3 rfl) ?_; clear hF; intro a hF
   refine seq_yl hF (wn_t hF rfl rfl rfl rfl) rfl rfl (yl_bin hF rfl rfl rfl rfl (fun _ => run_geq)) ?_; clear hF; intro a hF
   refine seq_yl hF (wn_none rfl) rfl rfl (pkT hF rfl rfl rfl) ?_; clear hF; intro a hF
   refine mvN hF rfl rfl rfl rfl rfl ?_; clear hF; intro a hF
   refine fr_split hF (fun hc112 hF => ?_) (fun hc112 hF => ?_)
   ·first | (replace hc112 := of_decide_eq_true hc112) | (replace hc112 := of_decide_eq_false (bnot_t hc112)) | (replace hc112 := bnot_t hc112) | skip
    refine seq_yl hF (wn_t hF rfl rfl rfl rfl) rfl rfl (yl_fieldAddr hF rfl rfl (fun w => by kernel_rfl : ∀ w, (Instr.fieldAt 37 (.pointer (some ⟨g94, 0, none⟩)) 1).run Try.prog w = .ok (.pointer (some ⟨g94, 1, none⟩)) w)) ?_; clear hF; intro a hF
    refine seq_yl hF (wn_t hF rfl rfl rfl rfl) rfl rfl (yl_load (fun _ h => h ▸ hS) hF rfl rfl 1 rfl ag3 rfl) ?_; clear hF; intro a hF
    refine seq_yl hF (wn_t hF rfl rfl rfl rfl) rfl rfl (yl_fieldAddr hF rfl rfl (fun w => by kernel_rfl : ∀ w, (Instr.fieldAt 37 (.pointer (some ⟨g94, 0, none⟩)) 2).run Try.prog w = .ok (.pointer (some ⟨g94, 2, none⟩)) w)) ?_; clear hF; intro a hF
    refine seq_yl hF (wn_t hF rfl rfl rfl rfl) rfl rfl (yl_load (fun _ h => h ▸ hS) hF rfl rfl 1 rfl ag3 rfl) ?_; clear hF; intro a hF
    refine seq_yl hF (wn_t hF rfl rfl rfl rfl) rfl rfl (yl_bin hF rfl rfl rfl rfl (fun _ => run_leq)) ?_; clear hF; intro a hF
    refine seq_yl hF (wn_none rfl) rfl rfl (pkT hF rfl rfl rfl) ?_; clear hF; intro a hF
    refine mvN hF rfl rfl rfl rfl rfl ?_; clear hF; intro a hF
    refine fr_split hF (fun hc113 hF => ?_) (fun hc113 hF => ?_)
    ·first | (replace hc113 := of_decide_eq_true hc113) | (replace hc113 := of_decide_eq_false (bnot_t hc113)) | (replace hc113 := bnot_t hc113) | skip
     refine seq_yl hF (wn_t hF rfl rfl rfl rfl) rfl rfl (yl_fieldAddr hF rfl rfl (fun w => by kernel_rfl : ∀ w, (Instr.fieldAt 37 (.pointer (some ⟨g94, 0, none⟩)) 2).run Try.prog w = .ok (.pointer (some ⟨g94, 2, none⟩)) w)) ?_; clear hF; intro a hF
     refine seq_yl hF (wn_t hF rfl rfl rfl rfl) rfl rfl (yl_load (fun _ h => h ▸ hS) hF rfl rfl 1 rfl ag3 rfl) ?_; clear hF; intro a hF
     refine seq_yl hF (wn_t hF rfl rfl rfl rfl) rfl rfl (yl_bin hF rfl rfl rfl rfl (fun _ => run_lss)) ?_; clear hF; intro a hF
     refine seq_yl hF (wn_none rfl) rfl rfl (pkT hF rfl rfl rfl) ?_; clear hF; intro a hF
     refine mvN hF rfl rfl rfl rfl rfl ?_; clear hF; intro a hF
     refine fr_split hF (fun hc114 hF => ?_) (fun hc114 hF => ?_)
     ·first | (replace hc114 := of_decide_eq_true hc114) | (replace hc114 := of_decide_eq_false (bnot_t hc114)) | (replace hc114 := bnot_t hc114) | skip
      refine seq_yl hF (wn_t hF rfl rfl rfl rfl) rfl rfl (yl_fieldAddr hF rfl rfl (fun w => by kernel_rfl : ∀ w, (Instr.fieldAt 37 (.pointer (some ⟨g94, 0, none⟩)) 3).run Try.prog w = .ok (.pointer (some ⟨g94, 3, none⟩)) w)) ?_; clear hF; intro a hF
      refine seq_yl hF (wn_t hF rfl rfl rfl rfl) rfl rfl (yl_load (fun _ h => h ▸ hS) hF rfl rfl 1 rfl ag3 rfl) ?_; clear hF; intro a hF
      refine seq_wp (wn_t hF rfl rfl rfl rfl) (wp_call (vs := [_]) hF rfl rfl rfl rfl cf53 (tick2_any (r.f3) _) ?_)
      clear hF; rintro _ w ⟨rfl, hS1⟩ a hF
      replace hS := hS.callB hS1 rfl; clear hS1
      refine seq_yl hF (wn_none rfl) rfl rfl (pkT hF rfl rfl rfl) ?_; clear hF; intro a hF
      refine mvN hF rfl rfl rfl rfl rfl ?_; clear hF; intro a hF
      refine fr_split hF (fun hc115 hF => ?_) (fun hc115 hF => ?_)
      ·first | (replace hc115 := of_decide_eq_true hc115) | (replace hc115 := of_decide_eq_false (bnot_t hc115)) | (replace hc115 := bnot_t hc115) | skip
       refine seq_yl hF (wn_t hF rfl rfl rfl rfl) rfl rfl (yl_fieldAddr hF rfl rfl (fun w => by kernel_rfl : ∀ w, (Instr.fieldAt 37 (.pointer (some ⟨g94, 0, none⟩)) 4).run Try.prog w = .ok (.pointer (some ⟨g94, 4, none⟩)) w)) ?_; clear hF; intro a hF
       refine seq_yl hF (wn_t hF rfl rfl rfl rfl) rfl rfl (yl_load (fun _ h => h ▸ hS) hF rfl rfl 1 rfl ag3 rfl) ?_; clear hF; intro a hF
       refine seq_yl hF (wn_t hF rfl rfl rfl rfl) rfl rfl (yl_bin hF rfl rfl rfl rfl (fun _ => run_geq)) ?_; clear hF; intro a hF
       refine seq_yl hF (wn_none rfl) rfl rfl (pkT hF rfl rfl rfl) ?_; clear hF; intro a hF
       refine mvN hF rfl rfl rfl rfl rfl ?_; clear hF; intro a hF
       refine fr_split hF (fun hc116 hF => ?_) (fun hc116 hF => ?_)
       ·first | (replace hc116 := of_decide_eq_true hc116) | (replace hc116 := of_decide_eq_false (bnot_t hc116)) | (replace hc116 := bnot_t hc116) | skip
        refine seq_yl hF (wn_t hF rfl rfl rfl rfl) rfl rfl (yl_fieldAddr hF rfl rfl (fun w => by kernel_rfl : ∀ w, (Instr.fieldAt 37 (.pointer (some ⟨g94, 0, none⟩)) 4).run Try.prog w = .ok (.pointer (some ⟨g94, 4, none⟩)) w)) ?_; clear hF; intro a hF
        refine seq_yl hF (wn_t hF rfl rfl rfl rfl) rfl rfl (yl_load (fun _ h => h ▸ hS) hF rfl rfl 1 rfl ag3 rfl) ?_; clear hF; intro a hF
        refine seq_yl hF (wn_t hF rfl rfl rfl rfl) rfl rfl (yl_bin hF rfl rfl rfl rfl (fun _ => run_leq)) ?_; clear hF; intro a hF
        refine seq_yl hF (wn_none rfl) rfl rfl (pkT hF rfl rfl rfl) ?_; clear hF; intro a hF
        refine mvN hF rfl rfl rfl rfl rfl ?_; clear hF; intro a hF
        refine fr_split hF (fun hc117 hF => ?_) (fun hc117 hF => ?_)
        ·first | (replace hc117 := of_decide_eq_true hc117) | (replace hc117 := of_decide_eq_false (bnot_t hc117)) | (replace hc117 := bnot_t hc117) | skip
         refine seq_yl hF (wn_t hF rfl rfl rfl rfl) rfl rfl (yl_move hF rfl rfl) ?_; clear hF; intro a hF
         refine seq_yl hF (wn_none rfl) rfl rfl (pkT hF rfl rfl rfl) ?_; clear hF; intro a hF
         refine mvN hF rfl rfl rfl rfl rfl ?_; clear hF; intro a hF
         refine fr_split hF (fun hc118 hF => ?_) (fun hc118 hF => ?_)
         ·first | (replace hc118 := of_decide_eq_true hc118) | (replace hc118 := of_decide_eq_false (bnot_t hc118)) | (replace hc118 := bnot_t hc118) | skip
          refine seq_yl hF (wn_t hF rfl rfl rfl rfl) rfl rfl (yl_fieldAddr hF rfl rfl (fun w => by kernel_rfl : ∀ w, (Instr.fieldAt 27 (.pointer (some ⟨g95, 0, none⟩)) 1).run Try.prog w = .ok (.pointer (some ⟨g95, 1, none⟩)) w)) ?_; clear hF; intro a hF
          refine seq_yl hF (wn_t hF rfl rfl rfl rfl) rfl rfl (yl_load (fun _ h => h ▸ hS) hF rfl rfl 0 rfl ag3 rfl) ?_; clear hF; intro a hF
          refine seq_yl hF (wn_t hF rfl rfl rfl rfl) rfl rfl (yl_bin hF rfl rfl rfl rfl (fun _ => run_geq)) ?_; clear hF; intro a hF
          refine seq_yl hF (wn_none rfl) rfl rfl (pkT hF rfl rfl rfl) ?_; clear hF; intro a hF
          refine mvN hF rfl rfl rfl rfl rfl ?_; clear hF; intro a hF
          refine fr_split hF (fun hc119 hF => ?_) (fun hc119 hF => ?_)
          ·first | (replace hc119 := of_decide_eq_true hc119) | (replace hc119 := of_decide_eq_false (bnot_t hc119)) | (replace hc119 := bnot_t hc119) | skip
           refine seq_yl hF (wn_t hF rfl rfl rfl rfl) rfl rfl (yl_fieldAddr hF rfl rfl (fun w => by kernel_rfl : ∀ w, (Instr.fieldAt 27 (.pointer (some ⟨g95, 0, none⟩)) 1).run Try.prog w = .ok (.pointer (some ⟨g95, 1, none⟩)) w)) ?_; clear hF; intro a hF
           refine seq_yl hF (wn_t hF rfl rfl rfl rfl) rfl rfl (yl_load (fun _ h => h ▸ hS) hF rfl rfl 0 rfl ag3 rfl) ?_; clear hF; intro a hF
           refine seq_yl hF (wn_t hF rfl rfl rfl rfl) rfl rfl (yl_bin hF rfl rfl rfl rfl (fun _ => run_leq)) ?_; clear hF; intro a hF
           refine seq_yl hF (wn_none rfl) rfl rfl (pkT hF rfl rfl rfl) ?_; clear hF; intro a hF
           refine mvN hF rfl rfl rfl rfl rfl ?_; clear hF; intro a hF
           refine fr_split hF (fun hc120 hF => ?_) (fun hc120 hF => ?_)
           ·first | (replace hc120 := of_decide_eq_true hc120) | (replace hc120 := of_decide_eq_false (bnot_t hc120)) | (replace hc120 := bnot_t hc120) | skip
            refine seq_yl hF (wn_t hF rfl rfl rfl rfl) rfl rfl (yl_fieldAddr hF rfl rfl (fun w => by kernel_rfl : ∀ w, (Instr.fieldAt 27 (.pointer (some ⟨g95, 0, none⟩)) 3).run Try.prog w = .ok (.pointer (some ⟨g95, 3, none⟩)) w)) ?_; clear hF; intro a hF
            refine seq_yl hF (wn_t hF rfl rfl rfl rfl) rfl rfl (yl_load (fun _ h => h ▸ hS) hF rfl rfl 0 rfl ag3 rfl) ?_; clear hF; intro a hF
            refine seq_wp (wn_t hF rfl rfl rfl rfl) (wp_call (vs := [_]) hF rfl rfl rfl rfl cf53 (tick2_any (r.f8) _) ?_)
            clear hF; rintro _ w ⟨rfl, hS1⟩ a hF
            replace hS := hS.callB hS1 rfl; clear hS1
            refine seq_yl hF (wn_none rfl) rfl rfl (pkT hF rfl rfl rfl) ?_; clear hF; intro a hF
            refine asN hF rfl rfl rfl rfl rfl ?_; clear hF; intro a hF
            refine wpList_nil ?_
            refine then_n ?_
            refine wp_ret ?_
            refine ret_t hF rfl rfl ?_
            exact ⟨_, rfl, congrArg Value.bool (dec_d (by constructor <;> intro _ <;> (first | (unfold validR at *; omega) | (have h9 := hfine.1 (by assumption); unfold validR at *; omega) | (have h9 : ¬ (r.f5 = 0 ∨ r.f5 = 10 ∨ r.f5 = 11 ∨ r.f5 = 13 ∨ r.f5 = 50) := (fun h => by have := hfine.2 h; simp_all); unfold validR at *; omega)))), (hS.sub [] (by decide) (by first | rfl | simp) (by simp))⟩
           ·first | (replace hc120 := of_decide_eq_false hc120) | (replace hc120 := of_decide_eq_true (bnot_f hc120)) | (replace hc120 := bnot_f hc120) | skip
            refine skF hF rfl rfl rfl rfl rfl rfl ?_; clear hF; intro a hF
            refine skF hF rfl rfl rfl rfl rfl rfl ?_; clear hF; intro a hF
            refine skF hF rfl rfl rfl rfl rfl rfl ?_; clear hF; intro a hF
            refine seq_yl hF (wn_none rfl) rfl rfl (pkF hF rfl rfl rfl) ?_; clear hF; intro a hF
            refine asN hF rfl rfl rfl rfl rfl ?_; clear hF; intro a hF
            refine wpList_nil ?_
            refine then_n ?_
            refine wp_ret ?_
            refine ret_t hF rfl rfl ?_
            exact ⟨_, rfl, congrArg Value.bool (dec_f (by (first | (unfold validR at *; omega) | (have h9 := hfine.1 (by assumption); unfold validR at *; omega) | (have h9 : ¬ (r.f5 = 0 ∨ r.f5 = 10 ∨ r.f5 = 11 ∨ r.f5 = 13 ∨ r.f5 = 50) := (fun h => by have := hfine.2 h; simp_all); unfold validR at *; omega)))), (hS.sub [] (by decide) (by first | rfl | simp) (by simp))⟩
          ·first | (replace hc119 := of_decide_eq_false hc119) | (replace hc119 := of_decide_eq_true (bnot_f hc119)) | (replace hc119 := bnot_f hc119) | skip
           refine skF hF rfl rfl rfl rfl rfl rfl ?_; clear hF; intro a hF
           refine skF hF rfl rfl rfl rfl rfl rfl ?_; clear hF; intro a hF
           refine skF hF rfl rfl rfl rfl rfl rfl ?_; clear hF; intro a hF
           refine seq_yl hF (wn_none rfl) rfl rfl (pkF hF rfl rfl rfl) ?_; clear hF; intro a hF
           refine mvN hF rfl rfl rfl rfl rfl ?_; clear hF; intro a hF
           refine skF hF rfl rfl rfl rfl rfl rfl ?_; clear hF; intro a hF
           refine skF hF rfl rfl rfl rfl rfl rfl ?_; clear hF; intro a hF
           refine skF hF rfl rfl rfl rfl rfl rfl ?_; clear hF; intro a hF
           refine seq_yl hF (wn_none rfl) rfl rfl (pkF hF rfl rfl rfl) ?_; clear hF; intro a hF
           refine asN hF rfl rfl rfl rfl rfl ?_; clear hF; intro a hF
           refine wpList_nil ?_
           refine then_n ?_
           refine wp_ret ?_
           refine ret_t hF rfl rfl ?_
           exact ⟨_, rfl, congrArg Value.bool (dec_f (by (first | (unfold validR at *; omega) | (have h9 := hfine.1 (by assumption); unfold validR at *; omega) | (have h9 : ¬ (r.f5 = 0 ∨ r.f5 = 10 ∨ r.f5 = 11 ∨ r.f5 = 13 ∨ r.f5 = 50) := (fun h => by have := hfine.2 h; simp_all); unfold validR at *; omega)))), (hS.sub [] (by decide) (by first | rfl | simp) (by simp))⟩
         ·first | (replace hc118 := of_decide_eq_false hc118) | (replace hc118 := of_decide_eq_true (bnot_f hc118)) | (replace hc118 := bnot_f hc118) | skip
          refine skF hF rfl rfl rfl rfl rfl rfl ?_; clear hF; intro a hF
          refine skF hF rfl rfl rfl rfl rfl rfl ?_; clear hF; intro a hF
          refine skF hF rfl rfl rfl rfl rfl rfl ?_; clear hF; intro a hF
          refine seq_yl hF (wn_none rfl) rfl rfl (pkF hF rfl rfl rfl) ?_; clear hF; intro a hF
          refine mvN hF rfl rfl rfl rfl rfl ?_; clear hF; intro a hF
          refine skF hF rfl rfl rfl rfl rfl rfl ?_; clear hF; intro a hF
          refine skF hF rfl rfl rfl rfl rfl rfl ?_; clear hF; intro a hF
          refine skF hF rfl rfl rfl rfl rfl rfl ?_; clear hF; intro a hF
          refine seq_yl hF (wn_none rfl) rfl rfl (pkF hF rfl rfl rfl) ?_; clear hF; intro a hF
          refine mvN hF rfl rfl rfl rfl rfl ?_; clear hF; intro a hF
          refine skF hF rfl rfl rfl rfl rfl rfl ?_; clear hF; intro a hF
          refine skF hF rfl rfl rfl rfl rfl rfl ?_; clear hF; intro a hF
          refine skF hF rfl rfl rfl rfl rfl rfl ?_; clear hF; intro a hF
          refine seq_yl hF (wn_none rfl) rfl rfl (pkF hF rfl rfl rfl) ?_; clear hF; intro a hF
          refine asN hF rfl rfl rfl rfl rfl ?_; clear hF; intro a hF
          refine wpList_nil ?_
          refine then_n ?_
          refine wp_ret ?_
          refine ret_t hF rfl rfl ?_
          exact ⟨_, rfl, congrArg Value.bool (dec_f (by (first | (unfold validR at *; omega) | (have h9 := hfine.1 (by assumption); unfold validR at *; omega) | (have h9 : ¬ (r.f5 = 0 ∨ r.f5 = 10 ∨ r.f5 = 11 ∨ r.f5 = 13 ∨ r.f5 = 50) := (fun h => by have := hfine.2 h; simp_all); unfold validR at *; omega)))), (hS.sub [] (by decide) (by first | rfl | simp) (by simp))⟩
        ·first | (replace hc117 := of_decide_eq_false hc117) | (replace hc117 := of_decide_eq_true (bnot_f hc117)) | (replace hc117 := bnot_f hc117) | skip
         refine skF hF rfl rfl rfl rfl rfl rfl ?_; clear hF; intro a hF
         refine seq_yl hF (wn_none rfl) rfl rfl (pkF hF rfl rfl rfl) ?_; clear hF; intro a hF
         refine mvN hF rfl rfl rfl rfl rfl ?_; clear hF; intro a hF
         refine skF hF rfl rfl rfl rfl rfl rfl ?_; clear hF; intro a hF
         refine skF hF rfl rfl rfl rfl rfl rfl ?_; clear hF; intro a hF
         refine skF hF rfl rfl rfl rfl rfl rfl ?_; clear hF; intro a hF
         refine seq_yl hF (wn_none rfl) rfl rfl (pkF hF rfl rfl rfl) ?_; clear hF; intro a hF
         refine mvN hF rfl rfl rfl rfl rfl ?_; clear hF; intro a hF
         refine skF hF rfl rfl rfl rfl rfl rfl ?_; clear hF; intro a hF
         refine skF hF rfl rfl rfl rfl rfl rfl ?_; clear hF; intro a hF
         refine skF hF rfl rfl rfl rfl rfl rfl ?_; clear hF; intro a hF
         refine seq_yl hF (wn_none rfl) rfl rfl (pkF hF rfl rfl rfl) ?_; clear hF; intro a hF
         refine mvN hF rfl rfl rfl rfl rfl ?_; clear hF; intro a hF
         refine skF hF rfl rfl rfl rfl rfl rfl ?_; clear hF; intro a hF
         refine skF hF rfl rfl rfl rfl rfl rfl ?_; clear hF; intro a hF
         refine skF hF rfl rfl rfl rfl rfl rfl ?_; clear hF; intro a hF
         refine seq_yl hF (wn_none rfl) rfl rfl (pkF hF rfl rfl rfl) ?_; clear hF; intro a hF
         refine asN hF rfl rfl rfl rfl rfl ?_; clear hF; intro a hF
         refine wpList_nil ?_
         refine then_n ?_
         refine wp_ret ?_
         refine ret_t hF rfl rfl ?_
         exact ⟨_, rfl, congrArg Value.bool (dec_f (by (first | (unfold validR at *; omega) | (have h9 := hfine.1 (by assumption); unfold validR at *; omega) | (have h9 : ¬ (r.f5 = 0 ∨ r.f5 = 10 ∨ r.f5 = 11 ∨ r.f5 = 13 ∨ r.f5 = 50) := (fun h => by have := hfine.2 h; simp_all); unfold validR at *; omega)))), (hS.sub [] (by decide) (by first | rfl | simp) (by simp))⟩
       ·first | (replace hc116 := of_decide_eq_false hc116) | (replace hc116 := of_decide_eq_true (bnot_f hc116)) | (replace hc116 := bnot_f hc116) | skip
        refine skF hF rfl rfl rfl rfl rfl rfl ?_; clear hF; intro a hF
        refine skF hF rfl rfl rfl rfl rfl rfl ?_; clear hF; intro a hF
        refine skF hF rfl rfl rfl rfl rfl rfl ?_; clear hF; intro a hF
        refine seq_yl hF (wn_none rfl) rfl rfl (pkF hF rfl rfl rfl) ?_; clear hF; intro a hF
        refine mvN hF rfl rfl rfl rfl rfl ?_; clear hF; intro a hF
        refine skF hF rfl rfl rfl rfl rfl rfl ?_; clear hF; intro a hF
        refine seq_yl hF (wn_none rfl) rfl rfl (pkF hF rfl rfl rfl) ?_; clear hF; intro a hF
        refine mvN hF rfl rfl rfl rfl rfl ?_; clear hF; intro a hF
        refine skF hF rfl rfl rfl rfl rfl rfl ?_; clear hF; intro a hF
        refine skF hF rfl rfl rfl rfl rfl rfl ?_; clear hF; intro a hF
        refine skF hF rfl rfl rfl rfl rfl rfl ?_; clear hF; intro a hF
        refine seq_yl hF (wn_none rfl) rfl rfl (pkF hF rfl rfl rfl) ?_; clear hF; intro a hF
        refine mvN hF rfl rfl rfl rfl rfl ?_; clear hF; intro a hF
        refine skF hF rfl rfl rfl rfl rfl rfl ?_; clear hF; intro a hF
        refine skF hF rfl rfl rfl rfl rfl rfl ?_; clear hF; intro a hF
        refine skF hF rfl rfl rfl rfl rfl rfl ?_; clear hF; intro a hF
        refine seq_yl hF (wn_none rfl) rfl rfl (pkF hF rfl rfl rfl) ?_; clear hF; intro a hF
        refine mvN hF rfl rfl rfl rfl rfl ?_; clear hF; intro a hF
        refine skF hF rfl rfl rfl rfl rfl rfl ?_; clear hF; intro a hF
        refine skF hF rfl rfl rfl rfl rfl rfl ?_; clear hF; intro a hF
        refine skF hF rfl rfl rfl rfl rfl rfl ?_; clear hF; intro a hF
        refine seq_yl hF (wn_none rfl) rfl rfl (pkF hF rfl rfl rfl) ?_; clear hF; intro a hF
        refine asN hF rfl rfl rfl rfl rfl ?_; clear hF; intro a hF
        refine wpList_nil ?_
        refine then_n ?_
        refine wp_ret ?_
        refine ret_t hF rfl rfl ?_
        exact ⟨_, rfl, congrArg Value.bool (dec_f (by (first | (unfold validR at *; omega) | (have h9 := hfine.1 (by assumption); unfold validR at *; omega) | (have h9 : ¬ (r.f5 = 0 ∨ r.f5 = 10 ∨ r.f5 = 11 ∨ r.f5 = 13 ∨ r.f5 = 50) := (fun h => by have := hfine.2 h; simp_all); unfold validR at *; omega)))), (hS.sub [] (by decide) (by first | rfl | simp) (by simp))⟩
      ·first | (replace hc115 := of_decide_eq_false hc115) | (replace hc115 := of_decide_eq_true (bnot_f hc115)) | (replace hc115 := bnot_f hc115) | skip
       refine skF hF rfl rfl rfl rfl rfl rfl ?_; clear hF; intro a hF
       refine skF hF rfl rfl rfl rfl rfl rfl ?_; clear hF; intro a hF
       refine skF hF rfl rfl rfl rfl rfl rfl ?_; clear hF; intro a hF
       refine seq_yl hF (wn_none rfl) rfl rfl (pkF hF rfl rfl rfl) ?_; clear hF; intro a hF
       refine mvN hF rfl rfl rfl rfl rfl ?_; clear hF; intro a hF
       refine skF hF rfl rfl rfl rfl rfl rfl ?_; clear hF; intro a hF
       refine skF hF rfl rfl rfl rfl rfl rfl ?_; clear hF; intro a hF
       refine skF hF rfl rfl rfl rfl rfl rfl ?_; clear hF; intro a hF
       refine seq_yl hF (wn_none rfl) rfl rfl (pkF hF rfl rfl rfl) ?_; clear hF; intro a hF
       refine mvN hF rfl rfl rfl rfl rfl ?_; clear hF; intro a hF
       refine skF hF rfl rfl rfl rfl rfl rfl ?_; clear hF; intro a hF
       refine seq_yl hF (wn_none rfl) rfl rfl (pkF hF rfl rfl rfl) ?_; clear hF; intro a hF
       refine mvN hF rfl rfl rfl rfl rfl ?_; clear hF; intro a hF
       refine skF hF rfl rfl rfl rfl rfl rfl ?_; clear hF; intro a hF
       refine skF hF rfl rfl rfl rfl rfl rfl ?_; clear hF; intro a hF
       refine skF hF rfl rfl rfl rfl rfl rfl ?_; clear hF; intro a hF
       refine seq_yl hF (wn_none rfl) rfl rfl (pkF hF rfl rfl rfl) ?_; clear hF; intro a hF
       refine mvN hF rfl rfl rfl rfl rfl ?_; clear hF; intro a hF
       refine skF hF rfl rfl rfl rfl rfl rfl ?_; clear hF; intro a hF
       refine skF hF rfl rfl rfl rfl rfl rfl ?_; clear hF; intro a hF
       refine skF hF rfl rfl rfl rfl rfl rfl ?_; clear hF; intro a hF
       refine seq_yl hF (wn_none rfl) rfl rfl (pkF hF rfl rfl rfl) ?_; clear hF; intro a hF
       refine mvN hF rfl rfl rfl rfl rfl ?_; clear hF; intro a hF
       refine skF hF rfl rfl rfl rfl rfl rfl ?_; clear hF; intro a hF
       refine skF hF rfl rfl rfl rfl rfl rfl ?_; clear hF; intro a hF
       refine skF hF rfl rfl rfl rfl rfl rfl ?_; clear hF; intro a hF
       refine seq_yl hF (wn_none rfl) rfl rfl (pkF hF rfl rfl rfl) ?_; clear hF; intro a hF
       refine asN hF rfl rfl rfl rfl rfl ?_; clear hF; intro a hF
       refine wpList_nil ?_
       refine then_n ?_
       refine wp_ret ?_
       refine ret_t hF rfl rfl ?_
       exact ⟨_, rfl, congrArg Value.bool (dec_f (by (first | (unfold validR at *; omega) | (have h9 := hfine.1 (by assumption); unfold validR at *; omega) | (have h9 : ¬ (r.f5 = 0 ∨ r.f5 = 10 ∨ r.f5 = 11 ∨ r.f5 = 13 ∨ r.f5 = 50) := (fun h => by have := hfine.2 h; simp_all); unfold validR at *; omega)))), (hS.sub [] (by decide) (by first | rfl | simp) (by simp))⟩
     ·first | (replace hc114 := of_decide_eq_false hc114) | (replace hc114 := of_decide_eq_true (bnot_f hc114)) | (replace hc114 := bnot_f hc114) | skip
      refine skF hF rfl rfl rfl rfl rfl rfl ?_; clear hF; intro a hF
      refine skF hF rfl rfl rfl rfl rfl rfl ?_; clear hF; intro a hF
      refine skF hF rfl rfl rfl rfl rfl rfl ?_; clear hF; intro a hF
      refine seq_yl hF (wn_none rfl) rfl rfl (pkF hF rfl rfl rfl) ?_; clear hF; intro a hF
      refine mvN hF rfl rfl rfl rfl rfl ?_; clear hF; intro a hF
      refine skF hF rfl rfl rfl rfl rfl rfl ?_; clear hF; intro a hF
      refine skF hF rfl rfl rfl rfl rfl rfl ?_; clear hF; intro a hF
      refine skF hF rfl rfl rfl rfl rfl rfl ?_; clear hF; intro a hF
      refine seq_yl hF (wn_none rfl) rfl rfl (pkF hF rfl rfl rfl) ?_; clear hF; intro a hF
      refine mvN hF rfl rfl rfl rfl rfl ?_; clear hF; intro a hF
      refine skF hF rfl rfl rfl rfl rfl rfl ?_; clear hF; intro a hF
      refine skF hF rfl rfl rfl rfl rfl rfl ?_; clear hF; intro a hF
      refine skF hF rfl rfl rfl rfl rfl rfl ?_; clear hF; intro a hF
      refine seq_yl hF (wn_none rfl) rfl rfl (pkF hF rfl rfl rfl) ?_; clear hF; intro a hF
      refine mvN hF rfl rfl rfl rfl rfl ?_; clear hF; intro a hF
      refine skF hF rfl rfl rfl rfl rfl rfl ?_; clear hF; intro a hF
      refine seq_yl hF (wn_none rfl) rfl rfl (pkF hF rfl rfl rfl) ?_; clear hF; intro a hF
      refine mvN hF rfl rfl rfl rfl rfl ?_; clear hF; intro a hF
      refine skF hF rfl rfl rfl rfl rfl rfl ?_; clear hF; intro a hF
      refine skF hF rfl rfl rfl rfl rfl rfl ?_; clear hF; intro a hF
      refine skF hF rfl rfl rfl rfl rfl rfl ?_; clear hF; intro a hF
      refine seq_yl hF (wn_none rfl) rfl rfl (pkF hF rfl rfl rfl) ?_; clear hF; intro a hF
      refine mvN hF rfl rfl rfl rfl rfl ?_; clear hF; intro a hF
      refine skF hF rfl rfl rfl rfl rfl rfl ?_; clear hF; intro a hF
      refine skF hF rfl rfl rfl rfl rfl rfl ?_; clear hF; intro a hF
      refine skF hF rfl rfl rfl rfl rfl rfl ?_; clear hF; intro a hF
      refine seq_yl hF (wn_none rfl) rfl rfl (pkF hF rfl rfl rfl) ?_; clear hF; intro a hF
      refine mvN hF rfl rfl rfl rfl rfl ?_; clear hF; intro a hF
      refine skF hF rfl rfl rfl rfl rfl rfl ?_; clear hF; intro a hF
      refine skF hF rfl rfl rfl rfl rfl rfl ?_; clear hF; intro a hF
      refine skF hF rfl rfl rfl rfl rfl rfl ?_; clear hF; intro a hF
      refine seq_yl hF (wn_none rfl) rfl rfl (pkF hF rfl rfl rfl) ?_; clear hF; intro a hF
      refine asN hF rfl rfl rfl rfl rfl ?_; clear hF; intro a hF
      refine wpList_nil ?_
      refine then_n ?_
      refine wp_ret ?_
      refine ret_t hF rfl rfl ?_
      exact ⟨_, rfl, congrArg Value.bool (dec_f (by (first | (unfold validR at *; omega) | (have h9 := hfine.1 (by assumption); unfold validR at *; omega) | (have h9 : ¬ (r.f5 = 0 ∨ r.f5 = 10 ∨ r.f5 = 11 ∨ r.f5 = 13 ∨ r.f5 = 50) := (fun h => by have := hfine.2 h; simp_all); unfold validR at *; omega)))), (hS.sub [] (by decide) (by first | rfl | simp) (by simp))⟩
    ·first | (replace hc113 := of_decide_eq_false hc113) | (replace hc113 := of_decide_eq_true (bnot_f hc113)) | (replace hc113 := bnot_f hc113) | skip
     refine skF hF rfl rfl rfl rfl rfl rfl ?_; clear hF; intro a hF
     refine skF hF rfl rfl rfl rfl rfl rfl ?_; clear hF; intro a hF
     refine skF hF rfl rfl rfl rfl rfl rfl ?_; clear hF; intro a hF
     refine seq_yl hF (wn_none rfl) rfl rfl (pkF hF rfl rfl rfl) ?_; clear hF; intro a hF
     refine mvN hF rfl rfl rfl rfl rfl ?_; clear hF; intro a hF
     refine skF hF rfl rfl rfl rfl rfl rfl ?_; clear hF; intro a hF
     refine skF hF rfl rfl rfl rfl rfl rfl ?_; clear hF; intro a hF
     refine skF hF rfl rfl rfl rfl rfl rfl ?_; clear hF; intro a hF
     refine seq_yl hF (wn_none rfl) rfl rfl (pkF hF rfl rfl rfl) ?_; clear hF; intro a hF
     refine mvN hF rfl rfl rfl rfl rfl ?_; clear hF; intro a hF
     refine skF hF rfl rfl rfl rfl rfl rfl ?_; clear hF; intro a hF
     refine skF hF rfl rfl rfl rfl rfl rfl ?_; clear hF; intro a hF
     refine skF hF rfl rfl rfl rfl rfl rfl ?_; clear hF; intro a hF
     refine seq_yl hF (wn_none rfl) rfl rfl (pkF hF rfl rfl rfl) ?_; clear hF; intro a hF
     refine mvN hF rfl rfl rfl rfl rfl ?_; clear hF; intro a hF
     refine skF hF rfl rfl rfl rfl rfl rfl ?_; clear hF; intro a hF
     refine skF hF rfl rfl rfl rfl rfl rfl ?_; clear hF; intro a hF
     refine skF hF rfl rfl rfl rfl rfl rfl ?_; clear hF; intro a hF
     refine seq_yl hF (wn_none rfl) rfl rfl (pkF hF rfl rfl rfl) ?_; clear hF; intro a hF
     refine mvN hF rfl rfl rfl rfl rfl ?_; clear hF; intro a hF
     refine skF hF rfl rfl rfl rfl rfl rfl ?_; clear hF; intro a hF
     refine seq_yl hF (wn_none rfl) rfl rfl (pkF hF rfl rfl rfl) ?_; clear hF; intro a hF
     refine mvN hF rfl rfl rfl rfl rfl ?_; clear hF; intro a hF
     refine skF hF rfl rfl rfl rfl rfl rfl ?_; clear hF; intro a hF
     refine skF hF rfl rfl rfl rfl rfl rfl ?_; clear hF; intro a hF
     refine skF hF rfl rfl rfl rfl rfl rfl ?_; clear hF; intro a hF
     refine seq_yl hF (wn_none rfl) rfl rfl (pkF hF rfl rfl rfl) ?_; clear hF; intro a hF
     refine mvN hF rfl rfl rfl rfl rfl ?_; clear hF; intro a hF
     refine skF hF rfl rfl rfl rfl rfl rfl ?_; clear hF; intro a hF
     refine skF hF rfl rfl rfl rfl rfl rfl ?_; clear hF; intro a hF
     refine skF hF rfl rfl rfl rfl rfl rfl ?_; clear hF; intro a hF
     refine seq_yl hF (wn_none rfl) rfl rfl (pkF hF rfl rfl rfl) ?_; clear hF; intro a hF
     refine mvN hF rfl rfl rfl rfl rfl ?_; clear hF; intro a hF
     refine skF hF rfl rfl rfl rfl rfl rfl ?_; clear hF; intro a hF
     refine skF hF rfl rfl rfl rfl rfl rfl ?_; clear hF; intro a hF
     refine skF hF rfl rfl rfl rfl rfl rfl ?_; clear hF; intro a hF
     refine seq_yl hF (wn_none rfl) rfl rfl (pkF hF rfl rfl rfl) ?_; clear hF; intro a hF
     refine asN hF rfl rfl rfl rfl rfl ?_; clear hF; intro a hF
     refine wpList_nil ?_
     refine then_n ?_
     refine wp_ret ?_
     refine ret_t hF rfl rfl ?_
     exact ⟨_, rfl, congrArg Value.bool (dec_f (by (first | (unfold validR at *; omega) | (have h9 := hfine.1 (by assumption); unfold validR at *; omega) | (have h9 : ¬ (r.f5 = 0 ∨ r.f5 = 10 ∨ r.f5 = 11 ∨ r.f5 = 13 ∨ r.f5 = 50) := (fun h => by have := hfine.2 h; simp_all); unfold validR at *; omega)))), (hS.sub [] (by decide) (by first | rfl | simp) (by simp))⟩
   ·first | (replace hc112 := of_decide_eq_false hc112) | (replace hc112 := of_decide_eq_true (bnot_f hc112)) | (replace hc112 := bnot_f hc112) | skip
    refine skF hF rfl rfl rfl rfl rfl rfl ?_; clear hF; intro a hF
    refine skF hF rfl rfl rfl rfl rfl rfl ?_; clear hF; intro a hF
    refine skF hF rfl rfl rfl rfl rfl rfl ?_; clear hF; intro a hF
    refine skF hF rfl rfl rfl rfl rfl rfl ?_; clear hF; intro a hF
    refine skF hF rfl rfl rfl rfl rfl rfl ?_; clear hF; intro a hF
    refine seq_yl hF (wn_none rfl) rfl rfl (pkF hF rfl rfl rfl) ?_; clear hF; intro a hF
    refine mvN hF rfl rfl rfl rfl rfl ?_; clear hF; intro a hF
    refine skF hF rfl rfl rfl rfl rfl rfl ?_; clear hF; intro a hF
    refine skF hF rfl rfl rfl rfl rfl rfl ?_; clear hF; intro a hF
    refine skF hF rfl rfl rfl rfl rfl rfl ?_; clear hF; intro a hF
    refine seq_yl hF (wn_none rfl) rfl rfl (pkF hF rfl rfl rfl) ?_; clear hF; intro a hF
    refine mvN hF rfl rfl rfl rfl rfl ?_; clear hF; intro a hF
    refine skF hF rfl rfl rfl rfl rfl rfl ?_; clear hF; intro a hF
    refine skF hF rfl rfl rfl rfl rfl rfl ?_; clear hF; intro a hF
    refine skF hF rfl rfl rfl rfl rfl rfl ?_; clear hF; intro a hF
    refine seq_yl hF (wn_none rfl) rfl rfl (pkF hF rfl rfl rfl) ?_; clear hF; intro a hF
    refine mvN hF rfl rfl rfl rfl rfl ?_; clear hF; intro a hF
    refine skF hF rfl rfl rfl rfl rfl rfl ?_; clear hF; intro a hF
    refine skF hF rfl rfl rfl rfl rfl rfl ?_; clear hF; intro a hF
    refine skF hF rfl rfl rfl rfl rfl rfl ?_; clear hF; intro a hF
    refine seq_yl hF (wn_none rfl) rfl rfl (pkF hF rfl rfl rfl) ?_; clear hF; intro a hF
    refine mvN hF rfl rfl rfl rfl rfl ?_; clear hF; intro a hF
    refine skF hF rfl rfl rfl rfl rfl rfl ?_; clear hF; intro a hF
    refine skF hF rfl rfl rfl rfl rfl rfl ?_; clear hF; intro a hF
    refine skF hF rfl rfl rfl rfl rfl rfl ?_; clear hF; intro a hF
    refine seq_yl hF (wn_none rfl) rfl rfl (pkF hF rfl rfl rfl) ?_; clear hF; intro a hF
    refine mvN hF rfl rfl rfl rfl rfl ?_; clear hF; intro a hF
    refine skF hF rfl rfl rfl rfl rfl rfl ?_; clear hF; intro a hF
    refine seq_yl hF (wn_none rfl) rfl rfl (pkF hF rfl rfl rfl) ?_; clear hF; intro a hF
    refine mvN hF rfl rfl rfl rfl rfl ?_; clear hF; intro a hF
    refine skF hF rfl rfl rfl rfl rfl rfl ?_; clear hF; intro a hF
    refine skF hF rfl rfl rfl rfl rfl rfl ?_; clear hF; intro a hF
    refine skF hF rfl rfl rfl rfl rfl rfl ?_; clear hF; intro a hF
    refine seq_yl hF (wn_none rfl) rfl rfl (pkF hF rfl rfl rfl) ?_; clear hF; intro a hF
    refine mvN hF rfl rfl rfl rfl rfl ?_; clear hF; intro a hF
    refine skF hF rfl rfl rfl rfl rfl rfl ?_; clear hF; intro a hF
    refine skF hF rfl rfl rfl rfl rfl rfl ?_; clear hF; intro a hF
    refine skF hF rfl rfl rfl rfl rfl rfl ?_; clear hF; intro a hF
    refine seq_yl hF (wn_none rfl) rfl rfl (pkF hF rfl rfl rfl) ?_; clear hF; intro a hF
    refine mvN hF rfl rfl rfl rfl rfl ?_; clear hF; intro a hF
    refine skF hF rfl rfl rfl rfl rfl rfl ?_; clear hF; intro a hF
    refine skF hF rfl rfl rfl rfl rfl rfl ?_; clear hF; intro a hF
    refine skF hF rfl rfl rfl rfl rfl rfl ?_; clear hF; intro a hF
    refine seq_yl hF (wn_none rfl) rfl rfl (pkF hF rfl rfl rfl) ?_; clear hF; intro a hF
    refine asN hF rfl rfl rfl rfl rfl ?_; clear hF; intro a hF
    refine wpList_nil ?_
    refine then_n ?_
    refine wp_ret ?_
    refine ret_t hF rfl rfl ?_
    exact ⟨_, rfl, congrArg Value.bool (dec_f (by (first | (unfold validR at *; omega) | (have h9 := hfine.1 (by assumption); unfold validR at *; omega) | (have h9 : ¬ (r.f5 = 0 ∨ r.f5 = 10 ∨ r.f5 = 11 ∨ r.f5 = 13 ∨ r.f5 = 50) := (fun h => by have := hfine.2 h; simp_all); unfold validR at *; omega)))), (hS.sub [] (by decide) (by first | rfl | simp) (by simp))⟩
  ·first | (replace hc111 := of_decide_eq_false hc111) | (replace hc111 := of_decide_eq_true (bnot_f hc111)) | (replace hc111 := bnot_f hc111) | skip
   refine skF hF rfl rfl rfl rfl rfl rfl ?_; clear hF; intro a hF
   refine skF hF rfl rfl rfl rfl rfl rfl ?_; clear hF; intro a hF
   refine skF hF rfl rfl rfl rfl rfl rfl ?_; clear hF; intro a hF
   refine seq_yl hF (wn_none rfl) rfl rfl (pkF hF rfl rfl rfl) ?_; clear hF; intro a hF
   refine mvN hF rfl rfl rfl rfl rfl ?_; clear hF; intro a hF
   refine skF hF rfl rfl rfl rfl rfl rfl ?_; clear hF; intro a hF
   refine skF hF rfl rfl rfl rfl rfl rfl ?_; clear hF; intro a hF
   refine skF hF rfl rfl rfl rfl rfl rfl ?_; clear hF; intro a hF
   refine skF hF rfl rfl rfl rfl rfl rfl ?_; clear hF; intro a hF
   refine skF hF rfl rfl rfl rfl rfl rfl ?_; clear hF; intro a hF
   refine seq_yl hF (wn_none rfl) rfl rfl (pkF hF rfl rfl rfl) ?_; clear hF; intro a hF
   refine mvN hF rfl rfl rfl rfl rfl ?_; clear hF; intro a hF
   refine skF hF rfl rfl rfl rfl rfl rfl ?_; clear hF; intro a hF
   refine skF hF rfl rfl rfl rfl rfl rfl ?_; clear hF; intro a hF
   refine skF hF rfl rfl rfl rfl rfl rfl ?_; clear hF; intro a hF
   refine seq_yl hF (wn_none rfl) rfl rfl (pkF hF rfl rfl rfl) ?_; clear hF; intro a hF
   refine mvN hF rfl rfl rfl rfl rfl ?_; clear hF; intro a hF
   refine skF hF rfl rfl rfl rfl rfl rfl ?_; clear hF; intro a hF
   refine skF hF rfl rfl rfl rfl rfl rfl ?_; clear hF; intro a hF
   refine skF hF rfl rfl rfl rfl rfl rfl ?_; clear hF; intro a hF
   refine seq_yl hF (wn_none rfl) rfl rfl (pkF hF rfl rfl rfl) ?_; clear hF; intro a hF
   refine mvN hF rfl rfl rfl rfl rfl ?_; clear hF; intro a hF
   refine skF hF rfl rfl rfl rfl rfl rfl ?_; clear hF; intro a hF
   refine skF hF rfl rfl rfl rfl rfl rfl ?_; clear hF; intro a hF
   refine skF hF rfl rfl rfl rfl rfl rfl ?_; clear hF; intro a hF
   refine seq_yl hF (wn_none rfl) rfl rfl (pkF hF rfl rfl rfl) ?_; clear hF; intro a hF
   refine mvN hF rfl rfl rfl rfl rfl ?_; clear hF; intro a hF
   refine skF hF rfl rfl rfl rfl rfl rfl ?_; clear hF; intro a hF
   refine skF hF rfl rfl rfl rfl rfl rfl ?_; clear hF; intro a hF
   refine skF hF rfl rfl rfl rfl rfl rfl ?_; clear hF; intro a hF
   refine seq_yl hF (wn_none rfl) rfl rfl (pkF hF rfl rfl rfl) ?_; clear hF; intro a hF
   refine mvN hF rfl rfl rfl rfl rfl ?_; clear hF; intro a hF
   refine skF hF rfl rfl rfl rfl rfl rfl ?_; clear hF; intro a hF
   refine seq_yl hF (wn_none rfl) rfl rfl (pkF hF rfl rfl rfl) ?_; clear hF; intro a hF
   refine mvN hF rfl rfl rfl rfl rfl ?_; clear hF; intro a hF
   refine skF hF rfl rfl rfl rfl rfl rfl ?_; clear hF; intro a hF
   refine skF hF rfl rfl rfl rfl rfl rfl ?_; clear hF; intro a hF
   refine skF hF rfl rfl rfl rfl rfl rfl ?_; clear hF; intro a hF
   refine seq_yl hF (wn_none rfl) rfl rfl (pkF hF rfl rfl rfl) ?_; clear hF; intro a hF
   refine mvN hF rfl rfl rfl rfl rfl ?_; clear hF; intro a hF
   refine skF hF rfl rfl rfl rfl rfl rfl ?_; clear hF; intro a hF
   refine skF hF rfl rfl rfl rfl rfl rfl ?_; clear hF; intro a hF
   refine skF hF rfl rfl rfl rfl rfl rfl ?_; clear hF; intro a hF
   refine seq_yl hF (wn_none rfl) rfl rfl (pkF hF rfl rfl rfl) ?_; clear hF; intro a hF
   refine mvN hF rfl rfl rfl rfl rfl ?_; clear hF; intro a hF
   refine skF hF rfl rfl rfl rfl rfl rfl ?_; clear hF; intro a hF
   refine skF hF rfl rfl rfl rfl rfl rfl ?_; clear hF; intro a hF
   refine skF hF rfl rfl rfl rfl rfl rfl ?_; clear hF; intro a hF
   refine seq_yl hF (wn_none rfl) rfl rfl (pkF hF rfl rfl rfl) ?_; clear hF; intro a hF
   refine asN hF rfl rfl rfl rfl rfl ?_; clear hF; intro a hF
   refine wpList_nil ?_
   refine then_n ?_
   refine wp_ret ?_
   refine ret_t hF rfl rfl ?_
   exact ⟨_, rfl, congrArg Value.bool (dec_f (by (first | (unfold validR at *; omega) | (have h9 := hfine.1 (by assumption); unfold validR at *; omega) | (have h9 : ¬ (r.f5 = 0 ∨ r.f5 = 10 ∨ r.f5 = 11 ∨ r.f5 = 13 ∨ r.f5 = 50) := (fun h => by have := hfine.2 h; simp_all); unfold validR at *; omega)))), (hS.sub [] (by decide) (by first | rfl | simp) (by simp))⟩

end Go.Proofs.Ytkejcnhfbfgphaa

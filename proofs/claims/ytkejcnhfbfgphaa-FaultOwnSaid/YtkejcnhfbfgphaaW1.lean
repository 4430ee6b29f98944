/- walks, printed by wip/gen -/
import Derived.Test.YtkejcnhfbfgphaaV1
import Derived.Test.YtkejcnhfbfgphaaV2x
namespace Go.Proofs.Ytkejcnhfbfgphaa
open Go.RowKit
set_option linter.unusedVariables false
set_option linter.unusedSimpArgs false

set_option maxHeartbeats 1000000 in
set_option maxRecDepth 100000 in
theorem match_any (r : E37) (k s c : Int) (w0 : World) :
  Fn Try.prog 25 #[.agg #[.int .i64 r.f0, .int .i64 r.f1, .int .i64 r.f2, .int .i64 r.f3, .int .i64 r.f4, .int .i64 r.f5, .int .i64 r.f6, .bool r.f7, .int .i64 r.f8], .int .i64 k, .int .i64 s, .int .i64 c] w0 (fun v w' => v = .bool (decide (matchR r k s c)) ∧ Sat w0 w' []) := by
 refine c_enter (N := 60) (l := [_, _, _, _]) Try.func25 rfl rfl (fun a w hF hS => ?_)
 refine c_seq ?_
 refine c_region ?_
 refine seq_wp (wn_none rfl) (wp_box (cs := #[_, _, _, _, _, _, _, _, _]) hF hS rfl rfl rfl rfl rfl ?_)
 clear hF hS; intro a w g121 hF hS
 refine asN hF rfl rfl rfl rfl rfl ?_; clear hF; intro a hF
 refine wpList_nil ?_
 refine then_n ?_
 refine c_seq ?_
 refine c_seq ?_
 refine c_region ?_
 refine mvN hF rfl rfl rfl rfl rfl ?_; clear hF; intro a hF
 refine seq_wp (wn_none rfl) (wp_call (vs := [_]) hF rfl rfl rfl rfl cf50 (kind_any (k) _) ?_)
 clear hF; rintro _ w ⟨rfl, hS1⟩ a hF
 replace hS := hS.callB hS1 rfl; clear hS1
 refine seq_yl hF (wn_none rfl) rfl rfl (yl_un hF rfl rfl (fun _ => run_not)) ?_; clear hF; intro a hF
 refine mvN hF rfl rfl rfl rfl rfl ?_; clear hF; intro a hF
 refine fr_split hF (fun hc122 hF => ?_) (fun hc122 hF => ?_)
 ·first | (replace hc122 := of_decide_eq_true hc122) | (replace hc122 := of_decide_eq_false (bnot_t hc122)) | (subst hc122) | (replace hc122 := bnot_t hc122; subst hc122) | (replace hc122 := bnot_t hc122) | skip
  refine skF hF rfl rfl rfl rfl rfl rfl ?_; clear hF; intro a hF
  refine skF hF rfl rfl rfl rfl rfl rfl ?_; clear hF; intro a hF
  refine skF hF rfl rfl rfl rfl rfl rfl ?_; clear hF; intro a hF
  refine seq_yl hF (wn_none rfl) rfl rfl (pkT hF rfl rfl rfl) ?_; clear hF; intro a hF
  refine mvN hF rfl rfl rfl rfl rfl ?_; clear hF; intro a hF
  refine skF hF rfl rfl rfl rfl rfl rfl ?_; clear hF; intro a hF
  refine skF hF rfl rfl rfl rfl rfl rfl ?_; clear hF; intro a hF
  refine skF hF rfl rfl rfl rfl rfl rfl ?_; clear hF; intro a hF
  refine seq_yl hF (wn_none rfl) rfl rfl (pkT hF rfl rfl rfl) ?_; clear hF; intro a hF
  refine mvN hF rfl rfl rfl rfl rfl ?_; clear hF; intro a hF
  refine skF hF rfl rfl rfl rfl rfl rfl ?_; clear hF; intro a hF
  refine skF hF rfl rfl rfl rfl rfl rfl ?_; clear hF; intro a hF
  refine skF hF rfl rfl rfl rfl rfl rfl ?_; clear hF; intro a hF
  refine skF hF rfl rfl rfl rfl rfl rfl ?_; clear hF; intro a hF
  refine seq_skip hF (wn_u hF rfl rfl rfl rfl) rfl rfl ?_; clear hF; intro a hF
  refine seq_skip hF (wn_u hF rfl rfl rfl rfl) rfl rfl ?_; clear hF; intro a hF
  refine seq_skip hF (wn_u hF rfl rfl rfl rfl) rfl rfl ?_; clear hF; intro a hF
  refine seq_skip hF (wn_u hF rfl rfl rfl rfl) rfl rfl ?_; clear hF; intro a hF
  refine skF hF rfl rfl rfl rfl rfl rfl ?_; clear hF; intro a hF
  refine seq_yl hF (wn_none rfl) rfl rfl (pkT hF rfl rfl rfl) ?_; clear hF; intro a hF
  refine wpList_nil ?_
  refine then_n ?_
  refine c_cond_t hF rfl ?_
  refine c_seq ?_
  refine c_region ?_
  refine asN hF rfl rfl rfl rfl rfl ?_; clear hF; intro a hF
  refine wpList_nil ?_
  refine then_n ?_
  refine wp_ret ?_
  refine then_r ?_
  refine ret_t hF rfl rfl ?_
  exact ⟨_, rfl, congrArg Value.bool (dec_f (by (unfold matchR at *; omega))), (hS.sub [] (by decide) (by first | rfl | simp) (by simp))⟩
 ·first | (replace hc122 := of_decide_eq_false hc122) | (replace hc122 := of_decide_eq_true (bnot_f hc122)) | (subst hc122) | (replace hc122 := bnot_f hc122; subst hc122) | (replace hc122 := bnot_f hc122) | skip
  refine seq_yl hF (wn_t hF rfl rfl rfl rfl) rfl rfl (yl_move hF rfl rfl) ?_; clear hF; intro a hF
  refine seq_wp (wn_t hF rfl rfl rfl rfl) (wp_call (vs := [_]) hF rfl rfl rfl rfl cf52 (sector_any (s) _) ?_)
  clear hF; rintro _ w ⟨rfl, hS1⟩ a hF
  replace hS := hS.callB hS1 rfl; clear hS1
  refine seq_yl hF (wn_t hF rfl rfl rfl rfl) rfl rfl (yl_un hF rfl rfl (fun _ => run_not)) ?_; clear hF; intro a hF
  refine seq_yl hF (wn_none rfl) rfl rfl (pkF hF rfl rfl rfl) ?_; clear hF; intro a hF
  refine mvN hF rfl rfl rfl rfl rfl ?_; clear hF; intro a hF
  refine fr_split hF (fun hc123 hF => ?_) (fun hc123 hF => ?_)
  ·first | (replace hc123 := of_decide_eq_true hc123) | (replace hc123 := of_decide_eq_false (bnot_t hc123)) | (subst hc123) | (replace hc123 := bnot_t hc123; subst hc123) | (replace hc123 := bnot_t hc123) | skip
   refine skF hF rfl rfl rfl rfl rfl rfl ?_; clear hF; intro a hF
   refine skF hF rfl rfl rfl rfl rfl rfl ?_; clear hF; intro a hF
   refine skF hF rfl rfl rfl rfl rfl rfl ?_; clear hF; intro a hF
   refine seq_yl hF (wn_none rfl) rfl rfl (pkT hF rfl rfl rfl) ?_; clear hF; intro a hF
   refine mvN hF rfl rfl rfl rfl rfl ?_; clear hF; intro a hF
   refine skF hF rfl rfl rfl rfl rfl rfl ?_; clear hF; intro a hF
   refine skF hF rfl rfl rfl rfl rfl rfl ?_; clear hF; intro a hF
   refine skF hF rfl rfl rfl rfl rfl rfl ?_; clear hF; intro a hF
   refine skF hF rfl rfl rfl rfl rfl rfl ?_; clear hF; intro a hF
   refine seq_skip hF (wn_u hF rfl rfl rfl rfl) rfl rfl ?_; clear hF; intro a hF
   refine seq_skip hF (wn_u hF rfl rfl rfl rfl) rfl rfl ?_; clear hF; intro a hF
   refine seq_skip hF (wn_u hF rfl rfl rfl rfl) rfl rfl ?_; clear hF; intro a hF
   refine seq_skip hF (wn_u hF rfl rfl rfl rfl) rfl rfl ?_; clear hF; intro a hF
   refine skF hF rfl rfl rfl rfl rfl rfl ?_; clear hF; intro a hF
   refine seq_yl hF (wn_none rfl) rfl rfl (pkT hF rfl rfl rfl) ?_; clear hF; intro a hF
   refine wpList_nil ?_
   refine then_n ?_
   refine c_cond_t hF rfl ?_
   refine c_seq ?_
   refine c_region ?_
   refine asN hF rfl rfl rfl rfl rfl ?_; clear hF; intro a hF
   refine wpList_nil ?_
   refine then_n ?_
   refine wp_ret ?_
   refine then_r ?_
   refine ret_t hF rfl rfl ?_
   exact ⟨_, rfl, congrArg Value.bool (dec_f (by (unfold matchR at *; omega))), (hS.sub [] (by decide) (by first | rfl | simp) (by simp))⟩
  ·first | (replace hc123 := of_decide_eq_false hc123) | (replace hc123 := of_decide_eq_true (bnot_f hc123)) | (subst hc123) | (replace hc123 := bnot_f hc123; subst hc123) | (replace hc123 := bnot_f hc123) | skip
   refine seq_yl hF (wn_t hF rfl rfl rfl rfl) rfl rfl (yl_move hF rfl rfl) ?_; clear hF; intro a hF
   refine seq_wp (wn_t hF rfl rfl rfl rfl) (wp_call (vs := [_]) hF rfl rfl rfl rfl cf52 (sector_any (c) _) ?_)
   clear hF; rintro _ w ⟨rfl, hS1⟩ a hF
   replace hS := hS.callB hS1 rfl; clear hS1
   refine seq_yl hF (wn_t hF rfl rfl rfl rfl) rfl rfl (yl_un hF rfl rfl (fun _ => run_not)) ?_; clear hF; intro a hF
   refine seq_yl hF (wn_none rfl) rfl rfl (pkF hF rfl rfl rfl) ?_; clear hF; intro a hF
   refine mvN hF rfl rfl rfl rfl rfl ?_; clear hF; intro a hF
   refine fr_split hF (fun hc124 hF => ?_) (fun hc124 hF => ?_)
   ·first | (replace hc124 := of_decide_eq_true hc124) | (replace hc124 := of_decide_eq_false (bnot_t hc124)) | (subst hc124) | (replace hc124 := bnot_t hc124; subst hc124) | (replace hc124 := bnot_t hc124) | skip
    refine skF hF rfl rfl rfl rfl rfl rfl ?_; clear hF; intro a hF
    refine skF hF rfl rfl rfl rfl rfl rfl ?_; clear hF; intro a hF
    refine skF hF rfl rfl rfl rfl rfl rfl ?_; clear hF; intro a hF
    refine skF hF rfl rfl rfl rfl rfl rfl ?_; clear hF; intro a hF
    refine seq_skip hF (wn_u hF rfl rfl rfl rfl) rfl rfl ?_; clear hF; intro a hF
    refine seq_skip hF (wn_u hF rfl rfl rfl rfl) rfl rfl ?_; clear hF; intro a hF
    refine seq_skip hF (wn_u hF rfl rfl rfl rfl) rfl rfl ?_; clear hF; intro a hF
    refine seq_skip hF (wn_u hF rfl rfl rfl rfl) rfl rfl ?_; clear hF; intro a hF
    refine skF hF rfl rfl rfl rfl rfl rfl ?_; clear hF; intro a hF
    refine seq_yl hF (wn_none rfl) rfl rfl (pkT hF rfl rfl rfl) ?_; clear hF; intro a hF
    refine wpList_nil ?_
    refine then_n ?_
    refine c_cond_t hF rfl ?_
    refine c_seq ?_
    refine c_region ?_
    refine asN hF rfl rfl rfl rfl rfl ?_; clear hF; intro a hF
    refine wpList_nil ?_
    refine then_n ?_
    refine wp_ret ?_
    refine then_r ?_
    refine ret_t hF rfl rfl ?_
    exact ⟨_, rfl, congrArg Value.bool (dec_f (by (unfold matchR at *; omega))), (hS.sub [] (by decide) (by first | rfl | simp) (by simp))⟩
   ·first | (replace hc124 := of_decide_eq_false hc124) | (replace hc124 := of_decide_eq_true (bnot_f hc124)) | (subst hc124) | (replace hc124 := bnot_f hc124; subst hc124) | (replace hc124 := bnot_f hc124) | skip
    refine seq_yl hF (wn_t hF rfl rfl rfl rfl) rfl rfl (yl_fieldAddr hF rfl rfl (fun w => by kernel_rfl : ∀ w, (Instr.fieldAt 37 (.pointer (some ⟨g121, 0, none⟩)) 0).run Try.prog w = .ok (.pointer (some ⟨g121, 0, none⟩)) w)) ?_; clear hF; intro a hF
    refine seq_yl hF (wn_t hF rfl rfl rfl rfl) rfl rfl (yl_load (fun _ h => h ▸ hS) hF rfl rfl 0 rfl ag3 rfl) ?_; clear hF; intro a hF
    refine seq_yl hF (wn_t hF rfl rfl rfl rfl) rfl rfl (yl_bin hF rfl rfl rfl rfl (fun _ => run_neq)) ?_; clear hF; intro a hF
    refine seq_yl hF (wn_t hF rfl rfl rfl rfl) rfl rfl (yl_move hF rfl rfl) ?_; clear hF; intro a hF
    refine fr_split hF (fun hc125 hF => ?_) (fun hc125 hF => ?_)
    ·first | (replace hc125 := of_decide_eq_true hc125) | (replace hc125 := of_decide_eq_false (bnot_t hc125)) | (subst hc125) | (replace hc125 := bnot_t hc125; subst hc125) | (replace hc125 := bnot_t hc125) | skip
     refine seq_yl hF (wn_t hF rfl rfl rfl rfl) rfl rfl (yl_fieldAddr hF rfl rfl (fun w => by kernel_rfl : ∀ w, (Instr.fieldAt 37 (.pointer (some ⟨g121, 0, none⟩)) 0).run Try.prog w = .ok (.pointer (some ⟨g121, 0, none⟩)) w)) ?_; clear hF; intro a hF
     refine seq_yl hF (wn_t hF rfl rfl rfl rfl) rfl rfl (yl_load (fun _ h => h ▸ hS) hF rfl rfl 0 rfl ag3 rfl) ?_; clear hF; intro a hF
     refine seq_yl hF (wn_t hF rfl rfl rfl rfl) rfl rfl (yl_move hF rfl rfl) ?_; clear hF; intro a hF
     refine seq_yl hF (wn_t hF rfl rfl rfl rfl) rfl rfl (yl_bin hF rfl rfl rfl rfl (fun _ => run_neq)) ?_; clear hF; intro a hF
     refine seq_yl hF (wn_t hF rfl rfl rfl rfl) rfl rfl (pkT hF rfl rfl rfl) ?_; clear hF; intro a hF
     refine seq_yl hF (wn_none rfl) rfl rfl (pkF hF rfl rfl rfl) ?_; clear hF; intro a hF
     refine wpList_nil ?_
     refine then_n ?_
     refine c_cond hF rfl (fun hc126 => ?_) (fun hc126 => ?_)
     ·first | (replace hc126 := of_decide_eq_true hc126) | (replace hc126 := of_decide_eq_false (bnot_t hc126)) | (subst hc126) | (replace hc126 := bnot_t hc126; subst hc126) | (replace hc126 := bnot_t hc126) | skip
      refine c_seq ?_
      refine c_region ?_
      refine asN hF rfl rfl rfl rfl rfl ?_; clear hF; intro a hF
      refine wpList_nil ?_
      refine then_n ?_
      refine wp_ret ?_
      refine then_r ?_
      refine ret_t hF rfl rfl ?_
      exact ⟨_, rfl, congrArg Value.bool (dec_f (by (unfold matchR at *; omega))), (hS.sub [] (by decide) (by first | rfl | simp) (by simp))⟩
     ·first | (replace hc126 := of_decide_eq_false hc126) | (replace hc126 := of_decide_eq_true (bnot_f hc126)) | (subst hc126) | (replace hc126 := bnot_f hc126; subst hc126) | (replace hc126 := bnot_f hc126) | skip
      refine wp_skip ?_
      refine then_n ?_
      refine c_seq ?_
      refine c_region ?_
      refine mvN hF rfl rfl rfl rfl rfl ?_; clear hF; intro a hF
      refine seq_yl hF (wn_none rfl) rfl rfl (yl_bin hF rfl rfl rfl rfl (fun _ => run_eql)) ?_; clear hF; intro a hF
      refine mvN hF rfl rfl rfl rfl rfl ?_; clear hF; intro a hF
      refine fr_split hF (fun hc127 hF => ?_) (fun hc127 hF => ?_)
      ·first | (replace hc127 := of_decide_eq_true hc127) | (replace hc127 := of_decide_eq_false (bnot_t hc127)) | (subst hc127) | (replace hc127 := bnot_t hc127; subst hc127) | (replace hc127 := bnot_t hc127) | skip
       refine skF hF rfl rfl rfl rfl rfl rfl ?_; clear hF; intro a hF
       refine skF hF rfl rfl rfl rfl rfl rfl ?_; clear hF; intro a hF
       refine skF hF rfl rfl rfl rfl rfl rfl ?_; clear hF; intro a hF
       refine seq_skip hF (wn_u hF rfl rfl rfl rfl) rfl rfl ?_; clear hF; intro a hF
       refine seq_skip hF (wn_u hF rfl rfl rfl rfl) rfl rfl ?_; clear hF; intro a hF
       refine seq_skip hF (wn_u hF rfl rfl rfl rfl) rfl rfl ?_; clear hF; intro a hF
       refine seq_skip hF (wn_u hF rfl rfl rfl rfl) rfl rfl ?_; clear hF; intro a hF
       refine skF hF rfl rfl rfl rfl rfl rfl ?_; clear hF; intro a hF
       refine skF hF rfl rfl rfl rfl rfl rfl ?_; clear hF; intro a hF
       refine seq_skip hF (wn_u hF rfl rfl rfl rfl) rfl rfl ?_; clear hF; intro a hF
       refine seq_skip hF (wn_u hF rfl rfl rfl rfl) rfl rfl ?_; clear hF; intro a hF
       refine seq_skip hF (wn_u hF rfl rfl rfl rfl) rfl rfl ?_; clear hF; intro a hF
       refine seq_skip hF (wn_u hF rfl rfl rfl rfl) rfl rfl ?_; clear hF; intro a hF
       refine seq_skip hF (wn_u hF rfl rfl rfl rfl) rfl rfl ?_; clear hF; intro a hF
       refine seq_skip hF (wn_u hF rfl rfl rfl rfl) rfl rfl ?_; clear hF; intro a hF
       refine skF hF rfl rfl rfl rfl rfl rfl ?_; clear hF; intro a hF
       refine skF hF rfl rfl rfl rfl rfl rfl ?_; clear hF; intro a hF
       refine seq_skip hF (wn_u hF rfl rfl rfl rfl) rfl rfl ?_; clear hF; intro a hF
       refine seq_skip hF (wn_u hF rfl rfl rfl rfl) rfl rfl ?_; clear hF; intro a hF
       refine seq_skip hF (wn_u hF rfl rfl rfl rfl) rfl rfl ?_; clear hF; intro a hF
       refine seq_skip hF (wn_u hF rfl rfl rfl rfl) rfl rfl ?_; clear hF; intro a hF
       refine seq_skip hF (wn_u hF rfl rfl rfl rfl) rfl rfl ?_; clear hF; intro a hF
       refine skF hF rfl rfl rfl rfl rfl rfl ?_; clear hF; intro a hF
       refine seq_yl hF (wn_none rfl) rfl rfl (pkT hF rfl rfl rfl) ?_; clear hF; intro a hF
       refine asN hF rfl rfl rfl rfl rfl ?_; clear hF; intro a hF
       refine wpList_nil ?_
       refine then_n ?_
       refine wp_ret ?_
       refine ret_t hF rfl rfl ?_
       exact ⟨_, rfl, congrArg Value.bool (dec_t (by (unfold matchR at *; omega))), (hS.sub [] (by decide) (by first | rfl | simp) (by simp))⟩
      ·first | (replace hc127 := of_decide_eq_false hc127) | (replace hc127 := of_decide_eq_true (bnot_f hc127)) | (subst hc127) | (replace hc127 := bnot_f hc127; subst hc127) | (replace hc127 := bnot_f hc127) | skip
       refine seq_yl hF (wn_t hF rfl rfl rfl rfl) rfl rfl (yl_move hF rfl rfl) ?_; clear hF; intro a hF
       refine seq_yl hF (wn_t hF rfl rfl rfl rfl) rfl rfl (yl_bin hF rfl rfl rfl rfl (fun _ => run_geq)) ?_; clear hF; intro a hF
       refine seq_yl hF (wn_t hF rfl rfl rfl rfl) rfl rfl (yl_move hF rfl rfl) ?_; clear hF; intro a hF
       refine fr_split hF (fun hc128 hF => ?_) (fun hc128 hF => ?_)
       ·first | (replace hc128 := of_decide_eq_true hc128) | (replace hc128 := of_decide_eq_false (bnot_t hc128)) | (subst hc128) | (replace hc128 := bnot_t hc128; subst hc128) | (replace hc128 := bnot_t hc128) | skip
        refine seq_yl hF (wn_t hF rfl rfl rfl rfl) rfl rfl (yl_move hF rfl rfl) ?_; clear hF; intro a hF
        refine seq_yl hF (wn_t hF rfl rfl rfl rfl) rfl rfl (yl_fieldAddr hF rfl rfl (fun w => by kernel_rfl : ∀ w, (Instr.fieldAt 37 (.pointer (some ⟨g121, 0, none⟩)) 2).run Try.prog w = .ok (.pointer (some ⟨g121, 2, none⟩)) w)) ?_; clear hF; intro a hF
        refine seq_yl hF (wn_t hF rfl rfl rfl rfl) rfl rfl (yl_load (fun _ h => h ▸ hS) hF rfl rfl 0 rfl ag3 rfl) ?_; clear hF; intro a hF
        refine seq_yl hF (wn_t hF rfl rfl rfl rfl) rfl rfl (yl_bin hF rfl rfl rfl rfl (fun _ => run_leq)) ?_; clear hF; intro a hF
        refine seq_yl hF (wn_t hF rfl rfl rfl rfl) rfl rfl (pkT hF rfl rfl rfl) ?_; clear hF; intro a hF
        refine seq_yl hF (wn_t hF rfl rfl rfl rfl) rfl rfl (yl_move hF rfl rfl) ?_; clear hF; intro a hF
        refine fr_split hF (fun hc129 hF => ?_) (fun hc129 hF => ?_)
        ·first | (replace hc129 := of_decide_eq_true hc129) | (replace hc129 := of_decide_eq_false (bnot_t hc129)) | (subst hc129) | (replace hc129 := bnot_t hc129; subst hc129) | (replace hc129 := bnot_t hc129) | skip
         refine seq_yl hF (wn_t hF rfl rfl rfl rfl) rfl rfl (yl_move hF rfl rfl) ?_; clear hF; intro a hF
         refine seq_yl hF (wn_t hF rfl rfl rfl rfl) rfl rfl (yl_move hF rfl rfl) ?_; clear hF; intro a hF
         refine seq_yl hF (wn_t hF rfl rfl rfl rfl) rfl rfl (yl_bin hF rfl rfl rfl rfl (fun _ => run_add (by refine ⟨?_, ?_⟩ <;> omega))) ?_; clear hF; intro a hF
         refine seq_yl hF (wn_t hF rfl rfl rfl rfl) rfl rfl (yl_fieldAddr hF rfl rfl (fun w => by kernel_rfl : ∀ w, (Instr.fieldAt 37 (.pointer (some ⟨g121, 0, none⟩)) 1).run Try.prog w = .ok (.pointer (some ⟨g121, 1, none⟩)) w)) ?_; clear hF; intro a hF
         refine seq_yl hF (wn_t hF rfl rfl rfl rfl) rfl rfl (yl_load (fun _ h => h ▸ hS) hF rfl rfl 0 rfl ag3 rfl) ?_; clear hF; intro a hF
         refine seq_yl hF (wn_t hF rfl rfl rfl rfl) rfl rfl (yl_bin hF rfl rfl rfl rfl (fun _ => run_gtr)) ?_; clear hF; intro a hF
         refine seq_yl hF (wn_t hF rfl rfl rfl rfl) rfl rfl (pkT hF rfl rfl rfl) ?_; clear hF; intro a hF
         refine seq_yl hF (wn_t hF rfl rfl rfl rfl) rfl rfl (yl_move hF rfl rfl) ?_; clear hF; intro a hF
         refine fr_split hF (fun hc130 hF => ?_) (fun hc130 hF => ?_)
         ·first | (replace hc130 := of_decide_eq_true hc130) | (replace hc130 := of_decide_eq_false (bnot_t hc130)) | (subst hc130) | (replace hc130 := bnot_t hc130; subst hc130) | (replace hc130 := bnot_t hc130) | skip
          refine seq_yl hF (wn_t hF rfl rfl rfl rfl) rfl rfl (yl_fieldAddr hF rfl rfl (fun w => by kernel_rfl : ∀ w, (Instr.fieldAt 37 (.pointer (some ⟨g121, 0, none⟩)) 1).run Try.prog w = .ok (.pointer (some ⟨g121, 1, none⟩)) w)) ?_; clear hF; intro a hF
          refine seq_yl hF (wn_t hF rfl rfl rfl rfl) rfl rfl (yl_load (fun _ h => h ▸ hS) hF rfl rfl 0 rfl ag3 rfl) ?_; clear hF; intro a hF
          refine seq_yl hF (wn_t hF rfl rfl rfl rfl) rfl rfl (yl_fieldAddr hF rfl rfl (fun w => by kernel_rfl : ∀ w, (Instr.fieldAt 37 (.pointer (some ⟨g121, 0, none⟩)) 2).run Try.prog w = .ok (.pointer (some ⟨g121, 2, none⟩)) w)) ?_; clear hF; intro a hF
          refine seq_yl hF (wn_t hF rfl rfl rfl rfl) rfl rfl (yl_load (fun _ h => h ▸ hS) hF rfl rfl 0 rfl ag3 rfl) ?_; clear hF; intro a hF
          refine seq_yl hF (wn_t hF rfl rfl rfl rfl) rfl rfl (yl_bin hF rfl rfl rfl rfl (fun _ => run_leq)) ?_; clear hF; intro a hF
          refine seq_yl hF (wn_t hF rfl rfl rfl rfl) rfl rfl (pkT hF rfl rfl rfl) ?_; clear hF; intro a hF
          refine seq_yl hF (wn_none rfl) rfl rfl (pkF hF rfl rfl rfl) ?_; clear hF; intro a hF
          refine asN hF rfl rfl rfl rfl rfl ?_; clear hF; intro a hF
          refine wpList_nil ?_
          refine then_n ?_
          refine wp_ret ?_
          refine ret_t hF rfl rfl ?_
          exact ⟨_, rfl, congrArg Value.bool (dec_d (by constructor <;> intro _ <;> (unfold matchR at *; omega))), (hS.sub [] (by decide) (by first | rfl | simp) (by simp))⟩
         ·first | (replace hc130 := of_decide_eq_false hc130) | (replace hc130 := of_decide_eq_true (bnot_f hc130)) | (subst hc130) | (replace hc130 := bnot_f hc130; subst hc130) | (replace hc130 := bnot_f hc130) | skip
          refine skF hF rfl rfl rfl rfl rfl rfl ?_; clear hF; intro a hF
          refine skF hF rfl rfl rfl rfl rfl rfl ?_; clear hF; intro a hF
          refine skF hF rfl rfl rfl rfl rfl rfl ?_; clear hF; intro a hF
          refine skF hF rfl rfl rfl rfl rfl rfl ?_; clear hF; intro a hF
          refine skF hF rfl rfl rfl rfl rfl rfl ?_; clear hF; intro a hF
          refine seq_yl hF (wn_t hF rfl rfl rfl rfl) rfl rfl (pkF hF rfl rfl rfl) ?_; clear hF; intro a hF
          refine seq_yl hF (wn_none rfl) rfl rfl (pkF hF rfl rfl rfl) ?_; clear hF; intro a hF
          refine asN hF rfl rfl rfl rfl rfl ?_; clear hF; intro a hF
          refine wpList_nil ?_
          refine then_n ?_
          refine wp_ret ?_
          refine ret_t hF rfl rfl ?_
          exact ⟨_, rfl, congrArg Value.bool (dec_f (by (unfold matchR at *; omega))), (hS.sub [] (by decide) (by first | rfl | simp) (by simp))⟩
        ·first | (replace hc129 := of_decide_eq_false hc129) | (replace hc129 := of_decide_eq_true (bnot_f hc129)) | (subst hc129) | (replace hc129 := bnot_f hc129; subst hc129) | (replace hc129 := bnot_f hc129) | skip
         refine skF hF rfl rfl rfl rfl rfl rfl ?_; clear hF; intro a hF
         refine skF hF rfl rfl rfl rfl rfl rfl ?_; clear hF; intro a hF
         refine skF hF rfl rfl rfl rfl rfl rfl ?_; clear hF; intro a hF
         refine skF hF rfl rfl rfl rfl rfl rfl ?_; clear hF; intro a hF
         refine skF hF rfl rfl rfl rfl rfl rfl ?_; clear hF; intro a hF
         refine skF hF rfl rfl rfl rfl rfl rfl ?_; clear hF; intro a hF
         refine seq_yl hF (wn_t hF rfl rfl rfl rfl) rfl rfl (pkF hF rfl rfl rfl) ?_; clear hF; intro a hF
         refine seq_yl hF (wn_t hF rfl rfl rfl rfl) rfl rfl (yl_move hF rfl rfl) ?_; clear hF; intro a hF
         refine skF hF rfl rfl rfl rfl rfl rfl ?_; clear hF; intro a hF
         refine skF hF rfl rfl rfl rfl rfl rfl ?_; clear hF; intro a hF
         refine skF hF rfl rfl rfl rfl rfl rfl ?_; clear hF; intro a hF
         refine skF hF rfl rfl rfl rfl rfl rfl ?_; clear hF; intro a hF
         refine skF hF rfl rfl rfl rfl rfl rfl ?_; clear hF; intro a hF
         refine seq_yl hF (wn_t hF rfl rfl rfl rfl) rfl rfl (pkF hF rfl rfl rfl) ?_; clear hF; intro a hF
         refine seq_yl hF (wn_none rfl) rfl rfl (pkF hF rfl rfl rfl) ?_; clear hF; intro a hF
         refine asN hF rfl rfl rfl rfl rfl ?_; clear hF; intro a hF
         refine wpList_nil ?_
         refine then_n ?_
         refine wp_ret ?_
         refine ret_t hF rfl rfl ?_
         exact ⟨_, rfl, congrArg Value.bool (dec_f (by (unfold matchR at *; omega))), (hS.sub [] (by decide) (by first | rfl | simp) (by simp))⟩
       ·first | (replace hc128 := of_decide_eq_false hc128) | (replace hc128 := of_decide_eq_true (bnot_f hc128)) | (subst hc128) | (replace hc128 := bnot_f hc128; subst hc128) | (replace hc128 := bnot_f hc128) | skip
        refine skF hF rfl rfl rfl rfl rfl rfl ?_; clear hF; intro a hF
        refine skF hF rfl rfl rfl rfl rfl rfl ?_; clear hF; intro a hF
        refine skF hF rfl rfl rfl rfl rfl rfl ?_; clear hF; intro a hF
        refine skF hF rfl rfl rfl rfl rfl rfl ?_; clear hF; intro a hF
        refine seq_yl hF (wn_t hF rfl rfl rfl rfl) rfl rfl (pkF hF rfl rfl rfl) ?_; clear hF; intro a hF
        refine seq_yl hF (wn_t hF rfl rfl rfl rfl) rfl rfl (yl_move hF rfl rfl) ?_; clear hF; intro a hF
        refine skF hF rfl rfl rfl rfl rfl rfl ?_; clear hF; intro a hF
        refine skF hF rfl rfl rfl rfl rfl rfl ?_; clear hF; intro a hF
        refine skF hF rfl rfl rfl rfl rfl rfl ?_; clear hF; intro a hF
        refine skF hF rfl rfl rfl rfl rfl rfl ?_; clear hF; intro a hF
        refine skF hF rfl rfl rfl rfl rfl rfl ?_; clear hF; intro a hF
        refine skF hF rfl rfl rfl rfl rfl rfl ?_; clear hF; intro a hF
        refine seq_yl hF (wn_t hF rfl rfl rfl rfl) rfl rfl (pkF hF rfl rfl rfl) ?_; clear hF; intro a hF
        refine seq_yl hF (wn_t hF rfl rfl rfl rfl) rfl rfl (yl_move hF rfl rfl) ?_; clear hF; intro a hF
        refine skF hF rfl rfl rfl rfl rfl rfl ?_; clear hF; intro a hF
        refine skF hF rfl rfl rfl rfl rfl rfl ?_; clear hF; intro a hF
        refine skF hF rfl rfl rfl rfl rfl rfl ?_; clear hF; intro a hF
        refine skF hF rfl rfl rfl rfl rfl rfl ?_; clear hF; intro a hF
        refine skF hF rfl rfl rfl rfl rfl rfl ?_; clear hF; intro a hF
        refine seq_yl hF (wn_t hF rfl rfl rfl rfl) rfl rfl (pkF hF rfl rfl rfl) ?_; clear hF; intro a hF
        refine seq_yl hF (wn_none rfl) rfl rfl (pkF hF rfl rfl rfl) ?_; clear hF; intro a hF
        refine asN hF rfl rfl rfl rfl rfl ?_; clear hF; intro a hF
        refine wpList_nil ?_
        refine then_n ?_
        refine wp_ret ?_
        refine ret_t hF rfl rfl ?_
        exact ⟨_, rfl, congrArg Value.bool (dec_f (by (unfold matchR at *; omega))), (hS.sub [] (by decide) (by first | rfl | simp) (by simp))⟩
    ·first | (replace hc125 := of_decide_eq_false hc125) | (replace hc125 := of_decide_eq_true (bnot_f hc125)) | (subst hc125) | (replace hc125 := bnot_f hc125; subst hc125) | (replace hc125 := bnot_f hc125) | skip
     refine skF hF rfl rfl rfl rfl rfl rfl ?_; clear hF; intro a hF
     refine skF hF rfl rfl rfl rfl rfl rfl ?_; clear hF; intro a hF
     refine skF hF rfl rfl rfl rfl rfl rfl ?_; clear hF; intro a hF
     refine skF hF rfl rfl rfl rfl rfl rfl ?_; clear hF; intro a hF
     refine seq_yl hF (wn_t hF rfl rfl rfl rfl) rfl rfl (pkF hF rfl rfl rfl) ?_; clear hF; intro a hF
     refine seq_yl hF (wn_none rfl) rfl rfl (pkF hF rfl rfl rfl) ?_; clear hF; intro a hF
     refine wpList_nil ?_
     refine then_n ?_
     refine c_cond_f hF rfl ?_
     refine wp_skip ?_
     refine then_n ?_
     refine c_seq ?_
     refine c_region ?_
     refine mvN hF rfl rfl rfl rfl rfl ?_; clear hF; intro a hF
     refine seq_yl hF (wn_none rfl) rfl rfl (yl_bin hF rfl rfl rfl rfl (fun _ => run_eql)) ?_; clear hF; intro a hF
     refine mvN hF rfl rfl rfl rfl rfl ?_; clear hF; intro a hF
     refine fr_split hF (fun hc131 hF => ?_) (fun hc131 hF => ?_)
     ·first | (replace hc131 := of_decide_eq_true hc131) | (replace hc131 := of_decide_eq_false (bnot_t hc131)) | (subst hc131) | (replace hc131 := bnot_t hc131; subst hc131) | (replace hc131 := bnot_t hc131) | skip
      refine skF hF rfl rfl rfl rfl rfl rfl ?_; clear hF; intro a hF
      refine skF hF rfl rfl rfl rfl rfl rfl ?_; clear hF; intro a hF
      refine skF hF rfl rfl rfl rfl rfl rfl ?_; clear hF; intro a hF
      refine seq_skip hF (wn_u hF rfl rfl rfl rfl) rfl rfl ?_; clear hF; intro a hF
      refine seq_skip hF (wn_u hF rfl rfl rfl rfl) rfl rfl ?_; clear hF; intro a hF
      refine seq_skip hF (wn_u hF rfl rfl rfl rfl) rfl rfl ?_; clear hF; intro a hF
      refine seq_skip hF (wn_u hF rfl rfl rfl rfl) rfl rfl ?_; clear hF; intro a hF
      refine skF hF rfl rfl rfl rfl rfl rfl ?_; clear hF; intro a hF
      refine skF hF rfl rfl rfl rfl rfl rfl ?_; clear hF; intro a hF
      refine seq_skip hF (wn_u hF rfl rfl rfl rfl) rfl rfl ?_; clear hF; intro a hF
      refine seq_skip hF (wn_u hF rfl rfl rfl rfl) rfl rfl ?_; clear hF; intro a hF
      refine seq_skip hF (wn_u hF rfl rfl rfl rfl) rfl rfl ?_; clear hF; intro a hF
      refine seq_skip hF (wn_u hF rfl rfl rfl rfl) rfl rfl ?_; clear hF; intro a hF
      refine seq_skip hF (wn_u hF rfl rfl rfl rfl) rfl rfl ?_; clear hF; intro a hF
      refine seq_skip hF (wn_u hF rfl rfl rfl rfl) rfl rfl ?_; clear hF; intro a hF
      refine skF hF rfl rfl rfl rfl rfl rfl ?_; clear hF; intro a hF
      refine skF hF rfl rfl rfl rfl rfl rfl ?_; clear hF; intro a hF
      refine seq_skip hF (wn_u hF rfl rfl rfl rfl) rfl rfl ?_; clear hF; intro a hF
      refine seq_skip hF (wn_u hF rfl rfl rfl rfl) rfl rfl ?_; clear hF; intro a hF
      refine seq_skip hF (wn_u hF rfl rfl rfl rfl) rfl rfl ?_; clear hF; intro a hF
      refine seq_skip hF (wn_u hF rfl rfl rfl rfl) rfl rfl ?_; clear hF; intro a hF
      refine seq_skip hF (wn_u hF rfl rfl rfl rfl) rfl rfl ?_; clear hF; intro a hF
      refine skF hF rfl rfl rfl rfl rfl rfl ?_; clear hF; intro a hF
      refine seq_yl hF (wn_none rfl) rfl rfl (pkT hF rfl rfl rfl) ?_; clear hF; intro a hF
      refine asN hF rfl rfl rfl rfl rfl ?_; clear hF; intro a hF
      refine wpList_nil ?_
      refine then_n ?_
      refine wp_ret ?_
      refine ret_t hF rfl rfl ?_
      exact ⟨_, rfl, congrArg Value.bool (dec_t (by (unfold matchR at *; omega))), (hS.sub [] (by decide) (by first | rfl | simp) (by simp))⟩
     ·first | (replace hc131 := of_decide_eq_false hc131) | (replace hc131 := of_decide_eq_true (bnot_f hc131)) | (subst hc131) | (replace hc131 := bnot_f hc131; subst hc131) | (replace hc131 := bnot_f hc131) | skip
      refine seq_yl hF (wn_t hF rfl rfl rfl rfl) rfl rfl (yl_move hF rfl rfl) ?_; clear hF; intro a hF
      refine seq_yl hF (wn_t hF rfl rfl rfl rfl) rfl rfl (yl_bin hF rfl rfl rfl rfl (fun _ => run_geq)) ?_; clear hF; intro a hF
      refine seq_yl hF (wn_t hF rfl rfl rfl rfl) rfl rfl (yl_move hF rfl rfl) ?_; clear hF; intro a hF
      refine fr_split hF (fun hc132 hF => ?_) (fun hc132 hF => ?_)
      ·first | (replace hc132 := of_decide_eq_true hc132) | (replace hc132 := of_decide_eq_false (bnot_t hc132)) | (subst hc132) | (replace hc132 := bnot_t hc132; subst hc132) | (replace hc132 := bnot_t hc132) | skip
       refine seq_yl hF (wn_t hF rfl rfl rfl rfl) rfl rfl (yl_move hF rfl rfl) ?_; clear hF; intro a hF
       refine seq_yl hF (wn_t hF rfl rfl rfl rfl) rfl rfl (yl_fieldAddr hF rfl rfl (fun w => by kernel_rfl : ∀ w, (Instr.fieldAt 37 (.pointer (some ⟨g121, 0, none⟩)) 2).run Try.prog w = .ok (.pointer (some ⟨g121, 2, none⟩)) w)) ?_; clear hF; intro a hF
       refine seq_yl hF (wn_t hF rfl rfl rfl rfl) rfl rfl (yl_load (fun _ h => h ▸ hS) hF rfl rfl 0 rfl ag3 rfl) ?_; clear hF; intro a hF
       refine seq_yl hF (wn_t hF rfl rfl rfl rfl) rfl rfl (yl_bin hF rfl rfl rfl rfl (fun _ => run_leq)) ?_; clear hF; intro a hF
       refine seq_yl hF (wn_t hF rfl rfl rfl rfl) rfl rfl (pkT hF rfl rfl rfl) ?_; clear hF; intro a hF
       refine seq_yl hF (wn_t hF rfl rfl rfl rfl) rfl rfl (yl_move hF rfl rfl) ?_; clear hF; intro a hF
       refine fr_split hF (fun hc133 hF => ?_) (fun hc133 hF => ?_)
       ·first | (replace hc133 := of_decide_eq_true hc133) | (replace hc133 := of_decide_eq_false (bnot_t hc133)) | (subst hc133) | (replace hc133 := bnot_t hc133; subst hc133) | (replace hc133 := bnot_t hc133) | skip
        refine seq_yl hF (wn_t hF rfl rfl rfl rfl) rfl rfl (yl_move hF rfl rfl) ?_; clear hF; intro a hF
        refine seq_yl hF (wn_t hF rfl rfl rfl rfl) rfl rfl (yl_move hF rfl rfl) ?_; clear hF; intro a hF
        refine seq_yl hF (wn_t hF rfl rfl rfl rfl) rfl rfl (yl_bin hF rfl rfl rfl rfl (fun _ => run_add (by refine ⟨?_, ?_⟩ <;> omega))) ?_; clear hF; intro a hF
        refine seq_yl hF (wn_t hF rfl rfl rfl rfl) rfl rfl (yl_fieldAddr hF rfl rfl (fun w => by kernel_rfl : ∀ w, (Instr.fieldAt 37 (.pointer (some ⟨g121, 0, none⟩)) 1).run Try.prog w = .ok (.pointer (some ⟨g121, 1, none⟩)) w)) ?_; clear hF; intro a hF
        refine seq_yl hF (wn_t hF rfl rfl rfl rfl) rfl rfl (yl_load (fun _ h => h ▸ hS) hF rfl rfl 0 rfl ag3 rfl) ?_; clear hF; intro a hF
        refine seq_yl hF (wn_t hF rfl rfl rfl rfl) rfl rfl (yl_bin hF rfl rfl rfl rfl (fun _ => run_gtr)) ?_; clear hF; intro a hF
        refine seq_yl hF (wn_t hF rfl rfl rfl rfl) rfl rfl (pkT hF rfl rfl rfl) ?_; clear hF; intro a hF
        refine seq_yl hF (wn_t hF rfl rfl rfl rfl) rfl rfl (yl_move hF rfl rfl) ?_; clear hF; intro a hF
        refine fr_split hF (fun hc134 hF => ?_) (fun hc134 hF => ?_)
        ·first | (replace hc134 := of_decide_eq_true hc134) | (replace hc134 := of_decide_eq_false (bnot_t hc134)) | (subst hc134) | (replace hc134 := bnot_t hc134; subst hc134) | (replace hc134 := bnot_t hc134) | skip
         refine seq_yl hF (wn_t hF rfl rfl rfl rfl) rfl rfl (yl_fieldAddr hF rfl rfl (fun w => by kernel_rfl : ∀ w, (Instr.fieldAt 37 (.pointer (some ⟨g121, 0, none⟩)) 1).run Try.prog w = .ok (.pointer (some ⟨g121, 1, none⟩)) w)) ?_; clear hF; intro a hF
         refine seq_yl hF (wn_t hF rfl rfl rfl rfl) rfl rfl (yl_load (fun _ h => h ▸ hS) hF rfl rfl 0 rfl ag3 rfl) ?_; clear hF; intro a hF
         refine seq_yl hF (wn_t hF rfl rfl rfl rfl) rfl rfl (yl_fieldAddr hF rfl rfl (fun w => by kernel_rfl : ∀ w, (Instr.fieldAt 37 (.pointer (some ⟨g121, 0, none⟩)) 2).run Try.prog w = .ok (.pointer (some ⟨g121, 2, none⟩)) w)) ?_; clear hF; intro a hF
         refine seq_yl hF (wn_t hF rfl rfl rfl rfl) rfl rfl (yl_load (fun _ h => h ▸ hS) hF rfl rfl 0 rfl ag3 rfl) ?_; clear hF; intro a hF
         refine seq_yl hF (wn_t hF rfl rfl rfl rfl) rfl rfl (yl_bin hF rfl rfl rfl rfl (fun _ => run_leq)) ?_; clear hF; intro a hF
         refine seq_yl hF (wn_t hF rfl rfl rfl rfl) rfl rfl (pkT hF rfl rfl rfl) ?_; clear hF; intro a hF
         refine seq_yl hF (wn_none rfl) rfl rfl (pkF hF rfl rfl rfl) ?_; clear hF; intro a hF
         refine asN hF rfl rfl rfl rfl rfl ?_; clear hF; intro a hF
         refine wpList_nil ?_
         refine then_n ?_
         refine wp_ret ?_
         refine ret_t hF rfl rfl ?_
         exact ⟨_, rfl, congrArg Value.bool (dec_d (by constructor <;> intro _ <;> (unfold matchR at *; omega))), (hS.sub [] (by decide) (by first | rfl | simp) (by simp))⟩
        ·first | (replace hc134 := of_decide_eq_false hc134) | (replace hc134 := of_decide_eq_true (bnot_f hc134)) | (subst hc134) | (replace hc134 := bnot_f hc134; subst hc134) | (replace hc134 := bnot_f hc134) | skip
         refine skF hF rfl rfl rfl rfl rfl rfl ?_; clear hF; intro a hF
         refine skF hF rfl rfl rfl rfl rfl rfl ?_; clear hF; intro a hF
         refine skF hF rfl rfl rfl rfl rfl rfl ?_; clear hF; intro a hF
         refine skF hF rfl rfl rfl rfl rfl rfl ?_; clear hF; intro a hF
         refine skF hF rfl rfl rfl rfl rfl rfl ?_; clear hF; intro a hF
         refine seq_yl hF (wn_t hF rfl rfl rfl rfl) rfl rfl (pkF hF rfl rfl rfl) ?_; clear hF; intro a hF
         refine seq_yl hF (wn_none rfl) rfl rfl (pkF hF rfl rfl rfl) ?_; clear hF; intro a hF
         refine asN hF rfl rfl rfl rfl rfl ?_; clear hF; intro a hF
         refine wpList_nil ?_
         refine then_n ?_
         refine wp_ret ?_
         refine ret_t hF rfl rfl ?_
         exact ⟨_, rfl, congrArg Value.bool (dec_f (by (unfold matchR at *; omega))), (hS.sub [] (by decide) (by first | rfl | simp) (by simp))⟩
       ·first | (replace hc133 := of_decide_eq_false hc133) | (replace hc133 := of_decide_eq_true (bnot_f hc133)) | (subst hc133) | (replace hc133 := bnot_f hc133; subst hc133) | (replace hc133 := bnot_f hc133) | skip
        refine skF hF rfl rfl rfl rfl rfl rfl ?_; clear hF; intro a hF
        refine skF hF rfl rfl rfl rfl rfl rfl ?_; clear hF; intro a hF
        refine skF hF rfl rfl rfl rfl rfl rfl ?_; clear hF; intro a hF
        refine skF hF rfl rfl rfl rfl rfl rfl ?_; clear hF; intro a hF
        refine skF hF rfl rfl rfl rfl rfl rfl ?_; clear hF; intro a hF
        refine skF hF rfl rfl rfl rfl rfl rfl ?_; clear hF; intro a hF
        refine seq_yl hF (wn_t hF rfl rfl rfl rfl) rfl rfl (pkF hF rfl rfl rfl) ?_; clear hF; intro a hF
        refine seq_yl hF (wn_t hF rfl rfl rfl rfl) rfl rfl (yl_move hF rfl rfl) ?_; clear hF; intro a hF
        refine skF hF rfl rfl rfl rfl rfl rfl ?_; clear hF; intro a hF
        refine skF hF rfl rfl rfl rfl rfl rfl ?_; clear hF; intro a hF
        refine skF hF rfl rfl rfl rfl rfl rfl ?_; clear hF; intro a hF
        refine skF hF rfl rfl rfl rfl rfl rfl ?_; clear hF; intro a hF
        refine skF hF rfl rfl rfl rfl rfl rfl ?_; clear hF; intro a hF
        refine seq_yl hF (wn_t hF rfl rfl rfl rfl) rfl rfl (pkF hF rfl rfl rfl) ?_; clear hF; intro a hF
        refine seq_yl hF (wn_none rfl) rfl rfl (pkF hF rfl rfl rfl) ?_; clear hF; intro a hF
        refine asN hF rfl rfl rfl rfl rfl ?_; clear hF; intro a hF
        refine wpList_nil ?_
        refine then_n ?_
        refine wp_ret ?_
        refine ret_t hF rfl rfl ?_
        exact ⟨_, rfl, congrArg Value.bool (dec_f (by (unfold matchR at *; omega))), (hS.sub [] (by decide) (by first | rfl | simp) (by simp))⟩
      ·first | (replace hc132 := of_decide_eq_false hc132) | (replace hc132 := of_decide_eq_true (bnot_f hc132)) | (subst hc132) | (replace hc132 := bnot_f hc132; subst hc132) | (replace hc132 := bnot_f hc132) | skip
       refine skF hF rfl rfl rfl rfl rfl rfl ?_; clear hF; intro a hF
       refine skF hF rfl rfl rfl rfl rfl rfl ?_; clear hF; intro a hF
       refine skF hF rfl rfl rfl rfl rfl rfl ?_; clear hF; intro a hF
       refine skF hF rfl rfl rfl rfl rfl rfl ?_; clear hF; intro a hF
       refine seq_yl hF (wn_t hF rfl rfl rfl rfl) rfl rfl (pkF hF rfl rfl rfl) ?_; clear hF; intro a hF
       refine seq_yl hF (wn_t hF rfl rfl rfl rfl) rfl rfl (yl_move hF rfl rfl) ?_; clear hF; intro a hF
       refine skF hF rfl rfl rfl rfl rfl rfl ?_; clear hF; intro a hF
       refine skF hF rfl rfl rfl rfl rfl rfl ?_; clear hF; intro a hF
       refine skF hF rfl rfl rfl rfl rfl rfl ?_; clear hF; intro a hF
       refine skF hF rfl rfl rfl rfl rfl rfl ?_; clear hF; intro a hF
       refine skF hF rfl rfl rfl rfl rfl rfl ?_; clear hF; intro a hF
       refine skF hF rfl rfl rfl rfl rfl rfl ?_; clear hF; intro a hF
       refine seq_yl hF (wn_t hF rfl rfl rfl rfl) rfl rfl (pkF hF rfl rfl rfl) ?_; clear hF; intro a hF
       refine seq_yl hF (wn_t hF rfl rfl rfl rfl) rfl rfl (yl_move hF rfl rfl) ?_; clear hF; intro a hF
       refine skF hF rfl rfl rfl rfl rfl rfl ?_; clear hF; intro a hF
       refine skF hF rfl rfl rfl rfl rfl rfl ?_; clear hF; intro a hF
       refine skF hF rfl rfl rfl rfl rfl rfl ?_; clear hF; intro a hF
       refine skF hF rfl rfl rfl rfl rfl rfl ?_; clear hF; intro a hF
       refine skF hF rfl rfl rfl rfl rfl rfl ?_; clear hF; intro a hF
       refine seq_yl hF (wn_t hF rfl rfl rfl rfl) rfl rfl (pkF hF rfl rfl rfl) ?_; clear hF; intro a hF
       refine seq_yl hF (wn_none rfl) rfl rfl (pkF hF rfl rfl rfl) ?_; clear hF; intro a hF
       refine asN hF rfl rfl rfl rfl rfl ?_; clear hF; intro a hF
       refine wpList_nil ?_
       refine then_n ?_
       refine wp_ret ?_
       refine ret_t hF rfl rfl ?_
       exact ⟨_, rfl, congrArg Value.bool (dec_f (by (unfold matchR at *; omega))), (hS.sub [] (by decide) (by first | rfl | simp) (by simp))⟩

set_option maxHeartbeats 1000000 in
set_option maxRecDepth 100000 in
theorem match2_any (r : E37) (k s c : Int) (w0 : World) :
  Fn Try.prog 26 #[.agg #[.int .i64 r.f0, .int .i64 r.f1, .int .i64 r.f2, .int .i64 r.f3, .int .i64 r.f4, .int .i64 r.f5, .int .i64 r.f6, .bool r.f7, .int .i64 r.f8], .int .i64 k, .int .i64 s, .int .i64 c] w0 (fun v w' => v = .bool (decide (matchR r k s c)) ∧ Sat w0 w' []) := by
 refine c_enter (N := 54) (l := [_, _, _, _]) Try.func26 rfl rfl (fun a w hF hS => ?_)
 refine c_seq ?_
 refine c_region ?_
 refine seq_wp (wn_none rfl) (wp_box (cs := #[_, _, _, _, _, _, _, _, _]) hF hS rfl rfl rfl rfl rfl ?_)
 clear hF hS; intro a w g135 hF hS
 refine asN hF rfl rfl rfl rfl rfl ?_; clear hF; intro a hF
 refine wpList_nil ?_
 refine then_n ?_
 refine c_seq ?_
 refine c_seq ?_
 refine c_region ?_
 refine mvN hF rfl rfl rfl rfl rfl ?_; clear hF; intro a hF
 refine seq_wp (wn_none rfl) (wp_call (vs := [_]) hF rfl rfl rfl rfl cf45 (kind2_any (k) _) ?_)
 clear hF; rintro _ w ⟨rfl, hS1⟩ a hF
 replace hS := hS.callB hS1 rfl; clear hS1
 refine seq_yl hF (wn_none rfl) rfl rfl (yl_un hF rfl rfl (fun _ => run_not)) ?_; clear hF; intro a hF
 refine mvN hF rfl rfl rfl rfl rfl ?_; clear hF; intro a hF
 refine fr_split hF (fun hc136 hF => ?_) (fun hc136 hF => ?_)
 ·first | (replace hc136 := of_decide_eq_true hc136) | (replace hc136 := of_decide_eq_false (bnot_t hc136)) | (subst hc136) | (replace hc136 := bnot_t hc136; subst hc136) | (replace hc136 := bnot_t hc136) | skip
  refine skF hF rfl rfl rfl rfl rfl rfl ?_; clear hF; intro a hF
  refine skF hF rfl rfl rfl rfl rfl rfl ?_; clear hF; intro a hF
  refine skF hF rfl rfl rfl rfl rfl rfl ?_; clear hF; intro a hF
  refine seq_yl hF (wn_none rfl) rfl rfl (pkT hF rfl rfl rfl) ?_; clear hF; intro a hF
  refine mvN hF rfl rfl rfl rfl rfl ?_; clear hF; intro a hF
  refine skF hF rfl rfl rfl rfl rfl rfl ?_; clear hF; intro a hF
  refine skF hF rfl rfl rfl rfl rfl rfl ?_; clear hF; intro a hF
  refine skF hF rfl rfl rfl rfl rfl rfl ?_; clear hF; intro a hF
  refine seq_yl hF (wn_none rfl) rfl rfl (pkT hF rfl rfl rfl) ?_; clear hF; intro a hF
  refine mvN hF rfl rfl rfl rfl rfl ?_; clear hF; intro a hF
  refine skF hF rfl rfl rfl rfl rfl rfl ?_; clear hF; intro a hF
  refine skF hF rfl rfl rfl rfl rfl rfl ?_; clear hF; intro a hF
  refine skF hF rfl rfl rfl rfl rfl rfl ?_; clear hF; intro a hF
  refine skF hF rfl rfl rfl rfl rfl rfl ?_; clear hF; intro a hF
  refine seq_skip hF (wn_u hF rfl rfl rfl rfl) rfl rfl ?_; clear hF; intro a hF
  refine seq_skip hF (wn_u hF rfl rfl rfl rfl) rfl rfl ?_; clear hF; intro a hF
  refine seq_skip hF (wn_u hF rfl rfl rfl rfl) rfl rfl ?_; clear hF; intro a hF
  refine seq_skip hF (wn_u hF rfl rfl rfl rfl) rfl rfl ?_; clear hF; intro a hF
  refine skF hF rfl rfl rfl rfl rfl rfl ?_; clear hF; intro a hF
  refine seq_yl hF (wn_none rfl) rfl rfl (pkT hF rfl rfl rfl) ?_; clear hF; intro a hF
  refine wpList_nil ?_
  refine then_n ?_
  refine c_cond_t hF rfl ?_
  refine c_seq ?_
  refine c_region ?_
  refine asN hF rfl rfl rfl rfl rfl ?_; clear hF; intro a hF
  refine wpList_nil ?_
  refine then_n ?_
  refine wp_ret ?_
  refine then_r ?_
  refine ret_t hF rfl rfl ?_
  exact ⟨_, rfl, congrArg Value.bool (dec_f (by (unfold matchR at *; omega))), (hS.sub [] (by decide) (by first | rfl | simp) (by simp))⟩
 ·first | (replace hc136 := of_decide_eq_false hc136) | (replace hc136 := of_decide_eq_true (bnot_f hc136)) | (subst hc136) | (replace hc136 := bnot_f hc136; subst hc136) | (replace hc136 := bnot_f hc136) | skip
  refine seq_yl hF (wn_t hF rfl rfl rfl rfl) rfl rfl (yl_move hF rfl rfl) ?_; clear hF; intro a hF
  refine seq_wp (wn_t hF rfl rfl rfl rfl) (wp_call (vs := [_]) hF rfl rfl rfl rfl cf54 (place_any (s) _) ?_)
  clear hF; rintro _ w ⟨rfl, hS1⟩ a hF
  replace hS := hS.callB hS1 rfl; clear hS1
  refine seq_yl hF (wn_t hF rfl rfl rfl rfl) rfl rfl (yl_un hF rfl rfl (fun _ => run_not)) ?_; clear hF; intro a hF
  refine seq_yl hF (wn_none rfl) rfl rfl (pkF hF rfl rfl rfl) ?_; clear hF; intro a hF
  refine mvN hF rfl rfl rfl rfl rfl ?_; clear hF; intro a hF
  refine fr_split hF (fun hc137 hF => ?_) (fun hc137 hF => ?_)
  ·first | (replace hc137 := of_decide_eq_true hc137) | (replace hc137 := of_decide_eq_false (bnot_t hc137)) | (subst hc137) | (replace hc137 := bnot_t hc137; subst hc137) | (replace hc137 := bnot_t hc137) | skip
   refine skF hF rfl rfl rfl rfl rfl rfl ?_; clear hF; intro a hF
   refine skF hF rfl rfl rfl rfl rfl rfl ?_; clear hF; intro a hF
   refine skF hF rfl rfl rfl rfl rfl rfl ?_; clear hF; intro a hF
   refine seq_yl hF (wn_none rfl) rfl rfl (pkT hF rfl rfl rfl) ?_; clear hF; intro a hF
   refine mvN hF rfl rfl rfl rfl rfl ?_; clear hF; intro a hF
   refine skF hF rfl rfl rfl rfl rfl rfl ?_; clear hF; intro a hF
   refine skF hF rfl rfl rfl rfl rfl rfl ?_; clear hF; intro a hF
   refine skF hF rfl rfl rfl rfl rfl rfl ?_; clear hF; intro a hF
   refine skF hF rfl rfl rfl rfl rfl rfl ?_; clear hF; intro a hF
   refine seq_skip hF (wn_u hF rfl rfl rfl rfl) rfl rfl ?_; clear hF; intro a hF
   refine seq_skip hF (wn_u hF rfl rfl rfl rfl) rfl rfl ?_; clear hF; intro a hF
   refine seq_skip hF (wn_u hF rfl rfl rfl rfl) rfl rfl ?_; clear hF; intro a hF
   refine seq_skip hF (wn_u hF rfl rfl rfl rfl) rfl rfl ?_; clear hF; intro a hF
   refine skF hF rfl rfl rfl rfl rfl rfl ?_; clear hF; intro a hF
   refine seq_yl hF (wn_none rfl) rfl rfl (pkT hF rfl rfl rfl) ?_; clear hF; intro a hF
   refine wpList_nil ?_
   refine then_n ?_
   refine c_cond_t hF rfl ?_
   refine c_seq ?_
   refine c_region ?_
   refine asN hF rfl rfl rfl rfl rfl ?_; clear hF; intro a hF
   refine wpList_nil ?_
   refine then_n ?_
   refine wp_ret ?_
   refine then_r ?_
   refine ret_t hF rfl rfl ?_
   exact ⟨_, rfl, congrArg Value.bool (dec_f (by (unfold matchR at *; omega))), (hS.sub [] (by decide) (by first | rfl | simp) (by simp))⟩
  ·first | (replace hc137 := of_decide_eq_false hc137) | (replace hc137 := of_decide_eq_true (bnot_f hc137)) | (subst hc137) | (replace hc137 := bnot_f hc137; subst hc137) | (replace hc137 := bnot_f hc137) | skip
   refine seq_yl hF (wn_t hF rfl rfl rfl rfl) rfl rfl (yl_move hF rfl rfl) ?_; clear hF; intro a hF
   refine seq_wp (wn_t hF rfl rfl rfl rfl) (wp_call (vs := [_]) hF rfl rfl rfl rfl cf54 (place_any (c) _) ?_)
   clear hF; rintro _ w ⟨rfl, hS1⟩ a hF
   replace hS := hS.callB hS1 rfl; clear hS1
   refine seq_yl hF (wn_t hF rfl rfl rfl rfl) rfl rfl (yl_un hF rfl rfl (fun _ => run_not)) ?_; clear hF; intro a hF
   refine seq_yl hF (wn_none rfl) rfl rfl (pkF hF rfl rfl rfl) ?_; clear hF; intro a hF
   refine mvN hF rfl rfl rfl rfl rfl ?_; clear hF; intro a hF
   refine fr_split hF (fun hc138 hF => ?_) (fun hc138 hF => ?_)
   ·first | (replace hc138 := of_decide_eq_true hc138) | (replace hc138 := of_decide_eq_false (bnot_t hc138)) | (subst hc138) | (replace hc138 := bnot_t hc138; subst hc138) | (replace hc138 := bnot_t hc138) | skip
    refine skF hF rfl rfl rfl rfl rfl rfl ?_; clear hF; intro a hF
    refine skF hF rfl rfl rfl rfl rfl rfl ?_; clear hF; intro a hF
    refine skF hF rfl rfl rfl rfl rfl rfl ?_; clear hF; intro a hF
    refine skF hF rfl rfl rfl rfl rfl rfl ?_; clear hF; intro a hF
    refine seq_skip hF (wn_u hF rfl rfl rfl rfl) rfl rfl ?_; clear hF; intro a hF
    refine seq_skip hF (wn_u hF rfl rfl rfl rfl) rfl rfl ?_; clear hF; intro a hF
    refine seq_skip hF (wn_u hF rfl rfl rfl rfl) rfl rfl ?_; clear hF; intro a hF
    refine seq_skip hF (wn_u hF rfl rfl rfl rfl) rfl rfl ?_; clear hF; intro a hF
    refine skF hF rfl rfl rfl rfl rfl rfl ?_; clear hF; intro a hF
    refine seq_yl hF (wn_none rfl) rfl rfl (pkT hF rfl rfl rfl) ?_; clear hF; intro a hF
    refine wpList_nil ?_
    refine then_n ?_
    refine c_cond_t hF rfl ?_
    refine c_seq ?_
    refine c_region ?_
    refine asN hF rfl rfl rfl rfl rfl ?_; clear hF; intro a hF
    refine wpList_nil ?_
    refine then_n ?_
    refine wp_ret ?_
    refine then_r ?_
    refine ret_t hF rfl rfl ?_
    exact ⟨_, rfl, congrArg Value.bool (dec_f (by (unfold matchR at *; omega))), (hS.sub [] (by decide) (by first | rfl | simp) (by simp))⟩
   ·first | (replace hc138 := of_decide_eq_false hc138) | (replace hc138 := of_decide_eq_true (bnot_f hc138)) | (subst hc138) | (replace hc138 := bnot_f hc138; subst hc138) | (replace hc138 := bnot_f hc138) | skip
    refine seq_yl hF (wn_t hF rfl rfl rfl rfl) rfl rfl (yl_fieldAddr hF rfl rfl (fun w => by kernel_rfl : ∀ w, (Instr.fieldAt 37 (.pointer (some ⟨g135, 0, none⟩)) 0).run Try.prog w = .ok (.pointer (some ⟨g135, 0, none⟩)) w)) ?_; clear hF; intro a hF
    refine seq_yl hF (wn_t hF rfl rfl rfl rfl) rfl rfl (yl_load (fun _ h => h ▸ hS) hF rfl rfl 0 rfl ag3 rfl) ?_; clear hF; intro a hF
    refine seq_yl hF (wn_t hF rfl rfl rfl rfl) rfl rfl (yl_bin hF rfl rfl rfl rfl (fun _ => run_neq)) ?_; clear hF; intro a hF
    refine seq_yl hF (wn_t hF rfl rfl rfl rfl) rfl rfl (yl_move hF rfl rfl) ?_; clear hF; intro a hF
    refine fr_split hF (fun hc139 hF => ?_) (fun hc139 hF => ?_)
    ·first | (replace hc139 := of_decide_eq_true hc139) | (replace hc139 := of_decide_eq_false (bnot_t hc139)) | (subst hc139) | (replace hc139 := bnot_t hc139; subst hc139) | (replace hc139 := bnot_t hc139) | skip
     refine seq_yl hF (wn_t hF rfl rfl rfl rfl) rfl rfl (yl_fieldAddr hF rfl rfl (fun w => by kernel_rfl : ∀ w, (Instr.fieldAt 37 (.pointer (some ⟨g135, 0, none⟩)) 0).run Try.prog w = .ok (.pointer (some ⟨g135, 0, none⟩)) w)) ?_; clear hF; intro a hF
     refine seq_yl hF (wn_t hF rfl rfl rfl rfl) rfl rfl (yl_load (fun _ h => h ▸ hS) hF rfl rfl 0 rfl ag3 rfl) ?_; clear hF; intro a hF
     refine seq_yl hF (wn_t hF rfl rfl rfl rfl) rfl rfl (yl_move hF rfl rfl) ?_; clear hF; intro a hF
     refine seq_yl hF (wn_t hF rfl rfl rfl rfl) rfl rfl (yl_bin hF rfl rfl rfl rfl (fun _ => run_neq)) ?_; clear hF; intro a hF
     refine seq_yl hF (wn_t hF rfl rfl rfl rfl) rfl rfl (pkT hF rfl rfl rfl) ?_; clear hF; intro a hF
     refine seq_yl hF (wn_none rfl) rfl rfl (pkF hF rfl rfl rfl) ?_; clear hF; intro a hF
     refine wpList_nil ?_
     refine then_n ?_
     refine c_cond hF rfl (fun hc140 => ?_) (fun hc140 => ?_)
     ·first | (replace hc140 := of_decide_eq_true hc140) | (replace hc140 := of_decide_eq_false (bnot_t hc140)) | (subst hc140) | (replace hc140 := bnot_t hc140; subst hc140) | (replace hc140 := bnot_t hc140) | skip
      refine c_seq ?_
      refine c_region ?_
      refine asN hF rfl rfl rfl rfl rfl ?_; clear hF; intro a hF
      refine wpList_nil ?_
      refine then_n ?_
      refine wp_ret ?_
      refine then_r ?_
      refine ret_t hF rfl rfl ?_
      exact ⟨_, rfl, congrArg Value.bool (dec_f (by (unfold matchR at *; omega))), (hS.sub [] (by decide) (by first | rfl | simp) (by simp))⟩
     ·first | (replace hc140 := of_decide_eq_false hc140) | (replace hc140 := of_decide_eq_true (bnot_f hc140)) | (subst hc140) | (replace hc140 := bnot_f hc140; subst hc140) | (replace hc140 := bnot_f hc140) | skip
      refine wp_skip ?_
      refine then_n ?_
      refine c_seq ?_
      refine c_seq ?_
      refine c_region ?_
      refine mvN hF rfl rfl rfl rfl rfl ?_; clear hF; intro a hF
      refine seq_yl hF (wn_none rfl) rfl rfl (yl_bin hF rfl rfl rfl rfl (fun _ => run_eql)) ?_; clear hF; intro a hF
      refine wpList_nil ?_
      refine then_n ?_
      refine c_cond hF rfl (fun hc141 => ?_) (fun hc141 => ?_)
      ·first | (replace hc141 := of_decide_eq_true hc141) | (replace hc141 := of_decide_eq_false (bnot_t hc141)) | (subst hc141) | (replace hc141 := bnot_t hc141; subst hc141) | (replace hc141 := bnot_t hc141) | skip
       refine c_seq ?_
       refine c_region ?_
       refine asN hF rfl rfl rfl rfl rfl ?_; clear hF; intro a hF
       refine wpList_nil ?_
       refine then_n ?_
       refine wp_ret ?_
       refine then_r ?_
       refine ret_t hF rfl rfl ?_
       exact ⟨_, rfl, congrArg Value.bool (dec_t (by (unfold matchR at *; omega))), (hS.sub [] (by decide) (by first | rfl | simp) (by simp))⟩
      ·first | (replace hc141 := of_decide_eq_false hc141) | (replace hc141 := of_decide_eq_true (bnot_f hc141)) | (subst hc141) | (replace hc141 := bnot_f hc141; subst hc141) | (replace hc141 := bnot_f hc141) | skip
       refine wp_skip ?_
       refine then_n ?_
       refine c_seq ?_
       refine c_seq ?_
       refine c_region ?_
       refine mvN hF rfl rfl rfl rfl rfl ?_; clear hF; intro a hF
       refine asN hF rfl rfl rfl rfl rfl ?_; clear hF; intro a hF
       refine wpList_nil ?_
       refine then_n ?_
       refine wp_block ?_
       refine c_loop (fun m a w => ∃ (i : Int), m = (s + c - i).toNat ∧ ((s ≤ i ∧ i ≤ s + c) ∧ (i = s ∨ i ≤ r.f1 ∨ r.f2 < s ∨ r.f2 < r.f1)) ∧ Fr 54 a [(2, .int .i64 (s)), (3, .int .i64 (c)), (4, .pointer (some ⟨g135, 0, none⟩)), (9, .int .i64 (i))] ∧ Sat w0 w (.box g135 37 #[.int .i64 (r.f0), .int .i64 (r.f1), .int .i64 (r.f2), .int .i64 (r.f3), .int .i64 (r.f4), .int .i64 (r.f5), .int .i64 (r.f6), .bool r.f7, .int .i64 (r.f8)] :: [])) ((s + c - s).toNat) ?_ ?_
       ·exact ⟨s, rfl, ⟨by omega, .inl rfl⟩, hF.to [2, 3, 4, 9] rfl, (hS.sub [0] (by decide) (by first | rfl | simp) (by simp))⟩
       ·clear hF hS; try clear hSS
        clear a w; rintro m a w ⟨i, rfl, hinv, hF, hS⟩
        obtain ⟨hi1, hi2⟩ := hinv
        refine c_seq ?_
        refine c_seq ?_
        refine c_region ?_
        refine mvN hF rfl rfl rfl rfl rfl ?_; clear hF; intro a hF
        refine mvN hF rfl rfl rfl rfl rfl ?_; clear hF; intro a hF
        refine mvN hF rfl rfl rfl rfl rfl ?_; clear hF; intro a hF
        refine seq_yl hF (wn_none rfl) rfl rfl (yl_bin hF rfl rfl rfl rfl (fun _ => run_add (by refine ⟨?_, ?_⟩ <;> omega))) ?_; clear hF; intro a hF
        refine seq_yl hF (wn_none rfl) rfl rfl (yl_bin hF rfl rfl rfl rfl (fun _ => run_lss)) ?_; clear hF; intro a hF
        refine wpList_nil ?_
        refine then_n ?_
        refine c_cond hF rfl (fun hc142 => ?_) (fun hc142 => ?_)
        ·first | (replace hc142 := of_decide_eq_true hc142) | (replace hc142 := of_decide_eq_false (bnot_t hc142)) | (subst hc142) | (replace hc142 := bnot_t hc142; subst hc142) | (replace hc142 := bnot_t hc142) | skip
         refine wp_skip ?_
         refine then_n ?_
         refine c_seq ?_
         refine wp_block ?_
         refine c_seq ?_
         refine c_region ?_
         refine mvN hF rfl rfl rfl rfl rfl ?_; clear hF; intro a hF
         refine seq_yl hF (wn_none rfl) rfl rfl (yl_fieldAddr hF rfl rfl (fun w => by kernel_rfl : ∀ w, (Instr.fieldAt 37 (.pointer (some ⟨g135, 0, none⟩)) 1).run Try.prog w = .ok (.pointer (some ⟨g135, 1, none⟩)) w)) ?_; clear hF; intro a hF
         refine seq_yl hF (wn_none rfl) rfl rfl (yl_load (fun _ h => h ▸ hS) hF rfl rfl 0 rfl ag3 rfl) ?_; clear hF; intro a hF
         refine seq_yl hF (wn_none rfl) rfl rfl (yl_bin hF rfl rfl rfl rfl (fun _ => run_geq)) ?_; clear hF; intro a hF
         refine mvN hF rfl rfl rfl rfl rfl ?_; clear hF; intro a hF
         refine fr_split hF (fun hc143 hF => ?_) (fun hc143 hF => ?_)
         ·first | (replace hc143 := of_decide_eq_true hc143) | (replace hc143 := of_decide_eq_false (bnot_t hc143)) | (subst hc143) | (replace hc143 := bnot_t hc143; subst hc143) | (replace hc143 := bnot_t hc143) | skip
          refine seq_yl hF (wn_t hF rfl rfl rfl rfl) rfl rfl (yl_move hF rfl rfl) ?_; clear hF; intro a hF
          refine seq_yl hF (wn_t hF rfl rfl rfl rfl) rfl rfl (yl_fieldAddr hF rfl rfl (fun w => by kernel_rfl : ∀ w, (Instr.fieldAt 37 (.pointer (some ⟨g135, 0, none⟩)) 2).run Try.prog w = .ok (.pointer (some ⟨g135, 2, none⟩)) w)) ?_; clear hF; intro a hF
          refine seq_yl hF (wn_t hF rfl rfl rfl rfl) rfl rfl (yl_load (fun _ h => h ▸ hS) hF rfl rfl 0 rfl ag3 rfl) ?_; clear hF; intro a hF
          refine seq_yl hF (wn_t hF rfl rfl rfl rfl) rfl rfl (yl_bin hF rfl rfl rfl rfl (fun _ => run_leq)) ?_; clear hF; intro a hF
          refine seq_yl hF (wn_none rfl) rfl rfl (pkT hF rfl rfl rfl) ?_; clear hF; intro a hF
          refine wpList_nil ?_
          refine then_n ?_
          refine c_cond hF rfl (fun hc144 => ?_) (fun hc144 => ?_)
          ·first | (replace hc144 := of_decide_eq_true hc144) | (replace hc144 := of_decide_eq_false (bnot_t hc144)) | (subst hc144) | (replace hc144 := bnot_t hc144; subst hc144) | (replace hc144 := bnot_t hc144) | skip
           refine c_seq ?_
           refine c_region ?_
           refine asN hF rfl rfl rfl rfl rfl ?_; clear hF; intro a hF
           refine wpList_nil ?_
           refine then_n ?_
           refine wp_ret ?_
           refine inb_r ?_
           refine then_r ?_
           refine then_r ?_
           refine inb_r ?_
           refine then_r ?_
           refine ret_t hF rfl rfl ?_
           exact ⟨_, rfl, congrArg Value.bool (dec_t (by (unfold matchR at *; omega))), (hS.sub [] (by decide) (by first | rfl | simp) (by simp))⟩
          ·first | (replace hc144 := of_decide_eq_false hc144) | (replace hc144 := of_decide_eq_true (bnot_f hc144)) | (subst hc144) | (replace hc144 := bnot_f hc144; subst hc144) | (replace hc144 := bnot_f hc144) | skip
           refine wp_skip ?_
           refine inb_n ?_
           refine then_n ?_
           refine c_region ?_
           refine mvN hF rfl rfl rfl rfl rfl ?_; clear hF; intro a hF
           refine seq_yl hF (wn_none rfl) rfl rfl (yl_bin hF rfl rfl rfl rfl (fun _ => run_add (by refine ⟨?_, ?_⟩ <;> omega))) ?_; clear hF; intro a hF
           refine asN hF rfl rfl rfl rfl rfl ?_; clear hF; intro a hF
           refine wpList_nil ?_
           refine then_n ?_
           exact ⟨_, (by omega), i + 1, rfl, ⟨by omega, by omega⟩, hF.to [2, 3, 4, 9] rfl, (hS.sub [0] (by decide) (by first | rfl | simp) (by simp))⟩
         ·first | (replace hc143 := of_decide_eq_false hc143) | (replace hc143 := of_decide_eq_true (bnot_f hc143)) | (subst hc143) | (replace hc143 := bnot_f hc143; subst hc143) | (replace hc143 := bnot_f hc143) | skip
          refine skF hF rfl rfl rfl rfl rfl rfl ?_; clear hF; intro a hF
          refine skF hF rfl rfl rfl rfl rfl rfl ?_; clear hF; intro a hF
          refine skF hF rfl rfl rfl rfl rfl rfl ?_; clear hF; intro a hF
          refine skF hF rfl rfl rfl rfl rfl rfl ?_; clear hF; intro a hF
          refine seq_yl hF (wn_none rfl) rfl rfl (pkF hF rfl rfl rfl) ?_; clear hF; intro a hF
          refine wpList_nil ?_
          refine then_n ?_
          refine c_cond_f hF rfl ?_
          refine wp_skip ?_
          refine inb_n ?_
          refine then_n ?_
          refine c_region ?_
          refine mvN hF rfl rfl rfl rfl rfl ?_; clear hF; intro a hF
          refine seq_yl hF (wn_none rfl) rfl rfl (yl_bin hF rfl rfl rfl rfl (fun _ => run_add (by refine ⟨?_, ?_⟩ <;> omega))) ?_; clear hF; intro a hF
          refine asN hF rfl rfl rfl rfl rfl ?_; clear hF; intro a hF
          refine wpList_nil ?_
          refine then_n ?_
          exact ⟨_, (by omega), i + 1, rfl, ⟨by omega, by omega⟩, hF.to [2, 3, 4, 9] rfl, (hS.sub [0] (by decide) (by first | rfl | simp) (by simp))⟩
        ·first | (replace hc142 := of_decide_eq_false hc142) | (replace hc142 := of_decide_eq_true (bnot_f hc142)) | (subst hc142) | (replace hc142 := bnot_f hc142; subst hc142) | (replace hc142 := bnot_f hc142) | skip
         refine wp_exit ?_
         refine then_x ?_
         refine then_x ?_
         refine inb_x ?_
         refine then_n ?_
         refine c_seq ?_
         refine c_region ?_
         refine asN hF rfl rfl rfl rfl rfl ?_; clear hF; intro a hF
         refine wpList_nil ?_
         refine then_n ?_
         refine wp_ret ?_
         refine ret_t hF rfl rfl ?_
         exact ⟨_, rfl, congrArg Value.bool (dec_f (by (unfold matchR at *; omega))), (hS.sub [] (by decide) (by first | rfl | simp) (by simp))⟩
    ·first | (replace hc139 := of_decide_eq_false hc139) | (replace hc139 := of_decide_eq_true (bnot_f hc139)) | (subst hc139) | (replace hc139 := bnot_f hc139; subst hc139) | (replace hc139 := bnot_f hc139) | skip
     refine skF hF rfl rfl rfl rfl rfl rfl ?_; clear hF; intro a hF
     refine skF hF rfl rfl rfl rfl rfl rfl ?_; clear hF; intro a hF
     refine skF hF rfl rfl rfl rfl rfl rfl ?_; clear hF; intro a hF
     refine skF hF rfl rfl rfl rfl rfl rfl ?_; clear hF; intro a hF
     refine seq_yl hF (wn_t hF rfl rfl rfl rfl) rfl rfl (pkF hF rfl rfl rfl) ?_; clear hF; intro a hF
     refine seq_yl hF (wn_none rfl) rfl rfl (pkF hF rfl rfl rfl) ?_; clear hF; intro a hF
     refine wpList_nil ?_
     refine then_n ?_
     refine c_cond_f hF rfl ?_
     refine wp_skip ?_
     refine then_n ?_
     refine c_seq ?_
     refine c_seq ?_
     refine c_region ?_
     refine mvN hF rfl rfl rfl rfl rfl ?_; clear hF; intro a hF
     refine seq_yl hF (wn_none rfl) rfl rfl (yl_bin hF rfl rfl rfl rfl (fun _ => run_eql)) ?_; clear hF; intro a hF
     refine wpList_nil ?_
     refine then_n ?_
     refine c_cond hF rfl (fun hc145 => ?_) (fun hc145 => ?_)
     ·first | (replace hc145 := of_decide_eq_true hc145) | (replace hc145 := of_decide_eq_false (bnot_t hc145)) | (subst hc145) | (replace hc145 := bnot_t hc145; subst hc145) | (replace hc145 := bnot_t hc145) | skip
      refine c_seq ?_
      refine c_region ?_
      refine asN hF rfl rfl rfl rfl rfl ?_; clear hF; intro a hF
      refine wpList_nil ?_
      refine then_n ?_
      refine wp_ret ?_
      refine then_r ?_
      refine ret_t hF rfl rfl ?_
      exact ⟨_, rfl, congrArg Value.bool (dec_t (by (unfold matchR at *; omega))), (hS.sub [] (by decide) (by first | rfl | simp) (by simp))⟩
     ·first | (replace hc145 := of_decide_eq_false hc145) | (replace hc145 := of_decide_eq_true (bnot_f hc145)) | (subst hc145) | (replace hc145 := bnot_f hc145; subst hc145) | (replace hc145 := bnot_f hc145) | skip
      refine wp_skip ?_
      refine then_n ?_
      refine c_seq ?_
      refine c_seq ?_
      refine c_region ?_
      refine mvN hF rfl rfl rfl rfl rfl ?_; clear hF; intro a hF
      refine asN hF rfl rfl rfl rfl rfl ?_; clear hF; intro a hF
      refine wpList_nil ?_
      refine then_n ?_
      refine wp_block ?_
      refine c_loop (fun m a w => ∃ (i : Int), m = (s + c - i).toNat ∧ ((s ≤ i ∧ i ≤ s + c) ∧ (i = s ∨ i ≤ r.f1 ∨ r.f2 < s ∨ r.f2 < r.f1)) ∧ Fr 54 a [(2, .int .i64 (s)), (3, .int .i64 (c)), (4, .pointer (some ⟨g135, 0, none⟩)), (9, .int .i64 (i))] ∧ Sat w0 w (.box g135 37 #[.int .i64 (r.f0), .int .i64 (r.f1), .int .i64 (r.f2), .int .i64 (r.f3), .int .i64 (r.f4), .int .i64 (r.f5), .int .i64 (r.f6), .bool r.f7, .int .i64 (r.f8)] :: [])) ((s + c - s).toNat) ?_ ?_
      ·exact ⟨s, rfl, ⟨by omega, .inl rfl⟩, hF.to [2, 3, 4, 9] rfl, (hS.sub [0] (by decide) (by first | rfl | simp) (by simp))⟩
      ·clear hF hS; try clear hSS
       clear a w; rintro m a w ⟨i, rfl, hinv, hF, hS⟩
       obtain ⟨hi1, hi2⟩ := hinv
       refine c_seq ?_
       refine c_seq ?_
       refine c_region ?_
       refine mvN hF rfl rfl rfl rfl rfl ?_; clear hF; intro a hF
       refine mvN hF rfl rfl rfl rfl rfl ?_; clear hF; intro a hF
       refine mvN hF rfl rfl rfl rfl rfl ?_; clear hF; intro a hF
       refine seq_yl hF (wn_none rfl) rfl rfl (yl_bin hF rfl rfl rfl rfl (fun _ => run_add (by refine ⟨?_, ?_⟩ <;> omega))) ?_; clear hF; intro a hF
       refine seq_yl hF (wn_none rfl) rfl rfl (yl_bin hF rfl rfl rfl rfl (fun _ => run_lss)) ?_; clear hF; intro a hF
       refine wpList_nil ?_
       refine then_n ?_
       refine c_cond hF rfl (fun hc146 => ?_) (fun hc146 => ?_)
       ·first | (replace hc146 := of_decide_eq_true hc146) | (replace hc146 := of_decide_eq_false (bnot_t hc146)) | (subst hc146) | (replace hc146 := bnot_t hc146; subst hc146) | (replace hc146 := bnot_t hc146) | skip
        refine wp_skip ?_
        refine then_n ?_
        refine c_seq ?_
        refine wp_block ?_
        refine c_seq ?_
        refine c_region ?_
        refine mvN hF rfl rfl rfl rfl rfl ?_; clear hF; intro a hF
        refine seq_yl hF (wn_none rfl) rfl rfl (yl_fieldAddr hF rfl rfl (fun w => by kernel_rfl : ∀ w, (Instr.fieldAt 37 (.pointer (some ⟨g135, 0, none⟩)) 1).run Try.prog w = .ok (.pointer (some ⟨g135, 1, none⟩)) w)) ?_; clear hF; intro a hF
        refine seq_yl hF (wn_none rfl) rfl rfl (yl_load (fun _ h => h ▸ hS) hF rfl rfl 0 rfl ag3 rfl) ?_; clear hF; intro a hF
        refine seq_yl hF (wn_none rfl) rfl rfl (yl_bin hF rfl rfl rfl rfl (fun _ => run_geq)) ?_; clear hF; intro a hF
        refine mvN hF rfl rfl rfl rfl rfl ?_; clear hF; intro a hF
        refine fr_split hF (fun hc147 hF => ?_) (fun hc147 hF => ?_)
        ·first | (replace hc147 := of_decide_eq_true hc147) | (replace hc147 := of_decide_eq_false (bnot_t hc147)) | (subst hc147) | (replace hc147 := bnot_t hc147; subst hc147) | (replace hc147 := bnot_t hc147) | skip
         refine seq_yl hF (wn_t hF rfl rfl rfl rfl) rfl rfl (yl_move hF rfl rfl) ?_; clear hF; intro a hF
         refine seq_yl hF (wn_t hF rfl rfl rfl rfl) rfl rfl (yl_fieldAddr hF rfl rfl (fun w => by kernel_rfl : ∀ w, (Instr.fieldAt 37 (.pointer (some ⟨g135, 0, none⟩)) 2).run Try.prog w = .ok (.pointer (some ⟨g135, 2, none⟩)) w)) ?_; clear hF; intro a hF
         refine seq_yl hF (wn_t hF rfl rfl rfl rfl) rfl rfl (yl_load (fun _ h => h ▸ hS) hF rfl rfl 0 rfl ag3 rfl) ?_; clear hF; intro a hF
         refine seq_yl hF (wn_t hF rfl rfl rfl rfl) rfl rfl (yl_bin hF rfl rfl rfl rfl (fun _ => run_leq)) ?_; clear hF; intro a hF
         refine seq_yl hF (wn_none rfl) rfl rfl (pkT hF rfl rfl rfl) ?_; clear hF; intro a hF
         refine wpList_nil ?_
         refine then_n ?_
         refine c_cond hF rfl (fun hc148 => ?_) (fun hc148 => ?_)
         ·first | (replace hc148 := of_decide_eq_true hc148) | (replace hc148 := of_decide_eq_false (bnot_t hc148)) | (subst hc148) | (replace hc148 := bnot_t hc148; subst hc148) | (replace hc148 := bnot_t hc148) | skip
          refine c_seq ?_
          refine c_region ?_
          refine asN hF rfl rfl rfl rfl rfl ?_; clear hF; intro a hF
          refine wpList_nil ?_
          refine then_n ?_
          refine wp_ret ?_
          refine inb_r ?_
          refine then_r ?_
          refine then_r ?_
          refine inb_r ?_
          refine then_r ?_
          refine ret_t hF rfl rfl ?_
          exact ⟨_, rfl, congrArg Value.bool (dec_t (by (unfold matchR at *; omega))), (hS.sub [] (by decide) (by first | rfl | simp) (by simp))⟩
         ·first | (replace hc148 := of_decide_eq_false hc148) | (replace hc148 := of_decide_eq_true (bnot_f hc148)) | (subst hc148) | (replace hc148 := bnot_f hc148; subst hc148) | (replace hc148 := bnot_f hc148) | skip
          refine wp_skip ?_
          refine inb_n ?_
          refine then_n ?_
          refine c_region ?_
          refine mvN hF rfl rfl rfl rfl rfl ?_; clear hF; intro a hF
          refine seq_yl hF (wn_none rfl) rfl rfl (yl_bin hF rfl rfl rfl rfl (fun _ => run_add (by refine ⟨?_, ?_⟩ <;> omega))) ?_; clear hF; intro a hF
          refine asN hF rfl rfl rfl rfl rfl ?_; clear hF; intro a hF
          refine wpList_nil ?_
          refine then_n ?_
          exact ⟨_, (by omega), i + 1, rfl, ⟨by omega, by omega⟩, hF.to [2, 3, 4, 9] rfl, (hS.sub [0] (by decide) (by first | rfl | simp) (by simp))⟩
        ·first | (replace hc147 := of_decide_eq_false hc147) | (replace hc147 := of_decide_eq_true (bnot_f hc147)) | (subst hc147) | (replace hc147 := bnot_f hc147; subst hc147) | (replace hc147 := bnot_f hc147) | skip
         refine skF hF rfl rfl rfl rfl rfl rfl ?_; clear hF; intro a hF
         refine skF hF rfl rfl rfl rfl rfl rfl ?_; clear hF; intro a hF
         refine skF hF rfl rfl rfl rfl rfl rfl ?_; clear hF; intro a hF
         refine skF hF rfl rfl rfl rfl rfl rfl ?_; clear hF; intro a hF
         refine seq_yl hF (wn_none rfl) rfl rfl (pkF hF rfl rfl rfl) ?_; clear hF; intro a hF
         refine wpList_nil ?_
         refine then_n ?_
         refine c_cond_f hF rfl ?_
         refine wp_skip ?_
         refine inb_n ?_
         refine then_n ?_
         refine c_region ?_
         refine mvN hF rfl rfl rfl rfl rfl ?_; clear hF; intro a hF
         refine seq_yl hF (wn_none rfl) rfl rfl (yl_bin hF rfl rfl rfl rfl (fun _ => run_add (by refine ⟨?_, ?_⟩ <;> omega))) ?_; clear hF; intro a hF
         refine asN hF rfl rfl rfl rfl rfl ?_; clear hF; intro a hF
         refine wpList_nil ?_
         refine then_n ?_
         exact ⟨_, (by omega), i + 1, rfl, ⟨by omega, by omega⟩, hF.to [2, 3, 4, 9] rfl, (hS.sub [0] (by decide) (by first | rfl | simp) (by simp))⟩
       ·first | (replace hc146 := of_decide_eq_false hc146) | (replace hc146 := of_decide_eq_true (bnot_f hc146)) | (subst hc146) | (replace hc146 := bnot_f hc146; subst hc146) | (replace hc146 := bnot_f hc146) | skip
        refine wp_exit ?_
        refine then_x ?_
        refine then_x ?_
        refine inb_x ?_
        refine then_n ?_
        refine c_seq ?_
        refine c_region ?_
        refine asN hF rfl rfl rfl rfl rfl ?_; clear hF; intro a hF
        refine wpList_nil ?_
        refine then_n ?_
        refine wp_ret ?_
        refine ret_t hF rfl rfl ?_
        exact ⟨_, rfl, congrArg Value.bool (dec_f (by (unfold matchR at *; omega))), (hS.sub [] (by decide) (by first | rfl | simp) (by simp))⟩

end Go.Proofs.Ytkejcnhfbfgphaa

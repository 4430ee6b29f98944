/- walks, printed by wip/gen -/
import Derived.Test.YtkejcnhfbfgphaaW0
namespace Go.Proofs.Ytkejcnhfbfgphaa
open Go.RowKit
set_option linter.unusedVariables false
set_option linter.unusedSimpArgs false

set_option maxHeartbeats 1000000 in
set_option maxRecDepth 100000 in
theorem valid_any (r : E37) (w0 : World) :
  Fn Try.prog 23 #[.agg #[.int .i64 r.f0, .int .i64 r.f1, .int .i64 r.f2, .int .i64 r.f3, .int .i64 r.f4, .int .i64 r.f5, .int .i64 r.f6, .bool r.f7, .int .i64 r.f8]] w0 (fun v w' => v = .bool (decide (validR r)) ∧ Sat w0 w' []) := by
 refine c_enter (N := 64) (l := [_]) Try.func23 rfl rfl (fun a w hF hS => ?_)
 refine c_seq ?_
 refine c_region ?_
 refine seq_wp (wn_none rfl) (wp_box (cs := #[_, _, _, _, _, _, _, _, _]) hF hS rfl rfl rfl rfl rfl ?_)
 clear hF hS; intro a w g64 hF hS
 refine asN hF rfl rfl rfl rfl rfl ?_; clear hF; intro a hF
 refine wpList_nil ?_
 refine then_n ?_
 refine c_seq ?_
 refine c_seq ?_
 refine c_region ?_
 refine seq_yl hF (wn_none rfl) rfl rfl (yl_fieldAddr hF rfl rfl (fun w => by kernel_rfl : ∀ w, (Instr.fieldAt 37 (.pointer (some ⟨g64, 0, none⟩)) 5).run Try.prog w = .ok (.pointer (some ⟨g64, 5, none⟩)) w)) ?_; clear hF; intro a hF
 refine seq_yl hF (wn_none rfl) rfl rfl (yl_fieldAddr hF rfl rfl (fun w => by kernel_rfl : ∀ w, (Instr.fieldAt 27 (.pointer (some ⟨g64, 5, none⟩)) 0).run Try.prog w = .ok (.pointer (some ⟨g64, 5, none⟩)) w)) ?_; clear hF; intro a hF
 refine seq_yl hF (wn_none rfl) rfl rfl (yl_load (fun _ h => h ▸ hS) hF rfl rfl 0 rfl ag25 rfl) ?_; clear hF; intro a hF
 refine wpList_nil ?_
 refine then_n ?_
 refine c_cut (fun a w => (r.f5 = 0 ∨ r.f5 = 10 ∨ r.f5 = 11 ∨ r.f5 = 13 ∨ r.f5 = 50) ∧ Fr 64 a [(1, .pointer (some ⟨g64, 0, none⟩)), (2, .bool false)] ∧ Sat w0 w (.box g64 37 #[.int .i64 (r.f0), .int .i64 (r.f1), .int .i64 (r.f2), .int .i64 (r.f3), .int .i64 (r.f4), .int .i64 (r.f5), .int .i64 (r.f6), .bool r.f7, .int .i64 (r.f8)] :: [])) ?_ ?_
 ·skip
  refine wp_block ?_
  refine c_seq ?_
  refine c_seq ?_
  refine c_region ?_
  refine seq_yl hF (wn_none rfl) rfl rfl (yl_bin hF rfl rfl rfl rfl (fun _ => run_eql)) ?_; clear hF; intro a hF
  refine asN hF rfl rfl rfl rfl rfl ?_; clear hF; intro a hF
  refine wpList_nil ?_
  refine then_n ?_
  refine c_cond hF rfl (fun hc67 => ?_) (fun hc67 => ?_)
  ·first | (replace hc67 := of_decide_eq_true hc67) | (replace hc67 := of_decide_eq_false (bnot_t hc67)) | (replace hc67 := bnot_t hc67) | skip
   refine wp_skip ?_
   refine then_n ?_
   refine c_cond hF rfl (fun hc68 => ?_) (fun hc68 => ?_)
   ·first | (replace hc68 := of_decide_eq_true hc68) | (replace hc68 := of_decide_eq_false (bnot_t hc68)) | (replace hc68 := bnot_t hc68) | skip
    refine wp_skip ?_
    refine inb_n ?_
    refine cut_n ?_
    exact ⟨by omega, hF.to [1, 2] rfl, (hS.sub [0] (by decide) (by first | rfl | simp) (by simp))⟩
   ·first | (replace hc68 := of_decide_eq_false hc68) | (replace hc68 := of_decide_eq_true (bnot_f hc68)) | (replace hc68 := bnot_f hc68) | skip
    refine c_seq ?_
    refine c_region ?_
    refine asN hF rfl rfl rfl rfl rfl ?_; clear hF; intro a hF
    refine wpList_nil ?_
    refine then_n ?_
    refine wp_ret ?_
    refine inb_r ?_
    refine cut_r ?_
    refine then_r ?_
    refine ret_t hF rfl rfl ?_
    exact ⟨_, rfl, congrArg Value.bool (dec_f (by (first | (unfold validR at *; omega) | (have h9 := hfine.1 (by assumption); unfold validR at *; omega) | (have h9 : ¬ (r.f5 = 0 ∨ r.f5 = 10 ∨ r.f5 = 11 ∨ r.f5 = 13 ∨ r.f5 = 50) := (fun h => by have := hfine.2 h; simp_all); unfold validR at *; omega)))), (hS.sub [] (by decide) (by first | rfl | simp) (by simp))⟩
  ·first | (replace hc67 := of_decide_eq_false hc67) | (replace hc67 := of_decide_eq_true (bnot_f hc67)) | (replace hc67 := bnot_f hc67) | skip
   refine c_seq ?_
   refine c_region ?_
   refine seq_yl hF (wn_none rfl) rfl rfl (yl_bin hF rfl rfl rfl rfl (fun _ => run_eql)) ?_; clear hF; intro a hF
   refine asN hF rfl rfl rfl rfl rfl ?_; clear hF; intro a hF
   refine wpList_nil ?_
   refine then_n ?_
   refine c_cond hF rfl (fun hc69 => ?_) (fun hc69 => ?_)
   ·first | (replace hc69 := of_decide_eq_true hc69) | (replace hc69 := of_decide_eq_false (bnot_t hc69)) | (replace hc69 := bnot_t hc69) | skip
    refine wp_skip ?_
    refine then_n ?_
    refine c_cond hF rfl (fun hc70 => ?_) (fun hc70 => ?_)
    ·first | (replace hc70 := of_decide_eq_true hc70) | (replace hc70 := of_decide_eq_false (bnot_t hc70)) | (replace hc70 := bnot_t hc70) | skip
     refine wp_skip ?_
     refine inb_n ?_
     refine cut_n ?_
     exact ⟨by omega, hF.to [1, 2] rfl, (hS.sub [0] (by decide) (by first | rfl | simp) (by simp))⟩
    ·first | (replace hc70 := of_decide_eq_false hc70) | (replace hc70 := of_decide_eq_true (bnot_f hc70)) | (replace hc70 := bnot_f hc70) | skip
     refine c_seq ?_
     refine c_region ?_
     refine asN hF rfl rfl rfl rfl rfl ?_; clear hF; intro a hF
     refine wpList_nil ?_
     refine then_n ?_
     refine wp_ret ?_
     refine inb_r ?_
     refine cut_r ?_
     refine then_r ?_
     refine ret_t hF rfl rfl ?_
     exact ⟨_, rfl, congrArg Value.bool (dec_f (by (first | (unfold validR at *; omega) | (have h9 := hfine.1 (by assumption); unfold validR at *; omega) | (have h9 : ¬ (r.f5 = 0 ∨ r.f5 = 10 ∨ r.f5 = 11 ∨ r.f5 = 13 ∨ r.f5 = 50) := (fun h => by have := hfine.2 h; simp_all); unfold validR at *; omega)))), (hS.sub [] (by decide) (by first | rfl | simp) (by simp))⟩
   ·first | (replace hc69 := of_decide_eq_false hc69) | (replace hc69 := of_decide_eq_true (bnot_f hc69)) | (replace hc69 := bnot_f hc69) | skip
    refine c_seq ?_
    refine c_region ?_
    refine seq_yl hF (wn_none rfl) rfl rfl (yl_bin hF rfl rfl rfl rfl (fun _ => run_eql)) ?_; clear hF; intro a hF
    refine asN hF rfl rfl rfl rfl rfl ?_; clear hF; intro a hF
    refine wpList_nil ?_
    refine then_n ?_
    refine c_cond hF rfl (fun hc71 => ?_) (fun hc71 => ?_)
    ·first | (replace hc71 := of_decide_eq_true hc71) | (replace hc71 := of_decide_eq_false (bnot_t hc71)) | (replace hc71 := bnot_t hc71) | skip
     refine wp_skip ?_
     refine then_n ?_
     refine c_cond hF rfl (fun hc72 => ?_) (fun hc72 => ?_)
     ·first | (replace hc72 := of_decide_eq_true hc72) | (replace hc72 := of_decide_eq_false (bnot_t hc72)) | (replace hc72 := bnot_t hc72) | skip
      refine wp_skip ?_
      refine inb_n ?_
      refine cut_n ?_
      exact ⟨by omega, hF.to [1, 2] rfl, (hS.sub [0] (by decide) (by first | rfl | simp) (by simp))⟩
     ·first | (replace hc72 := of_decide_eq_false hc72) | (replace hc72 := of_decide_eq_true (bnot_f hc72)) | (replace hc72 := bnot_f hc72) | skip
      refine c_seq ?_
      refine c_region ?_
      refine asN hF rfl rfl rfl rfl rfl ?_; clear hF; intro a hF
      refine wpList_nil ?_
      refine then_n ?_
      refine wp_ret ?_
      refine inb_r ?_
      refine cut_r ?_
      refine then_r ?_
      refine ret_t hF rfl rfl ?_
      exact ⟨_, rfl, congrArg Value.bool (dec_f (by (first | (unfold validR at *; omega) | (have h9 := hfine.1 (by assumption); unfold validR at *; omega) | (have h9 : ¬ (r.f5 = 0 ∨ r.f5 = 10 ∨ r.f5 = 11 ∨ r.f5 = 13 ∨ r.f5 = 50) := (fun h => by have := hfine.2 h; simp_all); unfold validR at *; omega)))), (hS.sub [] (by decide) (by first | rfl | simp) (by simp))⟩
    ·first | (replace hc71 := of_decide_eq_false hc71) | (replace hc71 := of_decide_eq_true (bnot_f hc71)) | (replace hc71 := bnot_f hc71) | skip
     refine c_seq ?_
     refine c_region ?_
     refine seq_yl hF (wn_none rfl) rfl rfl (yl_bin hF rfl rfl rfl rfl (fun _ => run_eql)) ?_; clear hF; intro a hF
     refine asN hF rfl rfl rfl rfl rfl ?_; clear hF; intro a hF
     refine wpList_nil ?_
     refine then_n ?_
     refine c_cond hF rfl (fun hc73 => ?_) (fun hc73 => ?_)
     ·first | (replace hc73 := of_decide_eq_true hc73) | (replace hc73 := of_decide_eq_false (bnot_t hc73)) | (replace hc73 := bnot_t hc73) | skip
      refine wp_skip ?_
      refine then_n ?_
      refine c_cond hF rfl (fun hc74 => ?_) (fun hc74 => ?_)
      ·first | (replace hc74 := of_decide_eq_true hc74) | (replace hc74 := of_decide_eq_false (bnot_t hc74)) | (replace hc74 := bnot_t hc74) | skip
       refine wp_skip ?_
       refine inb_n ?_
       refine cut_n ?_
       exact ⟨by omega, hF.to [1, 2] rfl, (hS.sub [0] (by decide) (by first | rfl | simp) (by simp))⟩
      ·first | (replace hc74 := of_decide_eq_false hc74) | (replace hc74 := of_decide_eq_true (bnot_f hc74)) | (replace hc74 := bnot_f hc74) | skip
       refine c_seq ?_
       refine c_region ?_
       refine asN hF rfl rfl rfl rfl rfl ?_; clear hF; intro a hF
       refine wpList_nil ?_
       refine then_n ?_
       refine wp_ret ?_
       refine inb_r ?_
       refine cut_r ?_
       refine then_r ?_
       refine ret_t hF rfl rfl ?_
       exact ⟨_, rfl, congrArg Value.bool (dec_f (by (first | (unfold validR at *; omega) | (have h9 := hfine.1 (by assumption); unfold validR at *; omega) | (have h9 : ¬ (r.f5 = 0 ∨ r.f5 = 10 ∨ r.f5 = 11 ∨ r.f5 = 13 ∨ r.f5 = 50) := (fun h => by have := hfine.2 h; simp_all); unfold validR at *; omega)))), (hS.sub [] (by decide) (by first | rfl | simp) (by simp))⟩
     ·first | (replace hc73 := of_decide_eq_false hc73) | (replace hc73 := of_decide_eq_true (bnot_f hc73)) | (replace hc73 := bnot_f hc73) | skip
      refine c_region ?_
      refine seq_yl hF (wn_none rfl) rfl rfl (yl_bin hF rfl rfl rfl rfl (fun _ => run_eql)) ?_; clear hF; intro a hF
      refine asN hF rfl rfl rfl rfl rfl ?_; clear hF; intro a hF
      refine wpList_nil ?_
      refine then_n ?_
      refine c_cond hF rfl (fun hc75 => ?_) (fun hc75 => ?_)
      ·first | (replace hc75 := of_decide_eq_true hc75) | (replace hc75 := of_decide_eq_false (bnot_t hc75)) | (replace hc75 := bnot_t hc75) | skip
       refine wp_skip ?_
       refine inb_n ?_
       refine cut_n ?_
       exact ⟨by omega, hF.to [1, 2] rfl, (hS.sub [0] (by decide) (by first | rfl | simp) (by simp))⟩
      ·first | (replace hc75 := of_decide_eq_false hc75) | (replace hc75 := of_decide_eq_true (bnot_f hc75)) | (replace hc75 := bnot_f hc75) | skip
       refine c_seq ?_
       refine c_region ?_
       refine asN hF rfl rfl rfl rfl rfl ?_; clear hF; intro a hF
       refine wpList_nil ?_
       refine then_n ?_
       refine wp_ret ?_
       refine inb_r ?_
       refine cut_r ?_
       refine then_r ?_
       refine ret_t hF rfl rfl ?_
       exact ⟨_, rfl, congrArg Value.bool (dec_f (by (first | (unfold validR at *; omega) | (have h9 := hfine.1 (by assumption); unfold validR at *; omega) | (have h9 : ¬ (r.f5 = 0 ∨ r.f5 = 10 ∨ r.f5 = 11 ∨ r.f5 = 13 ∨ r.f5 = 50) := (fun h => by have := hfine.2 h; simp_all); unfold validR at *; omega)))), (hS.sub [] (by decide) (by first | rfl | simp) (by simp))⟩
 clear hF hS
 rintro a w ⟨hcut64_0, hF, hS⟩
 refine then_n ?_
 refine c_seq ?_
 refine c_region ?_
 refine seq_yl hF (wn_none rfl) rfl rfl (yl_fieldAddr hF rfl rfl (fun w => by kernel_rfl : ∀ w, (Instr.fieldAt 37 (.pointer (some ⟨g64, 0, none⟩)) 0).run Try.prog w = .ok (.pointer (some ⟨g64, 0, none⟩)) w)) ?_; clear hF; intro a hF
 refine seq_yl hF (wn_none rfl) rfl rfl (yl_load (fun _ h => h ▸ hS) hF rfl rfl 0 rfl ag3 rfl) ?_; clear hF; intro a hF
 refine seq_yl hF (wn_none rfl) rfl rfl (yl_bin hF rfl rfl rfl rfl (fun _ => run_eql)) ?_; clear hF; intro a hF
 refine mvN hF rfl rfl rfl rfl rfl ?_; clear hF; intro a hF
 refine fr_split hF (fun hc76 hF => ?_) (fun hc76 hF => ?_)
 ·first | (replace hc76 := of_decide_eq_true hc76) | (replace hc76 := of_decide_eq_false (bnot_t hc76)) | (replace hc76 := bnot_t hc76) | skip
  refine skF hF rfl rfl rfl rfl rfl rfl ?_; clear hF; intro a hF
  refine skF hF rfl rfl rfl rfl rfl rfl ?_; clear hF; intro a hF
  refine skF hF rfl rfl rfl rfl rfl rfl ?_; clear hF; intro a hF
  refine seq_yl hF (wn_none rfl) rfl rfl (pkT hF rfl rfl rfl) ?_; clear hF; intro a hF
  refine mvN hF rfl rfl rfl rfl rfl ?_; clear hF; intro a hF
  refine seq_yl hF (wn_t hF rfl rfl rfl rfl) rfl rfl (yl_fieldAddr hF rfl rfl (fun w => by kernel_rfl : ∀ w, (Instr.fieldAt 37 (.pointer (some ⟨g64, 0, none⟩)) 1).run Try.prog w = .ok (.pointer (some ⟨g64, 1, none⟩)) w)) ?_; clear hF; intro a hF
  refine seq_yl hF (wn_t hF rfl rfl rfl rfl) rfl rfl (yl_load (fun _ h => h ▸ hS) hF rfl rfl 0 rfl ag3 rfl) ?_; clear hF; intro a hF
  refine seq_yl hF (wn_t hF rfl rfl rfl rfl) rfl rfl (yl_bin hF rfl rfl rfl rfl (fun _ => run_geq)) ?_; clear hF; intro a hF
  refine seq_yl hF (wn_none rfl) rfl rfl (pkT hF rfl rfl rfl) ?_; clear hF; intro a hF
  refine mvN hF rfl rfl rfl rfl rfl ?_; clear hF; intro a hF
  refine fr_split hF (fun hc77 hF => ?_) (fun hc77 hF => ?_)
  ·first | (replace hc77 := of_decide_eq_true hc77) | (replace hc77 := of_decide_eq_false (bnot_t hc77)) | (replace hc77 := bnot_t hc77) | skip
   refine seq_yl hF (wn_t hF rfl rfl rfl rfl) rfl rfl (yl_fieldAddr hF rfl rfl (fun w => by kernel_rfl : ∀ w, (Instr.fieldAt 37 (.pointer (some ⟨g64, 0, none⟩)) 1).run Try.prog w = .ok (.pointer (some ⟨g64, 1, none⟩)) w)) ?_; clear hF; intro a hF
   refine seq_yl hF (wn_t hF rfl rfl rfl rfl) rfl rfl (yl_load (fun _ h => h ▸ hS) hF rfl rfl 0 rfl ag3 rfl) ?_; clear hF; intro a hF
   refine seq_yl hF (wn_t hF rfl rfl rfl rfl) rfl rfl (yl_fieldAddr hF rfl rfl (fun w => by kernel_rfl : ∀ w, (Instr.fieldAt 37 (.pointer (some ⟨g64, 0, none⟩)) 2).run Try.prog w = .ok (.pointer (some ⟨g64, 2, none⟩)) w)) ?_; clear hF; intro a hF
   refine seq_yl hF (wn_t hF rfl rfl rfl rfl) rfl rfl (yl_load (fun _ h => h ▸ hS) hF rfl rfl 0 rfl ag3 rfl) ?_; clear hF; intro a hF
   refine seq_yl hF (wn_t hF rfl rfl rfl rfl) rfl rfl (yl_bin hF rfl rfl rfl rfl (fun _ => run_leq)) ?_; clear hF; intro a hF
   refine seq_yl hF (wn_none rfl) rfl rfl (pkT hF rfl rfl rfl) ?_; clear hF; intro a hF
   refine mvN hF rfl rfl rfl rfl rfl ?_; clear hF; intro a hF
   refine fr_split hF (fun hc78 hF => ?_) (fun hc78 hF => ?_)
   ·first | (replace hc78 := of_decide_eq_true hc78) | (replace hc78 := of_decide_eq_false (bnot_t hc78)) | (replace hc78 := bnot_t hc78) | skip
    refine seq_yl hF (wn_t hF rfl rfl rfl rfl) rfl rfl (yl_fieldAddr hF rfl rfl (fun w => by kernel_rfl : ∀ w, (Instr.fieldAt 37 (.pointer (some ⟨g64, 0, none⟩)) 2).run Try.prog w = .ok (.pointer (some ⟨g64, 2, none⟩)) w)) ?_; clear hF; intro a hF
    refine seq_yl hF (wn_t hF rfl rfl rfl rfl) rfl rfl (yl_load (fun _ h => h ▸ hS) hF rfl rfl 0 rfl ag3 rfl) ?_; clear hF; intro a hF
    refine seq_yl hF (wn_t hF rfl rfl rfl rfl) rfl rfl (yl_bin hF rfl rfl rfl rfl (fun _ => run_lss)) ?_; clear hF; intro a hF
    refine seq_yl hF (wn_none rfl) rfl rfl (pkT hF rfl rfl rfl) ?_; clear hF; intro a hF
    refine mvN hF rfl rfl rfl rfl rfl ?_; clear hF; intro a hF
    refine fr_split hF (fun hc79 hF => ?_) (fun hc79 hF => ?_)
    ·first | (replace hc79 := of_decide_eq_true hc79) | (replace hc79 := of_decide_eq_false (bnot_t hc79)) | (replace hc79 := bnot_t hc79) | skip
     refine seq_yl hF (wn_t hF rfl rfl rfl rfl) rfl rfl (yl_fieldAddr hF rfl rfl (fun w => by kernel_rfl : ∀ w, (Instr.fieldAt 37 (.pointer (some ⟨g64, 0, none⟩)) 3).run Try.prog w = .ok (.pointer (some ⟨g64, 3, none⟩)) w)) ?_; clear hF; intro a hF
     refine seq_yl hF (wn_t hF rfl rfl rfl rfl) rfl rfl (yl_load (fun _ h => h ▸ hS) hF rfl rfl 0 rfl ag3 rfl) ?_; clear hF; intro a hF
     refine seq_wp (wn_t hF rfl rfl rfl rfl) (wp_call (vs := [_]) hF rfl rfl rfl rfl cf51 (tick_any (r.f3) _) ?_)
     clear hF; rintro _ w ⟨rfl, hS1⟩ a hF
     replace hS := hS.callB hS1 rfl; clear hS1
     refine seq_yl hF (wn_none rfl) rfl rfl (pkT hF rfl rfl rfl) ?_; clear hF; intro a hF
     refine mvN hF rfl rfl rfl rfl rfl ?_; clear hF; intro a hF
     refine fr_split hF (fun hc80 hF => ?_) (fun hc80 hF => ?_)
     ·first | (replace hc80 := of_decide_eq_true hc80) | (replace hc80 := of_decide_eq_false (bnot_t hc80)) | (replace hc80 := bnot_t hc80) | skip
      refine seq_yl hF (wn_t hF rfl rfl rfl rfl) rfl rfl (yl_fieldAddr hF rfl rfl (fun w => by kernel_rfl : ∀ w, (Instr.fieldAt 37 (.pointer (some ⟨g64, 0, none⟩)) 4).run Try.prog w = .ok (.pointer (some ⟨g64, 4, none⟩)) w)) ?_; clear hF; intro a hF
      refine seq_yl hF (wn_t hF rfl rfl rfl rfl) rfl rfl (yl_load (fun _ h => h ▸ hS) hF rfl rfl 0 rfl ag3 rfl) ?_; clear hF; intro a hF
      refine seq_yl hF (wn_t hF rfl rfl rfl rfl) rfl rfl (yl_bin hF rfl rfl rfl rfl (fun _ => run_eql)) ?_; clear hF; intro a hF
      refine seq_yl hF (wn_t hF rfl rfl rfl rfl) rfl rfl (yl_move hF rfl rfl) ?_; clear hF; intro a hF
      refine fr_split hF (fun hc81 hF => ?_) (fun hc81 hF => ?_)
      ·first | (replace hc81 := of_decide_eq_true hc81) | (replace hc81 := of_decide_eq_false (bnot_t hc81)) | (replace hc81 := bnot_t hc81) | skip
       refine skF hF rfl rfl rfl rfl rfl rfl ?_; clear hF; intro a hF
       refine skF hF rfl rfl rfl rfl rfl rfl ?_; clear hF; intro a hF
       refine skF hF rfl rfl rfl rfl rfl rfl ?_; clear hF; intro a hF
       refine seq_yl hF (wn_t hF rfl rfl rfl rfl) rfl rfl (pkT hF rfl rfl rfl) ?_; clear hF; intro a hF
       refine seq_yl hF (wn_none rfl) rfl rfl (pkT hF rfl rfl rfl) ?_; clear hF; intro a hF
       refine mvN hF rfl rfl rfl rfl rfl ?_; clear hF; intro a hF
       refine seq_yl hF (wn_t hF rfl rfl rfl rfl) rfl rfl (yl_fieldAddr hF rfl rfl (fun w => by kernel_rfl : ∀ w, (Instr.fieldAt 37 (.pointer (some ⟨g64, 0, none⟩)) 5).run Try.prog w = .ok (.pointer (some ⟨g64, 5, none⟩)) w)) ?_; clear hF; intro a hF
       refine seq_yl hF (wn_t hF rfl rfl rfl rfl) rfl rfl (yl_fieldAddr hF rfl rfl (fun w => by kernel_rfl : ∀ w, (Instr.fieldAt 27 (.pointer (some ⟨g64, 5, none⟩)) 1).run Try.prog w = .ok (.pointer (some ⟨g64, 6, none⟩)) w)) ?_; clear hF; intro a hF
       refine seq_yl hF (wn_t hF rfl rfl rfl rfl) rfl rfl (yl_load (fun _ h => h ▸ hS) hF rfl rfl 0 rfl ag3 rfl) ?_; clear hF; intro a hF
       refine seq_wp (wn_t hF rfl rfl rfl rfl) (wp_call (vs := [_]) hF rfl rfl rfl rfl cf52 (sector_any (r.f6) _) ?_)
       clear hF; rintro _ w ⟨rfl, hS1⟩ a hF
       replace hS := hS.callB hS1 rfl; clear hS1
       refine seq_yl hF (wn_none rfl) rfl rfl (pkT hF rfl rfl rfl) ?_; clear hF; intro a hF
       refine mvN hF rfl rfl rfl rfl rfl ?_; clear hF; intro a hF
       refine fr_split hF (fun hc82 hF => ?_) (fun hc82 hF => ?_)
       ·first | (replace hc82 := of_decide_eq_true hc82) | (replace hc82 := of_decide_eq_false (bnot_t hc82)) | (replace hc82 := bnot_t hc82) | skip
        refine seq_yl hF (wn_t hF rfl rfl rfl rfl) rfl rfl (yl_fieldAddr hF rfl rfl (fun w => by kernel_rfl : ∀ w, (Instr.fieldAt 37 (.pointer (some ⟨g64, 0, none⟩)) 5).run Try.prog w = .ok (.pointer (some ⟨g64, 5, none⟩)) w)) ?_; clear hF; intro a hF
        refine seq_yl hF (wn_t hF rfl rfl rfl rfl) rfl rfl (yl_fieldAddr hF rfl rfl (fun w => by kernel_rfl : ∀ w, (Instr.fieldAt 27 (.pointer (some ⟨g64, 5, none⟩)) 3).run Try.prog w = .ok (.pointer (some ⟨g64, 8, none⟩)) w)) ?_; clear hF; intro a hF
        refine seq_yl hF (wn_t hF rfl rfl rfl rfl) rfl rfl (yl_load (fun _ h => h ▸ hS) hF rfl rfl 0 rfl ag3 rfl) ?_; clear hF; intro a hF
        refine seq_wp (wn_t hF rfl rfl rfl rfl) (wp_call (vs := [_]) hF rfl rfl rfl rfl cf51 (tick_any (r.f8) _) ?_)
        clear hF; rintro _ w ⟨rfl, hS1⟩ a hF
        replace hS := hS.callB hS1 rfl; clear hS1
        refine seq_yl hF (wn_none rfl) rfl rfl (pkT hF rfl rfl rfl) ?_; clear hF; intro a hF
        refine asN hF rfl rfl rfl rfl rfl ?_; clear hF; intro a hF
        refine wpList_nil ?_
        refine then_n ?_
        refine wp_ret ?_
        refine ret_t hF rfl rfl ?_
        exact ⟨_, rfl, congrArg Value.bool (dec_d (by constructor <;> intro _ <;> (first | (unfold validR at *; omega) | (have h9 := hfine.1 (by assumption); unfold validR at *; omega) | (have h9 : ¬ (r.f5 = 0 ∨ r.f5 = 10 ∨ r.f5 = 11 ∨ r.f5 = 13 ∨ r.f5 = 50) := (fun h => by have := hfine.2 h; simp_all); unfold validR at *; omega)))), (hS.sub [] (by decide) (by first | rfl | simp) (by simp))⟩
       ·first | (replace hc82 := of_decide_eq_false hc82) | (replace hc82 := of_decide_eq_true (bnot_f hc82)) | (replace hc82 := bnot_f hc82) | skip
        refine skF hF rfl rfl rfl rfl rfl rfl ?_; clear hF; intro a hF
        refine skF hF rfl rfl rfl rfl rfl rfl ?_; clear hF; intro a hF
        refine skF hF rfl rfl rfl rfl rfl rfl ?_; clear hF; intro a hF
        refine skF hF rfl rfl rfl rfl rfl rfl ?_; clear hF; intro a hF
        refine seq_yl hF (wn_none rfl) rfl rfl (pkF hF rfl rfl rfl) ?_; clear hF; intro a hF
        refine asN hF rfl rfl rfl rfl rfl ?_; clear hF; intro a hF
        refine wpList_nil ?_
        refine then_n ?_
        refine wp_ret ?_
        refine ret_t hF rfl rfl ?_
        exact ⟨_, rfl, congrArg Value.bool (dec_f (by (first | (unfold validR at *; omega) | (have h9 := hfine.1 (by assumption); unfold validR at *; omega) | (have h9 : ¬ (r.f5 = 0 ∨ r.f5 = 10 ∨ r.f5 = 11 ∨ r.f5 = 13 ∨ r.f5 = 50) := (fun h => by have := hfine.2 h; simp_all); unfold validR at *; omega)))), (hS.sub [] (by decide) (by first | rfl | simp) (by simp))⟩
      ·first | (replace hc81 := of_decide_eq_false hc81) | (replace hc81 := of_decide_eq_true (bnot_f hc81)) | (replace hc81 := bnot_f hc81) | skip
       refine seq_yl hF (wn_t hF rfl rfl rfl rfl) rfl rfl (yl_fieldAddr hF rfl rfl (fun w => by kernel_rfl : ∀ w, (Instr.fieldAt 37 (.pointer (some ⟨g64, 0, none⟩)) 4).run Try.prog w = .ok (.pointer (some ⟨g64, 4, none⟩)) w)) ?_; clear hF; intro a hF
       refine seq_yl hF (wn_t hF rfl rfl rfl rfl) rfl rfl (yl_load (fun _ h => h ▸ hS) hF rfl rfl 0 rfl ag3 rfl) ?_; clear hF; intro a hF
       refine seq_wp (wn_t hF rfl rfl rfl rfl) (wp_call (vs := [_]) hF rfl rfl rfl rfl cf51 (tick_any (r.f4) _) ?_)
       clear hF; rintro _ w ⟨rfl, hS1⟩ a hF
       replace hS := hS.callB hS1 rfl; clear hS1
       refine seq_yl hF (wn_t hF rfl rfl rfl rfl) rfl rfl (pkF hF rfl rfl rfl) ?_; clear hF; intro a hF
       refine seq_yl hF (wn_none rfl) rfl rfl (pkT hF rfl rfl rfl) ?_; clear hF; intro a hF
       refine mvN hF rfl rfl rfl rfl rfl ?_; clear hF; intro a hF
       refine fr_split hF (fun hc83 hF => ?_) (fun hc83 hF => ?_)
       ·first | (replace hc83 := of_decide_eq_true hc83) | (replace hc83 := of_decide_eq_false (bnot_t hc83)) | (replace hc83 := bnot_t hc83) | skip
        refine seq_yl hF (wn_t hF rfl rfl rfl rfl) rfl rfl (yl_fieldAddr hF rfl rfl (fun w => by kernel_rfl : ∀ w, (Instr.fieldAt 37 (.pointer (some ⟨g64, 0, none⟩)) 5).run Try.prog w = .ok (.pointer (some ⟨g64, 5, none⟩)) w)) ?_; clear hF; intro a hF
        refine seq_yl hF (wn_t hF rfl rfl rfl rfl) rfl rfl (yl_fieldAddr hF rfl rfl (fun w => by kernel_rfl : ∀ w, (Instr.fieldAt 27 (.pointer (some ⟨g64, 5, none⟩)) 1).run Try.prog w = .ok (.pointer (some ⟨g64, 6, none⟩)) w)) ?_; clear hF; intro a hF
        refine seq_yl hF (wn_t hF rfl rfl rfl rfl) rfl rfl (yl_load (fun _ h => h ▸ hS) hF rfl rfl 0 rfl ag3 rfl) ?_; clear hF; intro a hF
        refine seq_wp (wn_t hF rfl rfl rfl rfl) (wp_call (vs := [_]) hF rfl rfl rfl rfl cf52 (sector_any (r.f6) _) ?_)
        clear hF; rintro _ w ⟨rfl, hS1⟩ a hF
        replace hS := hS.callB hS1 rfl; clear hS1
        refine seq_yl hF (wn_none rfl) rfl rfl (pkT hF rfl rfl rfl) ?_; clear hF; intro a hF
        refine mvN hF rfl rfl rfl rfl rfl ?_; clear hF; intro a hF
        refine fr_split hF (fun hc84 hF => ?_) (fun hc84 hF => ?_)
        ·first | (replace hc84 := of_decide_eq_true hc84) | (replace hc84 := of_decide_eq_false (bnot_t hc84)) | (replace hc84 := bnot_t hc84) | skip
         refine seq_yl hF (wn_t hF rfl rfl rfl rfl) rfl rfl (yl_fieldAddr hF rfl rfl (fun w => by kernel_rfl : ∀ w, (Instr.fieldAt 37 (.pointer (some ⟨g64, 0, none⟩)) 5).run Try.prog w = .ok (.pointer (some ⟨g64, 5, none⟩)) w)) ?_; clear hF; intro a hF
         refine seq_yl hF (wn_t hF rfl rfl rfl rfl) rfl rfl (yl_fieldAddr hF rfl rfl (fun w => by kernel_rfl : ∀ w, (Instr.fieldAt 27 (.pointer (some ⟨g64, 5, none⟩)) 3).run Try.prog w = .ok (.pointer (some ⟨g64, 8, none⟩)) w)) ?_; clear hF; intro a hF
         refine seq_yl hF (wn_t hF rfl rfl rfl rfl) rfl rfl (yl_load (fun _ h => h ▸ hS) hF rfl rfl 0 rfl ag3 rfl) ?_; clear hF; intro a hF
         refine seq_wp (wn_t hF rfl rfl rfl rfl) (wp_call (vs := [_]) hF rfl rfl rfl rfl cf51 (tick_any (r.f8) _) ?_)
         clear hF; rintro _ w ⟨rfl, hS1⟩ a hF
         replace hS := hS.callB hS1 rfl; clear hS1
         refine seq_yl hF (wn_none rfl) rfl rfl (pkT hF rfl rfl rfl) ?_; clear hF; intro a hF
         refine asN hF rfl rfl rfl rfl rfl ?_; clear hF; intro a hF
         refine wpList_nil ?_
         refine then_n ?_
         refine wp_ret ?_
         refine ret_t hF rfl rfl ?_
         exact ⟨_, rfl, congrArg Value.bool (dec_d (by constructor <;> intro _ <;> (first | (unfold validR at *; omega) | (have h9 := hfine.1 (by assumption); unfold validR at *; omega) | (have h9 : ¬ (r.f5 = 0 ∨ r.f5 = 10 ∨ r.f5 = 11 ∨ r.f5 = 13 ∨ r.f5 = 50) := (fun h => by have := hfine.2 h; simp_all); unfold validR at *; omega)))), (hS.sub [] (by decide) (by first | rfl | simp) (by simp))⟩
        ·first | (replace hc84 := of_decide_eq_false hc84) | (replace hc84 := of_decide_eq_true (bnot_f hc84)) | (replace hc84 := bnot_f hc84) | skip
         refine skF hF rfl rfl rfl rfl rfl rfl ?_; clear hF; intro a hF
         refine skF hF rfl rfl rfl rfl rfl rfl ?_; clear hF; intro a hF
         refine skF hF rfl rfl rfl rfl rfl rfl ?_; clear hF; intro a hF
         refine skF hF rfl rfl rfl rfl rfl rfl ?_; clear hF; intro a hF
         refine seq_yl hF (wn_none rfl) rfl rfl (pkF hF rfl rfl rfl) ?_; clear hF; intro a hF
         refine asN hF rfl rfl rfl rfl rfl ?_; clear hF; intro a hF
         refine wpList_nil ?_
         refine then_n ?_
         refine wp_ret ?_
         refine ret_t hF rfl rfl ?_
         exact ⟨_, rfl, congrArg Value.bool (dec_f (by (first | (unfold validR at *; omega) | (have h9 := hfine.1 (by assumption); unfold validR at *; omega) | (have h9 : ¬ (r.f5 = 0 ∨ r.f5 = 10 ∨ r.f5 = 11 ∨ r.f5 = 13 ∨ r.f5 = 50) := (fun h => by have := hfine.2 h; simp_all); unfold validR at *; omega)))), (hS.sub [] (by decide) (by first | rfl | simp) (by simp))⟩
       ·first | (replace hc83 := of_decide_eq_false hc83) | (replace hc83 := of_decide_eq_true (bnot_f hc83)) | (replace hc83 := bnot_f hc83) | skip
        refine skF hF rfl rfl rfl rfl rfl rfl ?_; clear hF; intro a hF
        refine skF hF rfl rfl rfl rfl rfl rfl ?_; clear hF; intro a hF
        refine skF hF rfl rfl rfl rfl rfl rfl ?_; clear hF; intro a hF
        refine skF hF rfl rfl rfl rfl rfl rfl ?_; clear hF; intro a hF
        refine seq_yl hF (wn_none rfl) rfl rfl (pkF hF rfl rfl rfl) ?_; clear hF; intro a hF
        refine mvN hF rfl rfl rfl rfl rfl ?_; clear hF; intro a hF
        refine skF hF rfl rfl rfl rfl rfl rfl ?_; clear hF; intro a hF
        refine skF hF rfl rfl rfl rfl rfl rfl ?_; clear hF; intro a hF
        refine skF hF rfl rfl rfl rfl rfl rfl ?_; clear hF; intro a hF
        refine skF hF rfl rfl rfl rfl rfl rfl ?_; clear hF; intro a hF
        refine seq_yl hF (wn_none rfl) rfl rfl (pkF hF rfl rfl rfl) ?_; clear hF; intro a hF
        refine asN hF rfl rfl rfl rfl rfl ?_; clear hF; intro a hF
        refine wpList_nil ?_
        refine then_n ?_
        refine wp_ret ?_
        refine ret_t hF rfl rfl ?_
        exact ⟨_, rfl, congrArg Value.bool (dec_f (by (first | (unfold validR at *; omega) | (have h9 := hfine.1 (by assumption); unfold validR at *; omega) | (have h9 : ¬ (r.f5 = 0 ∨ r.f5 = 10 ∨ r.f5 = 11 ∨ r.f5 = 13 ∨ r.f5 = 50) := (fun h => by have := hfine.2 h; simp_all); unfold validR at *; omega)))), (hS.sub [] (by decide) (by first | rfl | simp) (by simp))⟩
     ·first | (replace hc80 := of_decide_eq_false hc80) | (replace hc80 := of_decide_eq_true (bnot_f hc80)) | (replace hc80 := bnot_f hc80) | skip
      refine skF hF rfl rfl rfl rfl rfl rfl ?_; clear hF; intro a hF
      refine skF hF rfl rfl rfl rfl rfl rfl ?_; clear hF; intro a hF
      refine skF hF rfl rfl rfl rfl rfl rfl ?_; clear hF; intro a hF
      refine skF hF rfl rfl rfl rfl rfl rfl ?_; clear hF; intro a hF
      refine seq_skip hF (wn_u hF rfl rfl rfl rfl) rfl rfl ?_; clear hF; intro a hF
      refine seq_skip hF (wn_u hF rfl rfl rfl rfl) rfl rfl ?_; clear hF; intro a hF
      refine seq_skip hF (wn_u hF rfl rfl rfl rfl) rfl rfl ?_; clear hF; intro a hF
      refine skF hF rfl rfl rfl rfl rfl rfl ?_; clear hF; intro a hF
      refine seq_yl hF (wn_none rfl) rfl rfl (pkF hF rfl rfl rfl) ?_; clear hF; intro a hF
      refine mvN hF rfl rfl rfl rfl rfl ?_; clear hF; intro a hF
      refine skF hF rfl rfl rfl rfl rfl rfl ?_; clear hF; intro a hF
      refine skF hF rfl rfl rfl rfl rfl rfl ?_; clear hF; intro a hF
      refine skF hF rfl rfl rfl rfl rfl rfl ?_; clear hF; intro a hF
      refine skF hF rfl rfl rfl rfl rfl rfl ?_; clear hF; intro a hF
      refine seq_yl hF (wn_none rfl) rfl rfl (pkF hF rfl rfl rfl) ?_; clear hF; intro a hF
      refine mvN hF rfl rfl rfl rfl rfl ?_; clear hF; intro a hF
      refine skF hF rfl rfl rfl rfl rfl rfl ?_; clear hF; intro a hF
      refine skF hF rfl rfl rfl rfl rfl rfl ?_; clear hF; intro a hF
      refine skF hF rfl rfl rfl rfl rfl rfl ?_; clear hF; intro a hF
      refine skF hF rfl rfl rfl rfl rfl rfl ?_; clear hF; intro a hF
      refine seq_yl hF (wn_none rfl) rfl rfl (pkF hF rfl rfl rfl) ?_; clear hF; intro a hF
      refine asN hF rfl rfl rfl rfl rfl ?_; clear hF; intro a hF
      refine wpList_nil ?_
      refine then_n ?_
      refine wp_ret ?_
      refine ret_t hF rfl rfl ?_
      exact ⟨_, rfl, congrArg Value.bool (dec_f (by (first | (unfold validR at *; omega) | (have h9 := hfine.1 (by assumption); unfold validR at *; omega) | (have h9 : ¬ (r.f5 = 0 ∨ r.f5 = 10 ∨ r.f5 = 11 ∨ r.f5 = 13 ∨ r.f5 = 50) := (fun h => by have := hfine.2 h; simp_all); unfold validR at *; omega)))), (hS.sub [] (by decide) (by first | rfl | simp) (by simp))⟩
    ·first | (replace hc79 := of_decide_eq_false hc79) | (replace hc79 := of_decide_eq_true (bnot_f hc79)) | (replace hc79 := bnot_f hc79) | skip
     refine skF hF rfl rfl rfl rfl rfl rfl ?_; clear hF; intro a hF
     refine skF hF rfl rfl rfl rfl rfl rfl ?_; clear hF; intro a hF
     refine skF hF rfl rfl rfl rfl rfl rfl ?_; clear hF; intro a hF
     refine seq_yl hF (wn_none rfl) rfl rfl (pkF hF rfl rfl rfl) ?_; clear hF; intro a hF
     refine mvN hF rfl rfl rfl rfl rfl ?_; clear hF; intro a hF
     refine skF hF rfl rfl rfl rfl rfl rfl ?_; clear hF; intro a hF
     refine skF hF rfl rfl rfl rfl rfl rfl ?_; clear hF; intro a hF
     refine skF hF rfl rfl rfl rfl rfl rfl ?_; clear hF; intro a hF
     refine skF hF rfl rfl rfl rfl rfl rfl ?_; clear hF; intro a hF
     refine seq_skip hF (wn_u hF rfl rfl rfl rfl) rfl rfl ?_; clear hF; intro a hF
     refine seq_skip hF (wn_u hF rfl rfl rfl rfl) rfl rfl ?_; clear hF; intro a hF
     refine seq_skip hF (wn_u hF rfl rfl rfl rfl) rfl rfl ?_; clear hF; intro a hF
     refine skF hF rfl rfl rfl rfl rfl rfl ?_; clear hF; intro a hF
     refine seq_yl hF (wn_none rfl) rfl rfl (pkF hF rfl rfl rfl) ?_; clear hF; intro a hF
     refine mvN hF rfl rfl rfl rfl rfl ?_; clear hF; intro a hF
     refine skF hF rfl rfl rfl rfl rfl rfl ?_; clear hF; intro a hF
     refine skF hF rfl rfl rfl rfl rfl rfl ?_; clear hF; intro a hF
     refine skF hF rfl rfl rfl rfl rfl rfl ?_; clear hF; intro a hF
     refine skF hF rfl rfl rfl rfl rfl rfl ?_; clear hF; intro a hF
     refine seq_yl hF (wn_none rfl) rfl rfl (pkF hF rfl rfl rfl) ?_; clear hF; intro a hF
     refine mvN hF rfl rfl rfl rfl rfl ?_; clear hF; intro a hF
     refine skF hF rfl rfl rfl rfl rfl rfl ?_; clear hF; intro a hF
     refine skF hF rfl rfl rfl rfl rfl rfl ?_; clear hF; intro a hF
     refine skF hF rfl rfl rfl rfl rfl rfl ?_; clear hF; intro a hF
     refine skF hF rfl rfl rfl rfl rfl rfl ?_; clear hF; intro a hF
     refine seq_yl hF (wn_none rfl) rfl rfl (pkF hF rfl rfl rfl) ?_; clear hF; intro a hF
     refine asN hF rfl rfl rfl rfl rfl ?_; clear hF; intro a hF
     refine wpList_nil ?_
     refine then_n ?_
     refine wp_ret ?_
     refine ret_t hF rfl rfl ?_
     exact ⟨_, rfl, congrArg Value.bool (dec_f (by (first | (unfold validR at *; omega) | (have h9 := hfine.1 (by assumption); unfold validR at *; omega) | (have h9 : ¬ (r.f5 = 0 ∨ r.f5 = 10 ∨ r.f5 = 11 ∨ r.f5 = 13 ∨ r.f5 = 50) := (fun h => by have := hfine.2 h; simp_all); unfold validR at *; omega)))), (hS.sub [] (by decide) (by first | rfl | simp) (by simp))⟩
   ·first | (replace hc78 := of_decide_eq_false hc78) | (replace hc78 := of_decide_eq_true (bnot_f hc78)) | (replace hc78 := bnot_f hc78) | skip
    refine skF hF rfl rfl rfl rfl rfl rfl ?_; clear hF; intro a hF
    refine skF hF rfl rfl rfl rfl rfl rfl ?_; clear hF; intro a hF
    refine skF hF rfl rfl rfl rfl rfl rfl ?_; clear hF; intro a hF
    refine seq_yl hF (wn_none rfl) rfl rfl (pkF hF rfl rfl rfl) ?_; clear hF; intro a hF
    refine mvN hF rfl rfl rfl rfl rfl ?_; clear hF; intro a hF
    refine skF hF rfl rfl rfl rfl rfl rfl ?_; clear hF; intro a hF
    refine skF hF rfl rfl rfl rfl rfl rfl ?_; clear hF; intro a hF
    refine skF hF rfl rfl rfl rfl rfl rfl ?_; clear hF; intro a hF
    refine seq_yl hF (wn_none rfl) rfl rfl (pkF hF rfl rfl rfl) ?_; clear hF; intro a hF
    refine mvN hF rfl rfl rfl rfl rfl ?_; clear hF; intro a hF
    refine skF hF rfl rfl rfl rfl rfl rfl ?_; clear hF; intro a hF
    refine skF hF rfl rfl rfl rfl rfl rfl ?_; clear hF; intro a hF
    refine skF hF rfl rfl rfl rfl rfl rfl ?_; clear hF; intro a hF
    refine skF hF rfl rfl rfl rfl rfl rfl ?_; clear hF; intro a hF
    refine seq_skip hF (wn_u hF rfl rfl rfl rfl) rfl rfl ?_; clear hF; intro a hF
    refine seq_skip hF (wn_u hF rfl rfl rfl rfl) rfl rfl ?_; clear hF; intro a hF
    refine seq_skip hF (wn_u hF rfl rfl rfl rfl) rfl rfl ?_; clear hF; intro a hF
    refine skF hF rfl rfl rfl rfl rfl rfl ?_; clear hF; intro a hF
    refine seq_yl hF (wn_none rfl) rfl rfl (pkF hF rfl rfl rfl) ?_; clear hF; intro a hF
    refine mvN hF rfl rfl rfl rfl rfl ?_; clear hF; intro a hF
    refine skF hF rfl rfl rfl rfl rfl rfl ?_; clear hF; intro a hF
    refine skF hF rfl rfl rfl rfl rfl rfl ?_; clear hF; intro a hF
    refine skF hF rfl rfl rfl rfl rfl rfl ?_; clear hF; intro a hF
    refine skF hF rfl rfl rfl rfl rfl rfl ?_; clear hF; intro a hF
    refine seq_yl hF (wn_none rfl) rfl rfl (pkF hF rfl rfl rfl) ?_; clear hF; intro a hF
    refine mvN hF rfl rfl rfl rfl rfl ?_; clear hF; intro a hF
    refine skF hF rfl rfl rfl rfl rfl rfl ?_; clear hF; intro a hF
    refine skF hF rfl rfl rfl rfl rfl rfl ?_; clear hF; intro a hF
    refine skF hF rfl rfl rfl rfl rfl rfl ?_; clear hF; intro a hF
    refine skF hF rfl rfl rfl rfl rfl rfl ?_; clear hF; intro a hF
    refine seq_yl hF (wn_none rfl) rfl rfl (pkF hF rfl rfl rfl) ?_; clear hF; intro a hF
    refine asN hF rfl rfl rfl rfl rfl ?_; clear hF; intro a hF
    refine wpList_nil ?_
    refine then_n ?_
    refine wp_ret ?_
    refine ret_t hF rfl rfl ?_
    exact ⟨_, rfl, congrArg Value.bool (dec_f (by (first | (unfold validR at *; omega) | (have h9 := hfine.1 (by assumption); unfold validR at *; omega) | (have h9 : ¬ (r.f5 = 0 ∨ r.f5 = 10 ∨ r.f5 = 11 ∨ r.f5 = 13 ∨ r.f5 = 50) := (fun h => by have := hfine.2 h; simp_all); unfold validR at *; omega)))), (hS.sub [] (by decide) (by first | rfl | simp) (by simp))⟩
  ·first | (replace hc77 := of_decide_eq_false hc77) | (replace hc77 := of_decide_eq_true (bnot_f hc77)) | (replace hc77 := bnot_f hc77) | skip
   refine skF hF rfl rfl rfl rfl rfl rfl ?_; clear hF; intro a hF
   refine skF hF rfl rfl rfl rfl rfl rfl ?_; clear hF; intro a hF
   refine skF hF rfl rfl rfl rfl rfl rfl ?_; clear hF; intro a hF
   refine skF hF rfl rfl rfl rfl rfl rfl ?_; clear hF; intro a hF
   refine skF hF rfl rfl rfl rfl rfl rfl ?_; clear hF; intro a hF
   refine seq_yl hF (wn_none rfl) rfl rfl (pkF hF rfl rfl rfl) ?_; clear hF; intro a hF
   refine mvN hF rfl rfl rfl rfl rfl ?_; clear hF; intro a hF
   refine skF hF rfl rfl rfl rfl rfl rfl ?_; clear hF; intro a hF
   refine skF hF rfl rfl rfl rfl rfl rfl ?_; clear hF; intro a hF
   refine skF hF rfl rfl rfl rfl rfl rfl ?_; clear hF; intro a hF
   refine seq_yl hF (wn_none rfl) rfl rfl (pkF hF rfl rfl rfl) ?_; clear hF; intro a hF
   refine mvN hF rfl rfl rfl rfl rfl ?_; clear hF; intro a hF
   refine skF hF rfl rfl rfl rfl rfl rfl ?_; clear hF; intro a hF
   refine skF hF rfl rfl rfl rfl rfl rfl ?_; clear hF; intro a hF
   refine skF hF rfl rfl rfl rfl rfl rfl ?_; clear hF; intro a hF
   refine seq_yl hF (wn_none rfl) rfl rfl (pkF hF rfl rfl rfl) ?_; clear hF; intro a hF
   refine mvN hF rfl rfl rfl rfl rfl ?_; clear hF; intro a hF
   refine skF hF rfl rfl rfl rfl rfl rfl ?_; clear hF; intro a hF
   refine skF hF rfl rfl rfl rfl rfl rfl ?_; clear hF; intro a hF
   refine skF hF rfl rfl rfl rfl rfl rfl ?_; clear hF; intro a hF
   refine skF hF rfl rfl rfl rfl rfl rfl ?_; clear hF; intro a hF
   refine seq_skip hF (wn_u hF rfl rfl rfl rfl) rfl rfl ?_; clear hF; intro a hF
   refine seq_skip hF (wn_u hF rfl rfl rfl rfl) rfl rfl ?_; clear hF; intro a hF
   refine seq_skip hF (wn_u hF rfl rfl rfl rfl) rfl rfl ?_; clear hF; intro a hF
   refine skF hF rfl rfl rfl rfl rfl rfl ?_; clear hF; intro a hF
   refine seq_yl hF (wn_none rfl) rfl rfl (pkF hF rfl rfl rfl) ?_; clear hF; intro a hF
   refine mvN hF rfl rfl rfl rfl rfl ?_; clear hF; intro a hF
   refine skF hF rfl rfl rfl rfl rfl rfl ?_; clear hF; intro a hF
   refine skF hF rfl rfl rfl rfl rfl rfl ?_; clear hF; intro a hF
   refine skF hF rfl rfl rfl rfl rfl rfl ?_; clear hF; intro a hF
   refine skF hF rfl rfl rfl rfl rfl rfl ?_; clear hF; intro a hF
   refine seq_yl hF (wn_none rfl) rfl rfl (pkF hF rfl rfl rfl) ?_; clear hF; intro a hF
   refine mvN hF rfl rfl rfl rfl rfl ?_; clear hF; intro a hF
   refine skF hF rfl rfl rfl rfl rfl rfl ?_; clear hF; intro a hF
   refine skF hF rfl rfl rfl rfl rfl rfl ?_; clear hF; intro a hF
   refine skF hF rfl rfl rfl rfl rfl rfl ?_; clear hF; intro a hF
   refine skF hF rfl rfl rfl rfl rfl rfl ?_; clear hF; intro a hF
   refine seq_yl hF (wn_none rfl) rfl rfl (pkF hF rfl rfl rfl) ?_; clear hF; intro a hF
   refine asN hF rfl rfl rfl rfl rfl ?_; clear hF; intro a hF
   refine wpList_nil ?_
   refine then_n ?_
   refine wp_ret ?_
   refine ret_t hF rfl rfl ?_
   exact ⟨_, rfl, congrArg Value.bool (dec_f (by (first | (unfold validR at *; omega) | (have h9 := hfine.1 (by assumption); unfold validR at *; omega) | (have h9 : ¬ (r.f5 = 0 ∨ r.f5 = 10 ∨ r.f5 = 11 ∨ r.f5 = 13 ∨ r.f5 = 50) := (fun h => by have := hfine.2 h; simp_all); unfold validR at *; omega)))), (hS.sub [] (by decide) (by first | rfl | simp) (by simp))⟩
 ·first | (replace hc76 := of_decide_eq_false hc76) | (replace hc76 := of_decide_eq_true (bnot_f hc76)) | (replace hc76 := bnot_f hc76) | skip
  refine seq_yl hF (wn_t hF rfl rfl rfl rfl) rfl rfl (yl_fieldAddr hF rfl rfl (fun w => by kernel_rfl : ∀ w, (Instr.fieldAt 37 (.pointer (some ⟨g64, 0, none⟩)) 0).run Try.prog w = .ok (.pointer (some ⟨g64, 0, none⟩)) w)) ?_; clear hF; intro a hF
  refine seq_yl hF (wn_t hF rfl rfl rfl rfl) rfl rfl (yl_load (fun _ h => h ▸ hS) hF rfl rfl 0 rfl ag3 rfl) ?_; clear hF; intro a hF
  refine seq_wp (wn_t hF rfl rfl rfl rfl) (wp_call (vs := [_]) hF rfl rfl rfl rfl cf50 (kind_any (r.f0) _) ?_)
  clear hF; rintro _ w ⟨rfl, hS1⟩ a hF
  replace hS := hS.callB hS1 rfl; clear hS1
  refine seq_yl hF (wn_none rfl) rfl rfl (pkF hF rfl rfl rfl) ?_; clear hF; intro a hF
  refine mvN hF rfl rfl rfl rfl rfl ?_; clear hF; intro a hF
  refine fr_split hF (fun hc85 hF => ?_) (fun hc85 hF => ?_)
  ·first | (replace hc85 := of_decide_eq_true hc85) | (replace hc85 := of_decide_eq_false (bnot_t hc85)) | (replace hc85 := bnot_t hc85) | skip
   refine seq_yl hF (wn_t hF rfl rfl rfl rfl) rfl rfl (yl_fieldAddr hF rfl rfl (fun w => by kernel_rfl : ∀ w, (Instr.fieldAt 37 (.pointer (some ⟨g64, 0, none⟩)) 1).run Try.prog w = .ok (.pointer (some ⟨g64, 1, none⟩)) w)) ?_; clear hF; intro a hF
   refine seq_yl hF (wn_t hF rfl rfl rfl rfl) rfl rfl (yl_load (fun _ h => h ▸ hS) hF rfl rfl 0 rfl ag3 rfl) ?_; clear hF; intro a hF
   refine seq_yl hF (wn_t hF rfl rfl rfl rfl) rfl rfl (yl_bin hF rfl rfl rfl rfl (fun _ => run_geq)) ?_; clear hF; intro a hF
   refine seq_yl hF (wn_none rfl) rfl rfl (pkT hF rfl rfl rfl) ?_; clear hF; intro a hF
   refine mvN hF rfl rfl rfl rfl rfl ?_; clear hF; intro a hF
   refine fr_split hF (fun hc86 hF => ?_) (fun hc86 hF => ?_)
   ·first | (replace hc86 := of_decide_eq_true hc86) | (replace hc86 := of_decide_eq_false (bnot_t hc86)) | (replace hc86 := bnot_t hc86) | skip
    refine seq_yl hF (wn_t hF rfl rfl rfl rfl) rfl rfl (yl_fieldAddr hF rfl rfl (fun w => by kernel_rfl : ∀ w, (Instr.fieldAt 37 (.pointer (some ⟨g64, 0, none⟩)) 1).run Try.prog w = .ok (.pointer (some ⟨g64, 1, none⟩)) w)) ?_; clear hF; intro a hF
    refine seq_yl hF (wn_t hF rfl rfl rfl rfl) rfl rfl (yl_load (fun _ h => h ▸ hS) hF rfl rfl 0 rfl ag3 rfl) ?_; clear hF; intro a hF
    refine seq_yl hF (wn_t hF rfl rfl rfl rfl) rfl rfl (yl_fieldAddr hF rfl rfl (fun w => by kernel_rfl : ∀ w, (Instr.fieldAt 37 (.pointer (some ⟨g64, 0, none⟩)) 2).run Try.prog w = .ok (.pointer (some ⟨g64, 2, none⟩)) w)) ?_; clear hF; intro a hF
    refine seq_yl hF (wn_t hF rfl rfl rfl rfl) rfl rfl (yl_load (fun _ h => h ▸ hS) hF rfl rfl 0 rfl ag3 rfl) ?_; clear hF; intro a hF
    refine seq_yl hF (wn_t hF rfl rfl rfl rfl) rfl rfl (yl_bin hF rfl rfl rfl rfl (fun _ => run_leq)) ?_; clear hF; intro a hF
    refine seq_yl hF (wn_none rfl) rfl rfl (pkT hF rfl rfl rfl) ?_; clear hF; intro a hF
    refine mvN hF rfl rfl rfl rfl rfl ?_; clear hF; intro a hF
    refine fr_split hF (fun hc87 hF => ?_) (fun hc87 hF => ?_)
    ·first | (replace hc87 := of_decide_eq_true hc87) | (replace hc87 := of_decide_eq_false (bnot_t hc87)) | (replace hc87 := bnot_t hc87) | skip
     refine seq_yl hF (wn_t hF rfl rfl rfl rfl) rfl rfl (yl_fieldAddr hF rfl rfl (fun w => by kernel_rfl : ∀ w, (Instr.fieldAt 37 (.pointer (some ⟨g64, 0, none⟩)) 2).run Try.prog w = .ok (.pointer (some ⟨g64, 2, none⟩)) w)) ?_; clear hF; intro a hF
     refine seq_yl hF (wn_t hF rfl rfl rfl rfl) rfl rfl (yl_load (fun _ h => h ▸ hS) hF rfl rfl 0 rfl ag3 rfl) ?_; clear hF; intro a hF
     refine seq_yl hF (wn_t hF rfl rfl rfl rfl) rfl rfl (yl_bin hF rfl rfl rfl rfl (fun _ => run_lss)) ?_; clear hF; intro a hF
     refine seq_yl hF (wn_none rfl) rfl rfl (pkT hF rfl rfl rfl) ?_; clear hF; intro a hF
     refine mvN hF rfl rfl rfl rfl rfl ?_; clear hF; intro a hF
     refine fr_split hF (fun hc88 hF => ?_) (fun hc88 hF => ?_)
     ·first | (replace hc88 := of_decide_eq_true hc88) | (replace hc88 := of_decide_eq_false (bnot_t hc88)) | (replace hc88 := bnot_t hc88) | skip
      refine seq_yl hF (wn_t hF rfl rfl rfl rfl) rfl rfl (yl_fieldAddr hF rfl rfl (fun w => by kernel_rfl : ∀ w, (Instr.fieldAt 37 (.pointer (some ⟨g64, 0, none⟩)) 3).run Try.prog w = .ok (.pointer (some ⟨g64, 3, none⟩)) w)) ?_; clear hF; intro a hF
      refine seq_yl hF (wn_t hF rfl rfl rfl rfl) rfl rfl (yl_load (fun _ h => h ▸ hS) hF rfl rfl 0 rfl ag3 rfl) ?_; clear hF; intro a hF
      refine seq_wp (wn_t hF rfl rfl rfl rfl) (wp_call (vs := [_]) hF rfl rfl rfl rfl cf51 (tick_any (r.f3) _) ?_)
      clear hF; rintro _ w ⟨rfl, hS1⟩ a hF
      replace hS := hS.callB hS1 rfl; clear hS1
      refine seq_yl hF (wn_none rfl) rfl rfl (pkT hF rfl rfl rfl) ?_; clear hF; intro a hF
      refine mvN hF rfl rfl rfl rfl rfl ?_; clear hF; intro a hF
      refine fr_split hF (fun hc89 hF => ?_) (fun hc89 hF => ?_)
      ·first | (replace hc89 := of_decide_eq_true hc89) | (replace hc89 := of_decide_eq_false (bnot_t hc89)) | (replace hc89 := bnot_t hc89) | skip
       refine seq_yl hF (wn_t hF rfl rfl rfl rfl) rfl rfl (yl_fieldAddr hF rfl rfl (fun w => by kernel_rfl : ∀ w, (Instr.fieldAt 37 (.pointer (some ⟨g64, 0, none⟩)) 4).run Try.prog w = .ok (.pointer (some ⟨g64, 4, none⟩)) w)) ?_; clear hF; intro a hF
       refine seq_yl hF (wn_t hF rfl rfl rfl rfl) rfl rfl (yl_load (fun _ h => h ▸ hS) hF rfl rfl 0 rfl ag3 rfl) ?_; clear hF; intro a hF
       refine seq_yl hF (wn_t hF rfl rfl rfl rfl) rfl rfl (yl_bin hF rfl rfl rfl rfl (fun _ => run_eql)) ?_; clear hF; intro a hF
       refine seq_yl hF (wn_t hF rfl rfl rfl rfl) rfl rfl (yl_move hF rfl rfl) ?_; clear hF; intro a hF
       refine fr_split hF (fun hc90 hF => ?_) (fun hc90 hF => ?_)
       ·first | (replace hc90 := of_decide_eq_true hc90) | (replace hc90 := of_decide_eq_false (bnot_t hc90)) | (replace hc90 := bnot_t hc90) | skip
        refine skF hF rfl rfl rfl rfl rfl rfl ?_; clear hF; intro a hF
        refine skF hF rfl rfl rfl rfl rfl rfl ?_; clear hF; intro a hF
        refine skF hF rfl rfl rfl rfl rfl rfl ?_; clear hF; intro a hF
        refine seq_yl hF (wn_t hF rfl rfl rfl rfl) rfl rfl (pkT hF rfl rfl rfl) ?_; clear hF; intro a hF
        refine seq_yl hF (wn_none rfl) rfl rfl (pkT hF rfl rfl rfl) ?_; clear hF; intro a hF
        refine mvN hF rfl rfl rfl rfl rfl ?_; clear hF; intro a hF
        refine seq_yl hF (wn_t hF rfl rfl rfl rfl) rfl rfl (yl_fieldAddr hF rfl rfl (fun w => by kernel_rfl : ∀ w, (Instr.fieldAt 37 (.pointer (some ⟨g64, 0, none⟩)) 5).run Try.prog w = .ok (.pointer (some ⟨g64, 5, none⟩)) w)) ?_; clear hF; intro a hF
        refine seq_yl hF (wn_t hF rfl rfl rfl rfl) rfl rfl (yl_fieldAddr hF rfl rfl (fun w => by kernel_rfl : ∀ w, (Instr.fieldAt 27 (.pointer (some ⟨g64, 5, none⟩)) 1).run Try.prog w = .ok (.pointer (some ⟨g64, 6, none⟩)) w)) ?_; clear hF; intro a hF
        refine seq_yl hF (wn_t hF rfl rfl rfl rfl) rfl rfl (yl_load (fun _ h => h ▸ hS) hF rfl rfl 0 rfl ag3 rfl) ?_; clear hF; intro a hF
        refine seq_wp (wn_t hF rfl rfl rfl rfl) (wp_call (vs := [_]) hF rfl rfl rfl rfl cf52 (sector_any (r.f6) _) ?_)
        clear hF; rintro _ w ⟨rfl, hS1⟩ a hF
        replace hS := hS.callB hS1 rfl; clear hS1
        refine seq_yl hF (wn_none rfl) rfl rfl (pkT hF rfl rfl rfl) ?_; clear hF; intro a hF
        refine mvN hF rfl rfl rfl rfl rfl ?_; clear hF; intro a hF
        refine fr_split hF (fun hc91 hF => ?_) (fun hc91 hF => ?_)
        ·first | (replace hc91 := of_decide_eq_true hc91) | (replace hc91 := of_decide_eq_false (bnot_t hc91)) | (replace hc91 := bnot_t hc91) | skip
         refine seq_yl hF (wn_t hF rfl rfl rfl rfl) rfl rfl (yl_fieldAddr hF rfl rfl (fun w => by kernel_rfl : ∀ w, (Instr.fieldAt 37 (.pointer (some ⟨g64, 0, none⟩)) 5).run Try.prog w = .ok (.pointer (some ⟨g64, 5, none⟩)) w)) ?_; clear hF; intro a hF
         refine seq_yl hF (wn_t hF rfl rfl rfl rfl) rfl rfl (yl_fieldAddr hF rfl rfl (fun w => by kernel_rfl : ∀ w, (Instr.fieldAt 27 (.pointer (some ⟨g64, 5, none⟩)) 3).run Try.prog w = .ok (.pointer (some ⟨g64, 8, none⟩)) w)) ?_; clear hF; intro a hF
         refine seq_yl hF (wn_t hF rfl rfl rfl rfl) rfl rfl (yl_load (fun _ h => h ▸ hS) hF rfl rfl 0 rfl ag3 rfl) ?_; clear hF; intro a hF
         refine seq_wp (wn_t hF rfl rfl rfl rfl) (wp_call (vs := [_]) hF rfl rfl rfl rfl cf51 (tick_any (r.f8) _) ?_)
         clear hF; rintro _ w ⟨rfl, hS1⟩ a hF
         replace hS := hS.callB hS1 rfl; clear hS1
         refine seq_yl hF (wn_none rfl) rfl rfl (pkT hF rfl rfl rfl) ?_; clear hF; intro a hF
         refine asN hF rfl rfl rfl rfl rfl ?_; clear hF; intro a hF
         refine wpList_nil ?_
         refine then_n ?_
         refine wp_ret ?_
         refine ret_t hF rfl rfl ?_
         exact ⟨_, rfl, congrArg Value.bool (dec_d (by constructor <;> intro _ <;> (first | (unfold validR at *; omega) | (have h9 := hfine.1 (by assumption); unfold validR at *; omega) | (have h9 : ¬ (r.f5 = 0 ∨ r.f5 = 10 ∨ r.f5 = 11 ∨ r.f5 = 13 ∨ r.f5 = 50) := (fun h => by have := hfine.2 h; simp_all); unfold validR at *; omega)))), (hS.sub [] (by decide) (by first | rfl | simp) (by simp))⟩
        ·first | (replace hc91 := of_decide_eq_false hc91) | (replace hc91 := of_decide_eq_true (bnot_f hc91)) | (replace hc91 := bnot_f hc91) | skip
         refine skF hF rfl rfl rfl rfl rfl rfl ?_; clear hF; intro a hF
         refine skF hF rfl rfl rfl rfl rfl rfl ?_; clear hF; intro a hF
         refine skF hF rfl rfl rfl rfl rfl rfl ?_; clear hF; intro a hF
         refine skF hF rfl rfl rfl rfl rfl rfl ?_; clear hF; intro a hF
         refine seq_yl hF (wn_none rfl) rfl rfl (pkF hF rfl rfl rfl) ?_; clear hF; intro a hF
         refine asN hF rfl rfl rfl rfl rfl ?_; clear hF; intro a hF
         refine wpList_nil ?_
         refine then_n ?_
         refine wp_ret ?_
         refine ret_t hF rfl rfl ?_
         exact ⟨_, rfl, congrArg Value.bool (dec_f (by (first | (unfold validR at *; omega) | (have h9 := hfine.1 (by assumption); unfold validR at *; omega) | (have h9 : ¬ (r.f5 = 0 ∨ r.f5 = 10 ∨ r.f5 = 11 ∨ r.f5 = 13 ∨ r.f5 = 50) := (fun h => by have := hfine.2 h; simp_all); unfold validR at *; omega)))), (hS.sub [] (by decide) (by first | rfl | simp) (by simp))⟩
       ·first | (replace hc90 := of_decide_eq_false hc90) | (replace hc90 := of_decide_eq_true (bnot_f hc90)) | (replace hc90 := bnot_f hc90) | skip
        refine seq_yl hF (wn_t hF rfl rfl rfl rfl) rfl rfl (yl_fieldAddr hF rfl rfl (fun w => by kernel_rfl : ∀ w, (Instr.fieldAt 37 (.pointer (some ⟨g64, 0, none⟩)) 4).run Try.prog w = .ok (.pointer (some ⟨g64, 4, none⟩)) w)) ?_; clear hF; intro a hF
        refine seq_yl hF (wn_t hF rfl rfl rfl rfl) rfl rfl (yl_load (fun _ h => h ▸ hS) hF rfl rfl 0 rfl ag3 rfl) ?_; clear hF; intro a hF
        refine seq_wp (wn_t hF rfl rfl rfl rfl) (wp_call (vs := [_]) hF rfl rfl rfl rfl cf51 (tick_any (r.f4) _) ?_)
        clear hF; rintro _ w ⟨rfl, hS1⟩ a hF
        replace hS := hS.callB hS1 rfl; clear hS1
        refine seq_yl hF (wn_t hF rfl rfl rfl rfl) rfl rfl (pkF hF rfl rfl rfl) ?_; clear hF; intro a hF
        refine seq_yl hF (wn_none rfl) rfl rfl (pkT hF rfl rfl rfl) ?_; clear hF; intro a hF
        refine mvN hF rfl rfl rfl rfl rfl ?_; clear hF; intro a hF
        refine fr_split hF (fun hc92 hF => ?_) (fun hc92 hF => ?_)
        ·first | (replace hc92 := of_decide_eq_true hc92) | (replace hc92 := of_decide_eq_false (bnot_t hc92)) | (replace hc92 := bnot_t hc92) | skip
         refine seq_yl hF (wn_t hF rfl rfl rfl rfl) rfl rfl (yl_fieldAddr hF rfl rfl (fun w => by kernel_rfl : ∀ w, (Instr.fieldAt 37 (.pointer (some ⟨g64, 0, none⟩)) 5).run Try.prog w = .ok (.pointer (some ⟨g64, 5, none⟩)) w)) ?_; clear hF; intro a hF
         refine seq_yl hF (wn_t hF rfl rfl rfl rfl) rfl rfl (yl_fieldAddr hF rfl rfl (fun w => by kernel_rfl : ∀ w, (Instr.fieldAt 27 (.pointer (some ⟨g64, 5, none⟩)) 1).run Try.prog w = .ok (.pointer (some ⟨g64, 6, none⟩)) w)) ?_; clear hF; intro a hF
         refine seq_yl hF (wn_t hF rfl rfl rfl rfl) rfl rfl (yl_load (fun _ h => h ▸ hS) hF rfl rfl 0 rfl ag3 rfl) ?_; clear hF; intro a hF
         refine seq_wp (wn_t hF rfl rfl rfl rfl) (wp_call (vs := [_]) hF rfl rfl rfl rfl cf52 (sector_any (r.f6) _) ?_)
         clear hF; rintro _ w ⟨rfl, hS1⟩ a hF
         replace hS := hS.callB hS1 rfl; clear hS1
         refine seq_yl hF (wn_none rfl) rfl rfl (pkT hF rfl rfl rfl) ?_; clear hF; intro a hF
         refine mvN hF rfl rfl rfl rfl rfl ?_; clear hF; intro a hF
         refine fr_split hF (fun hc93 hF => ?_) (fun hc93 hF => ?_)
         ·first | (replace hc93 := of_decide_eq_true hc93) | (replace hc93 := of_decide_eq_false (bnot_t hc93)) | (replace hc93 := bnot_t hc93) | skip
          refine seq_yl hF (wn_t hF rfl rfl rfl rfl) rfl rfl (yl_fieldAddr hF rfl rfl (fun w => by kernel_rfl : ∀ w, (Instr.fieldAt 37 (.pointer (some ⟨g64, 0, none⟩)) 5).run Try.prog w = .ok (.pointer (some ⟨g64, 5, none⟩)) w)) ?_; clear hF; intro a hF
          refine seq_yl hF (wn_t hF rfl rfl rfl rfl) rfl rfl (yl_fieldAddr hF rfl rfl (fun w => by kernel_rfl : ∀ w, (Instr.fieldAt 27 (.pointer (some ⟨g64, 5, none⟩)) 3).run Try.prog w = .ok (.pointer (some ⟨g64, 8, none⟩)) w)) ?_; clear hF; intro a hF
          refine seq_yl hF (wn_t hF rfl rfl rfl rfl) rfl rfl (yl_load (fun _ h => h ▸ hS) hF rfl rfl 0 rfl ag3 rfl) ?_; clear hF; intro a hF
          refine seq_wp (wn_t hF rfl rfl rfl rfl) (wp_call (vs := [_]) hF rfl rfl rfl rfl cf51 (tick_any (r.f8) _) ?_)
          clear hF; rintro _ w ⟨rfl, hS1⟩ a hF
          replace hS := hS.callB hS1 rfl; clear hS1
          refine seq_yl hF (wn_none rfl) rfl rfl (pkT hF rfl rfl rfl) ?_; clear hF; intro a hF
          refine asN hF rfl rfl rfl rfl rfl ?_; clear hF; intro a hF
          refine wpList_nil ?_
          refine then_n ?_
          refine wp_ret ?_
          refine ret_t hF rfl rfl ?_
          exact ⟨_, rfl, congrArg Value.bool (dec_d (by constructor <;> intro _ <;> (first | (unfold validR at *; omega) | (have h9 := hfine.1 (by assumption); unfold validR at *; omega) | (have h9 : ¬ (r.f5 = 0 ∨ r.f5 = 10 ∨ r.f5 = 11 ∨ r.f5 = 13 ∨ r.f5 = 50) := (fun h => by have := hfine.2 h; simp_all); unfold validR at *; omega)))), (hS.sub [] (by decide) (by first | rfl | simp) (by simp))⟩
         ·first | (replace hc93 := of_decide_eq_false hc93) | (replace hc93 := of_decide_eq_true (bnot_f hc93)) | (replace hc93 := bnot_f hc93) | skip
          refine skF hF rfl rfl rfl rfl rfl rfl ?_; clear hF; intro a hF
          refine skF hF rfl rfl rfl rfl rfl rfl ?_; clear hF; intro a hF
          refine skF hF rfl rfl rfl rfl rfl rfl ?_; clear hF; intro a hF
          refine skF hF rfl rfl rfl rfl rfl rfl ?_; clear hF; intro a hF
          refine seq_yl hF (wn_none rfl) rfl rfl (pkF hF rfl rfl rfl) ?_; clear hF; intro a hF
          refine asN hF rfl rfl rfl rfl rfl ?_; clear hF; intro a hF
          refine wpList_nil ?_
          refine then_n ?_
          refine wp_ret ?_
          refine ret_t hF rfl rfl ?_
          exact ⟨_, rfl, congrArg Value.bool (dec_f (by (first | (unfold validR at *; omega) | (have h9 := hfine.1 (by assumption); unfold validR at *; omega) | (have h9 : ¬ (r.f5 = 0 ∨ r.f5 = 10 ∨ r.f5 = 11 ∨ r.f5 = 13 ∨ r.f5 = 50) := (fun h => by have := hfine.2 h; simp_all); unfold validR at *; omega)))), (hS.sub [] (by decide) (by first | rfl | simp) (by simp))⟩
        ·first | (replace hc92 := of_decide_eq_false hc92) | (replace hc92 := of_decide_eq_true (bnot_f hc92)) | (replace hc92 := bnot_f hc92) | skip
         refine skF hF rfl rfl rfl rfl rfl rfl ?_; clear hF; intro a hF
         refine skF hF rfl rfl rfl rfl rfl rfl ?_; clear hF; intro a hF
         refine skF hF rfl rfl rfl rfl rfl rfl ?_; clear hF; intro a hF
         refine skF hF rfl rfl rfl rfl rfl rfl ?_; clear hF; intro a hF
         refine seq_yl hF (wn_none rfl) rfl rfl (pkF hF rfl rfl rfl) ?_; clear hF; intro a hF
         refine mvN hF rfl rfl rfl rfl rfl ?_; clear hF; intro a hF
         refine skF hF rfl rfl rfl rfl rfl rfl ?_; clear hF; intro a hF
         refine skF hF rfl rfl rfl rfl rfl rfl ?_; clear hF; intro a hF
         refine skF hF rfl rfl rfl rfl rfl rfl ?_; clear hF; intro a hF
         refine skF hF rfl rfl rfl rfl rfl rfl ?_; clear hF; intro a hF
         refine seq_yl hF (wn_none rfl) rfl rfl (pkF hF rfl rfl rfl) ?_; clear hF; intro a hF
         refine asN hF rfl rfl rfl rfl rfl ?_; clear hF; intro a hF
         refine wpList_nil ?_
         refine then_n ?_
         refine wp_ret ?_
         refine ret_t hF rfl rfl ?_
         exact ⟨_, rfl, congrArg Value.bool (dec_f (by (first | (unfold validR at *; omega) | (have h9 := hfine.1 (by assumption); unfold validR at *; omega) | (have h9 : ¬ (r.f5 = 0 ∨ r.f5 = 10 ∨ r.f5 = 11 ∨ r.f5 = 13 ∨ r.f5 = 50) := (fun h => by have := hfine.2 h; simp_all); unfold validR at *; omega)))), (hS.sub [] (by decide) (by first | rfl | simp) (by simp))⟩
      ·first | (replace hc89 := of_decide_eq_false hc89) | (replace hc89 := of_decide_eq_true (bnot_f hc89)) | (replace hc89 := bnot_f hc89) | skip
       refine skF hF rfl rfl rfl rfl rfl rfl ?_; clear hF; intro a hF
       refine skF hF rfl rfl rfl rfl rfl rfl ?_; clear hF; intro a hF
       refine skF hF rfl rfl rfl rfl rfl rfl ?_; clear hF; intro a hF
       refine skF hF rfl rfl rfl rfl rfl rfl ?_; clear hF; intro a hF
       refine seq_skip hF (wn_u hF rfl rfl rfl rfl) rfl rfl ?_; clear hF; intro a hF
       refine seq_skip hF (wn_u hF rfl rfl rfl rfl) rfl rfl ?_; clear hF; intro a hF
       refine seq_skip hF (wn_u hF rfl rfl rfl rfl) rfl rfl ?_; clear hF; intro a hF
       refine skF hF rfl rfl rfl rfl rfl rfl ?_; clear hF; intro a hF
       refine seq_yl hF (wn_none rfl) rfl rfl (pkF hF rfl rfl rfl) ?_; clear hF; intro a hF
       refine mvN hF rfl rfl rfl rfl rfl ?_; clear hF; intro a hF
       refine skF hF rfl rfl rfl rfl rfl rfl ?_; clear hF; intro a hF
       refine skF hF rfl rfl rfl rfl rfl rfl ?_; clear hF; intro a hF
       refine skF hF rfl rfl rfl rfl rfl rfl ?_; clear hF; intro a hF
       refine skF hF rfl rfl rfl rfl rfl rfl ?_; clear hF; intro a hF
       refine seq_yl hF (wn_none rfl) rfl rfl (pkF hF rfl rfl rfl) ?_; clear hF; intro a hF
       refine mvN hF rfl rfl rfl rfl rfl ?_; clear hF; intro a hF
       refine skF hF rfl rfl rfl rfl rfl rfl ?_; clear hF; intro a hF
       refine skF hF rfl rfl rfl rfl rfl rfl ?_; clear hF; intro a hF
       refine skF hF rfl rfl rfl rfl rfl rfl ?_; clear hF; intro a hF
       refine skF hF rfl rfl rfl rfl rfl rfl ?_; clear hF; intro a hF
       refine seq_yl hF (wn_none rfl) rfl rfl (pkF hF rfl rfl rfl) ?_; clear hF; intro a hF
       refine asN hF rfl rfl rfl rfl rfl ?_; clear hF; intro a hF
       refine wpList_nil ?_
       refine then_n ?_
       refine wp_ret ?_
       refine ret_t hF rfl rfl ?_
       exact ⟨_, rfl, congrArg Value.bool (dec_f (by (first | (unfold validR at *; omega) | (have h9 := hfine.1 (by assumption); unfold validR at *; omega) | (have h9 : ¬ (r.f5 = 0 ∨ r.f5 = 10 ∨ r.f5 = 11 ∨ r.f5 = 13 ∨ r.f5 = 50) := (fun h => by have := hfine.2 h; simp_all); unfold validR at *; omega)))), (hS.sub [] (by decide) (by first | rfl | simp) (by simp))⟩
     ·first | (replace hc88 := of_decide_eq_false hc88) | (replace hc88 := of_decide_eq_true (bnot_f hc88)) | (replace hc88 := bnot_f hc88) | skip
      refine skF hF rfl rfl rfl rfl rfl rfl ?_; clear hF; intro a hF
      refine skF hF rfl rfl rfl rfl rfl rfl ?_; clear hF; intro a hF
      refine skF hF rfl rfl rfl rfl rfl rfl ?_; clear hF; intro a hF
      refine seq_yl hF (wn_none rfl) rfl rfl (pkF hF rfl rfl rfl) ?_; clear hF; intro a hF
      refine mvN hF rfl rfl rfl rfl rfl ?_; clear hF; intro a hF
      refine skF hF rfl rfl rfl rfl rfl rfl ?_; clear hF; intro a hF
      refine skF hF rfl rfl rfl rfl rfl rfl ?_; clear hF; intro a hF
      refine skF hF rfl rfl rfl rfl rfl rfl ?_; clear hF; intro a hF
      refine skF hF rfl rfl rfl rfl rfl rfl ?_; clear hF; intro a hF
      refine seq_skip hF (wn_u hF rfl rfl rfl rfl) rfl rfl ?_; clear hF; intro a hF
      refine seq_skip hF (wn_u hF rfl rfl rfl rfl) rfl rfl ?_; clear hF; intro a hF
      refine seq_skip hF (wn_u hF rfl rfl rfl rfl) rfl rfl ?_; clear hF; intro a hF
      refine skF hF rfl rfl rfl rfl rfl rfl ?_; clear hF; intro a hF
      refine seq_yl hF (wn_none rfl) rfl rfl (pkF hF rfl rfl rfl) ?_; clear hF; intro a hF
      refine mvN hF rfl rfl rfl rfl rfl ?_; clear hF; intro a hF
      refine skF hF rfl rfl rfl rfl rfl rfl ?_; clear hF; intro a hF
      refine skF hF rfl rfl rfl rfl rfl rfl ?_; clear hF; intro a hF
      refine skF hF rfl rfl rfl rfl rfl rfl ?_; clear hF; intro a hF
      refine skF hF rfl rfl rfl rfl rfl rfl ?_; clear hF; intro a hF
      refine seq_yl hF (wn_none rfl) rfl rfl (pkF hF rfl rfl rfl) ?_; clear hF; intro a hF
      refine mvN hF rfl rfl rfl rfl rfl ?_; clear hF; intro a hF
      refine skF hF rfl rfl rfl rfl rfl rfl ?_; clear hF; intro a hF
      refine skF hF rfl rfl rfl rfl rfl rfl ?_; clear hF; intro a hF
      refine skF hF rfl rfl rfl rfl rfl rfl ?_; clear hF; intro a hF
      refine skF hF rfl rfl rfl rfl rfl rfl ?_; clear hF; intro a hF
      refine seq_yl hF (wn_none rfl) rfl rfl (pkF hF rfl rfl rfl) ?_; clear hF; intro a hF
      refine asN hF rfl rfl rfl rfl rfl ?_; clear hF; intro a hF
      refine wpList_nil ?_
      refine then_n ?_
      refine wp_ret ?_
      refine ret_t hF rfl rfl ?_
      exact ⟨_, rfl, congrArg Value.bool (dec_f (by (first | (unfold validR at *; omega) | (have h9 := hfine.1 (by assumption); unfold validR at *; omega) | (have h9 : ¬ (r.f5 = 0 ∨ r.f5 = 10 ∨ r.f5 = 11 ∨ r.f5 = 13 ∨ r.f5 = 50) := (fun h => by have := hfine.2 h; simp_all); unfold validR at *; omega)))), (hS.sub [] (by decide) (by first | rfl | simp) (by simp))⟩
    ·first | (replace hc87 := of_decide_eq_false hc87) | (replace hc87 := of_decide_eq_true (bnot_f hc87)) | (replace hc87 := bnot_f hc87) | skip
     refine skF hF rfl rfl rfl rfl rfl rfl ?_; clear hF; intro a hF
     refine skF hF rfl rfl rfl rfl rfl rfl ?_; clear hF; intro a hF
     refine skF hF rfl rfl rfl rfl rfl rfl ?_; clear hF; intro a hF
     refine seq_yl hF (wn_none rfl) rfl rfl (pkF hF rfl rfl rfl) ?_; clear hF; intro a hF
     refine mvN hF rfl rfl rfl rfl rfl ?_; clear hF; intro a hF
     refine skF hF rfl rfl rfl rfl rfl rfl ?_; clear hF; intro a hF
     refine skF hF rfl rfl rfl rfl rfl rfl ?_; clear hF; intro a hF
     refine skF hF rfl rfl rfl rfl rfl rfl ?_; clear hF; intro a hF
     refine seq_yl hF (wn_none rfl) rfl rfl (pkF hF rfl rfl rfl) ?_; clear hF; intro a hF
     refine mvN hF rfl rfl rfl rfl rfl ?_; clear hF; intro a hF
     refine skF hF rfl rfl rfl rfl rfl rfl ?_; clear hF; intro a hF
     refine skF hF rfl rfl rfl rfl rfl rfl ?_; clear hF; intro a hF
     refine skF hF rfl rfl rfl rfl rfl rfl ?_; clear hF; intro a hF
     refine skF hF rfl rfl rfl rfl rfl rfl ?_; clear hF; intro a hF
     refine seq_skip hF (wn_u hF rfl rfl rfl rfl) rfl rfl ?_; clear hF; intro a hF
     refine seq_skip hF (wn_u hF rfl rfl rfl rfl) rfl rfl ?_; clear hF; intro a hF
     refine seq_skip hF (wn_u hF rfl rfl rfl rfl) rfl rfl ?_; clear hF; intro a hF
     refine skF hF rfl rfl rfl rfl rfl rfl ?_; clear hF; intro a hF
     refine seq_yl hF (wn_none rfl) rfl rfl (pkF hF rfl rfl rfl) ?_; clear hF; intro a hF
     refine mvN hF rfl rfl rfl rfl rfl ?_; clear hF; intro a hF
     refine skF hF rfl rfl rfl rfl rfl rfl ?_; clear hF; intro a hF
     refine skF hF rfl rfl rfl rfl rfl rfl ?_; clear hF; intro a hF
     refine skF hF rfl rfl rfl rfl rfl rfl ?_; clear hF; intro a hF
     refine skF hF rfl rfl rfl rfl rfl rfl ?_; clear hF; intro a hF
     refine seq_yl hF (wn_none rfl) rfl rfl (pkF hF rfl rfl rfl) ?_; clear hF; intro a hF
     refine mvN hF rfl rfl rfl rfl rfl ?_; clear hF; intro a hF
     refine skF hF rfl rfl rfl rfl rfl rfl ?_; clear hF; intro a hF
     refine skF hF rfl rfl rfl rfl rfl rfl ?_; clear hF; intro a hF
     refine skF hF rfl rfl rfl rfl rfl rfl ?_; clear hF; intro a hF
     refine skF hF rfl rfl rfl rfl rfl rfl ?_; clear hF; intro a hF
     refine seq_yl hF (wn_none rfl) rfl rfl (pkF hF rfl rfl rfl) ?_; clear hF; intro a hF
     refine asN hF rfl rfl rfl rfl rfl ?_; clear hF; intro a hF
     refine wpList_nil ?_
     refine then_n ?_
     refine wp_ret ?_
     refine ret_t hF rfl rfl ?_
     exact ⟨_, rfl, congrArg Value.bool (dec_f (by (first | (unfold validR at *; omega) | (have h9 := hfine.1 (by assumption); unfold validR at *; omega) | (have h9 : ¬ (r.f5 = 0 ∨ r.f5 = 10 ∨ r.f5 = 11 ∨ r.f5 = 13 ∨ r.f5 = 50) := (fun h => by have := hfine.2 h; simp_all); unfold validR at *; omega)))), (hS.sub [] (by decide) (by first | rfl | simp) (by simp))⟩
   ·first | (replace hc86 := of_decide_eq_false hc86) | (replace hc86 := of_decide_eq_true (bnot_f hc86)) | (replace hc86 := bnot_f hc86) | skip
    refine skF hF rfl rfl rfl rfl rfl rfl ?_; clear hF; intro a hF
    refine skF hF rfl rfl rfl rfl rfl rfl ?_; clear hF; intro a hF
    refine skF hF rfl rfl rfl rfl rfl rfl ?_; clear hF; intro a hF
    refine skF hF rfl rfl rfl rfl rfl rfl ?_; clear hF; intro a hF
    refine skF hF rfl rfl rfl rfl rfl rfl ?_; clear hF; intro a hF
    refine seq_yl hF (wn_none rfl) rfl rfl (pkF hF rfl rfl rfl) ?_; clear hF; intro a hF
    refine mvN hF rfl rfl rfl rfl rfl ?_; clear hF; intro a hF
    refine skF hF rfl rfl rfl rfl rfl rfl ?_; clear hF; intro a hF
    refine skF hF rfl rfl rfl rfl rfl rfl ?_; clear hF; intro a hF
    refine skF hF rfl rfl rfl rfl rfl rfl ?_; clear hF; intro a hF
    refine seq_yl hF (wn_none rfl) rfl rfl (pkF hF rfl rfl rfl) ?_; clear hF; intro a hF
    refine mvN hF rfl rfl rfl rfl rfl ?_; clear hF; intro a hF
    refine skF hF rfl rfl rfl rfl rfl rfl ?_; clear hF; intro a hF
    refine skF hF rfl rfl rfl rfl rfl rfl ?_; clear hF; intro a hF
    refine skF hF rfl rfl rfl rfl rfl rfl ?_; clear hF; intro a hF
    refine seq_yl hF (wn_none rfl) rfl rfl (pkF hF rfl rfl rfl) ?_; clear hF; intro a hF
    refine mvN hF rfl rfl rfl rfl rfl ?_; clear hF; intro a hF
    refine skF hF rfl rfl rfl rfl rfl rfl ?_; clear hF; intro a hF
    refine skF hF rfl rfl rfl rfl rfl rfl ?_; clear hF; intro a hF
    refine skF hF rfl rfl rfl rfl rfl rfl ?_; clear hF; intro a hF
    refine skF hF rfl rfl rfl rfl rfl rfl ?_; clear hF; intro a hF
    refine seq_skip hF (wn_u hF rfl rfl rfl rfl) rfl rfl ?_; clear hF; intro a hF
    refine seq_skip hF (wn_u hF rfl rfl rfl rfl) rfl rfl ?_; clear hF; intro a hF
    refine seq_skip hF (wn_u hF rfl rfl rfl rfl) rfl rfl ?_; clear hF; intro a hF
    refine skF hF rfl rfl rfl rfl rfl rfl ?_; clear hF; intro a hF
    refine seq_yl hF (wn_none rfl) rfl rfl (pkF hF rfl rfl rfl) ?_; clear hF; intro a hF
    refine mvN hF rfl rfl rfl rfl rfl ?_; clear hF; intro a hF
    refine skF hF rfl rfl rfl rfl rfl rfl ?_; clear hF; intro a hF
    refine skF hF rfl rfl rfl rfl rfl rfl ?_; clear hF; intro a hF
    refine skF hF rfl rfl rfl rfl rfl rfl ?_; clear hF; intro a hF
    refine skF hF rfl rfl rfl rfl rfl rfl ?_; clear hF; intro a hF
    refine seq_yl hF (wn_none rfl) rfl rfl (pkF hF rfl rfl rfl) ?_; clear hF; intro a hF
    refine mvN hF rfl rfl rfl rfl rfl ?_; clear hF; intro a hF
    refine skF hF rfl rfl rfl rfl rfl rfl ?_; clear hF; intro a hF
    refine skF hF rfl rfl rfl rfl rfl rfl ?_; clear hF; intro a hF
    refine skF hF rfl rfl rfl rfl rfl rfl ?_; clear hF; intro a hF
    refine skF hF rfl rfl rfl rfl rfl rfl ?_; clear hF; intro a hF
    refine seq_yl hF (wn_none rfl) rfl rfl (pkF hF rfl rfl rfl) ?_; clear hF; intro a hF
    refine asN hF rfl rfl rfl rfl rfl ?_; clear hF; intro a hF
    refine wpList_nil ?_
    refine then_n ?_
    refine wp_ret ?_
    refine ret_t hF rfl rfl ?_
    exact ⟨_, rfl, congrArg Value.bool (dec_f (by (first | (unfold validR at *; omega) | (have h9 := hfine.1 (by assumption); unfold validR at *; omega) | (have h9 : ¬ (r.f5 = 0 ∨ r.f5 = 10 ∨ r.f5 = 11 ∨ r.f5 = 13 ∨ r.f5 = 50) := (fun h => by have := hfine.2 h; simp_all); unfold validR at *; omega)))), (hS.sub [] (by decide) (by first | rfl | simp) (by simp))⟩
  ·first | (replace hc85 := of_decide_eq_false hc85) | (replace hc85 := of_decide_eq_true (bnot_f hc85)) | (replace hc85 := bnot_f hc85) | skip
   refine skF hF rfl rfl rfl rfl rfl rfl ?_; clear hF; intro a hF
   refine skF hF rfl rfl rfl rfl rfl rfl ?_; clear hF; intro a hF
   refine skF hF rfl rfl rfl rfl rfl rfl ?_; clear hF; intro a hF
   refine seq_yl hF (wn_none rfl) rfl rfl (pkF hF rfl rfl rfl) ?_; clear hF; intro a hF
   refine mvN hF rfl rfl rfl rfl rfl ?_; clear hF; intro a hF
   refine skF hF rfl rfl rfl rfl rfl rfl ?_; clear hF; intro a hF
   refine skF hF rfl rfl rfl rfl rfl rfl ?_; clear hF; intro a hF
   refine skF hF rfl rfl rfl rfl rfl rfl ?_; clear hF; intro a hF
   refine skF hF rfl rfl rfl rfl rfl rfl ?_; clear hF; intro a hF
   refine skF hF rfl rfl rfl rfl rfl rfl ?_; clear hF; intro a hF
   refine seq_yl hF (wn_none rfl) rfl rfl (pkF hF rfl rfl rfl) ?_; clear hF; intro a hF
   refine mvN hF rfl rfl rfl rfl rfl ?_; clear hF; intro a hF
   refine skF hF rfl rfl rfl rfl rfl rfl ?_; clear hF; intro a hF
   refine skF hF rfl rfl rfl rfl rfl rfl ?_; clear hF; intro a hF
   refine skF hF rfl rfl rfl rfl rfl rfl ?_; clear hF; intro a hF
   refine seq_yl hF (wn_none rfl) rfl rfl (pkF hF rfl rfl rfl) ?_; clear hF; intro a hF
   refine mvN hF rfl rfl rfl rfl rfl ?_; clear hF; intro a hF
   refine skF hF rfl rfl rfl rfl rfl rfl ?_; clear hF; intro a hF
   refine skF hF rfl rfl rfl rfl rfl rfl ?_; clear hF; intro a hF
   refine skF hF rfl rfl rfl rfl rfl rfl ?_; clear hF; intro a hF
   refine seq_yl hF (wn_none rfl) rfl rfl (pkF hF rfl rfl rfl) ?_; clear hF; intro a hF
   refine mvN hF rfl rfl rfl rfl rfl ?_; clear hF; intro a hF
   refine skF hF rfl rfl rfl rfl rfl rfl ?_; clear hF; intro a hF
   refine skF hF rfl rfl rfl rfl rfl rfl ?_; clear hF; intro a hF
   refine skF hF rfl rfl rfl rfl rfl rfl ?_; clear hF; intro a hF
   refine skF hF rfl rfl rfl rfl rfl rfl ?_; clear hF; intro a hF
   refine seq_skip hF (wn_u hF rfl rfl rfl rfl) rfl rfl ?_; clear hF; intro a hF
   refine seq_skip hF (wn_u hF rfl rfl rfl rfl) rfl rfl ?_; clear hF; intro a hF
   refine seq_skip hF (wn_u hF rfl rfl rfl rfl) rfl rfl ?_; clear hF; intro a hF
   refine skF hF rfl rfl rfl rfl rfl rfl ?_; clear hF; intro a hF
   refine seq_yl hF (wn_none rfl) rfl rfl (pkF hF rfl rfl rfl) ?_; clear hF; intro a hF
   refine mvN hF rfl rfl rfl rfl rfl ?_; clear hF; intro a hF
   refine skF hF rfl rfl rfl rfl rfl rfl ?_; clear hF; intro a hF
   refine skF hF rfl rfl rfl rfl rfl rfl ?_; clear hF; intro a hF
   refine skF hF rfl rfl rfl rfl rfl rfl ?_; clear hF; intro a hF
   refine skF hF rfl rfl rfl rfl rfl rfl ?_; clear hF; intro a hF
   refine seq_yl hF (wn_none rfl) rfl rfl (pkF hF rfl rfl rfl) ?_; clear hF; intro a hF
   refine mvN hF rfl rfl rfl rfl rfl ?_; clear hF; intro a hF
   refine skF hF rfl rfl rfl rfl rfl rfl ?_; clear hF; intro a hF
   refine skF hF rfl rfl rfl rfl rfl rfl ?_; clear hF; intro a hF
   refine skF hF rfl rfl rfl rfl rfl rfl ?_; clear hF; intro a hF
   refine skF hF rfl rfl rfl rfl rfl rfl ?_; clear hF; intro a hF
   refine seq_yl hF (wn_none rfl) rfl rfl (pkF hF rfl rfl rfl) ?_; clear hF; intro a hF
   refine asN hF rfl rfl rfl rfl rfl ?_; clear hF; intro a hF
   refine wpList_nil ?_
   refine then_n ?_
   refine wp_ret ?_
   refine ret_t hF rfl rfl ?_
   exact ⟨_, rfl, congrArg Value.bool (dec_f (by (first | (unfold validR at *; omega) | (have h9 := hfine.1 (by assumption); unfold validR at *; omega) | (have h9 : ¬ (r.f5 = 0 ∨ r.f5 = 10 ∨ r.f5 = 11 ∨ r.f5 = 13 ∨ r.f5 = 50) := (fun h => by have := hfine.2 h; simp_all); unfold validR at *; omega)))), (hS.sub [] (by decide) (by first | rfl | simp) (by simp))⟩

end Go.Proofs.Ytkejcnhfbfgphaa

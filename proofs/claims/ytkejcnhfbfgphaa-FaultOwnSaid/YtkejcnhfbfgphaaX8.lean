/- walks, printed by wip/gen -/
import Derived.Test.YtkejcnhfbfgphaaX4
namespace Go.Proofs.Ytkejcnhfbfgphaa
open Go.RowKit
set_option linter.unusedVariables false
set_option linter.unusedSimpArgs false

set_option maxHeartbeats 1000000 in
set_option maxRecDepth 100000 in
theorem settle_any (w0 w : World) (Ht : List Chunk) (gc : Nat) (st : ByteArray) (Alv : Option Addr) (clv : Nat) (L : List E67) (rm : Int) (s : Int) (x : ByteArray) (kf : FuncId) (caps : List Value) (old : Int → Bool) (hcf : ∀ (args : Array Value) (w : World), (callFunc kf args).run Try.prog w = .ok (.enter kf args) w) (hp : PredT Try.prog w0 Ht kf caps (fun i : Int => .int .i64 i) old) (hS : Sat w0 w (.box gc 93 #[.string st, .slice Alv L.length clv, .int .i64 rm] :: .ro 2 (.slice Alv L.length clv) L.length (cells enc67 L) :: Ht)) (hw : okW (st.size : Int) s (x.size : Int)) (hL : L.length ≤ 1000000) :
  Fn Try.prog 79 #[.pointer (some ⟨gc, 0, none⟩), .int .i64 s, .string x, .func (.func kf) #[] caps.toArray] w (fun v w' => ∃ lv1, v = .tuple #[] ∧ Sat w0 w' (.box gc 93 #[.string (wim st s x), lv1, .int .i64 rm] :: .row 67 2 lv1 ((selL s old 0 L)).length (cells enc67 ((selL s old 0 L))) :: Ht)) := by
 have hwx := hw
 simp only [okW, okS, okI] at hwx
 refine c_enterS (N := 57) (l := [_, _, _, _]) Try.func79 rfl rfl (fun a hF => ?_)
 refine c_seq ?_
 refine c_region ?_
 refine mvN hF rfl rfl rfl rfl rfl ?_; clear hF; intro a hF
 refine mvN hF rfl rfl rfl rfl rfl ?_; clear hF; intro a hF
 refine seq_yl hF (wn_none rfl) rfl rfl (yl_nilCheck hF rfl rfl) ?_; clear hF; intro a hF
 refine seq_yl hF (wn_none rfl) rfl rfl (yl_fieldAddr hF rfl rfl (fun w => by kernel_rfl : ∀ w, (Instr.fieldAt 93 (.pointer (some ⟨gc, 0, none⟩)) 0).run Try.prog w = .ok (.pointer (some ⟨gc, 0, none⟩)) w)) ?_; clear hF; intro a hF
 refine seq_yl hF (wn_none rfl) rfl rfl (yl_fieldAddr hF rfl rfl (fun w => by kernel_rfl : ∀ w, (Instr.fieldAt 43 (.pointer (some ⟨gc, 0, none⟩)) 0).run Try.prog w = .ok (.pointer (some ⟨gc, 0, none⟩)) w)) ?_; clear hF; intro a hF
 refine seq_yl hF (wn_none rfl) rfl rfl (yl_load (fun _ h => h ▸ hS) hF rfl rfl 0 rfl ag9 rfl) ?_; clear hF; intro a hF
 refine mvN hF rfl rfl rfl rfl rfl ?_; clear hF; intro a hF
 refine mvN hF rfl rfl rfl rfl rfl ?_; clear hF; intro a hF
 refine seq_wp (wn_none rfl) (wp_call (vs := [_, _, _]) hF rfl rfl rfl rfl cf85 (imWrite_any st (s) x _ (by omega) (by omega)) ?_)
 clear hF; rintro _ w ⟨xs586, e587, rfl, hsp588, hS1⟩ a hF
 replace hS := hS.callB hS1 rfl; clear hS1
 have hsp588z := fun h9 : okW ((st).size : Int) (s) ((x).size : Int) => wim_size (im := st) (s := (s)) (x := x) h9
 obtain ⟨hk589, rfl, rfl⟩ := hsp588.resolve_right (fun h9 => h9.1 (hw))
 try (have hk589x := hk589; simp only [okS, okI, okW, okP] at hk589x)
 refine mvN hF rfl rfl rfl rfl rfl ?_; clear hF; intro a hF
 refine seq_yl hF (wn_none rfl) rfl rfl (yl_extract hF rfl rfl rfl) ?_; clear hF; intro a hF
 refine seq_yl hF (wn_none rfl) rfl rfl (yl_extract hF rfl rfl rfl) ?_; clear hF; intro a hF
 refine seq_yl hF (wn_none rfl) rfl rfl (yl_nilCheck hF rfl rfl) ?_; clear hF; intro a hF
 refine seq_yl hF (wn_none rfl) rfl rfl (yl_fieldAddr hF rfl rfl (fun w => by kernel_rfl : ∀ w, (Instr.fieldAt 93 (.pointer (some ⟨gc, 0, none⟩)) 0).run Try.prog w = .ok (.pointer (some ⟨gc, 0, none⟩)) w)) ?_; clear hF; intro a hF
 refine seq_yl hF (wn_none rfl) rfl rfl (yl_fieldAddr hF rfl rfl (fun w => by kernel_rfl : ∀ w, (Instr.fieldAt 43 (.pointer (some ⟨gc, 0, none⟩)) 0).run Try.prog w = .ok (.pointer (some ⟨gc, 0, none⟩)) w)) ?_; clear hF; intro a hF
 refine seq_wp (wn_none rfl) (wp_store (cs' := #[_, _, _]) hF hS rfl rfl rfl rfl 0 rfl sz9 (by simp [Value.cells, Value.oneCell']) (by simp [Value.cells]) rfl ?_)
 clear hF hS; intro a w hF hS
 refine wpList_nil ?_
 refine then_n ?_
 refine c_seq ?_
 refine c_region ?_
 refine asN hF rfl rfl rfl rfl rfl ?_; clear hF; intro a hF
 refine wpList_nil ?_
 refine then_n ?_
 refine c_seq ?_
 refine c_seq ?_
 refine c_region ?_
 refine mvN hF rfl rfl rfl rfl rfl ?_; clear hF; intro a hF
 refine seq_yl hF (wn_none rfl) rfl rfl (yl_nilCheck hF rfl rfl) ?_; clear hF; intro a hF
 refine seq_yl hF (wn_none rfl) rfl rfl (yl_fieldAddr hF rfl rfl (fun w => by kernel_rfl : ∀ w, (Instr.fieldAt 93 (.pointer (some ⟨gc, 0, none⟩)) 0).run Try.prog w = .ok (.pointer (some ⟨gc, 0, none⟩)) w)) ?_; clear hF; intro a hF
 refine seq_yl hF (wn_none rfl) rfl rfl (yl_fieldAddr hF rfl rfl (fun w => by kernel_rfl : ∀ w, (Instr.fieldAt 43 (.pointer (some ⟨gc, 0, none⟩)) 1).run Try.prog w = .ok (.pointer (some ⟨gc, 1, none⟩)) w)) ?_; clear hF; intro a hF
 refine seq_yl hF (wn_none rfl) rfl rfl (yl_load (fun _ h => h ▸ hS) hF rfl rfl 0 rfl ag41 rfl) ?_; clear hF; intro a hF
 refine seq_yl hF (wn_none rfl) rfl rfl (yl_len hF rfl rfl (fun _ => run_lenRd sl41 (hS.rdRo 1 rfl))) ?_; clear hF; intro a hF
 refine mvN hF rfl rfl rfl rfl rfl ?_; clear hF; intro a hF
 refine wpList_nil ?_
 refine then_n ?_
 refine wp_block ?_
 replace hS := hS.addNil 67 2
 refine c_loop (fun m a w => ∃ (k : Nat) (AvR : Option Addr) (mv cvR : Nat), m = L.length - k ∧ (k ≤ L.length) ∧ Fr 57 a [(0, .pointer (some ⟨gc, 0, none⟩)), (1, .int .i64 (s)), (3, .func (.func kf) #[] caps.toArray), (8, .slice AvR mv cvR), (30, .slice Alv (L).length clv), (31, .int .i64 (((L).length : Nat) : Int)), (32, .int .i64 ((k : Nat) : Int))] ∧ Sat w0 w (.box gc 93 #[.string (wim st (s) x), .slice Alv (L).length clv, .int .i64 (rm)] :: .ro 2 (.slice Alv (L).length clv) (L).length (cells enc67 (L)) :: .row 67 2 (.slice AvR mv cvR) ((selL s old 0 (L.take k))).length (cells enc67 ((selL s old 0 (L.take k)))) :: Ht)) (L.length - 0) ?_ ?_
 ·exact ⟨0, none, 0, 0, rfl, (Nat.zero_le _), hF.to [0, 1, 3, 8, 30, 31, 32] rfl, (hS.subT 3 [1, 2, 0] (by decide) (by first | rfl | simp) (by simp) (by simp))⟩
 ·clear hF hS; try clear hSS
  clear a w; rintro m a w ⟨k, AvR, mv, cvR, rfl, hinv, hF, hS⟩
  have hk : k ≤ L.length := hinv
  have hvl := len_selL (s := s) (old := old) (L.take k) 0
  have htl : (L.take k).length ≤ L.length := by simp; omega
  refine c_seq ?_
  refine c_region ?_
  refine seq_yl hF (wn_none rfl) rfl rfl (yl_bin hF rfl rfl rfl rfl (fun _ => run_lss)) ?_; clear hF; intro a hF
  refine wpList_nil ?_
  refine then_n ?_
  refine c_seq ?_
  refine c_cond hF rfl (fun hc590 => ?_) (fun hc590 => ?_)
  ·first | (replace hc590 := of_decide_eq_true hc590) | (replace hc590 := of_decide_eq_false (bnot_t hc590)) | (subst hc590) | (replace hc590 := bnot_t hc590; subst hc590) | (replace hc590 := bnot_t hc590) | skip
   try (have hc590x := hc590; simp only [okS, okI, okW, okP] at hc590x)
   refine wp_skip ?_
   refine then_n ?_
   refine c_seq ?_
   refine wp_block ?_
   refine c_seq ?_
   refine c_region ?_
   refine mvN hF rfl rfl rfl rfl rfl ?_; clear hF; intro a hF
   have hlt_hx591 : k < (L).length := by first | omega | (simp; done) | (simp; omega)
   obtain ⟨ad592, rfl⟩ := rd_some (hS.rdRo 1 rfl) hlt_hx591
   obtain ⟨x591, hx591⟩ := get_some hlt_hx591
   refine seq_yl hF (wn_none rfl) rfl rfl (yl_indexAddr hF rfl rfl rfl (fun _ => run_idx' sl41 sz67 (hS.rdRo 1 rfl) hlt_hx591)) ?_; clear hF; intro a hF
   refine seq_yl hF (wn_none rfl) rfl rfl (yl_loadEl (rs := [.int .i64 (x591.f0), .string x591.f1]) hF rfl rfl ag67 sz67 rfl (fun _ h => rd_cells (enc := enc67) (by subst h; exact hS.rdRo 1 rfl) enc67_len hx591)) ?_; clear hF; intro a hF
   refine seq_wp (wn_none rfl) (wp_alloc (cs := #[_, _]) hF hS rfl rfl rfl zr67 rfl ?_)
   clear hF hS; intro a w g593 hF hS
   refine asN hF rfl rfl rfl rfl rfl ?_; clear hF; intro a hF
   refine seq_wp (wn_none rfl) (wp_store (cs' := #[_, _]) hF hS rfl rfl rfl rfl 0 rfl sz67 (by simp [Value.cells, Value.oneCell']) (by simp [Value.cells]) rfl ?_)
   clear hF hS; intro a w hF hS
   refine wpList_nil ?_
   refine then_n ?_
   refine c_seq ?_
   refine c_region ?_
   refine seq_yl hF (wn_none rfl) rfl rfl (yl_fieldAddr hF rfl rfl (fun w => by kernel_rfl : ∀ w, (Instr.fieldAt 67 (.pointer (some ⟨g593, 0, none⟩)) 0).run Try.prog w = .ok (.pointer (some ⟨g593, 0, none⟩)) w)) ?_; clear hF; intro a hF
   refine seq_yl hF (wn_none rfl) rfl rfl (yl_load (fun _ h => h ▸ hS) hF rfl rfl 0 rfl ag3 rfl) ?_; clear hF; intro a hF
   refine mvN hF rfl rfl rfl rfl rfl ?_; clear hF; intro a hF
   refine seq_yl hF (wn_none rfl) rfl rfl (yl_bin hF rfl rfl rfl rfl (fun _ => run_neq)) ?_; clear hF; intro a hF
   refine mvN hF rfl rfl rfl rfl rfl ?_; clear hF; intro a hF
   refine fr_split hF (fun hc594 hF => ?_) (fun hc594 hF => ?_)
   ·first | (replace hc594 := of_decide_eq_true hc594) | (replace hc594 := of_decide_eq_false (bnot_t hc594)) | (subst hc594) | (replace hc594 := bnot_t hc594; subst hc594) | (replace hc594 := bnot_t hc594) | skip
    try (have hc594x := hc594; simp only [okS, okI, okW, okP] at hc594x)
    refine skF hF rfl rfl rfl rfl rfl rfl ?_; clear hF; intro a hF
    refine skF hF rfl rfl rfl rfl rfl rfl ?_; clear hF; intro a hF
    refine skF hF rfl rfl rfl rfl rfl rfl ?_; clear hF; intro a hF
    refine skF hF rfl rfl rfl rfl rfl rfl ?_; clear hF; intro a hF
    refine seq_yl hF (wn_none rfl) rfl rfl (pkT hF rfl rfl rfl) ?_; clear hF; intro a hF
    refine wpList_nil ?_
    refine then_n ?_
    refine c_cond_t hF rfl ?_
    refine c_region ?_
    refine mvN hF rfl rfl rfl rfl rfl ?_; clear hF; intro a hF
    refine seq_yl hF (wn_none rfl) rfl rfl (yl_loadK (rs := [_, _]) (fun _ h => h ▸ hS) hF rfl rfl 0 rfl ag67 sz67 rfl rfl) ?_; clear hF; intro a hF
    refine seq_wp (wn_none rfl) (wp_bslice (parts := [(0, .tmp 48)]) (vs := [(0, _)]) (enc := enc67) (e := 67) (size := 2) (cs := #[.int .i64 (x591.f0), .string x591.f1]) hF hS rfl rfl rfl rfl ([(E67.mk (x591.f0) x591.f1)] : List E67) (fun w => by kernel_rfl) rfl rfl rfl (by decide) ?_)
    clear hF hS; intro a w v595 hF hS
    obtain ⟨Av595, cv595, rfl⟩ := hS.form 0 rfl
    refine seq_wp (wn_none rfl) (wp_app (enc := enc67) hF hS rfl rfl rfl rfl rfl 4 rfl sl41 inf67 rfl (by decide) (hS.rdRow 0 rfl) enc67_one (by decide) (by first | omega | (simp only [List.length_append, List.length_cons, List.length_nil]; omega) | (simp; omega)) ?_)
    clear hF hS; intro a w v596 hF hS
    obtain ⟨Av596, cv596, rfl⟩ := hS.form 4 rfl
    refine asN hF rfl rfl rfl rfl rfl ?_; clear hF; intro a hF
    refine wpList_nil ?_
    refine inb_n ?_
    refine then_n ?_
    refine c_region ?_
    refine seq_yl hF (wn_none rfl) rfl rfl (yl_bin hF rfl rfl rfl rfl (fun _ => run_inc (by omega))) ?_; clear hF; intro a hF
    refine mvN hF rfl rfl rfl rfl rfl ?_; clear hF; intro a hF
    refine wpList_nil ?_
    refine then_n ?_
    rw [selL_in (s := s) (old := old) hx591 (by first | exact .inl (by assumption) | exact .inr (by assumption))] at hS hF
    exact ⟨_, (by omega), k + 1, Av596, _, cv596, rfl, (show _ ≤ _ by omega), hF.to [0, 1, 3, 8, 30, 31, 32] rfl, (hS.subT 5 [2, 3, 4] (by decide) (by first | rfl | simp) (by simp) (by simp))⟩
   ·first | (replace hc594 := of_decide_eq_false hc594) | (replace hc594 := of_decide_eq_true (bnot_f hc594)) | (subst hc594) | (replace hc594 := bnot_f hc594; subst hc594) | (replace hc594 := bnot_f hc594) | skip
    try (have hc594x := hc594; simp only [okS, okI, okW, okP] at hc594x)
    refine seq_yl hF (wn_t hF rfl rfl rfl rfl) rfl rfl (yl_move hF rfl rfl) ?_; clear hF; intro a hF
    refine seq_yl hF (wn_t hF rfl rfl rfl rfl) rfl rfl (yl_move hF rfl rfl) ?_; clear hF; intro a hF
    refine seq_wp (wn_t hF rfl rfl rfl rfl) (wp_callC (f := kf) (vs := [_]) (caps := caps) hF rfl rfl rfl rfl rfl hcf (hp ((k : Nat) : Int) _ [_, _, _, _] hS) ?_)
    clear hF hS; rintro _ w ⟨rfl, hS⟩ a hF; simp only [List.cons_append, List.nil_append] at hS
    refine seq_yl hF (wn_t hF rfl rfl rfl rfl) rfl rfl (yl_un hF rfl rfl (fun _ => run_not)) ?_; clear hF; intro a hF
    refine seq_yl hF (wn_none rfl) rfl rfl (pkF hF rfl rfl rfl) ?_; clear hF; intro a hF
    refine wpList_nil ?_
    refine then_n ?_
    refine c_cond hF rfl (fun hc597 => ?_) (fun hc597 => ?_)
    ·first | (replace hc597 := of_decide_eq_true hc597) | (replace hc597 := of_decide_eq_false (bnot_t hc597)) | (subst hc597) | (replace hc597 := bnot_t hc597; subst hc597) | (replace hc597 := bnot_t hc597) | skip
     try (have hc597x := hc597; simp only [okS, okI, okW, okP] at hc597x)
     refine c_region ?_
     refine mvN hF rfl rfl rfl rfl rfl ?_; clear hF; intro a hF
     refine seq_yl hF (wn_none rfl) rfl rfl (yl_loadK (rs := [_, _]) (fun _ h => h ▸ hS) hF rfl rfl 0 rfl ag67 sz67 rfl rfl) ?_; clear hF; intro a hF
     refine seq_wp (wn_none rfl) (wp_bslice (parts := [(0, .tmp 48)]) (vs := [(0, _)]) (enc := enc67) (e := 67) (size := 2) (cs := #[.int .i64 (x591.f0), .string x591.f1]) hF hS rfl rfl rfl rfl ([(E67.mk (x591.f0) x591.f1)] : List E67) (fun w => by kernel_rfl) rfl rfl rfl (by decide) ?_)
     clear hF hS; intro a w v598 hF hS
     obtain ⟨Av598, cv598, rfl⟩ := hS.form 0 rfl
     refine seq_wp (wn_none rfl) (wp_app (enc := enc67) hF hS rfl rfl rfl rfl rfl 4 rfl sl41 inf67 rfl (by decide) (hS.rdRow 0 rfl) enc67_one (by decide) (by first | omega | (simp only [List.length_append, List.length_cons, List.length_nil]; omega) | (simp; omega)) ?_)
     clear hF hS; intro a w v599 hF hS
     obtain ⟨Av599, cv599, rfl⟩ := hS.form 4 rfl
     refine asN hF rfl rfl rfl rfl rfl ?_; clear hF; intro a hF
     refine wpList_nil ?_
     refine inb_n ?_
     refine then_n ?_
     refine c_region ?_
     refine seq_yl hF (wn_none rfl) rfl rfl (yl_bin hF rfl rfl rfl rfl (fun _ => run_inc (by omega))) ?_; clear hF; intro a hF
     refine mvN hF rfl rfl rfl rfl rfl ?_; clear hF; intro a hF
     refine wpList_nil ?_
     refine then_n ?_
     rw [selL_in (s := s) (old := old) hx591 (by first | exact .inl (by assumption) | exact .inr (by assumption))] at hS hF
     exact ⟨_, (by omega), k + 1, Av599, _, cv599, rfl, (show _ ≤ _ by omega), hF.to [0, 1, 3, 8, 30, 31, 32] rfl, (hS.subT 5 [2, 3, 4] (by decide) (by first | rfl | simp) (by simp) (by simp))⟩
    ·first | (replace hc597 := of_decide_eq_false hc597) | (replace hc597 := of_decide_eq_true (bnot_f hc597)) | (subst hc597) | (replace hc597 := bnot_f hc597; subst hc597) | (replace hc597 := bnot_f hc597) | skip
     try (have hc597x := hc597; simp only [okS, okI, okW, okP] at hc597x)
     refine wp_skip ?_
     refine inb_n ?_
     refine then_n ?_
     refine c_region ?_
     refine seq_yl hF (wn_none rfl) rfl rfl (yl_bin hF rfl rfl rfl rfl (fun _ => run_inc (by omega))) ?_; clear hF; intro a hF
     refine mvN hF rfl rfl rfl rfl rfl ?_; clear hF; intro a hF
     refine wpList_nil ?_
     refine then_n ?_
     rw [selL_out (s := s) (old := old) hx591 (by omega) (by assumption)] at hS
     exact ⟨_, (by omega), k + 1, AvR, _, cvR, rfl, (show _ ≤ _ by omega), hF.to [0, 1, 3, 8, 30, 31, 32] rfl, (hS.subT 4 [1, 2, 3] (by decide) (by first | rfl | simp) (by simp) (by simp))⟩
  ·first | (replace hc590 := of_decide_eq_false hc590) | (replace hc590 := of_decide_eq_true (bnot_f hc590)) | (subst hc590) | (replace hc590 := bnot_f hc590; subst hc590) | (replace hc590 := bnot_f hc590) | skip
   try (have hc590x := hc590; simp only [okS, okI, okW, okP] at hc590x)
   refine wp_exit ?_
   refine then_x ?_
   refine then_x ?_
   refine inb_x ?_
   refine then_n ?_
   refine c_region ?_
   refine mvN hF rfl rfl rfl rfl rfl ?_; clear hF; intro a hF
   refine mvN hF rfl rfl rfl rfl rfl ?_; clear hF; intro a hF
   refine seq_yl hF (wn_none rfl) rfl rfl (yl_nilCheck hF rfl rfl) ?_; clear hF; intro a hF
   refine seq_yl hF (wn_none rfl) rfl rfl (yl_fieldAddr hF rfl rfl (fun w => by kernel_rfl : ∀ w, (Instr.fieldAt 93 (.pointer (some ⟨gc, 0, none⟩)) 0).run Try.prog w = .ok (.pointer (some ⟨gc, 0, none⟩)) w)) ?_; clear hF; intro a hF
   refine seq_yl hF (wn_none rfl) rfl rfl (yl_fieldAddr hF rfl rfl (fun w => by kernel_rfl : ∀ w, (Instr.fieldAt 43 (.pointer (some ⟨gc, 0, none⟩)) 1).run Try.prog w = .ok (.pointer (some ⟨gc, 1, none⟩)) w)) ?_; clear hF; intro a hF
   refine seq_wp (wn_none rfl) (wp_store (cs' := #[_, _, _]) hF hS rfl rfl rfl rfl 0 rfl sz41 (by simp [Value.cells, Value.oneCell']) (by simp [Value.cells]) rfl ?_)
   clear hF hS; intro a w hF hS
   refine wpList_nil ?_
   refine ret_n ?_
   refine ret_0 hF rfl  ?_
   rw [show L.take k = L from List.take_of_length_le (by omega)] at hS; exact ⟨_, rfl, _, rfl, (hS.subT 3 [0, 2] (by decide) (by first | rfl | simp) (by simp) (by simp))⟩

set_option maxRecDepth 100000 in
theorem clPut (w0 w : World) (H : List Chunk) (x : Int) (hS : Sat w0 w H) :
  Fn Try.prog 80 #[.int .i64 x] w (fun v w' => v = .bool true ∧ Sat w0 w' H) := by
 refine c_enterS (N := 3) (l := [_]) Try.func80 rfl rfl (fun a hF => ?_)
 refine c_seq ?_
 refine c_region ?_
 refine asN hF rfl rfl rfl rfl rfl ?_; clear hF; intro a hF
 refine wpList_nil ?_
 refine then_n ?_
 refine c_seq ?_
 refine c_region ?_
 refine asN hF rfl rfl rfl rfl rfl ?_; clear hF; intro a hF
 refine wpList_nil ?_
 refine then_n ?_
 refine wp_ret ?_
 refine ret_t hF rfl rfl ?_
 exact ⟨_, rfl, rfl, (hS.subT 0 [] (by decide) (by first | rfl | simp) (by simp) (by simp))⟩

set_option maxRecDepth 100000 in
theorem clDest (w0 w : World) (H : List Chunk) (j gk : Nat) (x q : Int) (hj : H[j]? = some (.box gk 3 #[.int .i64 q])) (hS : Sat w0 w H) :
  Fn Try.prog 81 #[.int .i64 x, .pointer (some ⟨gk, 0, none⟩)] w (fun v w' => v = .bool (decide (x ≤ q)) ∧ Sat w0 w' H) := by
 refine c_enterS (N := 7) (l := [_, _]) Try.func81 rfl rfl (fun a hF => ?_)
 refine c_seq ?_
 refine c_region ?_
 refine asN hF rfl rfl rfl rfl rfl ?_; clear hF; intro a hF
 refine wpList_nil ?_
 refine then_n ?_
 refine c_seq ?_
 refine c_region ?_
 refine mvN hF rfl rfl rfl rfl rfl ?_; clear hF; intro a hF
 refine seq_yl hF (wn_none rfl) rfl rfl (yl_load (fun _ h => h ▸ hS) hF rfl rfl j hj ag3 rfl) ?_; clear hF; intro a hF
 refine seq_yl hF (wn_none rfl) rfl rfl (yl_bin hF rfl rfl rfl rfl (fun _ => run_leq)) ?_; clear hF; intro a hF
 refine asN hF rfl rfl rfl rfl rfl ?_; clear hF; intro a hF
 refine wpList_nil ?_
 refine then_n ?_
 refine wp_ret ?_
 refine ret_t hF rfl rfl ?_
 exact ⟨_, rfl, rfl, (hS.subT 0 [] (by decide) (by first | rfl | simp) (by simp) (by simp))⟩

set_option maxHeartbeats 1000000 in
set_option maxRecDepth 100000 in
theorem destage_any (w0 w : World) (Ht : List Chunk) (gc : Nat) (st : ByteArray) (Alv : Option Addr) (clv : Nat) (L : List E67) (rm : Int) (kk : Nat) (p : E67) (hp : L[kk]? = some p) (hpp : okP (st.size : Int) p) (hS : Sat w0 w (.box gc 93 #[.string st, .slice Alv L.length clv, .int .i64 rm] :: .ro 2 (.slice Alv L.length clv) L.length (cells enc67 L) :: Ht)) (hL : L.length ≤ 1000000) :
  Fn Try.prog 67 #[.pointer (some ⟨gc, 0, none⟩), .int .i64 ((kk : Nat) : Int)] w (fun v w' => ∃ lv1, v = .tuple #[] ∧ Sat w0 w' (.box gc 93 #[.string (wim st p.f0 p.f1), lv1, .int .i64 rm] :: .row 67 2 lv1 ((selL p.f0 (fun i => decide (i ≤ ((kk : Nat) : Int))) 0 L)).length (cells enc67 ((selL p.f0 (fun i => decide (i ≤ ((kk : Nat) : Int))) 0 L))) :: Ht)) := by
 have hlt_hp : kk < L.length := (List.getElem?_eq_some_iff.1 hp).1
 obtain ⟨ad0, rfl⟩ := rd_some (hS.rdRo 1 rfl) hlt_hp
 refine c_enterS (N := 20) (l := [_, _]) Try.func67 rfl rfl (fun a hF => ?_)
 refine c_seq ?_
 refine c_region ?_
 refine seq_wp (wn_none rfl) (wp_box (cs := #[_]) hF hS rfl rfl rfl rfl rfl ?_)
 clear hF hS; intro a w g600 hF hS
 refine wpList_nil ?_
 refine then_n ?_
 refine c_seq ?_
 refine ha_startS hS [1, 0, 2] 10 (by kernel_rfl) ?_; clear hS; intro w hS
 have hSS := hS.sub [1, 0, 2] (by decide) rfl (by simp)
 refine ha_y 0 hF rfl rfl rfl (wn_none rfl) (.inr hSS) (yl_move hF rfl rfl) ?_; clear hF; intro a hF
 refine ha_y 1 hF rfl rfl rfl (wn_none rfl) (.inr hSS) (yl_nilCheck hF rfl rfl) ?_; clear hF; intro a hF
 refine ha_y 2 hF rfl rfl rfl (wn_none rfl) (.inr hSS) (yl_fieldAddr hF rfl rfl (fun w => by kernel_rfl : ∀ w, (Instr.fieldAt 93 (.pointer (some ⟨gc, 0, none⟩)) 0).run Try.prog w = .ok (.pointer (some ⟨gc, 0, none⟩)) w)) ?_; clear hF; intro a hF
 refine ha_y 3 hF rfl rfl rfl (wn_none rfl) (.inr hSS) (yl_fieldAddr hF rfl rfl (fun w => by kernel_rfl : ∀ w, (Instr.fieldAt 43 (.pointer (some ⟨gc, 0, none⟩)) 1).run Try.prog w = .ok (.pointer (some ⟨gc, 1, none⟩)) w)) ?_; clear hF; intro a hF
 refine ha_l 4 hF rfl rfl rfl (wn_none rfl) hSS (yl_load (fun _ h => h) hF rfl rfl 0 rfl ag41 rfl) ?_; clear hF; intro a hF
 refine ha_l 5 hF rfl rfl rfl (wn_none rfl) hSS (yl_load (fun _ h => h) hF rfl rfl 1 rfl ag3 rfl) ?_; clear hF; intro a hF
 refine ha_y 6 hF rfl rfl rfl (wn_none rfl) (.inr hSS) (yl_indexAddr hF rfl rfl rfl (fun _ => run_idx' sl41 sz67 (hS.rdRo 2 rfl) hlt_hp)) ?_; clear hF; intro a hF
 refine ha_l 7 hF rfl rfl rfl (wn_none rfl) hSS (yl_loadEl (rs := [.int .i64 (p.f0), .string p.f1]) hF rfl rfl ag67 sz67 rfl (fun _ h => rd_cells (enc := enc67) (Sat.rdRo h 2 rfl) enc67_len hp)) ?_; clear hF; intro a hF
 refine ha_one 8 (by kernel_rfl) rfl (wn_none rfl) (wp_alloc (cs := #[_, _]) hF hS rfl rfl rfl zr67 rfl ?_)
 clear hF hS; intro a w g601 hF hS
 replace hSS := hS.sub [2, 1, 3] (by decide) rfl (by simp)
 refine ⟨.inr hSS, ?_⟩
 refine ha_one 9 (by kernel_rfl) rfl (wn_none rfl) (wp_store (cs' := #[_, _]) hF hS rfl rfl rfl rfl 0 rfl sz67 (by simp [Value.cells, Value.oneCell']) (by simp [Value.cells]) rfl ?_)
 clear hF hS; intro a w hF hS
 replace hSS := hS.sub [2, 1, 3] (by decide) rfl (by simp)
 refine ⟨.inr hSS, ?_⟩
 refine ha_done (by kernel_rfl) ?_ _
 refine then_n ?_
 refine c_region ?_
 refine mvN hF rfl rfl rfl rfl rfl ?_; clear hF; intro a hF
 refine seq_yl hF (wn_none rfl) rfl rfl (yl_fieldAddr hF rfl rfl (fun w => by kernel_rfl : ∀ w, (Instr.fieldAt 67 (.pointer (some ⟨g601, 0, none⟩)) 0).run Try.prog w = .ok (.pointer (some ⟨g601, 0, none⟩)) w)) ?_; clear hF; intro a hF
 refine seq_yl hF (wn_none rfl) rfl rfl (yl_load (fun _ h => h ▸ hS) hF rfl rfl 0 rfl ag3 rfl) ?_; clear hF; intro a hF
 refine seq_yl hF (wn_none rfl) rfl rfl (yl_fieldAddr hF rfl rfl (fun w => by kernel_rfl : ∀ w, (Instr.fieldAt 67 (.pointer (some ⟨g601, 0, none⟩)) 1).run Try.prog w = .ok (.pointer (some ⟨g601, 1, none⟩)) w)) ?_; clear hF; intro a hF
 refine seq_yl hF (wn_none rfl) rfl rfl (yl_load (fun _ h => h ▸ hS) hF rfl rfl 0 rfl ag9 rfl) ?_; clear hF; intro a hF
 refine seq_yl hF (wn_none rfl) rfl rfl (yl_makeFunc (vs := [_]) hF rfl rfl) ?_; clear hF; intro a hF
 replace hS := (hS.subT 4 [2, 3, 0, 1] (by decide) (by first | rfl | simp) (by simp) (by simp))
 refine seq_wp (wn_none rfl) (wp_call (vs := [_, _, _, _]) hF rfl rfl rfl rfl cf79 (settle_any _ _ _ _ _ _ _ L _ (p.f0) p.f1 81 [.pointer (some ⟨g600, 0, none⟩)] (fun i => decide (i ≤ ((kk : Nat) : Int))) cf81 (fun x w H9 h => clDest _ _ _ (H9.length + 1) _ x _ (app_at rfl) h) hS (by first | assumption | exact okP_W (by assumption) | exact okW_of (by assumption) (by assumption)) (by omega)) ?_)
 clear hF hS; rintro _ w ⟨v602, rfl, hS⟩ a hF
 have hls603 := len_selL (s := (p.f0)) (old := (fun i => decide (i ≤ ((kk : Nat) : Int)))) L 0
 obtain ⟨Av602, cv602, rfl⟩ := hS.form 1 rfl
 refine wpList_nil ?_
 refine ret_n ?_
 refine ret_0 hF rfl  ?_
 exact ⟨_, rfl, _, rfl, (hS.subT 4 [0, 1] (by decide) (by first | rfl | simp) (by simp) (by simp))⟩

set_option maxHeartbeats 1000000 in
set_option maxRecDepth 100000 in
theorem put_any (w0 w : World) (Ht : List Chunk) (gc : Nat) (st : ByteArray) (Alv : Option Addr) (clv : Nat) (L : List E67) (rm : Int) (s : Int) (x : ByteArray) (fua : Bool) (hS : Sat w0 w (.box gc 93 #[.string st, .slice Alv L.length clv, .int .i64 rm] :: .ro 2 (.slice Alv L.length clv) L.length (cells enc67 L) :: Ht)) (hd : okD st L rm) (hs : okS (st.size : Int) s 1) (hx : (x.size : Int) = 8) :
  Fn Try.prog 65 #[.pointer (some ⟨gc, 0, none⟩), .int .i64 s, .string x, .bool fua] w (fun v w' => ∃ (st1 : ByteArray) (L1 : List E67) (lv1 : Value), v = .tuple #[] ∧ put1 st L rm s x fua = (st1, L1) ∧ Sat w0 w' (.box gc 93 #[.string st1, lv1, .int .i64 rm] :: .row 67 2 lv1 (L1).length (cells enc67 (L1)) :: Ht)) := by
 have hdi := okD_I hd
 refine c_enterS (N := 50) (l := [_, _, _, _]) Try.func65 rfl rfl (fun a hF => ?_)
 refine c_seq ?_
 refine c_seq ?_
 refine c_region ?_
 refine mvN hF rfl rfl rfl rfl rfl ?_; clear hF; intro a hF
 refine mvN hF rfl rfl rfl rfl rfl ?_; clear hF; intro a hF
 refine fr_split hF (fun hc604 hF => ?_) (fun hc604 hF => ?_)
 ·first | (replace hc604 := of_decide_eq_true hc604) | (replace hc604 := of_decide_eq_false (bnot_t hc604)) | (replace hc604 := bnot_t hc604) | skip
  try (have hc604x := hc604; simp only [okS, okI, okW, okP] at hc604x)
  refine skF hF rfl rfl rfl rfl rfl rfl ?_; clear hF; intro a hF
  refine skF hF rfl rfl rfl rfl rfl rfl ?_; clear hF; intro a hF
  refine skF hF rfl rfl rfl rfl rfl rfl ?_; clear hF; intro a hF
  refine skF hF rfl rfl rfl rfl rfl rfl ?_; clear hF; intro a hF
  refine skF hF rfl rfl rfl rfl rfl rfl ?_; clear hF; intro a hF
  refine skF hF rfl rfl rfl rfl rfl rfl ?_; clear hF; intro a hF
  refine seq_yl hF (wn_none rfl) rfl rfl (pkT hF rfl rfl rfl) ?_; clear hF; intro a hF
  refine wpList_nil ?_
  refine then_n ?_
  refine c_cond_t hF rfl ?_
  refine c_seq ?_
  refine c_region ?_
  refine mvN hF rfl rfl rfl rfl rfl ?_; clear hF; intro a hF
  refine mvN hF rfl rfl rfl rfl rfl ?_; clear hF; intro a hF
  refine mvN hF rfl rfl rfl rfl rfl ?_; clear hF; intro a hF
  refine seq_wp (wn_none rfl) (wp_call (vs := [_, _, _, _]) hF rfl rfl rfl rfl cf79 (settle_any _ _ _ _ _ _ _ L _ (s) x 80 [] (fun _ : Int => true) cf80 (fun x w H9 h => clPut _ _ _ x h) hS (by first | assumption | exact okP_W (by assumption) | exact okW_of (by assumption) (by assumption)) (by omega)) ?_)
  clear hF hS; rintro _ w ⟨v605, rfl, hS⟩ a hF
  have hls606 := len_selL (s := (s)) (old := (fun _ : Int => true)) L 0
  obtain ⟨Av605, cv605, rfl⟩ := hS.form 1 rfl
  refine wpList_nil ?_
  refine then_n ?_
  refine wp_ret ?_
  refine then_r ?_
  refine ret_0 hF rfl  ?_
  exact ⟨_, rfl, _, _, _, rfl, (show put1 st L rm s x fua = ((wim st (s) x), (selL (s) (fun _ : Int => true) 0 L)) from put1_1 (by first | exact .inl (by assumption) | exact .inr (by assumption))), (hS.subT 2 [0, 1] (by decide) (by first | rfl | simp) (by simp) (by simp))⟩
 ·first | (replace hc604 := of_decide_eq_false hc604) | (replace hc604 := of_decide_eq_true (bnot_f hc604)) | (replace hc604 := bnot_f hc604) | skip
  try (have hc604x := hc604; simp only [okS, okI, okW, okP] at hc604x)
  refine seq_yl hF (wn_t hF rfl rfl rfl rfl) rfl rfl (yl_move hF rfl rfl) ?_; clear hF; intro a hF
  refine seq_yl hF (wn_t hF rfl rfl rfl rfl) rfl rfl (yl_nilCheck hF rfl rfl) ?_; clear hF; intro a hF
  refine seq_yl hF (wn_t hF rfl rfl rfl rfl) rfl rfl (yl_fieldAddr hF rfl rfl (fun w => by kernel_rfl : ∀ w, (Instr.fieldAt 93 (.pointer (some ⟨gc, 0, none⟩)) 0).run Try.prog w = .ok (.pointer (some ⟨gc, 0, none⟩)) w)) ?_; clear hF; intro a hF
  refine seq_yl hF (wn_t hF rfl rfl rfl rfl) rfl rfl (yl_fieldAddr hF rfl rfl (fun w => by kernel_rfl : ∀ w, (Instr.fieldAt 43 (.pointer (some ⟨gc, 0, none⟩)) 2).run Try.prog w = .ok (.pointer (some ⟨gc, 2, none⟩)) w)) ?_; clear hF; intro a hF
  refine seq_yl hF (wn_t hF rfl rfl rfl rfl) rfl rfl (yl_load (fun _ h => h ▸ hS) hF rfl rfl 0 rfl ag3 rfl) ?_; clear hF; intro a hF
  refine seq_yl hF (wn_t hF rfl rfl rfl rfl) rfl rfl (yl_bin hF rfl rfl rfl rfl (fun _ => run_eql)) ?_; clear hF; intro a hF
  refine seq_yl hF (wn_none rfl) rfl rfl (pkF hF rfl rfl rfl) ?_; clear hF; intro a hF
  refine wpList_nil ?_
  refine then_n ?_
  refine c_cond hF rfl (fun hc607 => ?_) (fun hc607 => ?_)
  ·first | (replace hc607 := of_decide_eq_true hc607) | (replace hc607 := of_decide_eq_false (bnot_t hc607)) | (replace hc607 := bnot_t hc607) | skip
   try (have hc607x := hc607; simp only [okS, okI, okW, okP] at hc607x)
   refine c_seq ?_
   refine c_region ?_
   refine mvN hF rfl rfl rfl rfl rfl ?_; clear hF; intro a hF
   refine mvN hF rfl rfl rfl rfl rfl ?_; clear hF; intro a hF
   refine mvN hF rfl rfl rfl rfl rfl ?_; clear hF; intro a hF
   refine seq_wp (wn_none rfl) (wp_call (vs := [_, _, _, _]) hF rfl rfl rfl rfl cf79 (settle_any _ _ _ _ _ _ _ L _ (s) x 80 [] (fun _ : Int => true) cf80 (fun x w H9 h => clPut _ _ _ x h) hS (by first | assumption | exact okP_W (by assumption) | exact okW_of (by assumption) (by assumption)) (by omega)) ?_)
   clear hF hS; rintro _ w ⟨v608, rfl, hS⟩ a hF
   have hls609 := len_selL (s := (s)) (old := (fun _ : Int => true)) L 0
   obtain ⟨Av608, cv608, rfl⟩ := hS.form 1 rfl
   refine wpList_nil ?_
   refine then_n ?_
   refine wp_ret ?_
   refine then_r ?_
   refine ret_0 hF rfl  ?_
   exact ⟨_, rfl, _, _, _, rfl, (show put1 st L rm s x fua = ((wim st (s) x), (selL (s) (fun _ : Int => true) 0 L)) from put1_1 (by first | exact .inl (by assumption) | exact .inr (by assumption))), (hS.subT 2 [0, 1] (by decide) (by first | rfl | simp) (by simp) (by simp))⟩
  ·first | (replace hc607 := of_decide_eq_false hc607) | (replace hc607 := of_decide_eq_true (bnot_f hc607)) | (replace hc607 := bnot_f hc607) | skip
   try (have hc607x := hc607; simp only [okS, okI, okW, okP] at hc607x)
   refine wp_skip ?_
   refine then_n ?_
   refine c_seq ?_
   refine c_seq ?_
   refine ha_startS hS [0] 12 (by kernel_rfl) ?_; clear hS; intro w hS
   have hSS := hS.sub [0] (by decide) rfl (by simp)
   refine ha_y 0 hF rfl rfl rfl (wn_none rfl) (.inr hSS) (yl_move hF rfl rfl) ?_; clear hF; intro a hF
   refine ha_y 1 hF rfl rfl rfl (wn_none rfl) (.inr hSS) (yl_nilCheck hF rfl rfl) ?_; clear hF; intro a hF
   refine ha_y 2 hF rfl rfl rfl (wn_none rfl) (.inr hSS) (yl_fieldAddr hF rfl rfl (fun w => by kernel_rfl : ∀ w, (Instr.fieldAt 93 (.pointer (some ⟨gc, 0, none⟩)) 0).run Try.prog w = .ok (.pointer (some ⟨gc, 0, none⟩)) w)) ?_; clear hF; intro a hF
   refine ha_y 3 hF rfl rfl rfl (wn_none rfl) (.inr hSS) (yl_fieldAddr hF rfl rfl (fun w => by kernel_rfl : ∀ w, (Instr.fieldAt 43 (.pointer (some ⟨gc, 0, none⟩)) 1).run Try.prog w = .ok (.pointer (some ⟨gc, 1, none⟩)) w)) ?_; clear hF; intro a hF
   refine ha_y 6 hF rfl rfl rfl (wn_none rfl) (.inr hSS) (yl_move hF rfl rfl) ?_; clear hF; intro a hF
   refine ha_y 7 hF rfl rfl rfl (wn_none rfl) (.inr hSS) (yl_nilCheck hF rfl rfl) ?_; clear hF; intro a hF
   refine ha_y 8 hF rfl rfl rfl (wn_none rfl) (.inr hSS) (yl_fieldAddr hF rfl rfl (fun w => by kernel_rfl : ∀ w, (Instr.fieldAt 93 (.pointer (some ⟨gc, 0, none⟩)) 0).run Try.prog w = .ok (.pointer (some ⟨gc, 0, none⟩)) w)) ?_; clear hF; intro a hF
   refine ha_y 9 hF rfl rfl rfl (wn_none rfl) (.inr hSS) (yl_fieldAddr hF rfl rfl (fun w => by kernel_rfl : ∀ w, (Instr.fieldAt 43 (.pointer (some ⟨gc, 0, none⟩)) 2).run Try.prog w = .ok (.pointer (some ⟨gc, 2, none⟩)) w)) ?_; clear hF; intro a hF
   refine ha_l 4 hF rfl rfl rfl (wn_none rfl) hSS (yl_load (fun _ h => h) hF rfl rfl 0 rfl ag41 rfl) ?_; clear hF; intro a hF
   refine ha_y 5 hF rfl rfl rfl (wn_none rfl) (.inr hSS) (yl_len hF rfl rfl (fun _ => run_lenRd sl41 (hS.rdRo 1 rfl))) ?_; clear hF; intro a hF
   refine ha_l 10 hF rfl rfl rfl (wn_none rfl) hSS (yl_load (fun _ h => h) hF rfl rfl 0 rfl ag3 rfl) ?_; clear hF; intro a hF
   refine ha_y 11 hF rfl rfl rfl (wn_none rfl) (.inr hSS) (yl_bin hF rfl rfl rfl rfl (fun _ => run_eql)) ?_; clear hF; intro a hF
   refine ha_done (by kernel_rfl) ?_ _
   refine then_n ?_
   refine c_cond hF rfl (fun hc610 => ?_) (fun hc610 => ?_)
   ·first | (replace hc610 := of_decide_eq_true hc610) | (replace hc610 := of_decide_eq_false (bnot_t hc610)) | (replace hc610 := bnot_t hc610) | skip
    try (have hc610x := hc610; simp only [okS, okI, okW, okP] at hc610x)
    refine c_region ?_
    refine mvN hF rfl rfl rfl rfl rfl ?_; clear hF; intro a hF
    obtain ⟨p612, hp612⟩ := get_some (L := L) (k := 0) (by have h8 := okD_I hd; omega)
    refine seq_wp (wn_none rfl) (wp_call (vs := [_, _]) hF rfl rfl rfl rfl cf67 (destage_any _ _ _ _ _ _ _ L _ 0 p612 hp612 (hd.2.2.2 _ (List.mem_of_getElem? hp612)) hS (by omega)) ?_)
    clear hF hS; rintro _ w ⟨v611, rfl, hS⟩ a hF
    have hq613k := dest_ok hd hp612
    have hq613n := len_selL (s := p612.f0) (old := (fun i => decide (i ≤ ((0 : Nat) : Int)))) L 0
    have hq613f := fl_step (st := st) hp612
    obtain ⟨Av611, cv611, rfl⟩ := hS.form 1 rfl
    refine wpList_nil ?_
    refine then_n ?_
    refine c_region ?_
    refine mvN hF rfl rfl rfl rfl rfl ?_; clear hF; intro a hF
    refine mvN hF rfl rfl rfl rfl rfl ?_; clear hF; intro a hF
    refine seq_yl hF (wn_none rfl) rfl rfl (yl_nilCheck hF rfl rfl) ?_; clear hF; intro a hF
    refine seq_yl hF (wn_none rfl) rfl rfl (yl_fieldAddr hF rfl rfl (fun w => by kernel_rfl : ∀ w, (Instr.fieldAt 93 (.pointer (some ⟨gc, 0, none⟩)) 0).run Try.prog w = .ok (.pointer (some ⟨gc, 0, none⟩)) w)) ?_; clear hF; intro a hF
    refine seq_yl hF (wn_none rfl) rfl rfl (yl_fieldAddr hF rfl rfl (fun w => by kernel_rfl : ∀ w, (Instr.fieldAt 43 (.pointer (some ⟨gc, 0, none⟩)) 1).run Try.prog w = .ok (.pointer (some ⟨gc, 1, none⟩)) w)) ?_; clear hF; intro a hF
    refine seq_yl hF (wn_none rfl) rfl rfl (yl_load (fun _ h => h ▸ hS) hF rfl rfl 0 rfl ag41 rfl) ?_; clear hF; intro a hF
    refine seq_wp (wn_none rfl) (wp_call (vs := [_]) hF rfl rfl rfl rfl cf38 (cloneP_any _ _ _ (hS.rdRow 1 rfl) (by first | omega | (simp; done) | (simp; omega))) ?_)
    clear hF; rintro _ w ⟨v614, rfl, hS1⟩ a hF
    replace hS := hS.callB hS1 rfl; clear hS1
    obtain ⟨Av614, cv614, rfl⟩ := hS.form 0 rfl
    refine mvN hF rfl rfl rfl rfl rfl ?_; clear hF; intro a hF
    refine mvN hF rfl rfl rfl rfl rfl ?_; clear hF; intro a hF
    refine seq_yl hF (wn_none rfl) rfl rfl (yl_build (parts := [(0, .tmp 42), (1, .tmp 43)]) (vs := [(0, _), (1, _)]) (cs := [_, _]) hF bd67 rfl rfl rfl rfl) ?_; clear hF; intro a hF
    refine seq_wp (wn_none rfl) (wp_bslice (parts := [(0, .tmp 44)]) (vs := [(0, _)]) (enc := enc67) (e := 67) (size := 2) (cs := #[.int .i64 (s), .string x]) hF hS rfl rfl rfl rfl ([(E67.mk (s) x)] : List E67) (fun w => by kernel_rfl) rfl rfl rfl (by decide) ?_)
    clear hF hS; intro a w v615 hF hS
    obtain ⟨Av615, cv615, rfl⟩ := hS.form 0 rfl
    refine seq_wp (wn_none rfl) (wp_app (enc := enc67) hF hS rfl rfl rfl rfl rfl 1 rfl sl41 inf67 rfl (by decide) (hS.rdRow 0 rfl) enc67_one (by decide) (by first | omega | (simp only [List.length_append, List.length_cons, List.length_nil]; omega) | (simp; omega)) ?_)
    clear hF hS; intro a w v616 hF hS
    obtain ⟨Av616, cv616, rfl⟩ := hS.form 1 rfl
    refine seq_yl hF (wn_none rfl) rfl rfl (yl_nilCheck hF rfl rfl) ?_; clear hF; intro a hF
    refine seq_yl hF (wn_none rfl) rfl rfl (yl_fieldAddr hF rfl rfl (fun w => by kernel_rfl : ∀ w, (Instr.fieldAt 93 (.pointer (some ⟨gc, 0, none⟩)) 0).run Try.prog w = .ok (.pointer (some ⟨gc, 0, none⟩)) w)) ?_; clear hF; intro a hF
    refine seq_yl hF (wn_none rfl) rfl rfl (yl_fieldAddr hF rfl rfl (fun w => by kernel_rfl : ∀ w, (Instr.fieldAt 43 (.pointer (some ⟨gc, 0, none⟩)) 1).run Try.prog w = .ok (.pointer (some ⟨gc, 1, none⟩)) w)) ?_; clear hF; intro a hF
    refine seq_wp (wn_none rfl) (wp_store (cs' := #[_, _, _]) hF hS rfl rfl rfl rfl 2 rfl sz41 (by simp [Value.cells, Value.oneCell']) (by simp [Value.cells]) rfl ?_)
    clear hF hS; intro a w hF hS
    refine wpList_nil ?_
    refine ret_n ?_
    refine ret_0 hF rfl  ?_
    exact ⟨_, rfl, _, _, _, rfl, (show put1 st L rm s x fua = ((wim st p612.f0 p612.f1), ((selL p612.f0 (fun i => decide (i ≤ ((0 : Nat) : Int))) 0 L) ++ ([(E67.mk (s) x)] : List E67))) from put1_2 (by assumption) (by omega) (by omega) hp612), (hS.subT 4 [2, 1] (by decide) (by first | rfl | simp) (by simp) (by simp))⟩
   ·first | (replace hc610 := of_decide_eq_false hc610) | (replace hc610 := of_decide_eq_true (bnot_f hc610)) | (replace hc610 := bnot_f hc610) | skip
    try (have hc610x := hc610; simp only [okS, okI, okW, okP] at hc610x)
    refine wp_skip ?_
    refine then_n ?_
    refine c_region ?_
    refine mvN hF rfl rfl rfl rfl rfl ?_; clear hF; intro a hF
    refine mvN hF rfl rfl rfl rfl rfl ?_; clear hF; intro a hF
    refine seq_yl hF (wn_none rfl) rfl rfl (yl_nilCheck hF rfl rfl) ?_; clear hF; intro a hF
    refine seq_yl hF (wn_none rfl) rfl rfl (yl_fieldAddr hF rfl rfl (fun w => by kernel_rfl : ∀ w, (Instr.fieldAt 93 (.pointer (some ⟨gc, 0, none⟩)) 0).run Try.prog w = .ok (.pointer (some ⟨gc, 0, none⟩)) w)) ?_; clear hF; intro a hF
    refine seq_yl hF (wn_none rfl) rfl rfl (yl_fieldAddr hF rfl rfl (fun w => by kernel_rfl : ∀ w, (Instr.fieldAt 43 (.pointer (some ⟨gc, 0, none⟩)) 1).run Try.prog w = .ok (.pointer (some ⟨gc, 1, none⟩)) w)) ?_; clear hF; intro a hF
    refine seq_yl hF (wn_none rfl) rfl rfl (yl_load (fun _ h => h ▸ hS) hF rfl rfl 0 rfl ag41 rfl) ?_; clear hF; intro a hF
    refine seq_wp (wn_none rfl) (wp_call (vs := [_]) hF rfl rfl rfl rfl cf38 (cloneP_any _ _ _ (hS.rdRo 1 rfl) (by first | omega | (simp; done) | (simp; omega))) ?_)
    clear hF; rintro _ w ⟨v617, rfl, hS1⟩ a hF
    replace hS := hS.callB hS1 rfl; clear hS1
    obtain ⟨Av617, cv617, rfl⟩ := hS.form 0 rfl
    refine mvN hF rfl rfl rfl rfl rfl ?_; clear hF; intro a hF
    refine mvN hF rfl rfl rfl rfl rfl ?_; clear hF; intro a hF
    refine seq_yl hF (wn_none rfl) rfl rfl (yl_build (parts := [(0, .tmp 42), (1, .tmp 43)]) (vs := [(0, _), (1, _)]) (cs := [_, _]) hF bd67 rfl rfl rfl rfl) ?_; clear hF; intro a hF
    refine seq_wp (wn_none rfl) (wp_bslice (parts := [(0, .tmp 44)]) (vs := [(0, _)]) (enc := enc67) (e := 67) (size := 2) (cs := #[.int .i64 (s), .string x]) hF hS rfl rfl rfl rfl ([(E67.mk (s) x)] : List E67) (fun w => by kernel_rfl) rfl rfl rfl (by decide) ?_)
    clear hF hS; intro a w v618 hF hS
    obtain ⟨Av618, cv618, rfl⟩ := hS.form 0 rfl
    refine seq_wp (wn_none rfl) (wp_app (enc := enc67) hF hS rfl rfl rfl rfl rfl 1 rfl sl41 inf67 rfl (by decide) (hS.rdRow 0 rfl) enc67_one (by decide) (by first | omega | (simp only [List.length_append, List.length_cons, List.length_nil]; omega) | (simp; omega)) ?_)
    clear hF hS; intro a w v619 hF hS
    obtain ⟨Av619, cv619, rfl⟩ := hS.form 1 rfl
    refine seq_yl hF (wn_none rfl) rfl rfl (yl_nilCheck hF rfl rfl) ?_; clear hF; intro a hF
    refine seq_yl hF (wn_none rfl) rfl rfl (yl_fieldAddr hF rfl rfl (fun w => by kernel_rfl : ∀ w, (Instr.fieldAt 93 (.pointer (some ⟨gc, 0, none⟩)) 0).run Try.prog w = .ok (.pointer (some ⟨gc, 0, none⟩)) w)) ?_; clear hF; intro a hF
    refine seq_yl hF (wn_none rfl) rfl rfl (yl_fieldAddr hF rfl rfl (fun w => by kernel_rfl : ∀ w, (Instr.fieldAt 43 (.pointer (some ⟨gc, 0, none⟩)) 1).run Try.prog w = .ok (.pointer (some ⟨gc, 1, none⟩)) w)) ?_; clear hF; intro a hF
    refine seq_wp (wn_none rfl) (wp_store (cs' := #[_, _, _]) hF hS rfl rfl rfl rfl 2 rfl sz41 (by simp [Value.cells, Value.oneCell']) (by simp [Value.cells]) rfl ?_)
    clear hF hS; intro a w hF hS
    refine wpList_nil ?_
    refine ret_n ?_
    refine ret_0 hF rfl  ?_
    exact ⟨_, rfl, _, _, _, rfl, (show put1 st L rm s x fua = (st, (L ++ ([(E67.mk (s) x)] : List E67))) from put1_3 (by assumption) (by omega) (by omega)), (hS.subT 4 [2, 1] (by decide) (by first | rfl | simp) (by simp) (by simp))⟩

end Go.Proofs.Ytkejcnhfbfgphaa

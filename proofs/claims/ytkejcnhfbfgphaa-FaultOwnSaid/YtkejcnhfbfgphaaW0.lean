/- walks, printed by wip/gen -/
import Derived.Test.YtkejcnhfbfgphaaF
import Derived.Test.YtkejcnhfbfgphaaP
namespace Go.Proofs.Ytkejcnhfbfgphaa
open Go.RowKit
set_option linter.unusedVariables false
set_option linter.unusedSimpArgs false

set_option maxRecDepth 100000 in
theorem round_any (n m : Int) (w0 : World) (hm : m ≤ 9223372036854775807) :
  Fn Try.prog 13 #[.int .i64 n, .int .i64 m] w0 (fun v w' => v = .int .i64 (rnd n m) ∧ Sat w0 w' []) := by
 refine c_enter (N := 13) (l := [_, _]) Try.func13 rfl rfl (fun a w hF hS => ?_)
 refine c_seq ?_
 refine c_region ?_
 refine asN hF rfl rfl rfl rfl rfl ?_; clear hF; intro a hF
 refine wpList_nil ?_
 refine then_n ?_
 refine c_seq ?_
 refine c_seq ?_
 refine c_region ?_
 refine mvN hF rfl rfl rfl rfl rfl ?_; clear hF; intro a hF
 refine seq_yl hF (wn_none rfl) rfl rfl (yl_bin hF rfl rfl rfl rfl (fun _ => run_lss)) ?_; clear hF; intro a hF
 refine wpList_nil ?_
 refine then_n ?_
 refine c_cond hF rfl (fun hc1 => ?_) (fun hc1 => ?_)
 ·first | (replace hc1 := of_decide_eq_true hc1) | (replace hc1 := of_decide_eq_false (bnot_t hc1)) | (subst hc1) | (replace hc1 := bnot_t hc1; subst hc1) | (replace hc1 := bnot_t hc1) | skip
  refine c_seq ?_
  refine c_region ?_
  refine asN hF rfl rfl rfl rfl rfl ?_; clear hF; intro a hF
  refine wpList_nil ?_
  refine then_n ?_
  refine wp_ret ?_
  refine then_r ?_
  refine ret_t hF rfl rfl ?_
  exact ⟨_, rfl, congrArg (Value.int .i64) (by first | exact (if_pos (by omega)).symm | exact round_eq (by omega) hm), (hS.sub [] (by decide) (by first | rfl | simp) (by simp))⟩
 ·first | (replace hc1 := of_decide_eq_false hc1) | (replace hc1 := of_decide_eq_true (bnot_f hc1)) | (subst hc1) | (replace hc1 := bnot_f hc1; subst hc1) | (replace hc1 := bnot_f hc1) | skip
  refine wp_skip ?_
  refine then_n ?_
  refine c_seq ?_
  refine c_region ?_
  refine mvN hF rfl rfl rfl rfl rfl ?_; clear hF; intro a hF
  refine seq_yl hF (wn_none rfl) rfl rfl (yl_conv hF rfl rfl (fun _ => run_cnv Try.underlying3 Try.underlying62)) ?_; clear hF; intro a hF
  refine mvN hF rfl rfl rfl rfl rfl ?_; clear hF; intro a hF
  refine seq_yl hF (wn_none rfl) rfl rfl (yl_conv hF rfl rfl (fun _ => run_cnv Try.underlying3 Try.underlying62)) ?_; clear hF; intro a hF
  refine seq_yl hF (wn_none rfl) rfl rfl (yl_bin hF rfl rfl rfl rfl (fun _ => run_rem (by rw [wrap_u64]; omega))) ?_; clear hF; intro a hF
  refine seq_yl hF (wn_none rfl) rfl rfl (yl_conv hF rfl rfl (fun _ => run_cnv Try.underlying62 Try.underlying3)) ?_; clear hF; intro a hF
  refine asN hF rfl rfl rfl rfl rfl ?_; clear hF; intro a hF
  refine wpList_nil ?_
  refine then_n ?_
  refine wp_ret ?_
  refine ret_t hF rfl rfl ?_
  exact ⟨_, rfl, congrArg (Value.int .i64) (by first | exact (if_pos (by omega)).symm | exact round_eq (by omega) hm), (hS.sub [] (by decide) (by first | rfl | simp) (by simp))⟩

set_option maxHeartbeats 400000 in
set_option maxRecDepth 100000 in
theorem rule_any (n : Int) (w0 : World) :
  Fn Try.prog 19 #[.int .i64 n] w0 (fun v w' => ∃ (k f l s t er dn : Int) (hf : Bool) (dl : Int), v = .agg #[.int .i64 k, .int .i64 f, .int .i64 l, .int .i64 s, .int .i64 t, .int .i64 er, .int .i64 dn, .bool hf, .int .i64 dl] ∧ (0 ≤ k ∧ k ≤ 3) ∧ (0 ≤ f ∧ f ≤ 5) ∧ (f ≤ l ∧ l ≤ f + 3) ∧ (0 ≤ s ∧ s ≤ 2) ∧ (-1 ≤ t ∧ t ≤ 2) ∧ (er = 0 ∨ er = 10 ∨ er = 11 ∨ er = 50) ∧ (0 ≤ dn ∧ dn ≤ 3) ∧ (0 ≤ dl ∧ dl ≤ 5) ∧ Sat w0 w' []) := by
 refine c_enter (N := 43) (l := [_]) Try.func19 rfl rfl (fun a w hF hS => ?_)
 refine c_seq ?_
 refine c_region ?_
 refine seq_wp (wn_none rfl) (wp_alloc (cs := #[_, _, _, _, _, _, _, _, _]) hF hS rfl rfl rfl zr37 rfl ?_)
 clear hF hS; intro a w g2 hF hS
 refine wpList_nil ?_
 refine then_n ?_
 refine c_seq ?_
 refine c_region ?_
 refine mvN hF rfl rfl rfl rfl rfl ?_; clear hF; intro a hF
 have hr3 := rnd_bounds (n) (4 : Int) (by omega)
 refine seq_wp (wn_none rfl) (wp_call (vs := [_, _]) hF rfl rfl rfl rfl cf13 (round_any (n) (4 : Int) _ (by omega)) ?_)
 clear hF; rintro _ w ⟨rfl, hS1⟩ a hF
 replace hS := hS.callB hS1 rfl; clear hS1
 refine mvN hF rfl rfl rfl rfl rfl ?_; clear hF; intro a hF
 refine seq_yl hF (wn_none rfl) rfl rfl (yl_bin hF rfl rfl rfl rfl (fun _ => run_shr (c := 2) (d := 4) (by decide) (by decide))) ?_; clear hF; intro a hF
 have hr4 := rnd_bounds (((n) / 4)) (6 : Int) (by omega)
 refine seq_wp (wn_none rfl) (wp_call (vs := [_, _]) hF rfl rfl rfl rfl cf13 (round_any (((n) / 4)) (6 : Int) _ (by omega)) ?_)
 clear hF; rintro _ w ⟨rfl, hS1⟩ a hF
 replace hS := hS.callB hS1 rfl; clear hS1
 refine mvN hF rfl rfl rfl rfl rfl ?_; clear hF; intro a hF
 refine seq_yl hF (wn_none rfl) rfl rfl (yl_bin hF rfl rfl rfl rfl (fun _ => run_shr (c := 6) (d := 64) (by decide) (by decide))) ?_; clear hF; intro a hF
 have hr5 := rnd_bounds (((n) / 64)) (3 : Int) (by omega)
 refine seq_wp (wn_none rfl) (wp_call (vs := [_, _]) hF rfl rfl rfl rfl cf13 (round_any (((n) / 64)) (3 : Int) _ (by omega)) ?_)
 clear hF; rintro _ w ⟨rfl, hS1⟩ a hF
 replace hS := hS.callB hS1 rfl; clear hS1
 refine mvN hF rfl rfl rfl rfl rfl ?_; clear hF; intro a hF
 refine seq_yl hF (wn_none rfl) rfl rfl (yl_bin hF rfl rfl rfl rfl (fun _ => run_shr (c := 9) (d := 512) (by decide) (by decide))) ?_; clear hF; intro a hF
 have hr6 := rnd_bounds (((n) / 512)) (4 : Int) (by omega)
 refine seq_wp (wn_none rfl) (wp_call (vs := [_, _]) hF rfl rfl rfl rfl cf13 (round_any (((n) / 512)) (4 : Int) _ (by omega)) ?_)
 clear hF; rintro _ w ⟨rfl, hS1⟩ a hF
 replace hS := hS.callB hS1 rfl; clear hS1
 refine seq_yl hF (wn_none rfl) rfl rfl (yl_bin hF rfl rfl rfl rfl (fun _ => run_sub (by refine ⟨?_, ?_⟩ <;> omega))) ?_; clear hF; intro a hF
 refine seq_yl hF (wn_none rfl) rfl rfl (yl_build (parts := [(0, .tmp 5), (1, .tmp 8), (3, .tmp 11), (4, .tmp 15)]) (vs := [(0, _), (1, _), (3, _), (4, _)]) (cs := [_, _, _, _, _, _, _, _, _]) hF bd37 rfl rfl rfl rfl) ?_; clear hF; intro a hF
 refine seq_wp (wn_none rfl) (wp_alloc (cs := #[_, _, _, _, _, _, _, _, _]) hF hS rfl rfl rfl zr37 rfl ?_)
 clear hF hS; intro a w g7 hF hS
 refine seq_wp (wn_none rfl) (wp_store (cs' := #[_, _, _, _, _, _, _, _, _]) hF hS rfl rfl rfl rfl 0 rfl sz37 (by simp [Value.cells, Value.oneCell']) (by simp [Value.cells]) rfl ?_)
 clear hF hS; intro a w hF hS
 refine wpList_nil ?_
 refine then_n ?_
 refine c_seq ?_
 refine ha_startS hS [0] 7 (by kernel_rfl) ?_; clear hS; intro w hS
 have hSS := hS.sub [0] (by decide) rfl (by simp)
 refine ha_y 0 hF rfl rfl rfl (wn_none rfl) (.inr hSS) (yl_fieldAddr hF rfl rfl (fun w => by kernel_rfl : ∀ w, (Instr.fieldAt 37 (.pointer (some ⟨g7, 0, none⟩)) 1).run Try.prog w = .ok (.pointer (some ⟨g7, 1, none⟩)) w)) ?_; clear hF; intro a hF
 refine ha_y 2 hF rfl rfl rfl (wn_none rfl) (.inr hSS) (yl_move hF rfl rfl) ?_; clear hF; intro a hF
 refine ha_y 3 hF rfl rfl rfl (wn_none rfl) (.inr hSS) (yl_bin hF rfl rfl rfl rfl (fun _ => run_shr (c := 12) (d := 4096) (by decide) (by decide))) ?_; clear hF; intro a hF
 refine ha_l 1 hF rfl rfl rfl (wn_none rfl) hSS (yl_load (fun _ h => h) hF rfl rfl 0 rfl ag3 rfl) ?_; clear hF; intro a hF
 have hr8 := rnd_bounds (((n) / 4096)) (4 : Int) (by omega)
 refine ha_one 4 (by kernel_rfl) rfl (wn_none rfl) (wp_call (vs := [_, _]) hF rfl rfl rfl rfl cf13 (round_any (((n) / 4096)) (4 : Int) _ (by omega)) ?_)
 clear hF; rintro _ w ⟨rfl, hS1⟩ a hF
 replace hS := hS.callB hS1 rfl; clear hS1
 replace hSS := hS.sub [0] (by decide) rfl (by simp)
 refine ⟨.inr hSS, ?_⟩
 refine ha_y 5 hF rfl rfl rfl (wn_none rfl) (.inr hSS) (yl_bin hF rfl rfl rfl rfl (fun _ => run_add (by refine ⟨?_, ?_⟩ <;> omega))) ?_; clear hF; intro a hF
 refine ha_y 6 hF rfl rfl rfl (wn_none rfl) (.inr hSS) (yl_fieldAddr hF rfl rfl (fun w => by kernel_rfl : ∀ w, (Instr.fieldAt 37 (.pointer (some ⟨g7, 0, none⟩)) 2).run Try.prog w = .ok (.pointer (some ⟨g7, 2, none⟩)) w)) ?_; clear hF; intro a hF
 refine ha_one 7 (by kernel_rfl) rfl (wn_none rfl) (wp_store (cs' := #[_, _, _, _, _, _, _, _, _]) hF hS rfl rfl rfl rfl 0 rfl sz3 (by simp [Value.cells, Value.oneCell']) (by simp [Value.cells]) rfl ?_)
 clear hF hS; intro a w hF hS
 refine ⟨.inl (by kernel_rfl), ?_⟩
 refine ha_done (by kernel_rfl) ?_ _
 refine then_n ?_
 refine c_seq ?_
 refine ha_startS hS [] 19 (by kernel_rfl) ?_; clear hS; intro w hS
 have hSS := hS.sub [] (by decide) rfl (by simp)
 refine ha_y 1 hF rfl rfl rfl (wn_none rfl) (.inr hSS) (yl_move hF rfl rfl) ?_; clear hF; intro a hF
 refine ha_y 2 hF rfl rfl rfl (wn_none rfl) (.inr hSS) (yl_bin hF rfl rfl rfl rfl (fun _ => run_shr (c := 15) (d := 32768) (by decide) (by decide))) ?_; clear hF; intro a hF
 refine ha_y 6 hF rfl rfl rfl (wn_none rfl) (.inr hSS) (yl_move hF rfl rfl) ?_; clear hF; intro a hF
 refine ha_y 7 hF rfl rfl rfl (wn_none rfl) (.inr hSS) (yl_bin hF rfl rfl rfl rfl (fun _ => run_shr (c := 18) (d := 262144) (by decide) (by decide))) ?_; clear hF; intro a hF
 refine ha_y 9 hF rfl rfl rfl (wn_none rfl) (.inr hSS) (yl_move hF rfl rfl) ?_; clear hF; intro a hF
 refine ha_y 10 hF rfl rfl rfl (wn_none rfl) (.inr hSS) (yl_bin hF rfl rfl rfl rfl (fun _ => run_shr (c := 20) (d := 1048576) (by decide) (by decide))) ?_; clear hF; intro a hF
 refine ha_y 13 hF rfl rfl rfl (wn_none rfl) (.inr hSS) (yl_move hF rfl rfl) ?_; clear hF; intro a hF
 refine ha_y 14 hF rfl rfl rfl (wn_none rfl) (.inr hSS) (yl_bin hF rfl rfl rfl rfl (fun _ => run_shr (c := 22) (d := 4194304) (by decide) (by decide))) ?_; clear hF; intro a hF
 refine ha_all (rs := [0, 3]) (by kernel_rfl) (by simp) ?_
 refine List.forall_mem_cons.2 ⟨?_, List.forall_mem_cons.2 ⟨?_, (fun _ h => by cases h)⟩⟩
 ·skip
  refine ha_op 0 rfl (wn_none rfl) (wp_bslice (parts := [(0, .const (Go.Value.int Go.IntKind.i64 0)), (1, .const (Go.Value.int Go.IntKind.i64 10)), (2, .const (Go.Value.int Go.IntKind.i64 11)), (3, .const (Go.Value.int Go.IntKind.i64 50)), (4, .const (Go.Value.int Go.IntKind.i64 10)), (5, .const (Go.Value.int Go.IntKind.i64 50))]) (vs := [(0, _), (1, _), (2, _), (3, _), (4, _), (5, _)]) (enc := encI) (e := 25) (size := 1) (cs := #[.int .i64 (0 : Int), .int .i64 (10 : Int), .int .i64 (11 : Int), .int .i64 (50 : Int), .int .i64 (10 : Int), .int .i64 (50 : Int)]) hF hS rfl rfl rfl rfl ([(0 : Int), (10 : Int), (11 : Int), (50 : Int), (10 : Int), (50 : Int)] : List Int) (fun w => by kernel_rfl) rfl rfl rfl (by decide) ?_)
  clear hF hS; intro a w v9 hF hS
  obtain ⟨Av9, cv9, rfl⟩ := hS.form 0 rfl
  replace hSS := hS.sub [] (by decide) rfl (by simp)
  refine ⟨.inr hSS, ?_⟩
  have hr10 := rnd_bounds (((n) / 32768)) (6 : Int) (by omega)
  refine ha_one 3 (by kernel_rfl) rfl (wn_none rfl) (wp_call (vs := [_, _]) hF rfl rfl rfl rfl cf13 (round_any (((n) / 32768)) (6 : Int) _ (by omega)) ?_)
  clear hF; rintro _ w ⟨rfl, hS1⟩ a hF
  replace hS := hS.callB hS1 rfl; clear hS1
  obtain ⟨rn11, hrn11⟩ : ∃ nn9 : Nat, (rnd (((n) / 32768)) (6 : Int)) = nn9 := ⟨(rnd (((n) / 32768)) (6 : Int)).toNat, by omega⟩; rw [hrn11] at hF
  replace hSS := hS.sub [] (by decide) rfl (by simp)
  refine ⟨.inr hSS, ?_⟩
  have herr : ∀ e ∈ ([(0 : Int), (10 : Int), (11 : Int), (50 : Int), (10 : Int), (50 : Int)] : List Int), e = 0 ∨ e = 10 ∨ e = 11 ∨ e = 50 := by decide
  have hlt_hx12 : rn11 < (([(0 : Int), (10 : Int), (11 : Int), (50 : Int), (10 : Int), (50 : Int)] : List Int)).length := by first | omega | (simp; done) | (simp; omega)
  obtain ⟨ad13, rfl⟩ := rd_some (hS.rdRow 0 rfl) hlt_hx12
  obtain ⟨x12, hx12⟩ := get_some hlt_hx12
  have hb_x12 := herr x12 (List.mem_of_getElem? hx12)
  refine ha_y 4 hF rfl rfl rfl (wn_none rfl) (.inr hSS) (yl_indexAddr hF rfl rfl rfl (fun _ => run_idx' sl64 sz25 (hS.rdRow 0 rfl) hlt_hx12)) ?_; clear hF; intro a hF
  refine ha_all (rs := [5, 8]) (by kernel_rfl) (by simp) ?_
  refine List.forall_mem_cons.2 ⟨?_, List.forall_mem_cons.2 ⟨?_, (fun _ h => by cases h)⟩⟩
  ·skip
   refine ha_op 5 rfl (wn_none rfl) (wp_yl (S := fun w' => w' = w) hF rfl rfl rfl (yl_loadAt hF rfl rfl ag25 (fun _ h => rd_cell0 (enc := encI) (by subst h; exact hS.rdRow 0 rfl) encI_len hx12 rfl rfl)) ?_)
   clear hF; intro a hF
   replace hSS := hS.sub [] (by decide) rfl (by simp)
   refine ⟨.inr hSS, ?_⟩
   have hr14 := rnd_bounds (((n) / 262144)) (4 : Int) (by omega)
   refine ha_one 8 (by kernel_rfl) rfl (wn_none rfl) (wp_call (vs := [_, _]) hF rfl rfl rfl rfl cf13 (round_any (((n) / 262144)) (4 : Int) _ (by omega)) ?_)
   clear hF; rintro _ w ⟨rfl, hS1⟩ a hF
   replace hS := hS.callB hS1 rfl; clear hS1
   replace hSS := hS.sub [] (by decide) rfl (by simp)
   refine ⟨.inr hSS, ?_⟩
   have hr15 := rnd_bounds (((n) / 1048576)) (2 : Int) (by omega)
   refine ha_one 11 (by kernel_rfl) rfl (wn_none rfl) (wp_call (vs := [_, _]) hF rfl rfl rfl rfl cf13 (round_any (((n) / 1048576)) (2 : Int) _ (by omega)) ?_)
   clear hF; rintro _ w ⟨rfl, hS1⟩ a hF
   replace hS := hS.callB hS1 rfl; clear hS1
   replace hSS := hS.sub [] (by decide) rfl (by simp)
   refine ⟨.inr hSS, ?_⟩
   refine ha_y 12 hF rfl rfl rfl (wn_none rfl) (.inr hSS) (yl_bin hF rfl rfl rfl rfl (fun _ => run_eql)) ?_; clear hF; intro a hF
   have hr16 := rnd_bounds (((n) / 4194304)) (6 : Int) (by omega)
   refine ha_one 15 (by kernel_rfl) rfl (wn_none rfl) (wp_call (vs := [_, _]) hF rfl rfl rfl rfl cf13 (round_any (((n) / 4194304)) (6 : Int) _ (by omega)) ?_)
   clear hF; rintro _ w ⟨rfl, hS1⟩ a hF
   replace hS := hS.callB hS1 rfl; clear hS1
   replace hSS := hS.sub [] (by decide) rfl (by simp)
   refine ⟨.inr hSS, ?_⟩
   refine ha_y 16 hF rfl rfl rfl (wn_none rfl) (.inr hSS) (yl_build (parts := [(0, .tmp 29), (1, .tmp 32), (2, .tmp 36), (3, .tmp 39)]) (vs := [(0, _), (1, _), (2, _), (3, _)]) (cs := [_, _, _, _]) hF bd27 rfl rfl rfl rfl) ?_; clear hF; intro a hF
   refine ha_y 17 hF rfl rfl rfl (wn_none rfl) (.inr hSS) (yl_fieldAddr hF rfl rfl (fun w => by kernel_rfl : ∀ w, (Instr.fieldAt 37 (.pointer (some ⟨g7, 0, none⟩)) 5).run Try.prog w = .ok (.pointer (some ⟨g7, 5, none⟩)) w)) ?_; clear hF; intro a hF
   refine ha_one 18 (by kernel_rfl) rfl (wn_none rfl) (wp_store (cs' := #[_, _, _, _, _, _, _, _, _]) hF hS rfl rfl rfl rfl 1 rfl sz27 (by simp [Value.cells, Value.oneCell']) (by simp [Value.cells]) rfl ?_)
   clear hF hS; intro a w hF hS
   replace hSS := hS.sub [] (by decide) rfl (by simp)
   refine ⟨.inr hSS, ?_⟩
   refine ha_done (by kernel_rfl) ?_ _
   refine then_n ?_
   refine c_seq ?_
   refine c_region ?_
   refine seq_yl hF (wn_none rfl) rfl rfl (yl_loadK (rs := [_, _, _, _, _, _, _, _, _]) (fun _ h => h ▸ hS) hF rfl rfl 1 rfl ag37 sz37 rfl rfl) ?_; clear hF; intro a hF
   refine seq_wp (wn_none rfl) (wp_store (cs' := #[_, _, _, _, _, _, _, _, _]) hF hS rfl rfl rfl rfl 2 rfl sz37 (by simp [Value.cells, Value.oneCell']) (by simp [Value.cells]) rfl ?_)
   clear hF hS; intro a w hF hS
   refine wpList_nil ?_
   refine then_n ?_
   refine wp_ret ?_
   refine ret_c hF rfl (resC hS rfl 2 rfl ag37 sz37) ?_
   exact ⟨_, rfl, ((rnd (n) (4 : Int))), ((rnd (((n) / 4)) (6 : Int))), ((((rnd (((n) / 4)) (6 : Int))) + ((rnd (((n) / 4096)) (4 : Int))))), ((rnd (((n) / 64)) (3 : Int))), ((((rnd (((n) / 512)) (4 : Int))) - (1 : Int))), (x12), ((rnd (((n) / 262144)) (4 : Int))), (decide (((rnd (((n) / 1048576)) (2 : Int))) = (1 : Int))), ((rnd (((n) / 4194304)) (6 : Int))), rfl, by omega, by omega, by omega, by omega, by omega, by omega, by omega, by omega, (hS.sub [] (by decide) (by first | rfl | simp) (by simp))⟩
  ·skip
   have hr17 := rnd_bounds (((n) / 262144)) (4 : Int) (by omega)
   refine ha_op 8 rfl (wn_none rfl) (wp_call (vs := [_, _]) hF rfl rfl rfl rfl cf13 (round_any (((n) / 262144)) (4 : Int) _ (by omega)) ?_)
   clear hF; rintro _ w ⟨rfl, hS1⟩ a hF
   replace hS := hS.callB hS1 rfl; clear hS1
   replace hSS := hS.sub [] (by decide) rfl (by simp)
   refine ⟨.inr hSS, ?_⟩
   refine ha_all (rs := [5, 11]) (by kernel_rfl) (by simp) ?_
   refine List.forall_mem_cons.2 ⟨?_, List.forall_mem_cons.2 ⟨?_, (fun _ h => by cases h)⟩⟩
   ·skip
    refine ha_op 5 rfl (wn_none rfl) (wp_yl (S := fun w' => w' = w) hF rfl rfl rfl (yl_loadAt hF rfl rfl ag25 (fun _ h => rd_cell0 (enc := encI) (by subst h; exact hS.rdRow 0 rfl) encI_len hx12 rfl rfl)) ?_)
    clear hF; intro a hF
    replace hSS := hS.sub [] (by decide) rfl (by simp)
    refine ⟨.inr hSS, ?_⟩
    have hr18 := rnd_bounds (((n) / 1048576)) (2 : Int) (by omega)
    refine ha_one 11 (by kernel_rfl) rfl (wn_none rfl) (wp_call (vs := [_, _]) hF rfl rfl rfl rfl cf13 (round_any (((n) / 1048576)) (2 : Int) _ (by omega)) ?_)
    clear hF; rintro _ w ⟨rfl, hS1⟩ a hF
    replace hS := hS.callB hS1 rfl; clear hS1
    replace hSS := hS.sub [] (by decide) rfl (by simp)
    refine ⟨.inr hSS, ?_⟩
    refine ha_y 12 hF rfl rfl rfl (wn_none rfl) (.inr hSS) (yl_bin hF rfl rfl rfl rfl (fun _ => run_eql)) ?_; clear hF; intro a hF
    have hr19 := rnd_bounds (((n) / 4194304)) (6 : Int) (by omega)
    refine ha_one 15 (by kernel_rfl) rfl (wn_none rfl) (wp_call (vs := [_, _]) hF rfl rfl rfl rfl cf13 (round_any (((n) / 4194304)) (6 : Int) _ (by omega)) ?_)
    clear hF; rintro _ w ⟨rfl, hS1⟩ a hF
    replace hS := hS.callB hS1 rfl; clear hS1
    replace hSS := hS.sub [] (by decide) rfl (by simp)
    refine ⟨.inr hSS, ?_⟩
    refine ha_y 16 hF rfl rfl rfl (wn_none rfl) (.inr hSS) (yl_build (parts := [(0, .tmp 29), (1, .tmp 32), (2, .tmp 36), (3, .tmp 39)]) (vs := [(0, _), (1, _), (2, _), (3, _)]) (cs := [_, _, _, _]) hF bd27 rfl rfl rfl rfl) ?_; clear hF; intro a hF
    refine ha_y 17 hF rfl rfl rfl (wn_none rfl) (.inr hSS) (yl_fieldAddr hF rfl rfl (fun w => by kernel_rfl : ∀ w, (Instr.fieldAt 37 (.pointer (some ⟨g7, 0, none⟩)) 5).run Try.prog w = .ok (.pointer (some ⟨g7, 5, none⟩)) w)) ?_; clear hF; intro a hF
    refine ha_one 18 (by kernel_rfl) rfl (wn_none rfl) (wp_store (cs' := #[_, _, _, _, _, _, _, _, _]) hF hS rfl rfl rfl rfl 1 rfl sz27 (by simp [Value.cells, Value.oneCell']) (by simp [Value.cells]) rfl ?_)
    clear hF hS; intro a w hF hS
    replace hSS := hS.sub [] (by decide) rfl (by simp)
    refine ⟨.inr hSS, ?_⟩
    refine ha_done (by kernel_rfl) ?_ _
    refine then_n ?_
    refine c_seq ?_
    refine c_region ?_
    refine seq_yl hF (wn_none rfl) rfl rfl (yl_loadK (rs := [_, _, _, _, _, _, _, _, _]) (fun _ h => h ▸ hS) hF rfl rfl 1 rfl ag37 sz37 rfl rfl) ?_; clear hF; intro a hF
    refine seq_wp (wn_none rfl) (wp_store (cs' := #[_, _, _, _, _, _, _, _, _]) hF hS rfl rfl rfl rfl 2 rfl sz37 (by simp [Value.cells, Value.oneCell']) (by simp [Value.cells]) rfl ?_)
    clear hF hS; intro a w hF hS
    refine wpList_nil ?_
    refine then_n ?_
    refine wp_ret ?_
    refine ret_c hF rfl (resC hS rfl 2 rfl ag37 sz37) ?_
    exact ⟨_, rfl, ((rnd (n) (4 : Int))), ((rnd (((n) / 4)) (6 : Int))), ((((rnd (((n) / 4)) (6 : Int))) + ((rnd (((n) / 4096)) (4 : Int))))), ((rnd (((n) / 64)) (3 : Int))), ((((rnd (((n) / 512)) (4 : Int))) - (1 : Int))), (x12), ((rnd (((n) / 262144)) (4 : Int))), (decide (((rnd (((n) / 1048576)) (2 : Int))) = (1 : Int))), ((rnd (((n) / 4194304)) (6 : Int))), rfl, by omega, by omega, by omega, by omega, by omega, by omega, by omega, by omega, (hS.sub [] (by decide) (by first | rfl | simp) (by simp))⟩
   ·skip
    have hr20 := rnd_bounds (((n) / 1048576)) (2 : Int) (by omega)
    refine ha_op 11 rfl (wn_none rfl) (wp_call (vs := [_, _]) hF rfl rfl rfl rfl cf13 (round_any (((n) / 1048576)) (2 : Int) _ (by omega)) ?_)
    clear hF; rintro _ w ⟨rfl, hS1⟩ a hF
    replace hS := hS.callB hS1 rfl; clear hS1
    replace hSS := hS.sub [] (by decide) rfl (by simp)
    refine ⟨.inr hSS, ?_⟩
    refine ha_y 12 hF rfl rfl rfl (wn_none rfl) (.inr hSS) (yl_bin hF rfl rfl rfl rfl (fun _ => run_eql)) ?_; clear hF; intro a hF
    refine ha_all (rs := [5, 15]) (by kernel_rfl) (by simp) ?_
    refine List.forall_mem_cons.2 ⟨?_, List.forall_mem_cons.2 ⟨?_, (fun _ h => by cases h)⟩⟩
    ·skip
     refine ha_op 5 rfl (wn_none rfl) (wp_yl (S := fun w' => w' = w) hF rfl rfl rfl (yl_loadAt hF rfl rfl ag25 (fun _ h => rd_cell0 (enc := encI) (by subst h; exact hS.rdRow 0 rfl) encI_len hx12 rfl rfl)) ?_)
     clear hF; intro a hF
     replace hSS := hS.sub [] (by decide) rfl (by simp)
     refine ⟨.inr hSS, ?_⟩
     have hr21 := rnd_bounds (((n) / 4194304)) (6 : Int) (by omega)
     refine ha_one 15 (by kernel_rfl) rfl (wn_none rfl) (wp_call (vs := [_, _]) hF rfl rfl rfl rfl cf13 (round_any (((n) / 4194304)) (6 : Int) _ (by omega)) ?_)
     clear hF; rintro _ w ⟨rfl, hS1⟩ a hF
     replace hS := hS.callB hS1 rfl; clear hS1
     replace hSS := hS.sub [] (by decide) rfl (by simp)
     refine ⟨.inr hSS, ?_⟩
     refine ha_y 16 hF rfl rfl rfl (wn_none rfl) (.inr hSS) (yl_build (parts := [(0, .tmp 29), (1, .tmp 32), (2, .tmp 36), (3, .tmp 39)]) (vs := [(0, _), (1, _), (2, _), (3, _)]) (cs := [_, _, _, _]) hF bd27 rfl rfl rfl rfl) ?_; clear hF; intro a hF
     refine ha_y 17 hF rfl rfl rfl (wn_none rfl) (.inr hSS) (yl_fieldAddr hF rfl rfl (fun w => by kernel_rfl : ∀ w, (Instr.fieldAt 37 (.pointer (some ⟨g7, 0, none⟩)) 5).run Try.prog w = .ok (.pointer (some ⟨g7, 5, none⟩)) w)) ?_; clear hF; intro a hF
     refine ha_one 18 (by kernel_rfl) rfl (wn_none rfl) (wp_store (cs' := #[_, _, _, _, _, _, _, _, _]) hF hS rfl rfl rfl rfl 1 rfl sz27 (by simp [Value.cells, Value.oneCell']) (by simp [Value.cells]) rfl ?_)
     clear hF hS; intro a w hF hS
     replace hSS := hS.sub [] (by decide) rfl (by simp)
     refine ⟨.inr hSS, ?_⟩
     refine ha_done (by kernel_rfl) ?_ _
     refine then_n ?_
     refine c_seq ?_
     refine c_region ?_
     refine seq_yl hF (wn_none rfl) rfl rfl (yl_loadK (rs := [_, _, _, _, _, _, _, _, _]) (fun _ h => h ▸ hS) hF rfl rfl 1 rfl ag37 sz37 rfl rfl) ?_; clear hF; intro a hF
     refine seq_wp (wn_none rfl) (wp_store (cs' := #[_, _, _, _, _, _, _, _, _]) hF hS rfl rfl rfl rfl 2 rfl sz37 (by simp [Value.cells, Value.oneCell']) (by simp [Value.cells]) rfl ?_)
     clear hF hS; intro a w hF hS
     refine wpList_nil ?_
     refine then_n ?_
     refine wp_ret ?_
     refine ret_c hF rfl (resC hS rfl 2 rfl ag37 sz37) ?_
     exact ⟨_, rfl, ((rnd (n) (4 : Int))), ((rnd (((n) / 4)) (6 : Int))), ((((rnd (((n) / 4)) (6 : Int))) + ((rnd (((n) / 4096)) (4 : Int))))), ((rnd (((n) / 64)) (3 : Int))), ((((rnd (((n) / 512)) (4 : Int))) - (1 : Int))), (x12), ((rnd (((n) / 262144)) (4 : Int))), (decide (((rnd (((n) / 1048576)) (2 : Int))) = (1 : Int))), ((rnd (((n) / 4194304)) (6 : Int))), rfl, by omega, by omega, by omega, by omega, by omega, by omega, by omega, by omega, (hS.sub [] (by decide) (by first | rfl | simp) (by simp))⟩
    ·skip
     have hr22 := rnd_bounds (((n) / 4194304)) (6 : Int) (by omega)
     refine ha_op 15 rfl (wn_none rfl) (wp_call (vs := [_, _]) hF rfl rfl rfl rfl cf13 (round_any (((n) / 4194304)) (6 : Int) _ (by omega)) ?_)
     clear hF; rintro _ w ⟨rfl, hS1⟩ a hF
     replace hS := hS.callB hS1 rfl; clear hS1
     replace hSS := hS.sub [] (by decide) rfl (by simp)
     refine ⟨.inr hSS, ?_⟩
     refine ha_one 5 (by kernel_rfl) rfl (wn_none rfl) (wp_yl (S := fun w' => w' = w) hF rfl rfl rfl (yl_loadAt hF rfl rfl ag25 (fun _ h => rd_cell0 (enc := encI) (by subst h; exact hS.rdRow 0 rfl) encI_len hx12 rfl rfl)) ?_)
     clear hF; intro a hF
     replace hSS := hS.sub [] (by decide) rfl (by simp)
     refine ⟨.inr hSS, ?_⟩
     refine ha_y 16 hF rfl rfl rfl (wn_none rfl) (.inr hSS) (yl_build (parts := [(0, .tmp 29), (1, .tmp 32), (2, .tmp 36), (3, .tmp 39)]) (vs := [(0, _), (1, _), (2, _), (3, _)]) (cs := [_, _, _, _]) hF bd27 rfl rfl rfl rfl) ?_; clear hF; intro a hF
     refine ha_y 17 hF rfl rfl rfl (wn_none rfl) (.inr hSS) (yl_fieldAddr hF rfl rfl (fun w => by kernel_rfl : ∀ w, (Instr.fieldAt 37 (.pointer (some ⟨g7, 0, none⟩)) 5).run Try.prog w = .ok (.pointer (some ⟨g7, 5, none⟩)) w)) ?_; clear hF; intro a hF
     refine ha_one 18 (by kernel_rfl) rfl (wn_none rfl) (wp_store (cs' := #[_, _, _, _, _, _, _, _, _]) hF hS rfl rfl rfl rfl 1 rfl sz27 (by simp [Value.cells, Value.oneCell']) (by simp [Value.cells]) rfl ?_)
     clear hF hS; intro a w hF hS
     replace hSS := hS.sub [] (by decide) rfl (by simp)
     refine ⟨.inr hSS, ?_⟩
     refine ha_done (by kernel_rfl) ?_ _
     refine then_n ?_
     refine c_seq ?_
     refine c_region ?_
     refine seq_yl hF (wn_none rfl) rfl rfl (yl_loadK (rs := [_, _, _, _, _, _, _, _, _]) (fun _ h => h ▸ hS) hF rfl rfl 1 rfl ag37 sz37 rfl rfl) ?_; clear hF; intro a hF
     refine seq_wp (wn_none rfl) (wp_store (cs' := #[_, _, _, _, _, _, _, _, _]) hF hS rfl rfl rfl rfl 2 rfl sz37 (by simp [Value.cells, Value.oneCell']) (by simp [Value.cells]) rfl ?_)
     clear hF hS; intro a w hF hS
     refine wpList_nil ?_
     refine then_n ?_
     refine wp_ret ?_
     refine ret_c hF rfl (resC hS rfl 2 rfl ag37 sz37) ?_
     exact ⟨_, rfl, ((rnd (n) (4 : Int))), ((rnd (((n) / 4)) (6 : Int))), ((((rnd (((n) / 4)) (6 : Int))) + ((rnd (((n) / 4096)) (4 : Int))))), ((rnd (((n) / 64)) (3 : Int))), ((((rnd (((n) / 512)) (4 : Int))) - (1 : Int))), (x12), ((rnd (((n) / 262144)) (4 : Int))), (decide (((rnd (((n) / 1048576)) (2 : Int))) = (1 : Int))), ((rnd (((n) / 4194304)) (6 : Int))), rfl, by omega, by omega, by omega, by omega, by omega, by omega, by omega, by omega, (hS.sub [] (by decide) (by first | rfl | simp) (by simp))⟩
 ·skip
  have hr23 := rnd_bounds (((n) / 32768)) (6 : Int) (by omega)
  refine ha_op 3 rfl (wn_none rfl) (wp_call (vs := [_, _]) hF rfl rfl rfl rfl cf13 (round_any (((n) / 32768)) (6 : Int) _ (by omega)) ?_)
  clear hF; rintro _ w ⟨rfl, hS1⟩ a hF
  replace hS := hS.callB hS1 rfl; clear hS1
  obtain ⟨rn24, hrn24⟩ : ∃ nn9 : Nat, (rnd (((n) / 32768)) (6 : Int)) = nn9 := ⟨(rnd (((n) / 32768)) (6 : Int)).toNat, by omega⟩; rw [hrn24] at hF
  replace hSS := hS.sub [] (by decide) rfl (by simp)
  refine ⟨.inr hSS, ?_⟩
  refine ha_all (rs := [0, 8]) (by kernel_rfl) (by simp) ?_
  refine List.forall_mem_cons.2 ⟨?_, List.forall_mem_cons.2 ⟨?_, (fun _ h => by cases h)⟩⟩
  ·skip
   refine ha_op 0 rfl (wn_none rfl) (wp_bslice (parts := [(0, .const (Go.Value.int Go.IntKind.i64 0)), (1, .const (Go.Value.int Go.IntKind.i64 10)), (2, .const (Go.Value.int Go.IntKind.i64 11)), (3, .const (Go.Value.int Go.IntKind.i64 50)), (4, .const (Go.Value.int Go.IntKind.i64 10)), (5, .const (Go.Value.int Go.IntKind.i64 50))]) (vs := [(0, _), (1, _), (2, _), (3, _), (4, _), (5, _)]) (enc := encI) (e := 25) (size := 1) (cs := #[.int .i64 (0 : Int), .int .i64 (10 : Int), .int .i64 (11 : Int), .int .i64 (50 : Int), .int .i64 (10 : Int), .int .i64 (50 : Int)]) hF hS rfl rfl rfl rfl ([(0 : Int), (10 : Int), (11 : Int), (50 : Int), (10 : Int), (50 : Int)] : List Int) (fun w => by kernel_rfl) rfl rfl rfl (by decide) ?_)
   clear hF hS; intro a w v25 hF hS
   obtain ⟨Av25, cv25, rfl⟩ := hS.form 0 rfl
   replace hSS := hS.sub [] (by decide) rfl (by simp)
   refine ⟨.inr hSS, ?_⟩
   have herr : ∀ e ∈ ([(0 : Int), (10 : Int), (11 : Int), (50 : Int), (10 : Int), (50 : Int)] : List Int), e = 0 ∨ e = 10 ∨ e = 11 ∨ e = 50 := by decide
   have hlt_hx26 : rn24 < (([(0 : Int), (10 : Int), (11 : Int), (50 : Int), (10 : Int), (50 : Int)] : List Int)).length := by first | omega | (simp; done) | (simp; omega)
   obtain ⟨ad27, rfl⟩ := rd_some (hS.rdRow 0 rfl) hlt_hx26
   obtain ⟨x26, hx26⟩ := get_some hlt_hx26
   have hb_x26 := herr x26 (List.mem_of_getElem? hx26)
   refine ha_y 4 hF rfl rfl rfl (wn_none rfl) (.inr hSS) (yl_indexAddr hF rfl rfl rfl (fun _ => run_idx' sl64 sz25 (hS.rdRow 0 rfl) hlt_hx26)) ?_; clear hF; intro a hF
   refine ha_all (rs := [5, 8]) (by kernel_rfl) (by simp) ?_
   refine List.forall_mem_cons.2 ⟨?_, List.forall_mem_cons.2 ⟨?_, (fun _ h => by cases h)⟩⟩
   ·skip
    refine ha_op 5 rfl (wn_none rfl) (wp_yl (S := fun w' => w' = w) hF rfl rfl rfl (yl_loadAt hF rfl rfl ag25 (fun _ h => rd_cell0 (enc := encI) (by subst h; exact hS.rdRow 0 rfl) encI_len hx26 rfl rfl)) ?_)
    clear hF; intro a hF
    replace hSS := hS.sub [] (by decide) rfl (by simp)
    refine ⟨.inr hSS, ?_⟩
    have hr28 := rnd_bounds (((n) / 262144)) (4 : Int) (by omega)
    refine ha_one 8 (by kernel_rfl) rfl (wn_none rfl) (wp_call (vs := [_, _]) hF rfl rfl rfl rfl cf13 (round_any (((n) / 262144)) (4 : Int) _ (by omega)) ?_)
    clear hF; rintro _ w ⟨rfl, hS1⟩ a hF
    replace hS := hS.callB hS1 rfl; clear hS1
    replace hSS := hS.sub [] (by decide) rfl (by simp)
    refine ⟨.inr hSS, ?_⟩
    have hr29 := rnd_bounds (((n) / 1048576)) (2 : Int) (by omega)
    refine ha_one 11 (by kernel_rfl) rfl (wn_none rfl) (wp_call (vs := [_, _]) hF rfl rfl rfl rfl cf13 (round_any (((n) / 1048576)) (2 : Int) _ (by omega)) ?_)
    clear hF; rintro _ w ⟨rfl, hS1⟩ a hF
    replace hS := hS.callB hS1 rfl; clear hS1
    replace hSS := hS.sub [] (by decide) rfl (by simp)
    refine ⟨.inr hSS, ?_⟩
    refine ha_y 12 hF rfl rfl rfl (wn_none rfl) (.inr hSS) (yl_bin hF rfl rfl rfl rfl (fun _ => run_eql)) ?_; clear hF; intro a hF
    have hr30 := rnd_bounds (((n) / 4194304)) (6 : Int) (by omega)
    refine ha_one 15 (by kernel_rfl) rfl (wn_none rfl) (wp_call (vs := [_, _]) hF rfl rfl rfl rfl cf13 (round_any (((n) / 4194304)) (6 : Int) _ (by omega)) ?_)
    clear hF; rintro _ w ⟨rfl, hS1⟩ a hF
    replace hS := hS.callB hS1 rfl; clear hS1
    replace hSS := hS.sub [] (by decide) rfl (by simp)
    refine ⟨.inr hSS, ?_⟩
    refine ha_y 16 hF rfl rfl rfl (wn_none rfl) (.inr hSS) (yl_build (parts := [(0, .tmp 29), (1, .tmp 32), (2, .tmp 36), (3, .tmp 39)]) (vs := [(0, _), (1, _), (2, _), (3, _)]) (cs := [_, _, _, _]) hF bd27 rfl rfl rfl rfl) ?_; clear hF; intro a hF
    refine ha_y 17 hF rfl rfl rfl (wn_none rfl) (.inr hSS) (yl_fieldAddr hF rfl rfl (fun w => by kernel_rfl : ∀ w, (Instr.fieldAt 37 (.pointer (some ⟨g7, 0, none⟩)) 5).run Try.prog w = .ok (.pointer (some ⟨g7, 5, none⟩)) w)) ?_; clear hF; intro a hF
    refine ha_one 18 (by kernel_rfl) rfl (wn_none rfl) (wp_store (cs' := #[_, _, _, _, _, _, _, _, _]) hF hS rfl rfl rfl rfl 1 rfl sz27 (by simp [Value.cells, Value.oneCell']) (by simp [Value.cells]) rfl ?_)
    clear hF hS; intro a w hF hS
    replace hSS := hS.sub [] (by decide) rfl (by simp)
    refine ⟨.inr hSS, ?_⟩
    refine ha_done (by kernel_rfl) ?_ _
    refine then_n ?_
    refine c_seq ?_
    refine c_region ?_
    refine seq_yl hF (wn_none rfl) rfl rfl (yl_loadK (rs := [_, _, _, _, _, _, _, _, _]) (fun _ h => h ▸ hS) hF rfl rfl 1 rfl ag37 sz37 rfl rfl) ?_; clear hF; intro a hF
    refine seq_wp (wn_none rfl) (wp_store (cs' := #[_, _, _, _, _, _, _, _, _]) hF hS rfl rfl rfl rfl 2 rfl sz37 (by simp [Value.cells, Value.oneCell']) (by simp [Value.cells]) rfl ?_)
    clear hF hS; intro a w hF hS
    refine wpList_nil ?_
    refine then_n ?_
    refine wp_ret ?_
    refine ret_c hF rfl (resC hS rfl 2 rfl ag37 sz37) ?_
    exact ⟨_, rfl, ((rnd (n) (4 : Int))), ((rnd (((n) / 4)) (6 : Int))), ((((rnd (((n) / 4)) (6 : Int))) + ((rnd (((n) / 4096)) (4 : Int))))), ((rnd (((n) / 64)) (3 : Int))), ((((rnd (((n) / 512)) (4 : Int))) - (1 : Int))), (x26), ((rnd (((n) / 262144)) (4 : Int))), (decide (((rnd (((n) / 1048576)) (2 : Int))) = (1 : Int))), ((rnd (((n) / 4194304)) (6 : Int))), rfl, by omega, by omega, by omega, by omega, by omega, by omega, by omega, by omega, (hS.sub [] (by decide) (by first | rfl | simp) (by simp))⟩
   ·skip
    have hr31 := rnd_bounds (((n) / 262144)) (4 : Int) (by omega)
    refine ha_op 8 rfl (wn_none rfl) (wp_call (vs := [_, _]) hF rfl rfl rfl rfl cf13 (round_any (((n) / 262144)) (4 : Int) _ (by omega)) ?_)
    clear hF; rintro _ w ⟨rfl, hS1⟩ a hF
    replace hS := hS.callB hS1 rfl; clear hS1
    replace hSS := hS.sub [] (by decide) rfl (by simp)
    refine ⟨.inr hSS, ?_⟩
    refine ha_all (rs := [5, 11]) (by kernel_rfl) (by simp) ?_
    refine List.forall_mem_cons.2 ⟨?_, List.forall_mem_cons.2 ⟨?_, (fun _ h => by cases h)⟩⟩
    ·skip
     refine ha_op 5 rfl (wn_none rfl) (wp_yl (S := fun w' => w' = w) hF rfl rfl rfl (yl_loadAt hF rfl rfl ag25 (fun _ h => rd_cell0 (enc := encI) (by subst h; exact hS.rdRow 0 rfl) encI_len hx26 rfl rfl)) ?_)
     clear hF; intro a hF
     replace hSS := hS.sub [] (by decide) rfl (by simp)
     refine ⟨.inr hSS, ?_⟩
     have hr32 := rnd_bounds (((n) / 1048576)) (2 : Int) (by omega)
     refine ha_one 11 (by kernel_rfl) rfl (wn_none rfl) (wp_call (vs := [_, _]) hF rfl rfl rfl rfl cf13 (round_any (((n) / 1048576)) (2 : Int) _ (by omega)) ?_)
     clear hF; rintro _ w ⟨rfl, hS1⟩ a hF
     replace hS := hS.callB hS1 rfl; clear hS1
     replace hSS := hS.sub [] (by decide) rfl (by simp)
     refine ⟨.inr hSS, ?_⟩
     refine ha_y 12 hF rfl rfl rfl (wn_none rfl) (.inr hSS) (yl_bin hF rfl rfl rfl rfl (fun _ => run_eql)) ?_; clear hF; intro a hF
     have hr33 := rnd_bounds (((n) / 4194304)) (6 : Int) (by omega)
     refine ha_one 15 (by kernel_rfl) rfl (wn_none rfl) (wp_call (vs := [_, _]) hF rfl rfl rfl rfl cf13 (round_any (((n) / 4194304)) (6 : Int) _ (by omega)) ?_)
     clear hF; rintro _ w ⟨rfl, hS1⟩ a hF
     replace hS := hS.callB hS1 rfl; clear hS1
     replace hSS := hS.sub [] (by decide) rfl (by simp)
     refine ⟨.inr hSS, ?_⟩
     refine ha_y 16 hF rfl rfl rfl (wn_none rfl) (.inr hSS) (yl_build (parts := [(0, .tmp 29), (1, .tmp 32), (2, .tmp 36), (3, .tmp 39)]) (vs := [(0, _), (1, _), (2, _), (3, _)]) (cs := [_, _, _, _]) hF bd27 rfl rfl rfl rfl) ?_; clear hF; intro a hF
     refine ha_y 17 hF rfl rfl rfl (wn_none rfl) (.inr hSS) (yl_fieldAddr hF rfl rfl (fun w => by kernel_rfl : ∀ w, (Instr.fieldAt 37 (.pointer (some ⟨g7, 0, none⟩)) 5).run Try.prog w = .ok (.pointer (some ⟨g7, 5, none⟩)) w)) ?_; clear hF; intro a hF
     refine ha_one 18 (by kernel_rfl) rfl (wn_none rfl) (wp_store (cs' := #[_, _, _, _, _, _, _, _, _]) hF hS rfl rfl rfl rfl 1 rfl sz27 (by simp [Value.cells, Value.oneCell']) (by simp [Value.cells]) rfl ?_)
     clear hF hS; intro a w hF hS
     replace hSS := hS.sub [] (by decide) rfl (by simp)
     refine ⟨.inr hSS, ?_⟩
     refine ha_done (by kernel_rfl) ?_ _
     refine then_n ?_
     refine c_seq ?_
     refine c_region ?_
     refine seq_yl hF (wn_none rfl) rfl rfl (yl_loadK (rs := [_, _, _, _, _, _, _, _, _]) (fun _ h => h ▸ hS) hF rfl rfl 1 rfl ag37 sz37 rfl rfl) ?_; clear hF; intro a hF
     refine seq_wp (wn_none rfl) (wp_store (cs' := #[_, _, _, _, _, _, _, _, _]) hF hS rfl rfl rfl rfl 2 rfl sz37 (by simp [Value.cells, Value.oneCell']) (by simp [Value.cells]) rfl ?_)
     clear hF hS; intro a w hF hS
     refine wpList_nil ?_
     refine then_n ?_
     refine wp_ret ?_
     refine ret_c hF rfl (resC hS rfl 2 rfl ag37 sz37) ?_
     exact ⟨_, rfl, ((rnd (n) (4 : Int))), ((rnd (((n) / 4)) (6 : Int))), ((((rnd (((n) / 4)) (6 : Int))) + ((rnd (((n) / 4096)) (4 : Int))))), ((rnd (((n) / 64)) (3 : Int))), ((((rnd (((n) / 512)) (4 : Int))) - (1 : Int))), (x26), ((rnd (((n) / 262144)) (4 : Int))), (decide (((rnd (((n) / 1048576)) (2 : Int))) = (1 : Int))), ((rnd (((n) / 4194304)) (6 : Int))), rfl, by omega, by omega, by omega, by omega, by omega, by omega, by omega, by omega, (hS.sub [] (by decide) (by first | rfl | simp) (by simp))⟩
    ·skip
     have hr34 := rnd_bounds (((n) / 1048576)) (2 : Int) (by omega)
     refine ha_op 11 rfl (wn_none rfl) (wp_call (vs := [_, _]) hF rfl rfl rfl rfl cf13 (round_any (((n) / 1048576)) (2 : Int) _ (by omega)) ?_)
     clear hF; rintro _ w ⟨rfl, hS1⟩ a hF
     replace hS := hS.callB hS1 rfl; clear hS1
     replace hSS := hS.sub [] (by decide) rfl (by simp)
     refine ⟨.inr hSS, ?_⟩
     refine ha_y 12 hF rfl rfl rfl (wn_none rfl) (.inr hSS) (yl_bin hF rfl rfl rfl rfl (fun _ => run_eql)) ?_; clear hF; intro a hF
     refine ha_all (rs := [5, 15]) (by kernel_rfl) (by simp) ?_
     refine List.forall_mem_cons.2 ⟨?_, List.forall_mem_cons.2 ⟨?_, (fun _ h => by cases h)⟩⟩
     ·skip
      refine ha_op 5 rfl (wn_none rfl) (wp_yl (S := fun w' => w' = w) hF rfl rfl rfl (yl_loadAt hF rfl rfl ag25 (fun _ h => rd_cell0 (enc := encI) (by subst h; exact hS.rdRow 0 rfl) encI_len hx26 rfl rfl)) ?_)
      clear hF; intro a hF
      replace hSS := hS.sub [] (by decide) rfl (by simp)
      refine ⟨.inr hSS, ?_⟩
      have hr35 := rnd_bounds (((n) / 4194304)) (6 : Int) (by omega)
      refine ha_one 15 (by kernel_rfl) rfl (wn_none rfl) (wp_call (vs := [_, _]) hF rfl rfl rfl rfl cf13 (round_any (((n) / 4194304)) (6 : Int) _ (by omega)) ?_)
      clear hF; rintro _ w ⟨rfl, hS1⟩ a hF
      replace hS := hS.callB hS1 rfl; clear hS1
      replace hSS := hS.sub [] (by decide) rfl (by simp)
      refine ⟨.inr hSS, ?_⟩
      refine ha_y 16 hF rfl rfl rfl (wn_none rfl) (.inr hSS) (yl_build (parts := [(0, .tmp 29), (1, .tmp 32), (2, .tmp 36), (3, .tmp 39)]) (vs := [(0, _), (1, _), (2, _), (3, _)]) (cs := [_, _, _, _]) hF bd27 rfl rfl rfl rfl) ?_; clear hF; intro a hF
      refine ha_y 17 hF rfl rfl rfl (wn_none rfl) (.inr hSS) (yl_fieldAddr hF rfl rfl (fun w => by kernel_rfl : ∀ w, (Instr.fieldAt 37 (.pointer (some ⟨g7, 0, none⟩)) 5).run Try.prog w = .ok (.pointer (some ⟨g7, 5, none⟩)) w)) ?_; clear hF; intro a hF
      refine ha_one 18 (by kernel_rfl) rfl (wn_none rfl) (wp_store (cs' := #[_, _, _, _, _, _, _, _, _]) hF hS rfl rfl rfl rfl 1 rfl sz27 (by simp [Value.cells, Value.oneCell']) (by simp [Value.cells]) rfl ?_)
      clear hF hS; intro a w hF hS
      replace hSS := hS.sub [] (by decide) rfl (by simp)
      refine ⟨.inr hSS, ?_⟩
      refine ha_done (by kernel_rfl) ?_ _
      refine then_n ?_
      refine c_seq ?_
      refine c_region ?_
      refine seq_yl hF (wn_none rfl) rfl rfl (yl_loadK (rs := [_, _, _, _, _, _, _, _, _]) (fun _ h => h ▸ hS) hF rfl rfl 1 rfl ag37 sz37 rfl rfl) ?_; clear hF; intro a hF
      refine seq_wp (wn_none rfl) (wp_store (cs' := #[_, _, _, _, _, _, _, _, _]) hF hS rfl rfl rfl rfl 2 rfl sz37 (by simp [Value.cells, Value.oneCell']) (by simp [Value.cells]) rfl ?_)
      clear hF hS; intro a w hF hS
      refine wpList_nil ?_
      refine then_n ?_
      refine wp_ret ?_
      refine ret_c hF rfl (resC hS rfl 2 rfl ag37 sz37) ?_
      exact ⟨_, rfl, ((rnd (n) (4 : Int))), ((rnd (((n) / 4)) (6 : Int))), ((((rnd (((n) / 4)) (6 : Int))) + ((rnd (((n) / 4096)) (4 : Int))))), ((rnd (((n) / 64)) (3 : Int))), ((((rnd (((n) / 512)) (4 : Int))) - (1 : Int))), (x26), ((rnd (((n) / 262144)) (4 : Int))), (decide (((rnd (((n) / 1048576)) (2 : Int))) = (1 : Int))), ((rnd (((n) / 4194304)) (6 : Int))), rfl, by omega, by omega, by omega, by omega, by omega, by omega, by omega, by omega, (hS.sub [] (by decide) (by first | rfl | simp) (by simp))⟩
     ·skip
      have hr36 := rnd_bounds (((n) / 4194304)) (6 : Int) (by omega)
      refine ha_op 15 rfl (wn_none rfl) (wp_call (vs := [_, _]) hF rfl rfl rfl rfl cf13 (round_any (((n) / 4194304)) (6 : Int) _ (by omega)) ?_)
      clear hF; rintro _ w ⟨rfl, hS1⟩ a hF
      replace hS := hS.callB hS1 rfl; clear hS1
      replace hSS := hS.sub [] (by decide) rfl (by simp)
      refine ⟨.inr hSS, ?_⟩
      refine ha_one 5 (by kernel_rfl) rfl (wn_none rfl) (wp_yl (S := fun w' => w' = w) hF rfl rfl rfl (yl_loadAt hF rfl rfl ag25 (fun _ h => rd_cell0 (enc := encI) (by subst h; exact hS.rdRow 0 rfl) encI_len hx26 rfl rfl)) ?_)
      clear hF; intro a hF
      replace hSS := hS.sub [] (by decide) rfl (by simp)
      refine ⟨.inr hSS, ?_⟩
      refine ha_y 16 hF rfl rfl rfl (wn_none rfl) (.inr hSS) (yl_build (parts := [(0, .tmp 29), (1, .tmp 32), (2, .tmp 36), (3, .tmp 39)]) (vs := [(0, _), (1, _), (2, _), (3, _)]) (cs := [_, _, _, _]) hF bd27 rfl rfl rfl rfl) ?_; clear hF; intro a hF
      refine ha_y 17 hF rfl rfl rfl (wn_none rfl) (.inr hSS) (yl_fieldAddr hF rfl rfl (fun w => by kernel_rfl : ∀ w, (Instr.fieldAt 37 (.pointer (some ⟨g7, 0, none⟩)) 5).run Try.prog w = .ok (.pointer (some ⟨g7, 5, none⟩)) w)) ?_; clear hF; intro a hF
      refine ha_one 18 (by kernel_rfl) rfl (wn_none rfl) (wp_store (cs' := #[_, _, _, _, _, _, _, _, _]) hF hS rfl rfl rfl rfl 1 rfl sz27 (by simp [Value.cells, Value.oneCell']) (by simp [Value.cells]) rfl ?_)
      clear hF hS; intro a w hF hS
      replace hSS := hS.sub [] (by decide) rfl (by simp)
      refine ⟨.inr hSS, ?_⟩
      refine ha_done (by kernel_rfl) ?_ _
      refine then_n ?_
      refine c_seq ?_
      refine c_region ?_
      refine seq_yl hF (wn_none rfl) rfl rfl (yl_loadK (rs := [_, _, _, _, _, _, _, _, _]) (fun _ h => h ▸ hS) hF rfl rfl 1 rfl ag37 sz37 rfl rfl) ?_; clear hF; intro a hF
      refine seq_wp (wn_none rfl) (wp_store (cs' := #[_, _, _, _, _, _, _, _, _]) hF hS rfl rfl rfl rfl 2 rfl sz37 (by simp [Value.cells, Value.oneCell']) (by simp [Value.cells]) rfl ?_)
      clear hF hS; intro a w hF hS
      refine wpList_nil ?_
      refine then_n ?_
      refine wp_ret ?_
      refine ret_c hF rfl (resC hS rfl 2 rfl ag37 sz37) ?_
      exact ⟨_, rfl, ((rnd (n) (4 : Int))), ((rnd (((n) / 4)) (6 : Int))), ((((rnd (((n) / 4)) (6 : Int))) + ((rnd (((n) / 4096)) (4 : Int))))), ((rnd (((n) / 64)) (3 : Int))), ((((rnd (((n) / 512)) (4 : Int))) - (1 : Int))), (x26), ((rnd (((n) / 262144)) (4 : Int))), (decide (((rnd (((n) / 1048576)) (2 : Int))) = (1 : Int))), ((rnd (((n) / 4194304)) (6 : Int))), rfl, by omega, by omega, by omega, by omega, by omega, by omega, by omega, by omega, (hS.sub [] (by decide) (by first | rfl | simp) (by simp))⟩
  ·skip
   have hr37 := rnd_bounds (((n) / 262144)) (4 : Int) (by omega)
   refine ha_op 8 rfl (wn_none rfl) (wp_call (vs := [_, _]) hF rfl rfl rfl rfl cf13 (round_any (((n) / 262144)) (4 : Int) _ (by omega)) ?_)
   clear hF; rintro _ w ⟨rfl, hS1⟩ a hF
   replace hS := hS.callB hS1 rfl; clear hS1
   replace hSS := hS.sub [] (by decide) rfl (by simp)
   refine ⟨.inr hSS, ?_⟩
   refine ha_all (rs := [0, 11]) (by kernel_rfl) (by simp) ?_
   refine List.forall_mem_cons.2 ⟨?_, List.forall_mem_cons.2 ⟨?_, (fun _ h => by cases h)⟩⟩
   ·skip
    refine ha_op 0 rfl (wn_none rfl) (wp_bslice (parts := [(0, .const (Go.Value.int Go.IntKind.i64 0)), (1, .const (Go.Value.int Go.IntKind.i64 10)), (2, .const (Go.Value.int Go.IntKind.i64 11)), (3, .const (Go.Value.int Go.IntKind.i64 50)), (4, .const (Go.Value.int Go.IntKind.i64 10)), (5, .const (Go.Value.int Go.IntKind.i64 50))]) (vs := [(0, _), (1, _), (2, _), (3, _), (4, _), (5, _)]) (enc := encI) (e := 25) (size := 1) (cs := #[.int .i64 (0 : Int), .int .i64 (10 : Int), .int .i64 (11 : Int), .int .i64 (50 : Int), .int .i64 (10 : Int), .int .i64 (50 : Int)]) hF hS rfl rfl rfl rfl ([(0 : Int), (10 : Int), (11 : Int), (50 : Int), (10 : Int), (50 : Int)] : List Int) (fun w => by kernel_rfl) rfl rfl rfl (by decide) ?_)
    clear hF hS; intro a w v38 hF hS
    obtain ⟨Av38, cv38, rfl⟩ := hS.form 0 rfl
    replace hSS := hS.sub [] (by decide) rfl (by simp)
    refine ⟨.inr hSS, ?_⟩
    have herr : ∀ e ∈ ([(0 : Int), (10 : Int), (11 : Int), (50 : Int), (10 : Int), (50 : Int)] : List Int), e = 0 ∨ e = 10 ∨ e = 11 ∨ e = 50 := by decide
    have hlt_hx39 : rn24 < (([(0 : Int), (10 : Int), (11 : Int), (50 : Int), (10 : Int), (50 : Int)] : List Int)).length := by first | omega | (simp; done) | (simp; omega)
    obtain ⟨ad40, rfl⟩ := rd_some (hS.rdRow 0 rfl) hlt_hx39
    obtain ⟨x39, hx39⟩ := get_some hlt_hx39
    have hb_x39 := herr x39 (List.mem_of_getElem? hx39)
    refine ha_y 4 hF rfl rfl rfl (wn_none rfl) (.inr hSS) (yl_indexAddr hF rfl rfl rfl (fun _ => run_idx' sl64 sz25 (hS.rdRow 0 rfl) hlt_hx39)) ?_; clear hF; intro a hF
    refine ha_all (rs := [5, 11]) (by kernel_rfl) (by simp) ?_
    refine List.forall_mem_cons.2 ⟨?_, List.forall_mem_cons.2 ⟨?_, (fun _ h => by cases h)⟩⟩
    ·skip
     refine ha_op 5 rfl (wn_none rfl) (wp_yl (S := fun w' => w' = w) hF rfl rfl rfl (yl_loadAt hF rfl rfl ag25 (fun _ h => rd_cell0 (enc := encI) (by subst h; exact hS.rdRow 0 rfl) encI_len hx39 rfl rfl)) ?_)
     clear hF; intro a hF
     replace hSS := hS.sub [] (by decide) rfl (by simp)
     refine ⟨.inr hSS, ?_⟩
     have hr41 := rnd_bounds (((n) / 1048576)) (2 : Int) (by omega)
     refine ha_one 11 (by kernel_rfl) rfl (wn_none rfl) (wp_call (vs := [_, _]) hF rfl rfl rfl rfl cf13 (round_any (((n) / 1048576)) (2 : Int) _ (by omega)) ?_)
     clear hF; rintro _ w ⟨rfl, hS1⟩ a hF
     replace hS := hS.callB hS1 rfl; clear hS1
     replace hSS := hS.sub [] (by decide) rfl (by simp)
     refine ⟨.inr hSS, ?_⟩
     refine ha_y 12 hF rfl rfl rfl (wn_none rfl) (.inr hSS) (yl_bin hF rfl rfl rfl rfl (fun _ => run_eql)) ?_; clear hF; intro a hF
     have hr42 := rnd_bounds (((n) / 4194304)) (6 : Int) (by omega)
     refine ha_one 15 (by kernel_rfl) rfl (wn_none rfl) (wp_call (vs := [_, _]) hF rfl rfl rfl rfl cf13 (round_any (((n) / 4194304)) (6 : Int) _ (by omega)) ?_)
     clear hF; rintro _ w ⟨rfl, hS1⟩ a hF
     replace hS := hS.callB hS1 rfl; clear hS1
     replace hSS := hS.sub [] (by decide) rfl (by simp)
     refine ⟨.inr hSS, ?_⟩
     refine ha_y 16 hF rfl rfl rfl (wn_none rfl) (.inr hSS) (yl_build (parts := [(0, .tmp 29), (1, .tmp 32), (2, .tmp 36), (3, .tmp 39)]) (vs := [(0, _), (1, _), (2, _), (3, _)]) (cs := [_, _, _, _]) hF bd27 rfl rfl rfl rfl) ?_; clear hF; intro a hF
     refine ha_y 17 hF rfl rfl rfl (wn_none rfl) (.inr hSS) (yl_fieldAddr hF rfl rfl (fun w => by kernel_rfl : ∀ w, (Instr.fieldAt 37 (.pointer (some ⟨g7, 0, none⟩)) 5).run Try.prog w = .ok (.pointer (some ⟨g7, 5, none⟩)) w)) ?_; clear hF; intro a hF
     refine ha_one 18 (by kernel_rfl) rfl (wn_none rfl) (wp_store (cs' := #[_, _, _, _, _, _, _, _, _]) hF hS rfl rfl rfl rfl 1 rfl sz27 (by simp [Value.cells, Value.oneCell']) (by simp [Value.cells]) rfl ?_)
     clear hF hS; intro a w hF hS
     replace hSS := hS.sub [] (by decide) rfl (by simp)
     refine ⟨.inr hSS, ?_⟩
     refine ha_done (by kernel_rfl) ?_ _
     refine then_n ?_
     refine c_seq ?_
     refine c_region ?_
     refine seq_yl hF (wn_none rfl) rfl rfl (yl_loadK (rs := [_, _, _, _, _, _, _, _, _]) (fun _ h => h ▸ hS) hF rfl rfl 1 rfl ag37 sz37 rfl rfl) ?_; clear hF; intro a hF
     refine seq_wp (wn_none rfl) (wp_store (cs' := #[_, _, _, _, _, _, _, _, _]) hF hS rfl rfl rfl rfl 2 rfl sz37 (by simp [Value.cells, Value.oneCell']) (by simp [Value.cells]) rfl ?_)
     clear hF hS; intro a w hF hS
     refine wpList_nil ?_
     refine then_n ?_
     refine wp_ret ?_
     refine ret_c hF rfl (resC hS rfl 2 rfl ag37 sz37) ?_
     exact ⟨_, rfl, ((rnd (n) (4 : Int))), ((rnd (((n) / 4)) (6 : Int))), ((((rnd (((n) / 4)) (6 : Int))) + ((rnd (((n) / 4096)) (4 : Int))))), ((rnd (((n) / 64)) (3 : Int))), ((((rnd (((n) / 512)) (4 : Int))) - (1 : Int))), (x39), ((rnd (((n) / 262144)) (4 : Int))), (decide (((rnd (((n) / 1048576)) (2 : Int))) = (1 : Int))), ((rnd (((n) / 4194304)) (6 : Int))), rfl, by omega, by omega, by omega, by omega, by omega, by omega, by omega, by omega, (hS.sub [] (by decide) (by first | rfl | simp) (by simp))⟩
    ·skip
     have hr43 := rnd_bounds (((n) / 1048576)) (2 : Int) (by omega)
     refine ha_op 11 rfl (wn_none rfl) (wp_call (vs := [_, _]) hF rfl rfl rfl rfl cf13 (round_any (((n) / 1048576)) (2 : Int) _ (by omega)) ?_)
     clear hF; rintro _ w ⟨rfl, hS1⟩ a hF
     replace hS := hS.callB hS1 rfl; clear hS1
     replace hSS := hS.sub [] (by decide) rfl (by simp)
     refine ⟨.inr hSS, ?_⟩
     refine ha_y 12 hF rfl rfl rfl (wn_none rfl) (.inr hSS) (yl_bin hF rfl rfl rfl rfl (fun _ => run_eql)) ?_; clear hF; intro a hF
     refine ha_all (rs := [5, 15]) (by kernel_rfl) (by simp) ?_
     refine List.forall_mem_cons.2 ⟨?_, List.forall_mem_cons.2 ⟨?_, (fun _ h => by cases h)⟩⟩
     ·skip
      refine ha_op 5 rfl (wn_none rfl) (wp_yl (S := fun w' => w' = w) hF rfl rfl rfl (yl_loadAt hF rfl rfl ag25 (fun _ h => rd_cell0 (enc := encI) (by subst h; exact hS.rdRow 0 rfl) encI_len hx39 rfl rfl)) ?_)
      clear hF; intro a hF
      replace hSS := hS.sub [] (by decide) rfl (by simp)
      refine ⟨.inr hSS, ?_⟩
      have hr44 := rnd_bounds (((n) / 4194304)) (6 : Int) (by omega)
      refine ha_one 15 (by kernel_rfl) rfl (wn_none rfl) (wp_call (vs := [_, _]) hF rfl rfl rfl rfl cf13 (round_any (((n) / 4194304)) (6 : Int) _ (by omega)) ?_)
      clear hF; rintro _ w ⟨rfl, hS1⟩ a hF
      replace hS := hS.callB hS1 rfl; clear hS1
      replace hSS := hS.sub [] (by decide) rfl (by simp)
      refine ⟨.inr hSS, ?_⟩
      refine ha_y 16 hF rfl rfl rfl (wn_none rfl) (.inr hSS) (yl_build (parts := [(0, .tmp 29), (1, .tmp 32), (2, .tmp 36), (3, .tmp 39)]) (vs := [(0, _), (1, _), (2, _), (3, _)]) (cs := [_, _, _, _]) hF bd27 rfl rfl rfl rfl) ?_; clear hF; intro a hF
      refine ha_y 17 hF rfl rfl rfl (wn_none rfl) (.inr hSS) (yl_fieldAddr hF rfl rfl (fun w => by kernel_rfl : ∀ w, (Instr.fieldAt 37 (.pointer (some ⟨g7, 0, none⟩)) 5).run Try.prog w = .ok (.pointer (some ⟨g7, 5, none⟩)) w)) ?_; clear hF; intro a hF
      refine ha_one 18 (by kernel_rfl) rfl (wn_none rfl) (wp_store (cs' := #[_, _, _, _, _, _, _, _, _]) hF hS rfl rfl rfl rfl 1 rfl sz27 (by simp [Value.cells, Value.oneCell']) (by simp [Value.cells]) rfl ?_)
      clear hF hS; intro a w hF hS
      replace hSS := hS.sub [] (by decide) rfl (by simp)
      refine ⟨.inr hSS, ?_⟩
      refine ha_done (by kernel_rfl) ?_ _
      refine then_n ?_
      refine c_seq ?_
      refine c_region ?_
      refine seq_yl hF (wn_none rfl) rfl rfl (yl_loadK (rs := [_, _, _, _, _, _, _, _, _]) (fun _ h => h ▸ hS) hF rfl rfl 1 rfl ag37 sz37 rfl rfl) ?_; clear hF; intro a hF
      refine seq_wp (wn_none rfl) (wp_store (cs' := #[_, _, _, _, _, _, _, _, _]) hF hS rfl rfl rfl rfl 2 rfl sz37 (by simp [Value.cells, Value.oneCell']) (by simp [Value.cells]) rfl ?_)
      clear hF hS; intro a w hF hS
      refine wpList_nil ?_
      refine then_n ?_
      refine wp_ret ?_
      refine ret_c hF rfl (resC hS rfl 2 rfl ag37 sz37) ?_
      exact ⟨_, rfl, ((rnd (n) (4 : Int))), ((rnd (((n) / 4)) (6 : Int))), ((((rnd (((n) / 4)) (6 : Int))) + ((rnd (((n) / 4096)) (4 : Int))))), ((rnd (((n) / 64)) (3 : Int))), ((((rnd (((n) / 512)) (4 : Int))) - (1 : Int))), (x39), ((rnd (((n) / 262144)) (4 : Int))), (decide (((rnd (((n) / 1048576)) (2 : Int))) = (1 : Int))), ((rnd (((n) / 4194304)) (6 : Int))), rfl, by omega, by omega, by omega, by omega, by omega, by omega, by omega, by omega, (hS.sub [] (by decide) (by first | rfl | simp) (by simp))⟩
     ·skip
      have hr45 := rnd_bounds (((n) / 4194304)) (6 : Int) (by omega)
      refine ha_op 15 rfl (wn_none rfl) (wp_call (vs := [_, _]) hF rfl rfl rfl rfl cf13 (round_any (((n) / 4194304)) (6 : Int) _ (by omega)) ?_)
      clear hF; rintro _ w ⟨rfl, hS1⟩ a hF
      replace hS := hS.callB hS1 rfl; clear hS1
      replace hSS := hS.sub [] (by decide) rfl (by simp)
      refine ⟨.inr hSS, ?_⟩
      refine ha_one 5 (by kernel_rfl) rfl (wn_none rfl) (wp_yl (S := fun w' => w' = w) hF rfl rfl rfl (yl_loadAt hF rfl rfl ag25 (fun _ h => rd_cell0 (enc := encI) (by subst h; exact hS.rdRow 0 rfl) encI_len hx39 rfl rfl)) ?_)
      clear hF; intro a hF
      replace hSS := hS.sub [] (by decide) rfl (by simp)
      refine ⟨.inr hSS, ?_⟩
      refine ha_y 16 hF rfl rfl rfl (wn_none rfl) (.inr hSS) (yl_build (parts := [(0, .tmp 29), (1, .tmp 32), (2, .tmp 36), (3, .tmp 39)]) (vs := [(0, _), (1, _), (2, _), (3, _)]) (cs := [_, _, _, _]) hF bd27 rfl rfl rfl rfl) ?_; clear hF; intro a hF
      refine ha_y 17 hF rfl rfl rfl (wn_none rfl) (.inr hSS) (yl_fieldAddr hF rfl rfl (fun w => by kernel_rfl : ∀ w, (Instr.fieldAt 37 (.pointer (some ⟨g7, 0, none⟩)) 5).run Try.prog w = .ok (.pointer (some ⟨g7, 5, none⟩)) w)) ?_; clear hF; intro a hF
      refine ha_one 18 (by kernel_rfl) rfl (wn_none rfl) (wp_store (cs' := #[_, _, _, _, _, _, _, _, _]) hF hS rfl rfl rfl rfl 1 rfl sz27 (by simp [Value.cells, Value.oneCell']) (by simp [Value.cells]) rfl ?_)
      clear hF hS; intro a w hF hS
      replace hSS := hS.sub [] (by decide) rfl (by simp)
      refine ⟨.inr hSS, ?_⟩
      refine ha_done (by kernel_rfl) ?_ _
      refine then_n ?_
      refine c_seq ?_
      refine c_region ?_
      refine seq_yl hF (wn_none rfl) rfl rfl (yl_loadK (rs := [_, _, _, _, _, _, _, _, _]) (fun _ h => h ▸ hS) hF rfl rfl 1 rfl ag37 sz37 rfl rfl) ?_; clear hF; intro a hF
      refine seq_wp (wn_none rfl) (wp_store (cs' := #[_, _, _, _, _, _, _, _, _]) hF hS rfl rfl rfl rfl 2 rfl sz37 (by simp [Value.cells, Value.oneCell']) (by simp [Value.cells]) rfl ?_)
      clear hF hS; intro a w hF hS
      refine wpList_nil ?_
      refine then_n ?_
      refine wp_ret ?_
      refine ret_c hF rfl (resC hS rfl 2 rfl ag37 sz37) ?_
      exact ⟨_, rfl, ((rnd (n) (4 : Int))), ((rnd (((n) / 4)) (6 : Int))), ((((rnd (((n) / 4)) (6 : Int))) + ((rnd (((n) / 4096)) (4 : Int))))), ((rnd (((n) / 64)) (3 : Int))), ((((rnd (((n) / 512)) (4 : Int))) - (1 : Int))), (x39), ((rnd (((n) / 262144)) (4 : Int))), (decide (((rnd (((n) / 1048576)) (2 : Int))) = (1 : Int))), ((rnd (((n) / 4194304)) (6 : Int))), rfl, by omega, by omega, by omega, by omega, by omega, by omega, by omega, by omega, (hS.sub [] (by decide) (by first | rfl | simp) (by simp))⟩
   ·skip
    have hr46 := rnd_bounds (((n) / 1048576)) (2 : Int) (by omega)
    refine ha_op 11 rfl (wn_none rfl) (wp_call (vs := [_, _]) hF rfl rfl rfl rfl cf13 (round_any (((n) / 1048576)) (2 : Int) _ (by omega)) ?_)
    clear hF; rintro _ w ⟨rfl, hS1⟩ a hF
    replace hS := hS.callB hS1 rfl; clear hS1
    replace hSS := hS.sub [] (by decide) rfl (by simp)
    refine ⟨.inr hSS, ?_⟩
    refine ha_y 12 hF rfl rfl rfl (wn_none rfl) (.inr hSS) (yl_bin hF rfl rfl rfl rfl (fun _ => run_eql)) ?_; clear hF; intro a hF
    refine ha_all (rs := [0, 15]) (by kernel_rfl) (by simp) ?_
    refine List.forall_mem_cons.2 ⟨?_, List.forall_mem_cons.2 ⟨?_, (fun _ h => by cases h)⟩⟩
    ·skip
     refine ha_op 0 rfl (wn_none rfl) (wp_bslice (parts := [(0, .const (Go.Value.int Go.IntKind.i64 0)), (1, .const (Go.Value.int Go.IntKind.i64 10)), (2, .const (Go.Value.int Go.IntKind.i64 11)), (3, .const (Go.Value.int Go.IntKind.i64 50)), (4, .const (Go.Value.int Go.IntKind.i64 10)), (5, .const (Go.Value.int Go.IntKind.i64 50))]) (vs := [(0, _), (1, _), (2, _), (3, _), (4, _), (5, _)]) (enc := encI) (e := 25) (size := 1) (cs := #[.int .i64 (0 : Int), .int .i64 (10 : Int), .int .i64 (11 : Int), .int .i64 (50 : Int), .int .i64 (10 : Int), .int .i64 (50 : Int)]) hF hS rfl rfl rfl rfl ([(0 : Int), (10 : Int), (11 : Int), (50 : Int), (10 : Int), (50 : Int)] : List Int) (fun w => by kernel_rfl) rfl rfl rfl (by decide) ?_)
     clear hF hS; intro a w v47 hF hS
     obtain ⟨Av47, cv47, rfl⟩ := hS.form 0 rfl
     replace hSS := hS.sub [] (by decide) rfl (by simp)
     refine ⟨.inr hSS, ?_⟩
     have herr : ∀ e ∈ ([(0 : Int), (10 : Int), (11 : Int), (50 : Int), (10 : Int), (50 : Int)] : List Int), e = 0 ∨ e = 10 ∨ e = 11 ∨ e = 50 := by decide
     have hlt_hx48 : rn24 < (([(0 : Int), (10 : Int), (11 : Int), (50 : Int), (10 : Int), (50 : Int)] : List Int)).length := by first | omega | (simp; done) | (simp; omega)
     obtain ⟨ad49, rfl⟩ := rd_some (hS.rdRow 0 rfl) hlt_hx48
     obtain ⟨x48, hx48⟩ := get_some hlt_hx48
     have hb_x48 := herr x48 (List.mem_of_getElem? hx48)
     refine ha_y 4 hF rfl rfl rfl (wn_none rfl) (.inr hSS) (yl_indexAddr hF rfl rfl rfl (fun _ => run_idx' sl64 sz25 (hS.rdRow 0 rfl) hlt_hx48)) ?_; clear hF; intro a hF
     refine ha_all (rs := [5, 15]) (by kernel_rfl) (by simp) ?_
     refine List.forall_mem_cons.2 ⟨?_, List.forall_mem_cons.2 ⟨?_, (fun _ h => by cases h)⟩⟩
     ·skip
      refine ha_op 5 rfl (wn_none rfl) (wp_yl (S := fun w' => w' = w) hF rfl rfl rfl (yl_loadAt hF rfl rfl ag25 (fun _ h => rd_cell0 (enc := encI) (by subst h; exact hS.rdRow 0 rfl) encI_len hx48 rfl rfl)) ?_)
      clear hF; intro a hF
      replace hSS := hS.sub [] (by decide) rfl (by simp)
      refine ⟨.inr hSS, ?_⟩
      have hr50 := rnd_bounds (((n) / 4194304)) (6 : Int) (by omega)
      refine ha_one 15 (by kernel_rfl) rfl (wn_none rfl) (wp_call (vs := [_, _]) hF rfl rfl rfl rfl cf13 (round_any (((n) / 4194304)) (6 : Int) _ (by omega)) ?_)
      clear hF; rintro _ w ⟨rfl, hS1⟩ a hF
      replace hS := hS.callB hS1 rfl; clear hS1
      replace hSS := hS.sub [] (by decide) rfl (by simp)
      refine ⟨.inr hSS, ?_⟩
      refine ha_y 16 hF rfl rfl rfl (wn_none rfl) (.inr hSS) (yl_build (parts := [(0, .tmp 29), (1, .tmp 32), (2, .tmp 36), (3, .tmp 39)]) (vs := [(0, _), (1, _), (2, _), (3, _)]) (cs := [_, _, _, _]) hF bd27 rfl rfl rfl rfl) ?_; clear hF; intro a hF
      refine ha_y 17 hF rfl rfl rfl (wn_none rfl) (.inr hSS) (yl_fieldAddr hF rfl rfl (fun w => by kernel_rfl : ∀ w, (Instr.fieldAt 37 (.pointer (some ⟨g7, 0, none⟩)) 5).run Try.prog w = .ok (.pointer (some ⟨g7, 5, none⟩)) w)) ?_; clear hF; intro a hF
      refine ha_one 18 (by kernel_rfl) rfl (wn_none rfl) (wp_store (cs' := #[_, _, _, _, _, _, _, _, _]) hF hS rfl rfl rfl rfl 1 rfl sz27 (by simp [Value.cells, Value.oneCell']) (by simp [Value.cells]) rfl ?_)
      clear hF hS; intro a w hF hS
      replace hSS := hS.sub [] (by decide) rfl (by simp)
      refine ⟨.inr hSS, ?_⟩
      refine ha_done (by kernel_rfl) ?_ _
      refine then_n ?_
      refine c_seq ?_
      refine c_region ?_
      refine seq_yl hF (wn_none rfl) rfl rfl (yl_loadK (rs := [_, _, _, _, _, _, _, _, _]) (fun _ h => h ▸ hS) hF rfl rfl 1 rfl ag37 sz37 rfl rfl) ?_; clear hF; intro a hF
      refine seq_wp (wn_none rfl) (wp_store (cs' := #[_, _, _, _, _, _, _, _, _]) hF hS rfl rfl rfl rfl 2 rfl sz37 (by simp [Value.cells, Value.oneCell']) (by simp [Value.cells]) rfl ?_)
      clear hF hS; intro a w hF hS
      refine wpList_nil ?_
      refine then_n ?_
      refine wp_ret ?_
      refine ret_c hF rfl (resC hS rfl 2 rfl ag37 sz37) ?_
      exact ⟨_, rfl, ((rnd (n) (4 : Int))), ((rnd (((n) / 4)) (6 : Int))), ((((rnd (((n) / 4)) (6 : Int))) + ((rnd (((n) / 4096)) (4 : Int))))), ((rnd (((n) / 64)) (3 : Int))), ((((rnd (((n) / 512)) (4 : Int))) - (1 : Int))), (x48), ((rnd (((n) / 262144)) (4 : Int))), (decide (((rnd (((n) / 1048576)) (2 : Int))) = (1 : Int))), ((rnd (((n) / 4194304)) (6 : Int))), rfl, by omega, by omega, by omega, by omega, by omega, by omega, by omega, by omega, (hS.sub [] (by decide) (by first | rfl | simp) (by simp))⟩
     ·skip
      have hr51 := rnd_bounds (((n) / 4194304)) (6 : Int) (by omega)
      refine ha_op 15 rfl (wn_none rfl) (wp_call (vs := [_, _]) hF rfl rfl rfl rfl cf13 (round_any (((n) / 4194304)) (6 : Int) _ (by omega)) ?_)
      clear hF; rintro _ w ⟨rfl, hS1⟩ a hF
      replace hS := hS.callB hS1 rfl; clear hS1
      replace hSS := hS.sub [] (by decide) rfl (by simp)
      refine ⟨.inr hSS, ?_⟩
      refine ha_one 5 (by kernel_rfl) rfl (wn_none rfl) (wp_yl (S := fun w' => w' = w) hF rfl rfl rfl (yl_loadAt hF rfl rfl ag25 (fun _ h => rd_cell0 (enc := encI) (by subst h; exact hS.rdRow 0 rfl) encI_len hx48 rfl rfl)) ?_)
      clear hF; intro a hF
      replace hSS := hS.sub [] (by decide) rfl (by simp)
      refine ⟨.inr hSS, ?_⟩
      refine ha_y 16 hF rfl rfl rfl (wn_none rfl) (.inr hSS) (yl_build (parts := [(0, .tmp 29), (1, .tmp 32), (2, .tmp 36), (3, .tmp 39)]) (vs := [(0, _), (1, _), (2, _), (3, _)]) (cs := [_, _, _, _]) hF bd27 rfl rfl rfl rfl) ?_; clear hF; intro a hF
      refine ha_y 17 hF rfl rfl rfl (wn_none rfl) (.inr hSS) (yl_fieldAddr hF rfl rfl (fun w => by kernel_rfl : ∀ w, (Instr.fieldAt 37 (.pointer (some ⟨g7, 0, none⟩)) 5).run Try.prog w = .ok (.pointer (some ⟨g7, 5, none⟩)) w)) ?_; clear hF; intro a hF
      refine ha_one 18 (by kernel_rfl) rfl (wn_none rfl) (wp_store (cs' := #[_, _, _, _, _, _, _, _, _]) hF hS rfl rfl rfl rfl 1 rfl sz27 (by simp [Value.cells, Value.oneCell']) (by simp [Value.cells]) rfl ?_)
      clear hF hS; intro a w hF hS
      replace hSS := hS.sub [] (by decide) rfl (by simp)
      refine ⟨.inr hSS, ?_⟩
      refine ha_done (by kernel_rfl) ?_ _
      refine then_n ?_
      refine c_seq ?_
      refine c_region ?_
      refine seq_yl hF (wn_none rfl) rfl rfl (yl_loadK (rs := [_, _, _, _, _, _, _, _, _]) (fun _ h => h ▸ hS) hF rfl rfl 1 rfl ag37 sz37 rfl rfl) ?_; clear hF; intro a hF
      refine seq_wp (wn_none rfl) (wp_store (cs' := #[_, _, _, _, _, _, _, _, _]) hF hS rfl rfl rfl rfl 2 rfl sz37 (by simp [Value.cells, Value.oneCell']) (by simp [Value.cells]) rfl ?_)
      clear hF hS; intro a w hF hS
      refine wpList_nil ?_
      refine then_n ?_
      refine wp_ret ?_
      refine ret_c hF rfl (resC hS rfl 2 rfl ag37 sz37) ?_
      exact ⟨_, rfl, ((rnd (n) (4 : Int))), ((rnd (((n) / 4)) (6 : Int))), ((((rnd (((n) / 4)) (6 : Int))) + ((rnd (((n) / 4096)) (4 : Int))))), ((rnd (((n) / 64)) (3 : Int))), ((((rnd (((n) / 512)) (4 : Int))) - (1 : Int))), (x48), ((rnd (((n) / 262144)) (4 : Int))), (decide (((rnd (((n) / 1048576)) (2 : Int))) = (1 : Int))), ((rnd (((n) / 4194304)) (6 : Int))), rfl, by omega, by omega, by omega, by omega, by omega, by omega, by omega, by omega, (hS.sub [] (by decide) (by first | rfl | simp) (by simp))⟩
    ·skip
     have hr52 := rnd_bounds (((n) / 4194304)) (6 : Int) (by omega)
     refine ha_op 15 rfl (wn_none rfl) (wp_call (vs := [_, _]) hF rfl rfl rfl rfl cf13 (round_any (((n) / 4194304)) (6 : Int) _ (by omega)) ?_)
     clear hF; rintro _ w ⟨rfl, hS1⟩ a hF
     replace hS := hS.callB hS1 rfl; clear hS1
     replace hSS := hS.sub [] (by decide) rfl (by simp)
     refine ⟨.inr hSS, ?_⟩
     refine ha_one 0 (by kernel_rfl) rfl (wn_none rfl) (wp_bslice (parts := [(0, .const (Go.Value.int Go.IntKind.i64 0)), (1, .const (Go.Value.int Go.IntKind.i64 10)), (2, .const (Go.Value.int Go.IntKind.i64 11)), (3, .const (Go.Value.int Go.IntKind.i64 50)), (4, .const (Go.Value.int Go.IntKind.i64 10)), (5, .const (Go.Value.int Go.IntKind.i64 50))]) (vs := [(0, _), (1, _), (2, _), (3, _), (4, _), (5, _)]) (enc := encI) (e := 25) (size := 1) (cs := #[.int .i64 (0 : Int), .int .i64 (10 : Int), .int .i64 (11 : Int), .int .i64 (50 : Int), .int .i64 (10 : Int), .int .i64 (50 : Int)]) hF hS rfl rfl rfl rfl ([(0 : Int), (10 : Int), (11 : Int), (50 : Int), (10 : Int), (50 : Int)] : List Int) (fun w => by kernel_rfl) rfl rfl rfl (by decide) ?_)
     clear hF hS; intro a w v53 hF hS
     obtain ⟨Av53, cv53, rfl⟩ := hS.form 0 rfl
     replace hSS := hS.sub [] (by decide) rfl (by simp)
     refine ⟨.inr hSS, ?_⟩
     have herr : ∀ e ∈ ([(0 : Int), (10 : Int), (11 : Int), (50 : Int), (10 : Int), (50 : Int)] : List Int), e = 0 ∨ e = 10 ∨ e = 11 ∨ e = 50 := by decide
     have hlt_hx54 : rn24 < (([(0 : Int), (10 : Int), (11 : Int), (50 : Int), (10 : Int), (50 : Int)] : List Int)).length := by first | omega | (simp; done) | (simp; omega)
     obtain ⟨ad55, rfl⟩ := rd_some (hS.rdRow 0 rfl) hlt_hx54
     obtain ⟨x54, hx54⟩ := get_some hlt_hx54
     have hb_x54 := herr x54 (List.mem_of_getElem? hx54)
     refine ha_y 4 hF rfl rfl rfl (wn_none rfl) (.inr hSS) (yl_indexAddr hF rfl rfl rfl (fun _ => run_idx' sl64 sz25 (hS.rdRow 0 rfl) hlt_hx54)) ?_; clear hF; intro a hF
     refine ha_one 5 (by kernel_rfl) rfl (wn_none rfl) (wp_yl (S := fun w' => w' = w) hF rfl rfl rfl (yl_loadAt hF rfl rfl ag25 (fun _ h => rd_cell0 (enc := encI) (by subst h; exact hS.rdRow 0 rfl) encI_len hx54 rfl rfl)) ?_)
     clear hF; intro a hF
     replace hSS := hS.sub [] (by decide) rfl (by simp)
     refine ⟨.inr hSS, ?_⟩
     refine ha_y 16 hF rfl rfl rfl (wn_none rfl) (.inr hSS) (yl_build (parts := [(0, .tmp 29), (1, .tmp 32), (2, .tmp 36), (3, .tmp 39)]) (vs := [(0, _), (1, _), (2, _), (3, _)]) (cs := [_, _, _, _]) hF bd27 rfl rfl rfl rfl) ?_; clear hF; intro a hF
     refine ha_y 17 hF rfl rfl rfl (wn_none rfl) (.inr hSS) (yl_fieldAddr hF rfl rfl (fun w => by kernel_rfl : ∀ w, (Instr.fieldAt 37 (.pointer (some ⟨g7, 0, none⟩)) 5).run Try.prog w = .ok (.pointer (some ⟨g7, 5, none⟩)) w)) ?_; clear hF; intro a hF
     refine ha_one 18 (by kernel_rfl) rfl (wn_none rfl) (wp_store (cs' := #[_, _, _, _, _, _, _, _, _]) hF hS rfl rfl rfl rfl 1 rfl sz27 (by simp [Value.cells, Value.oneCell']) (by simp [Value.cells]) rfl ?_)
     clear hF hS; intro a w hF hS
     replace hSS := hS.sub [] (by decide) rfl (by simp)
     refine ⟨.inr hSS, ?_⟩
     refine ha_done (by kernel_rfl) ?_ _
     refine then_n ?_
     refine c_seq ?_
     refine c_region ?_
     refine seq_yl hF (wn_none rfl) rfl rfl (yl_loadK (rs := [_, _, _, _, _, _, _, _, _]) (fun _ h => h ▸ hS) hF rfl rfl 1 rfl ag37 sz37 rfl rfl) ?_; clear hF; intro a hF
     refine seq_wp (wn_none rfl) (wp_store (cs' := #[_, _, _, _, _, _, _, _, _]) hF hS rfl rfl rfl rfl 2 rfl sz37 (by simp [Value.cells, Value.oneCell']) (by simp [Value.cells]) rfl ?_)
     clear hF hS; intro a w hF hS
     refine wpList_nil ?_
     refine then_n ?_
     refine wp_ret ?_
     refine ret_c hF rfl (resC hS rfl 2 rfl ag37 sz37) ?_
     exact ⟨_, rfl, ((rnd (n) (4 : Int))), ((rnd (((n) / 4)) (6 : Int))), ((((rnd (((n) / 4)) (6 : Int))) + ((rnd (((n) / 4096)) (4 : Int))))), ((rnd (((n) / 64)) (3 : Int))), ((((rnd (((n) / 512)) (4 : Int))) - (1 : Int))), (x54), ((rnd (((n) / 262144)) (4 : Int))), (decide (((rnd (((n) / 1048576)) (2 : Int))) = (1 : Int))), ((rnd (((n) / 4194304)) (6 : Int))), rfl, by omega, by omega, by omega, by omega, by omega, by omega, by omega, by omega, (hS.sub [] (by decide) (by first | rfl | simp) (by simp))⟩

set_option maxRecDepth 100000 in
theorem tick_any (n : Int) (w0 : World) :
  Fn Try.prog 51 #[.int .i64 n] w0 (fun v w' => v = .bool (decide (0 ≤ n ∧ n ≤ 1000000)) ∧ Sat w0 w' []) := by
 refine c_enter (N := 9) (l := [_]) Try.func51 rfl rfl (fun a w hF hS => ?_)
 refine c_seq ?_
 refine c_region ?_
 refine asN hF rfl rfl rfl rfl rfl ?_; clear hF; intro a hF
 refine wpList_nil ?_
 refine then_n ?_
 refine c_seq ?_
 refine c_region ?_
 refine mvN hF rfl rfl rfl rfl rfl ?_; clear hF; intro a hF
 refine seq_yl hF (wn_none rfl) rfl rfl (yl_bin hF rfl rfl rfl rfl (fun _ => run_geq)) ?_; clear hF; intro a hF
 refine mvN hF rfl rfl rfl rfl rfl ?_; clear hF; intro a hF
 refine fr_split hF (fun hc56 hF => ?_) (fun hc56 hF => ?_)
 ·first | (replace hc56 := of_decide_eq_true hc56) | (replace hc56 := of_decide_eq_false (bnot_t hc56)) | (subst hc56) | (replace hc56 := bnot_t hc56; subst hc56) | (replace hc56 := bnot_t hc56) | skip
  refine seq_yl hF (wn_t hF rfl rfl rfl rfl) rfl rfl (yl_move hF rfl rfl) ?_; clear hF; intro a hF
  refine seq_yl hF (wn_t hF rfl rfl rfl rfl) rfl rfl (yl_bin hF rfl rfl rfl rfl (fun _ => run_leq)) ?_; clear hF; intro a hF
  refine seq_yl hF (wn_none rfl) rfl rfl (pkT hF rfl rfl rfl) ?_; clear hF; intro a hF
  refine asN hF rfl rfl rfl rfl rfl ?_; clear hF; intro a hF
  refine wpList_nil ?_
  refine then_n ?_
  refine wp_ret ?_
  refine ret_t hF rfl rfl ?_
  exact ⟨_, rfl, congrArg Value.bool (dec_d (by constructor <;> intro _ <;> omega)), (hS.sub [] (by decide) (by first | rfl | simp) (by simp))⟩
 ·first | (replace hc56 := of_decide_eq_false hc56) | (replace hc56 := of_decide_eq_true (bnot_f hc56)) | (subst hc56) | (replace hc56 := bnot_f hc56; subst hc56) | (replace hc56 := bnot_f hc56) | skip
  refine skF hF rfl rfl rfl rfl rfl rfl ?_; clear hF; intro a hF
  refine skF hF rfl rfl rfl rfl rfl rfl ?_; clear hF; intro a hF
  refine seq_yl hF (wn_none rfl) rfl rfl (pkF hF rfl rfl rfl) ?_; clear hF; intro a hF
  refine asN hF rfl rfl rfl rfl rfl ?_; clear hF; intro a hF
  refine wpList_nil ?_
  refine then_n ?_
  refine wp_ret ?_
  refine ret_t hF rfl rfl ?_
  exact ⟨_, rfl, congrArg Value.bool (dec_f (by omega)), (hS.sub [] (by decide) (by first | rfl | simp) (by simp))⟩

set_option maxRecDepth 100000 in
theorem sector_any (n : Int) (w0 : World) :
  Fn Try.prog 52 #[.int .i64 n] w0 (fun v w' => v = .bool (decide (0 ≤ n ∧ n ≤ 128)) ∧ Sat w0 w' []) := by
 refine c_enter (N := 9) (l := [_]) Try.func52 rfl rfl (fun a w hF hS => ?_)
 refine c_seq ?_
 refine c_region ?_
 refine asN hF rfl rfl rfl rfl rfl ?_; clear hF; intro a hF
 refine wpList_nil ?_
 refine then_n ?_
 refine c_seq ?_
 refine c_region ?_
 refine mvN hF rfl rfl rfl rfl rfl ?_; clear hF; intro a hF
 refine seq_yl hF (wn_none rfl) rfl rfl (yl_bin hF rfl rfl rfl rfl (fun _ => run_geq)) ?_; clear hF; intro a hF
 refine mvN hF rfl rfl rfl rfl rfl ?_; clear hF; intro a hF
 refine fr_split hF (fun hc57 hF => ?_) (fun hc57 hF => ?_)
 ·first | (replace hc57 := of_decide_eq_true hc57) | (replace hc57 := of_decide_eq_false (bnot_t hc57)) | (subst hc57) | (replace hc57 := bnot_t hc57; subst hc57) | (replace hc57 := bnot_t hc57) | skip
  refine seq_yl hF (wn_t hF rfl rfl rfl rfl) rfl rfl (yl_move hF rfl rfl) ?_; clear hF; intro a hF
  refine seq_yl hF (wn_t hF rfl rfl rfl rfl) rfl rfl (yl_bin hF rfl rfl rfl rfl (fun _ => run_leq)) ?_; clear hF; intro a hF
  refine seq_yl hF (wn_none rfl) rfl rfl (pkT hF rfl rfl rfl) ?_; clear hF; intro a hF
  refine asN hF rfl rfl rfl rfl rfl ?_; clear hF; intro a hF
  refine wpList_nil ?_
  refine then_n ?_
  refine wp_ret ?_
  refine ret_t hF rfl rfl ?_
  exact ⟨_, rfl, congrArg Value.bool (dec_d (by constructor <;> intro _ <;> omega)), (hS.sub [] (by decide) (by first | rfl | simp) (by simp))⟩
 ·first | (replace hc57 := of_decide_eq_false hc57) | (replace hc57 := of_decide_eq_true (bnot_f hc57)) | (subst hc57) | (replace hc57 := bnot_f hc57; subst hc57) | (replace hc57 := bnot_f hc57) | skip
  refine skF hF rfl rfl rfl rfl rfl rfl ?_; clear hF; intro a hF
  refine skF hF rfl rfl rfl rfl rfl rfl ?_; clear hF; intro a hF
  refine seq_yl hF (wn_none rfl) rfl rfl (pkF hF rfl rfl rfl) ?_; clear hF; intro a hF
  refine asN hF rfl rfl rfl rfl rfl ?_; clear hF; intro a hF
  refine wpList_nil ?_
  refine then_n ?_
  refine wp_ret ?_
  refine ret_t hF rfl rfl ?_
  exact ⟨_, rfl, congrArg Value.bool (dec_f (by omega)), (hS.sub [] (by decide) (by first | rfl | simp) (by simp))⟩

set_option maxRecDepth 100000 in
theorem place_any (n : Int) (w0 : World) :
  Fn Try.prog 54 #[.int .i64 n] w0 (fun v w' => v = .bool (decide (0 ≤ n ∧ n ≤ 128)) ∧ Sat w0 w' []) := by
 refine c_enter (N := 9) (l := [_]) Try.func54 rfl rfl (fun a w hF hS => ?_)
 refine c_seq ?_
 refine c_region ?_
 refine asN hF rfl rfl rfl rfl rfl ?_; clear hF; intro a hF
 refine wpList_nil ?_
 refine then_n ?_
 refine c_seq ?_
 refine c_region ?_
 refine mvN hF rfl rfl rfl rfl rfl ?_; clear hF; intro a hF
 refine seq_yl hF (wn_none rfl) rfl rfl (yl_bin hF rfl rfl rfl rfl (fun _ => run_geq)) ?_; clear hF; intro a hF
 refine mvN hF rfl rfl rfl rfl rfl ?_; clear hF; intro a hF
 refine fr_split hF (fun hc58 hF => ?_) (fun hc58 hF => ?_)
 ·first | (replace hc58 := of_decide_eq_true hc58) | (replace hc58 := of_decide_eq_false (bnot_t hc58)) | (subst hc58) | (replace hc58 := bnot_t hc58; subst hc58) | (replace hc58 := bnot_t hc58) | skip
  refine seq_yl hF (wn_t hF rfl rfl rfl rfl) rfl rfl (yl_move hF rfl rfl) ?_; clear hF; intro a hF
  refine seq_yl hF (wn_t hF rfl rfl rfl rfl) rfl rfl (yl_bin hF rfl rfl rfl rfl (fun _ => run_leq)) ?_; clear hF; intro a hF
  refine seq_yl hF (wn_none rfl) rfl rfl (pkT hF rfl rfl rfl) ?_; clear hF; intro a hF
  refine asN hF rfl rfl rfl rfl rfl ?_; clear hF; intro a hF
  refine wpList_nil ?_
  refine then_n ?_
  refine wp_ret ?_
  refine ret_t hF rfl rfl ?_
  exact ⟨_, rfl, congrArg Value.bool (dec_d (by constructor <;> intro _ <;> omega)), (hS.sub [] (by decide) (by first | rfl | simp) (by simp))⟩
 ·first | (replace hc58 := of_decide_eq_false hc58) | (replace hc58 := of_decide_eq_true (bnot_f hc58)) | (subst hc58) | (replace hc58 := bnot_f hc58; subst hc58) | (replace hc58 := bnot_f hc58) | skip
  refine skF hF rfl rfl rfl rfl rfl rfl ?_; clear hF; intro a hF
  refine skF hF rfl rfl rfl rfl rfl rfl ?_; clear hF; intro a hF
  refine seq_yl hF (wn_none rfl) rfl rfl (pkF hF rfl rfl rfl) ?_; clear hF; intro a hF
  refine asN hF rfl rfl rfl rfl rfl ?_; clear hF; intro a hF
  refine wpList_nil ?_
  refine then_n ?_
  refine wp_ret ?_
  refine ret_t hF rfl rfl ?_
  exact ⟨_, rfl, congrArg Value.bool (dec_f (by omega)), (hS.sub [] (by decide) (by first | rfl | simp) (by simp))⟩

set_option maxRecDepth 100000 in
theorem tick2_any (n : Int) (w0 : World) :
  Fn Try.prog 53 #[.int .i64 n] w0 (fun v w' => v = .bool (decide (0 ≤ n ∧ n ≤ 1000000)) ∧ Sat w0 w' []) := by
 refine c_enter (N := 9) (l := [_]) Try.func53 rfl rfl (fun a w hF hS => ?_)
 refine c_seq ?_
 refine c_region ?_
 refine asN hF rfl rfl rfl rfl rfl ?_; clear hF; intro a hF
 refine wpList_nil ?_
 refine then_n ?_
 refine c_seq ?_
 refine c_region ?_
 refine mvN hF rfl rfl rfl rfl rfl ?_; clear hF; intro a hF
 refine seq_yl hF (wn_none rfl) rfl rfl (yl_bin hF rfl rfl rfl rfl (fun _ => run_geq)) ?_; clear hF; intro a hF
 refine mvN hF rfl rfl rfl rfl rfl ?_; clear hF; intro a hF
 refine fr_split hF (fun hc59 hF => ?_) (fun hc59 hF => ?_)
 ·first | (replace hc59 := of_decide_eq_true hc59) | (replace hc59 := of_decide_eq_false (bnot_t hc59)) | (subst hc59) | (replace hc59 := bnot_t hc59; subst hc59) | (replace hc59 := bnot_t hc59) | skip
  refine seq_yl hF (wn_t hF rfl rfl rfl rfl) rfl rfl (yl_move hF rfl rfl) ?_; clear hF; intro a hF
  refine seq_yl hF (wn_t hF rfl rfl rfl rfl) rfl rfl (yl_bin hF rfl rfl rfl rfl (fun _ => run_leq)) ?_; clear hF; intro a hF
  refine seq_yl hF (wn_none rfl) rfl rfl (pkT hF rfl rfl rfl) ?_; clear hF; intro a hF
  refine asN hF rfl rfl rfl rfl rfl ?_; clear hF; intro a hF
  refine wpList_nil ?_
  refine then_n ?_
  refine wp_ret ?_
  refine ret_t hF rfl rfl ?_
  exact ⟨_, rfl, congrArg Value.bool (dec_d (by constructor <;> intro _ <;> omega)), (hS.sub [] (by decide) (by first | rfl | simp) (by simp))⟩
 ·first | (replace hc59 := of_decide_eq_false hc59) | (replace hc59 := of_decide_eq_true (bnot_f hc59)) | (subst hc59) | (replace hc59 := bnot_f hc59; subst hc59) | (replace hc59 := bnot_f hc59) | skip
  refine skF hF rfl rfl rfl rfl rfl rfl ?_; clear hF; intro a hF
  refine skF hF rfl rfl rfl rfl rfl rfl ?_; clear hF; intro a hF
  refine seq_yl hF (wn_none rfl) rfl rfl (pkF hF rfl rfl rfl) ?_; clear hF; intro a hF
  refine asN hF rfl rfl rfl rfl rfl ?_; clear hF; intro a hF
  refine wpList_nil ?_
  refine then_n ?_
  refine wp_ret ?_
  refine ret_t hF rfl rfl ?_
  exact ⟨_, rfl, congrArg Value.bool (dec_f (by omega)), (hS.sub [] (by decide) (by first | rfl | simp) (by simp))⟩

set_option maxRecDepth 100000 in
theorem kind_any (n : Int) (w0 : World) :
  Fn Try.prog 50 #[.int .i64 n] w0 (fun v w' => v = .bool (decide (n = 1 ∨ n = 2 ∨ n = 3)) ∧ Sat w0 w' []) := by
 refine c_enter (N := 13) (l := [_]) Try.func50 rfl rfl (fun a w hF hS => ?_)
 refine c_seq ?_
 refine c_region ?_
 refine asN hF rfl rfl rfl rfl rfl ?_; clear hF; intro a hF
 refine wpList_nil ?_
 refine then_n ?_
 refine c_seq ?_
 refine c_region ?_
 refine mvN hF rfl rfl rfl rfl rfl ?_; clear hF; intro a hF
 refine seq_yl hF (wn_none rfl) rfl rfl (yl_bin hF rfl rfl rfl rfl (fun _ => run_eql)) ?_; clear hF; intro a hF
 refine mvN hF rfl rfl rfl rfl rfl ?_; clear hF; intro a hF
 refine fr_split hF (fun hc60 hF => ?_) (fun hc60 hF => ?_)
 ·first | (replace hc60 := of_decide_eq_true hc60) | (replace hc60 := of_decide_eq_false (bnot_t hc60)) | (subst hc60) | (replace hc60 := bnot_t hc60; subst hc60) | (replace hc60 := bnot_t hc60) | skip
  refine skF hF rfl rfl rfl rfl rfl rfl ?_; clear hF; intro a hF
  refine skF hF rfl rfl rfl rfl rfl rfl ?_; clear hF; intro a hF
  refine seq_yl hF (wn_none rfl) rfl rfl (pkT hF rfl rfl rfl) ?_; clear hF; intro a hF
  refine mvN hF rfl rfl rfl rfl rfl ?_; clear hF; intro a hF
  refine skF hF rfl rfl rfl rfl rfl rfl ?_; clear hF; intro a hF
  refine skF hF rfl rfl rfl rfl rfl rfl ?_; clear hF; intro a hF
  refine seq_yl hF (wn_none rfl) rfl rfl (pkT hF rfl rfl rfl) ?_; clear hF; intro a hF
  refine asN hF rfl rfl rfl rfl rfl ?_; clear hF; intro a hF
  refine wpList_nil ?_
  refine then_n ?_
  refine wp_ret ?_
  refine ret_t hF rfl rfl ?_
  exact ⟨_, rfl, congrArg Value.bool (dec_t (by omega)), (hS.sub [] (by decide) (by first | rfl | simp) (by simp))⟩
 ·first | (replace hc60 := of_decide_eq_false hc60) | (replace hc60 := of_decide_eq_true (bnot_f hc60)) | (subst hc60) | (replace hc60 := bnot_f hc60; subst hc60) | (replace hc60 := bnot_f hc60) | skip
  refine seq_yl hF (wn_t hF rfl rfl rfl rfl) rfl rfl (yl_move hF rfl rfl) ?_; clear hF; intro a hF
  refine seq_yl hF (wn_t hF rfl rfl rfl rfl) rfl rfl (yl_bin hF rfl rfl rfl rfl (fun _ => run_eql)) ?_; clear hF; intro a hF
  refine seq_yl hF (wn_none rfl) rfl rfl (pkF hF rfl rfl rfl) ?_; clear hF; intro a hF
  refine mvN hF rfl rfl rfl rfl rfl ?_; clear hF; intro a hF
  refine fr_split hF (fun hc61 hF => ?_) (fun hc61 hF => ?_)
  ·first | (replace hc61 := of_decide_eq_true hc61) | (replace hc61 := of_decide_eq_false (bnot_t hc61)) | (subst hc61) | (replace hc61 := bnot_t hc61; subst hc61) | (replace hc61 := bnot_t hc61) | skip
   refine skF hF rfl rfl rfl rfl rfl rfl ?_; clear hF; intro a hF
   refine skF hF rfl rfl rfl rfl rfl rfl ?_; clear hF; intro a hF
   refine seq_yl hF (wn_none rfl) rfl rfl (pkT hF rfl rfl rfl) ?_; clear hF; intro a hF
   refine asN hF rfl rfl rfl rfl rfl ?_; clear hF; intro a hF
   refine wpList_nil ?_
   refine then_n ?_
   refine wp_ret ?_
   refine ret_t hF rfl rfl ?_
   exact ⟨_, rfl, congrArg Value.bool (dec_t (by omega)), (hS.sub [] (by decide) (by first | rfl | simp) (by simp))⟩
  ·first | (replace hc61 := of_decide_eq_false hc61) | (replace hc61 := of_decide_eq_true (bnot_f hc61)) | (subst hc61) | (replace hc61 := bnot_f hc61; subst hc61) | (replace hc61 := bnot_f hc61) | skip
   refine seq_yl hF (wn_t hF rfl rfl rfl rfl) rfl rfl (yl_move hF rfl rfl) ?_; clear hF; intro a hF
   refine seq_yl hF (wn_t hF rfl rfl rfl rfl) rfl rfl (yl_bin hF rfl rfl rfl rfl (fun _ => run_eql)) ?_; clear hF; intro a hF
   refine seq_yl hF (wn_none rfl) rfl rfl (pkF hF rfl rfl rfl) ?_; clear hF; intro a hF
   refine asN hF rfl rfl rfl rfl rfl ?_; clear hF; intro a hF
   refine wpList_nil ?_
   refine then_n ?_
   refine wp_ret ?_
   refine ret_t hF rfl rfl ?_
   exact ⟨_, rfl, congrArg Value.bool (dec_d (by constructor <;> intro _ <;> omega)), (hS.sub [] (by decide) (by first | rfl | simp) (by simp))⟩

set_option maxRecDepth 100000 in
theorem kind2_any (n : Int) (w0 : World) :
  Fn Try.prog 45 #[.int .i64 n] w0 (fun v w' => v = .bool (decide (n = 1 ∨ n = 2 ∨ n = 3)) ∧ Sat w0 w' []) := by
 refine c_enter (N := 13) (l := [_]) Try.func45 rfl rfl (fun a w hF hS => ?_)
 refine c_seq ?_
 refine c_region ?_
 refine asN hF rfl rfl rfl rfl rfl ?_; clear hF; intro a hF
 refine wpList_nil ?_
 refine then_n ?_
 refine c_seq ?_
 refine c_region ?_
 refine mvN hF rfl rfl rfl rfl rfl ?_; clear hF; intro a hF
 refine seq_yl hF (wn_none rfl) rfl rfl (yl_bin hF rfl rfl rfl rfl (fun _ => run_eql)) ?_; clear hF; intro a hF
 refine mvN hF rfl rfl rfl rfl rfl ?_; clear hF; intro a hF
 refine fr_split hF (fun hc62 hF => ?_) (fun hc62 hF => ?_)
 ·first | (replace hc62 := of_decide_eq_true hc62) | (replace hc62 := of_decide_eq_false (bnot_t hc62)) | (subst hc62) | (replace hc62 := bnot_t hc62; subst hc62) | (replace hc62 := bnot_t hc62) | skip
  refine skF hF rfl rfl rfl rfl rfl rfl ?_; clear hF; intro a hF
  refine skF hF rfl rfl rfl rfl rfl rfl ?_; clear hF; intro a hF
  refine seq_yl hF (wn_none rfl) rfl rfl (pkT hF rfl rfl rfl) ?_; clear hF; intro a hF
  refine mvN hF rfl rfl rfl rfl rfl ?_; clear hF; intro a hF
  refine skF hF rfl rfl rfl rfl rfl rfl ?_; clear hF; intro a hF
  refine skF hF rfl rfl rfl rfl rfl rfl ?_; clear hF; intro a hF
  refine seq_yl hF (wn_none rfl) rfl rfl (pkT hF rfl rfl rfl) ?_; clear hF; intro a hF
  refine asN hF rfl rfl rfl rfl rfl ?_; clear hF; intro a hF
  refine wpList_nil ?_
  refine then_n ?_
  refine wp_ret ?_
  refine ret_t hF rfl rfl ?_
  exact ⟨_, rfl, congrArg Value.bool (dec_t (by omega)), (hS.sub [] (by decide) (by first | rfl | simp) (by simp))⟩
 ·first | (replace hc62 := of_decide_eq_false hc62) | (replace hc62 := of_decide_eq_true (bnot_f hc62)) | (subst hc62) | (replace hc62 := bnot_f hc62; subst hc62) | (replace hc62 := bnot_f hc62) | skip
  refine seq_yl hF (wn_t hF rfl rfl rfl rfl) rfl rfl (yl_move hF rfl rfl) ?_; clear hF; intro a hF
  refine seq_yl hF (wn_t hF rfl rfl rfl rfl) rfl rfl (yl_bin hF rfl rfl rfl rfl (fun _ => run_eql)) ?_; clear hF; intro a hF
  refine seq_yl hF (wn_none rfl) rfl rfl (pkF hF rfl rfl rfl) ?_; clear hF; intro a hF
  refine mvN hF rfl rfl rfl rfl rfl ?_; clear hF; intro a hF
  refine fr_split hF (fun hc63 hF => ?_) (fun hc63 hF => ?_)
  ·first | (replace hc63 := of_decide_eq_true hc63) | (replace hc63 := of_decide_eq_false (bnot_t hc63)) | (subst hc63) | (replace hc63 := bnot_t hc63; subst hc63) | (replace hc63 := bnot_t hc63) | skip
   refine skF hF rfl rfl rfl rfl rfl rfl ?_; clear hF; intro a hF
   refine skF hF rfl rfl rfl rfl rfl rfl ?_; clear hF; intro a hF
   refine seq_yl hF (wn_none rfl) rfl rfl (pkT hF rfl rfl rfl) ?_; clear hF; intro a hF
   refine asN hF rfl rfl rfl rfl rfl ?_; clear hF; intro a hF
   refine wpList_nil ?_
   refine then_n ?_
   refine wp_ret ?_
   refine ret_t hF rfl rfl ?_
   exact ⟨_, rfl, congrArg Value.bool (dec_t (by omega)), (hS.sub [] (by decide) (by first | rfl | simp) (by simp))⟩
  ·first | (replace hc63 := of_decide_eq_false hc63) | (replace hc63 := of_decide_eq_true (bnot_f hc63)) | (subst hc63) | (replace hc63 := bnot_f hc63; subst hc63) | (replace hc63 := bnot_f hc63) | skip
   refine seq_yl hF (wn_t hF rfl rfl rfl rfl) rfl rfl (yl_move hF rfl rfl) ?_; clear hF; intro a hF
   refine seq_yl hF (wn_t hF rfl rfl rfl rfl) rfl rfl (yl_bin hF rfl rfl rfl rfl (fun _ => run_eql)) ?_; clear hF; intro a hF
   refine seq_yl hF (wn_none rfl) rfl rfl (pkF hF rfl rfl rfl) ?_; clear hF; intro a hF
   refine asN hF rfl rfl rfl rfl rfl ?_; clear hF; intro a hF
   refine wpList_nil ?_
   refine then_n ?_
   refine wp_ret ?_
   refine ret_t hF rfl rfl ?_
   exact ⟨_, rfl, congrArg Value.bool (dec_d (by constructor <;> intro _ <;> omega)), (hS.sub [] (by decide) (by first | rfl | simp) (by simp))⟩

end Go.Proofs.Ytkejcnhfbfgphaa

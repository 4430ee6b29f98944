/- walks, printed by wip/gen -/
import Derived.Test.YtjjjmpkmjicpbaaW4
import Derived.Test.YtjjjmpkmjicpbaaP3
import Derived.Test.YtjjjmpkmjicpbaaW1
namespace Go.Proofs.Ytjjjmpkmjicpbaa
open Go.RowKit
set_option linter.unusedVariables false
set_option linter.unusedSimpArgs false

theorem rule_any (n : Int) (w0 : World) :
    Fn Try.prog 12 #[.int .i64 n] w0 (fun v w' => ∃ (k f l s t er dn : Int) (hf : Bool) (dl : Int), v = .agg #[.int .i64 k, .int .i64 f, .int .i64 l, .int .i64 s, .int .i64 t, .int .i64 er, .int .i64 dn, .bool hf, .int .i64 dl] ∧ (0 ≤ k ∧ k ≤ 3) ∧ (0 ≤ f ∧ f ≤ 5) ∧ (f ≤ l ∧ l ≤ f + 3) ∧ (0 ≤ s ∧ s ≤ 2) ∧ (-1 ≤ t ∧ t ≤ 2) ∧ (er = 0 ∨ er = 10 ∨ er = 11 ∨ er = 50) ∧ (0 ≤ dn ∧ dn ≤ 3) ∧ (0 ≤ dl ∧ dl ≤ 5) ∧ Sat w0 w' []) := by
  refine c_enter (N := 43) (l := [_]) Try.func12 rfl rfl (fun a w hF hS => ?_)
  refine c_seq ?_
  refine c_region ?_
  refine seq_wp (wn_none rfl) (wp_alloc (cs := #[_, _, _, _, _, _, _, _, _]) hF hS rfl rfl rfl zr36 rfl ?_)
  clear hF hS; intro a w g225 hF hS
  refine wpList_nil ?_
  refine then_n ?_
  refine c_seq ?_
  refine c_region ?_
  refine seq_yl hF (wn_none rfl) rfl rfl (yl_move hF rfl rfl) ?_
  clear hF; intro a hF
  have hr226 := rnd_bounds (n) (4 : Int) (by omega)
  refine seq_wp (wn_none rfl) (wp_call (vs := [_, _]) hF rfl rfl rfl rfl cf11 (round_any (n) (4 : Int) _ (by omega)) ?_)
  clear hF; rintro _ w ⟨rfl, hS1⟩ a hF
  replace hS := hS.callB hS1 rfl; clear hS1
  refine seq_yl hF (wn_none rfl) rfl rfl (yl_move hF rfl rfl) ?_
  clear hF; intro a hF
  refine seq_yl hF (wn_none rfl) rfl rfl (yl_bin hF rfl rfl rfl rfl (fun _ => run_shr (c := 2) (d := 4) (by decide) (by decide))) ?_
  clear hF; intro a hF
  have hr227 := rnd_bounds (((n) / 4)) (6 : Int) (by omega)
  refine seq_wp (wn_none rfl) (wp_call (vs := [_, _]) hF rfl rfl rfl rfl cf11 (round_any (((n) / 4)) (6 : Int) _ (by omega)) ?_)
  clear hF; rintro _ w ⟨rfl, hS1⟩ a hF
  replace hS := hS.callB hS1 rfl; clear hS1
  refine seq_yl hF (wn_none rfl) rfl rfl (yl_move hF rfl rfl) ?_
  clear hF; intro a hF
  refine seq_yl hF (wn_none rfl) rfl rfl (yl_bin hF rfl rfl rfl rfl (fun _ => run_shr (c := 6) (d := 64) (by decide) (by decide))) ?_
  clear hF; intro a hF
  have hr228 := rnd_bounds (((n) / 64)) (3 : Int) (by omega)
  refine seq_wp (wn_none rfl) (wp_call (vs := [_, _]) hF rfl rfl rfl rfl cf11 (round_any (((n) / 64)) (3 : Int) _ (by omega)) ?_)
  clear hF; rintro _ w ⟨rfl, hS1⟩ a hF
  replace hS := hS.callB hS1 rfl; clear hS1
  refine seq_yl hF (wn_none rfl) rfl rfl (yl_move hF rfl rfl) ?_
  clear hF; intro a hF
  refine seq_yl hF (wn_none rfl) rfl rfl (yl_bin hF rfl rfl rfl rfl (fun _ => run_shr (c := 9) (d := 512) (by decide) (by decide))) ?_
  clear hF; intro a hF
  have hr229 := rnd_bounds (((n) / 512)) (4 : Int) (by omega)
  refine seq_wp (wn_none rfl) (wp_call (vs := [_, _]) hF rfl rfl rfl rfl cf11 (round_any (((n) / 512)) (4 : Int) _ (by omega)) ?_)
  clear hF; rintro _ w ⟨rfl, hS1⟩ a hF
  replace hS := hS.callB hS1 rfl; clear hS1
  refine seq_yl hF (wn_none rfl) rfl rfl (yl_bin hF rfl rfl rfl rfl (fun _ => run_sub (by refine ⟨?_, ?_⟩ <;> omega))) ?_
  clear hF; intro a hF
  refine seq_yl hF (wn_none rfl) rfl rfl (yl_build (parts := [(0, .tmp 5), (1, .tmp 8), (3, .tmp 11), (4, .tmp 15)]) (vs := [(0, _), (1, _), (3, _), (4, _)]) (cs := [_, _, _, _, _, _, _, _, _]) hF bd36 rfl rfl rfl rfl) ?_
  clear hF; intro a hF
  refine seq_wp (wn_none rfl) (wp_alloc (cs := #[_, _, _, _, _, _, _, _, _]) hF hS rfl rfl rfl zr36 rfl ?_)
  clear hF hS; intro a w g230 hF hS
  refine seq_wp (wn_none rfl) (wp_store (cs' := #[_, _, _, _, _, _, _, _, _]) hF hS rfl rfl rfl rfl 0 rfl sz36 (by simp [Value.cells, Value.oneCell']) (by simp [Value.cells]) rfl ?_)
  clear hF hS; intro a w hF hS
  refine wpList_nil ?_
  refine then_n ?_
  refine c_seq ?_
  refine ha_startS hS [0] 7 (by kernel_rfl) ?_; clear hS; intro w hS
  have hSS := hS.sub [0] (by decide) rfl (by simp)
  refine ha_y 0 hF rfl rfl rfl (wn_none rfl) (.inr hSS) (yl_fieldAddr hF rfl rfl (fun w => by kernel_rfl : ∀ w, (Instr.fieldAt 36 (.pointer (some ⟨g230, 0, none⟩)) 1).run Try.prog w = .ok (.pointer (some ⟨g230, 1, none⟩)) w)) ?_
  clear hF; intro a hF
  refine ha_y 2 hF rfl rfl rfl (wn_none rfl) (.inr hSS) (yl_move hF rfl rfl) ?_
  clear hF; intro a hF
  refine ha_y 3 hF rfl rfl rfl (wn_none rfl) (.inr hSS) (yl_bin hF rfl rfl rfl rfl (fun _ => run_shr (c := 12) (d := 4096) (by decide) (by decide))) ?_
  clear hF; intro a hF
  refine ha_l 1 hF rfl rfl rfl (wn_none rfl) hSS (yl_load (fun _ h => h) hF rfl rfl 0 rfl ag3 rfl) ?_
  clear hF; intro a hF
  have hr231 := rnd_bounds (((n) / 4096)) (4 : Int) (by omega)
  refine ha_one 4 (by kernel_rfl) rfl (wn_none rfl) (wp_call (vs := [_, _]) hF rfl rfl rfl rfl cf11 (round_any (((n) / 4096)) (4 : Int) _ (by omega)) ?_)
  clear hF; rintro _ w ⟨rfl, hS1⟩ a hF
  replace hS := hS.callB hS1 rfl; clear hS1
  replace hSS := hS.sub [0] (by decide) rfl (by simp)
  refine ⟨.inr hSS, ?_⟩
  refine ha_y 5 hF rfl rfl rfl (wn_none rfl) (.inr hSS) (yl_bin hF rfl rfl rfl rfl (fun _ => run_add (by refine ⟨?_, ?_⟩ <;> omega))) ?_
  clear hF; intro a hF
  refine ha_y 6 hF rfl rfl rfl (wn_none rfl) (.inr hSS) (yl_fieldAddr hF rfl rfl (fun w => by kernel_rfl : ∀ w, (Instr.fieldAt 36 (.pointer (some ⟨g230, 0, none⟩)) 2).run Try.prog w = .ok (.pointer (some ⟨g230, 2, none⟩)) w)) ?_
  clear hF; intro a hF
  refine ha_one 7 (by kernel_rfl) rfl (wn_none rfl) (wp_store (cs' := #[_, _, _, _, _, _, _, _, _]) hF hS rfl rfl rfl rfl 0 rfl sz3 (by simp [Value.cells, Value.oneCell']) (by simp [Value.cells]) rfl ?_)
  clear hF hS; intro a w hF hS
  refine ⟨.inl (by kernel_rfl), ?_⟩
  refine ha_done (by kernel_rfl) ?_ _
  refine then_n ?_
  refine c_seq ?_
  refine ha_startS hS [] 19 (by kernel_rfl) ?_; clear hS; intro w hS
  have hSS := hS.sub [] (by decide) rfl (by simp)
  refine ha_y 1 hF rfl rfl rfl (wn_none rfl) (.inr hSS) (yl_move hF rfl rfl) ?_
  clear hF; intro a hF
  refine ha_y 2 hF rfl rfl rfl (wn_none rfl) (.inr hSS) (yl_bin hF rfl rfl rfl rfl (fun _ => run_shr (c := 15) (d := 32768) (by decide) (by decide))) ?_
  clear hF; intro a hF
  refine ha_y 6 hF rfl rfl rfl (wn_none rfl) (.inr hSS) (yl_move hF rfl rfl) ?_
  clear hF; intro a hF
  refine ha_y 7 hF rfl rfl rfl (wn_none rfl) (.inr hSS) (yl_bin hF rfl rfl rfl rfl (fun _ => run_shr (c := 18) (d := 262144) (by decide) (by decide))) ?_
  clear hF; intro a hF
  refine ha_y 9 hF rfl rfl rfl (wn_none rfl) (.inr hSS) (yl_move hF rfl rfl) ?_
  clear hF; intro a hF
  refine ha_y 10 hF rfl rfl rfl (wn_none rfl) (.inr hSS) (yl_bin hF rfl rfl rfl rfl (fun _ => run_shr (c := 20) (d := 1048576) (by decide) (by decide))) ?_
  clear hF; intro a hF
  refine ha_y 13 hF rfl rfl rfl (wn_none rfl) (.inr hSS) (yl_move hF rfl rfl) ?_
  clear hF; intro a hF
  refine ha_y 14 hF rfl rfl rfl (wn_none rfl) (.inr hSS) (yl_bin hF rfl rfl rfl rfl (fun _ => run_shr (c := 22) (d := 4194304) (by decide) (by decide))) ?_
  clear hF; intro a hF
  refine ha_all (rs := [0, 3]) (by kernel_rfl) (by simp) ?_
  refine List.forall_mem_cons.2 ⟨?_, List.forall_mem_cons.2 ⟨?_, (fun _ h => by cases h)⟩⟩
  · skip
    refine ha_op 0 rfl (wn_none rfl) (wp_bslice (parts := [(0, .const (Go.Value.int Go.IntKind.i64 0)), (1, .const (Go.Value.int Go.IntKind.i64 10)), (2, .const (Go.Value.int Go.IntKind.i64 11)), (3, .const (Go.Value.int Go.IntKind.i64 50)), (4, .const (Go.Value.int Go.IntKind.i64 10)), (5, .const (Go.Value.int Go.IntKind.i64 50))]) (vs := [(0, _), (1, _), (2, _), (3, _), (4, _), (5, _)]) (enc := encI) (e := 32) (size := 1) (cs := #[.int .i64 (0 : Int), .int .i64 (10 : Int), .int .i64 (11 : Int), .int .i64 (50 : Int), .int .i64 (10 : Int), .int .i64 (50 : Int)]) hF hS rfl rfl rfl rfl ([(0 : Int), (10 : Int), (11 : Int), (50 : Int), (10 : Int), (50 : Int)] : List Int) (fun w => by kernel_rfl) rfl rfl rfl (by decide) ?_)
    clear hF hS; intro a w v232 hF hS
    obtain ⟨Av232, cv232, rfl⟩ := hS.form 0 rfl
    replace hSS := hS.sub [] (by decide) rfl (by simp)
    refine ⟨.inr hSS, ?_⟩
    have hr233 := rnd_bounds (((n) / 32768)) (6 : Int) (by omega)
    refine ha_one 3 (by kernel_rfl) rfl (wn_none rfl) (wp_call (vs := [_, _]) hF rfl rfl rfl rfl cf11 (round_any (((n) / 32768)) (6 : Int) _ (by omega)) ?_)
    clear hF; rintro _ w ⟨rfl, hS1⟩ a hF
    replace hS := hS.callB hS1 rfl; clear hS1
    obtain ⟨rn234, hrn234⟩ : ∃ nn9 : Nat, (rnd (((n) / 32768)) (6 : Int)) = nn9 := ⟨(rnd (((n) / 32768)) (6 : Int)).toNat, by omega⟩; rw [hrn234] at hF
    replace hSS := hS.sub [] (by decide) rfl (by simp)
    refine ⟨.inr hSS, ?_⟩
    have herr : ∀ e ∈ ([(0 : Int), (10 : Int), (11 : Int), (50 : Int), (10 : Int), (50 : Int)] : List Int), e = 0 ∨ e = 10 ∨ e = 11 ∨ e = 50 := by decide
    have hlt_hx235 : rn234 < (([(0 : Int), (10 : Int), (11 : Int), (50 : Int), (10 : Int), (50 : Int)] : List Int)).length := by first | omega | (simp; done) | (simp; omega)
    obtain ⟨ad236, rfl⟩ := rd_some (hS.rdRow 0 rfl) hlt_hx235
    obtain ⟨x235, hx235⟩ := get_some hlt_hx235
    have hb_x235 := herr x235 (List.mem_of_getElem? hx235)
    refine ha_y 4 hF rfl rfl rfl (wn_none rfl) (.inr hSS) (yl_indexAddr hF rfl rfl rfl (fun _ => run_idx' sl59 sz32 (hS.rdRow 0 rfl) hlt_hx235)) ?_
    clear hF; intro a hF
    refine ha_all (rs := [5, 8]) (by kernel_rfl) (by simp) ?_
    refine List.forall_mem_cons.2 ⟨?_, List.forall_mem_cons.2 ⟨?_, (fun _ h => by cases h)⟩⟩
    · skip
      refine ha_op 5 rfl (wn_none rfl) (wp_yl (S := fun w' => w' = w) hF rfl rfl rfl (yl_loadAt hF rfl rfl ag32 (fun _ h => rd_cell0 (enc := encI) (by subst h; exact hS.rdRow 0 rfl) encI_len hx235 rfl rfl)) ?_)
      clear hF; intro a hF
      replace hSS := hS.sub [] (by decide) rfl (by simp)
      refine ⟨.inr hSS, ?_⟩
      have hr237 := rnd_bounds (((n) / 262144)) (4 : Int) (by omega)
      refine ha_one 8 (by kernel_rfl) rfl (wn_none rfl) (wp_call (vs := [_, _]) hF rfl rfl rfl rfl cf11 (round_any (((n) / 262144)) (4 : Int) _ (by omega)) ?_)
      clear hF; rintro _ w ⟨rfl, hS1⟩ a hF
      replace hS := hS.callB hS1 rfl; clear hS1
      replace hSS := hS.sub [] (by decide) rfl (by simp)
      refine ⟨.inr hSS, ?_⟩
      have hr238 := rnd_bounds (((n) / 1048576)) (2 : Int) (by omega)
      refine ha_one 11 (by kernel_rfl) rfl (wn_none rfl) (wp_call (vs := [_, _]) hF rfl rfl rfl rfl cf11 (round_any (((n) / 1048576)) (2 : Int) _ (by omega)) ?_)
      clear hF; rintro _ w ⟨rfl, hS1⟩ a hF
      replace hS := hS.callB hS1 rfl; clear hS1
      replace hSS := hS.sub [] (by decide) rfl (by simp)
      refine ⟨.inr hSS, ?_⟩
      refine ha_y 12 hF rfl rfl rfl (wn_none rfl) (.inr hSS) (yl_bin hF rfl rfl rfl rfl (fun _ => run_eql)) ?_
      clear hF; intro a hF
      have hr239 := rnd_bounds (((n) / 4194304)) (6 : Int) (by omega)
      refine ha_one 15 (by kernel_rfl) rfl (wn_none rfl) (wp_call (vs := [_, _]) hF rfl rfl rfl rfl cf11 (round_any (((n) / 4194304)) (6 : Int) _ (by omega)) ?_)
      clear hF; rintro _ w ⟨rfl, hS1⟩ a hF
      replace hS := hS.callB hS1 rfl; clear hS1
      replace hSS := hS.sub [] (by decide) rfl (by simp)
      refine ⟨.inr hSS, ?_⟩
      refine ha_y 16 hF rfl rfl rfl (wn_none rfl) (.inr hSS) (yl_build (parts := [(0, .tmp 29), (1, .tmp 32), (2, .tmp 36), (3, .tmp 39)]) (vs := [(0, _), (1, _), (2, _), (3, _)]) (cs := [_, _, _, _]) hF bd34 rfl rfl rfl rfl) ?_
      clear hF; intro a hF
      refine ha_y 17 hF rfl rfl rfl (wn_none rfl) (.inr hSS) (yl_fieldAddr hF rfl rfl (fun w => by kernel_rfl : ∀ w, (Instr.fieldAt 36 (.pointer (some ⟨g230, 0, none⟩)) 5).run Try.prog w = .ok (.pointer (some ⟨g230, 5, none⟩)) w)) ?_
      clear hF; intro a hF
      refine ha_one 18 (by kernel_rfl) rfl (wn_none rfl) (wp_store (cs' := #[_, _, _, _, _, _, _, _, _]) hF hS rfl rfl rfl rfl 1 rfl sz34 (by simp [Value.cells, Value.oneCell']) (by simp [Value.cells]) rfl ?_)
      clear hF hS; intro a w hF hS
      replace hSS := hS.sub [] (by decide) rfl (by simp)
      refine ⟨.inr hSS, ?_⟩
      refine ha_done (by kernel_rfl) ?_ _
      refine then_n ?_
      refine c_seq ?_
      refine c_region ?_
      refine seq_yl hF (wn_none rfl) rfl rfl (yl_loadK (rs := [_, _, _, _, _, _, _, _, _]) (fun _ h => h ▸ hS) hF rfl rfl 1 rfl ag36 sz36 rfl rfl) ?_
      clear hF; intro a hF
      refine seq_wp (wn_none rfl) (wp_store (cs' := #[_, _, _, _, _, _, _, _, _]) hF hS rfl rfl rfl rfl 2 rfl sz36 (by simp [Value.cells, Value.oneCell']) (by simp [Value.cells]) rfl ?_)
      clear hF hS; intro a w hF hS
      refine wpList_nil ?_
      refine then_n ?_
      refine wp_ret ?_
      refine ret_c hF rfl (resC hS rfl 2 rfl ag36 sz36) ?_
      exact ⟨_, rfl, ((rnd (n) (4 : Int))), ((rnd (((n) / 4)) (6 : Int))), ((((rnd (((n) / 4)) (6 : Int))) + ((rnd (((n) / 4096)) (4 : Int))))), ((rnd (((n) / 64)) (3 : Int))), ((((rnd (((n) / 512)) (4 : Int))) - (1 : Int))), (x235), ((rnd (((n) / 262144)) (4 : Int))), (decide (((rnd (((n) / 1048576)) (2 : Int))) = (1 : Int))), ((rnd (((n) / 4194304)) (6 : Int))), rfl, by omega, by omega, by omega, by omega, by omega, by omega, by omega, by omega, (hS.sub [] (by decide) (by first | rfl | simp) (by simp))⟩
    · skip
      have hr240 := rnd_bounds (((n) / 262144)) (4 : Int) (by omega)
      refine ha_op 8 rfl (wn_none rfl) (wp_call (vs := [_, _]) hF rfl rfl rfl rfl cf11 (round_any (((n) / 262144)) (4 : Int) _ (by omega)) ?_)
      clear hF; rintro _ w ⟨rfl, hS1⟩ a hF
      replace hS := hS.callB hS1 rfl; clear hS1
      replace hSS := hS.sub [] (by decide) rfl (by simp)
      refine ⟨.inr hSS, ?_⟩
      refine ha_all (rs := [5, 11]) (by kernel_rfl) (by simp) ?_
      refine List.forall_mem_cons.2 ⟨?_, List.forall_mem_cons.2 ⟨?_, (fun _ h => by cases h)⟩⟩
      · skip
        refine ha_op 5 rfl (wn_none rfl) (wp_yl (S := fun w' => w' = w) hF rfl rfl rfl (yl_loadAt hF rfl rfl ag32 (fun _ h => rd_cell0 (enc := encI) (by subst h; exact hS.rdRow 0 rfl) encI_len hx235 rfl rfl)) ?_)
        clear hF; intro a hF
        replace hSS := hS.sub [] (by decide) rfl (by simp)
        refine ⟨.inr hSS, ?_⟩
        have hr241 := rnd_bounds (((n) / 1048576)) (2 : Int) (by omega)
        refine ha_one 11 (by kernel_rfl) rfl (wn_none rfl) (wp_call (vs := [_, _]) hF rfl rfl rfl rfl cf11 (round_any (((n) / 1048576)) (2 : Int) _ (by omega)) ?_)
        clear hF; rintro _ w ⟨rfl, hS1⟩ a hF
        replace hS := hS.callB hS1 rfl; clear hS1
        replace hSS := hS.sub [] (by decide) rfl (by simp)
        refine ⟨.inr hSS, ?_⟩
        refine ha_y 12 hF rfl rfl rfl (wn_none rfl) (.inr hSS) (yl_bin hF rfl rfl rfl rfl (fun _ => run_eql)) ?_
        clear hF; intro a hF
        have hr242 := rnd_bounds (((n) / 4194304)) (6 : Int) (by omega)
        refine ha_one 15 (by kernel_rfl) rfl (wn_none rfl) (wp_call (vs := [_, _]) hF rfl rfl rfl rfl cf11 (round_any (((n) / 4194304)) (6 : Int) _ (by omega)) ?_)
        clear hF; rintro _ w ⟨rfl, hS1⟩ a hF
        replace hS := hS.callB hS1 rfl; clear hS1
        replace hSS := hS.sub [] (by decide) rfl (by simp)
        refine ⟨.inr hSS, ?_⟩
        refine ha_y 16 hF rfl rfl rfl (wn_none rfl) (.inr hSS) (yl_build (parts := [(0, .tmp 29), (1, .tmp 32), (2, .tmp 36), (3, .tmp 39)]) (vs := [(0, _), (1, _), (2, _), (3, _)]) (cs := [_, _, _, _]) hF bd34 rfl rfl rfl rfl) ?_
        clear hF; intro a hF
        refine ha_y 17 hF rfl rfl rfl (wn_none rfl) (.inr hSS) (yl_fieldAddr hF rfl rfl (fun w => by kernel_rfl : ∀ w, (Instr.fieldAt 36 (.pointer (some ⟨g230, 0, none⟩)) 5).run Try.prog w = .ok (.pointer (some ⟨g230, 5, none⟩)) w)) ?_
        clear hF; intro a hF
        refine ha_one 18 (by kernel_rfl) rfl (wn_none rfl) (wp_store (cs' := #[_, _, _, _, _, _, _, _, _]) hF hS rfl rfl rfl rfl 1 rfl sz34 (by simp [Value.cells, Value.oneCell']) (by simp [Value.cells]) rfl ?_)
        clear hF hS; intro a w hF hS
        replace hSS := hS.sub [] (by decide) rfl (by simp)
        refine ⟨.inr hSS, ?_⟩
        refine ha_done (by kernel_rfl) ?_ _
        refine then_n ?_
        refine c_seq ?_
        refine c_region ?_
        refine seq_yl hF (wn_none rfl) rfl rfl (yl_loadK (rs := [_, _, _, _, _, _, _, _, _]) (fun _ h => h ▸ hS) hF rfl rfl 1 rfl ag36 sz36 rfl rfl) ?_
        clear hF; intro a hF
        refine seq_wp (wn_none rfl) (wp_store (cs' := #[_, _, _, _, _, _, _, _, _]) hF hS rfl rfl rfl rfl 2 rfl sz36 (by simp [Value.cells, Value.oneCell']) (by simp [Value.cells]) rfl ?_)
        clear hF hS; intro a w hF hS
        refine wpList_nil ?_
        refine then_n ?_
        refine wp_ret ?_
        refine ret_c hF rfl (resC hS rfl 2 rfl ag36 sz36) ?_
        exact ⟨_, rfl, ((rnd (n) (4 : Int))), ((rnd (((n) / 4)) (6 : Int))), ((((rnd (((n) / 4)) (6 : Int))) + ((rnd (((n) / 4096)) (4 : Int))))), ((rnd (((n) / 64)) (3 : Int))), ((((rnd (((n) / 512)) (4 : Int))) - (1 : Int))), (x235), ((rnd (((n) / 262144)) (4 : Int))), (decide (((rnd (((n) / 1048576)) (2 : Int))) = (1 : Int))), ((rnd (((n) / 4194304)) (6 : Int))), rfl, by omega, by omega, by omega, by omega, by omega, by omega, by omega, by omega, (hS.sub [] (by decide) (by first | rfl | simp) (by simp))⟩
      · skip
        have hr243 := rnd_bounds (((n) / 1048576)) (2 : Int) (by omega)
        refine ha_op 11 rfl (wn_none rfl) (wp_call (vs := [_, _]) hF rfl rfl rfl rfl cf11 (round_any (((n) / 1048576)) (2 : Int) _ (by omega)) ?_)
        clear hF; rintro _ w ⟨rfl, hS1⟩ a hF
        replace hS := hS.callB hS1 rfl; clear hS1
        replace hSS := hS.sub [] (by decide) rfl (by simp)
        refine ⟨.inr hSS, ?_⟩
        refine ha_y 12 hF rfl rfl rfl (wn_none rfl) (.inr hSS) (yl_bin hF rfl rfl rfl rfl (fun _ => run_eql)) ?_
        clear hF; intro a hF
        refine ha_all (rs := [5, 15]) (by kernel_rfl) (by simp) ?_
        refine List.forall_mem_cons.2 ⟨?_, List.forall_mem_cons.2 ⟨?_, (fun _ h => by cases h)⟩⟩
        · skip
          refine ha_op 5 rfl (wn_none rfl) (wp_yl (S := fun w' => w' = w) hF rfl rfl rfl (yl_loadAt hF rfl rfl ag32 (fun _ h => rd_cell0 (enc := encI) (by subst h; exact hS.rdRow 0 rfl) encI_len hx235 rfl rfl)) ?_)
          clear hF; intro a hF
          replace hSS := hS.sub [] (by decide) rfl (by simp)
          refine ⟨.inr hSS, ?_⟩
          have hr244 := rnd_bounds (((n) / 4194304)) (6 : Int) (by omega)
          refine ha_one 15 (by kernel_rfl) rfl (wn_none rfl) (wp_call (vs := [_, _]) hF rfl rfl rfl rfl cf11 (round_any (((n) / 4194304)) (6 : Int) _ (by omega)) ?_)
          clear hF; rintro _ w ⟨rfl, hS1⟩ a hF
          replace hS := hS.callB hS1 rfl; clear hS1
          replace hSS := hS.sub [] (by decide) rfl (by simp)
          refine ⟨.inr hSS, ?_⟩
          refine ha_y 16 hF rfl rfl rfl (wn_none rfl) (.inr hSS) (yl_build (parts := [(0, .tmp 29), (1, .tmp 32), (2, .tmp 36), (3, .tmp 39)]) (vs := [(0, _), (1, _), (2, _), (3, _)]) (cs := [_, _, _, _]) hF bd34 rfl rfl rfl rfl) ?_
          clear hF; intro a hF
          refine ha_y 17 hF rfl rfl rfl (wn_none rfl) (.inr hSS) (yl_fieldAddr hF rfl rfl (fun w => by kernel_rfl : ∀ w, (Instr.fieldAt 36 (.pointer (some ⟨g230, 0, none⟩)) 5).run Try.prog w = .ok (.pointer (some ⟨g230, 5, none⟩)) w)) ?_
          clear hF; intro a hF
          refine ha_one 18 (by kernel_rfl) rfl (wn_none rfl) (wp_store (cs' := #[_, _, _, _, _, _, _, _, _]) hF hS rfl rfl rfl rfl 1 rfl sz34 (by simp [Value.cells, Value.oneCell']) (by simp [Value.cells]) rfl ?_)
          clear hF hS; intro a w hF hS
          replace hSS := hS.sub [] (by decide) rfl (by simp)
          refine ⟨.inr hSS, ?_⟩
          refine ha_done (by kernel_rfl) ?_ _
          refine then_n ?_
          refine c_seq ?_
          refine c_region ?_
          refine seq_yl hF (wn_none rfl) rfl rfl (yl_loadK (rs := [_, _, _, _, _, _, _, _, _]) (fun _ h => h ▸ hS) hF rfl rfl 1 rfl ag36 sz36 rfl rfl) ?_
          clear hF; intro a hF
          refine seq_wp (wn_none rfl) (wp_store (cs' := #[_, _, _, _, _, _, _, _, _]) hF hS rfl rfl rfl rfl 2 rfl sz36 (by simp [Value.cells, Value.oneCell']) (by simp [Value.cells]) rfl ?_)
          clear hF hS; intro a w hF hS
          refine wpList_nil ?_
          refine then_n ?_
          refine wp_ret ?_
          refine ret_c hF rfl (resC hS rfl 2 rfl ag36 sz36) ?_
          exact ⟨_, rfl, ((rnd (n) (4 : Int))), ((rnd (((n) / 4)) (6 : Int))), ((((rnd (((n) / 4)) (6 : Int))) + ((rnd (((n) / 4096)) (4 : Int))))), ((rnd (((n) / 64)) (3 : Int))), ((((rnd (((n) / 512)) (4 : Int))) - (1 : Int))), (x235), ((rnd (((n) / 262144)) (4 : Int))), (decide (((rnd (((n) / 1048576)) (2 : Int))) = (1 : Int))), ((rnd (((n) / 4194304)) (6 : Int))), rfl, by omega, by omega, by omega, by omega, by omega, by omega, by omega, by omega, (hS.sub [] (by decide) (by first | rfl | simp) (by simp))⟩
        · skip
          have hr245 := rnd_bounds (((n) / 4194304)) (6 : Int) (by omega)
          refine ha_op 15 rfl (wn_none rfl) (wp_call (vs := [_, _]) hF rfl rfl rfl rfl cf11 (round_any (((n) / 4194304)) (6 : Int) _ (by omega)) ?_)
          clear hF; rintro _ w ⟨rfl, hS1⟩ a hF
          replace hS := hS.callB hS1 rfl; clear hS1
          replace hSS := hS.sub [] (by decide) rfl (by simp)
          refine ⟨.inr hSS, ?_⟩
          refine ha_one 5 (by kernel_rfl) rfl (wn_none rfl) (wp_yl (S := fun w' => w' = w) hF rfl rfl rfl (yl_loadAt hF rfl rfl ag32 (fun _ h => rd_cell0 (enc := encI) (by subst h; exact hS.rdRow 0 rfl) encI_len hx235 rfl rfl)) ?_)
          clear hF; intro a hF
          replace hSS := hS.sub [] (by decide) rfl (by simp)
          refine ⟨.inr hSS, ?_⟩
          refine ha_y 16 hF rfl rfl rfl (wn_none rfl) (.inr hSS) (yl_build (parts := [(0, .tmp 29), (1, .tmp 32), (2, .tmp 36), (3, .tmp 39)]) (vs := [(0, _), (1, _), (2, _), (3, _)]) (cs := [_, _, _, _]) hF bd34 rfl rfl rfl rfl) ?_
          clear hF; intro a hF
          refine ha_y 17 hF rfl rfl rfl (wn_none rfl) (.inr hSS) (yl_fieldAddr hF rfl rfl (fun w => by kernel_rfl : ∀ w, (Instr.fieldAt 36 (.pointer (some ⟨g230, 0, none⟩)) 5).run Try.prog w = .ok (.pointer (some ⟨g230, 5, none⟩)) w)) ?_
          clear hF; intro a hF
          refine ha_one 18 (by kernel_rfl) rfl (wn_none rfl) (wp_store (cs' := #[_, _, _, _, _, _, _, _, _]) hF hS rfl rfl rfl rfl 1 rfl sz34 (by simp [Value.cells, Value.oneCell']) (by simp [Value.cells]) rfl ?_)
          clear hF hS; intro a w hF hS
          replace hSS := hS.sub [] (by decide) rfl (by simp)
          refine ⟨.inr hSS, ?_⟩
          refine ha_done (by kernel_rfl) ?_ _
          refine then_n ?_
          refine c_seq ?_
          refine c_region ?_
          refine seq_yl hF (wn_none rfl) rfl rfl (yl_loadK (rs := [_, _, _, _, _, _, _, _, _]) (fun _ h => h ▸ hS) hF rfl rfl 1 rfl ag36 sz36 rfl rfl) ?_
          clear hF; intro a hF
          refine seq_wp (wn_none rfl) (wp_store (cs' := #[_, _, _, _, _, _, _, _, _]) hF hS rfl rfl rfl rfl 2 rfl sz36 (by simp [Value.cells, Value.oneCell']) (by simp [Value.cells]) rfl ?_)
          clear hF hS; intro a w hF hS
          refine wpList_nil ?_
          refine then_n ?_
          refine wp_ret ?_
          refine ret_c hF rfl (resC hS rfl 2 rfl ag36 sz36) ?_
          exact ⟨_, rfl, ((rnd (n) (4 : Int))), ((rnd (((n) / 4)) (6 : Int))), ((((rnd (((n) / 4)) (6 : Int))) + ((rnd (((n) / 4096)) (4 : Int))))), ((rnd (((n) / 64)) (3 : Int))), ((((rnd (((n) / 512)) (4 : Int))) - (1 : Int))), (x235), ((rnd (((n) / 262144)) (4 : Int))), (decide (((rnd (((n) / 1048576)) (2 : Int))) = (1 : Int))), ((rnd (((n) / 4194304)) (6 : Int))), rfl, by omega, by omega, by omega, by omega, by omega, by omega, by omega, by omega, (hS.sub [] (by decide) (by first | rfl | simp) (by simp))⟩
  · skip
    have hr246 := rnd_bounds (((n) / 32768)) (6 : Int) (by omega)
    refine ha_op 3 rfl (wn_none rfl) (wp_call (vs := [_, _]) hF rfl rfl rfl rfl cf11 (round_any (((n) / 32768)) (6 : Int) _ (by omega)) ?_)
    clear hF; rintro _ w ⟨rfl, hS1⟩ a hF
    replace hS := hS.callB hS1 rfl; clear hS1
    obtain ⟨rn247, hrn247⟩ : ∃ nn9 : Nat, (rnd (((n) / 32768)) (6 : Int)) = nn9 := ⟨(rnd (((n) / 32768)) (6 : Int)).toNat, by omega⟩; rw [hrn247] at hF
    replace hSS := hS.sub [] (by decide) rfl (by simp)
    refine ⟨.inr hSS, ?_⟩
    refine ha_all (rs := [0, 8]) (by kernel_rfl) (by simp) ?_
    refine List.forall_mem_cons.2 ⟨?_, List.forall_mem_cons.2 ⟨?_, (fun _ h => by cases h)⟩⟩
    · skip
      refine ha_op 0 rfl (wn_none rfl) (wp_bslice (parts := [(0, .const (Go.Value.int Go.IntKind.i64 0)), (1, .const (Go.Value.int Go.IntKind.i64 10)), (2, .const (Go.Value.int Go.IntKind.i64 11)), (3, .const (Go.Value.int Go.IntKind.i64 50)), (4, .const (Go.Value.int Go.IntKind.i64 10)), (5, .const (Go.Value.int Go.IntKind.i64 50))]) (vs := [(0, _), (1, _), (2, _), (3, _), (4, _), (5, _)]) (enc := encI) (e := 32) (size := 1) (cs := #[.int .i64 (0 : Int), .int .i64 (10 : Int), .int .i64 (11 : Int), .int .i64 (50 : Int), .int .i64 (10 : Int), .int .i64 (50 : Int)]) hF hS rfl rfl rfl rfl ([(0 : Int), (10 : Int), (11 : Int), (50 : Int), (10 : Int), (50 : Int)] : List Int) (fun w => by kernel_rfl) rfl rfl rfl (by decide) ?_)
      clear hF hS; intro a w v248 hF hS
      obtain ⟨Av248, cv248, rfl⟩ := hS.form 0 rfl
      replace hSS := hS.sub [] (by decide) rfl (by simp)
      refine ⟨.inr hSS, ?_⟩
      have herr : ∀ e ∈ ([(0 : Int), (10 : Int), (11 : Int), (50 : Int), (10 : Int), (50 : Int)] : List Int), e = 0 ∨ e = 10 ∨ e = 11 ∨ e = 50 := by decide
      have hlt_hx249 : rn247 < (([(0 : Int), (10 : Int), (11 : Int), (50 : Int), (10 : Int), (50 : Int)] : List Int)).length := by first | omega | (simp; done) | (simp; omega)
      obtain ⟨ad250, rfl⟩ := rd_some (hS.rdRow 0 rfl) hlt_hx249
      obtain ⟨x249, hx249⟩ := get_some hlt_hx249
      have hb_x249 := herr x249 (List.mem_of_getElem? hx249)
      refine ha_y 4 hF rfl rfl rfl (wn_none rfl) (.inr hSS) (yl_indexAddr hF rfl rfl rfl (fun _ => run_idx' sl59 sz32 (hS.rdRow 0 rfl) hlt_hx249)) ?_
      clear hF; intro a hF
      refine ha_all (rs := [5, 8]) (by kernel_rfl) (by simp) ?_
      refine List.forall_mem_cons.2 ⟨?_, List.forall_mem_cons.2 ⟨?_, (fun _ h => by cases h)⟩⟩
      · skip
        refine ha_op 5 rfl (wn_none rfl) (wp_yl (S := fun w' => w' = w) hF rfl rfl rfl (yl_loadAt hF rfl rfl ag32 (fun _ h => rd_cell0 (enc := encI) (by subst h; exact hS.rdRow 0 rfl) encI_len hx249 rfl rfl)) ?_)
        clear hF; intro a hF
        replace hSS := hS.sub [] (by decide) rfl (by simp)
        refine ⟨.inr hSS, ?_⟩
        have hr251 := rnd_bounds (((n) / 262144)) (4 : Int) (by omega)
        refine ha_one 8 (by kernel_rfl) rfl (wn_none rfl) (wp_call (vs := [_, _]) hF rfl rfl rfl rfl cf11 (round_any (((n) / 262144)) (4 : Int) _ (by omega)) ?_)
        clear hF; rintro _ w ⟨rfl, hS1⟩ a hF
        replace hS := hS.callB hS1 rfl; clear hS1
        replace hSS := hS.sub [] (by decide) rfl (by simp)
        refine ⟨.inr hSS, ?_⟩
        have hr252 := rnd_bounds (((n) / 1048576)) (2 : Int) (by omega)
        refine ha_one 11 (by kernel_rfl) rfl (wn_none rfl) (wp_call (vs := [_, _]) hF rfl rfl rfl rfl cf11 (round_any (((n) / 1048576)) (2 : Int) _ (by omega)) ?_)
        clear hF; rintro _ w ⟨rfl, hS1⟩ a hF
        replace hS := hS.callB hS1 rfl; clear hS1
        replace hSS := hS.sub [] (by decide) rfl (by simp)
        refine ⟨.inr hSS, ?_⟩
        refine ha_y 12 hF rfl rfl rfl (wn_none rfl) (.inr hSS) (yl_bin hF rfl rfl rfl rfl (fun _ => run_eql)) ?_
        clear hF; intro a hF
        have hr253 := rnd_bounds (((n) / 4194304)) (6 : Int) (by omega)
        refine ha_one 15 (by kernel_rfl) rfl (wn_none rfl) (wp_call (vs := [_, _]) hF rfl rfl rfl rfl cf11 (round_any (((n) / 4194304)) (6 : Int) _ (by omega)) ?_)
        clear hF; rintro _ w ⟨rfl, hS1⟩ a hF
        replace hS := hS.callB hS1 rfl; clear hS1
        replace hSS := hS.sub [] (by decide) rfl (by simp)
        refine ⟨.inr hSS, ?_⟩
        refine ha_y 16 hF rfl rfl rfl (wn_none rfl) (.inr hSS) (yl_build (parts := [(0, .tmp 29), (1, .tmp 32), (2, .tmp 36), (3, .tmp 39)]) (vs := [(0, _), (1, _), (2, _), (3, _)]) (cs := [_, _, _, _]) hF bd34 rfl rfl rfl rfl) ?_
        clear hF; intro a hF
        refine ha_y 17 hF rfl rfl rfl (wn_none rfl) (.inr hSS) (yl_fieldAddr hF rfl rfl (fun w => by kernel_rfl : ∀ w, (Instr.fieldAt 36 (.pointer (some ⟨g230, 0, none⟩)) 5).run Try.prog w = .ok (.pointer (some ⟨g230, 5, none⟩)) w)) ?_
        clear hF; intro a hF
        refine ha_one 18 (by kernel_rfl) rfl (wn_none rfl) (wp_store (cs' := #[_, _, _, _, _, _, _, _, _]) hF hS rfl rfl rfl rfl 1 rfl sz34 (by simp [Value.cells, Value.oneCell']) (by simp [Value.cells]) rfl ?_)
        clear hF hS; intro a w hF hS
        replace hSS := hS.sub [] (by decide) rfl (by simp)
        refine ⟨.inr hSS, ?_⟩
        refine ha_done (by kernel_rfl) ?_ _
        refine then_n ?_
        refine c_seq ?_
        refine c_region ?_
        refine seq_yl hF (wn_none rfl) rfl rfl (yl_loadK (rs := [_, _, _, _, _, _, _, _, _]) (fun _ h => h ▸ hS) hF rfl rfl 1 rfl ag36 sz36 rfl rfl) ?_
        clear hF; intro a hF
        refine seq_wp (wn_none rfl) (wp_store (cs' := #[_, _, _, _, _, _, _, _, _]) hF hS rfl rfl rfl rfl 2 rfl sz36 (by simp [Value.cells, Value.oneCell']) (by simp [Value.cells]) rfl ?_)
        clear hF hS; intro a w hF hS
        refine wpList_nil ?_
        refine then_n ?_
        refine wp_ret ?_
        refine ret_c hF rfl (resC hS rfl 2 rfl ag36 sz36) ?_
        exact ⟨_, rfl, ((rnd (n) (4 : Int))), ((rnd (((n) / 4)) (6 : Int))), ((((rnd (((n) / 4)) (6 : Int))) + ((rnd (((n) / 4096)) (4 : Int))))), ((rnd (((n) / 64)) (3 : Int))), ((((rnd (((n) / 512)) (4 : Int))) - (1 : Int))), (x249), ((rnd (((n) / 262144)) (4 : Int))), (decide (((rnd (((n) / 1048576)) (2 : Int))) = (1 : Int))), ((rnd (((n) / 4194304)) (6 : Int))), rfl, by omega, by omega, by omega, by omega, by omega, by omega, by omega, by omega, (hS.sub [] (by decide) (by first | rfl | simp) (by simp))⟩
      · skip
        have hr254 := rnd_bounds (((n) / 262144)) (4 : Int) (by omega)
        refine ha_op 8 rfl (wn_none rfl) (wp_call (vs := [_, _]) hF rfl rfl rfl rfl cf11 (round_any (((n) / 262144)) (4 : Int) _ (by omega)) ?_)
        clear hF; rintro _ w ⟨rfl, hS1⟩ a hF
        replace hS := hS.callB hS1 rfl; clear hS1
        replace hSS := hS.sub [] (by decide) rfl (by simp)
        refine ⟨.inr hSS, ?_⟩
        refine ha_all (rs := [5, 11]) (by kernel_rfl) (by simp) ?_
        refine List.forall_mem_cons.2 ⟨?_, List.forall_mem_cons.2 ⟨?_, (fun _ h => by cases h)⟩⟩
        · skip
          refine ha_op 5 rfl (wn_none rfl) (wp_yl (S := fun w' => w' = w) hF rfl rfl rfl (yl_loadAt hF rfl rfl ag32 (fun _ h => rd_cell0 (enc := encI) (by subst h; exact hS.rdRow 0 rfl) encI_len hx249 rfl rfl)) ?_)
          clear hF; intro a hF
          replace hSS := hS.sub [] (by decide) rfl (by simp)
          refine ⟨.inr hSS, ?_⟩
          have hr255 := rnd_bounds (((n) / 1048576)) (2 : Int) (by omega)
          refine ha_one 11 (by kernel_rfl) rfl (wn_none rfl) (wp_call (vs := [_, _]) hF rfl rfl rfl rfl cf11 (round_any (((n) / 1048576)) (2 : Int) _ (by omega)) ?_)
          clear hF; rintro _ w ⟨rfl, hS1⟩ a hF
          replace hS := hS.callB hS1 rfl; clear hS1
          replace hSS := hS.sub [] (by decide) rfl (by simp)
          refine ⟨.inr hSS, ?_⟩
          refine ha_y 12 hF rfl rfl rfl (wn_none rfl) (.inr hSS) (yl_bin hF rfl rfl rfl rfl (fun _ => run_eql)) ?_
          clear hF; intro a hF
          have hr256 := rnd_bounds (((n) / 4194304)) (6 : Int) (by omega)
          refine ha_one 15 (by kernel_rfl) rfl (wn_none rfl) (wp_call (vs := [_, _]) hF rfl rfl rfl rfl cf11 (round_any (((n) / 4194304)) (6 : Int) _ (by omega)) ?_)
          clear hF; rintro _ w ⟨rfl, hS1⟩ a hF
          replace hS := hS.callB hS1 rfl; clear hS1
          replace hSS := hS.sub [] (by decide) rfl (by simp)
          refine ⟨.inr hSS, ?_⟩
          refine ha_y 16 hF rfl rfl rfl (wn_none rfl) (.inr hSS) (yl_build (parts := [(0, .tmp 29), (1, .tmp 32), (2, .tmp 36), (3, .tmp 39)]) (vs := [(0, _), (1, _), (2, _), (3, _)]) (cs := [_, _, _, _]) hF bd34 rfl rfl rfl rfl) ?_
          clear hF; intro a hF
          refine ha_y 17 hF rfl rfl rfl (wn_none rfl) (.inr hSS) (yl_fieldAddr hF rfl rfl (fun w => by kernel_rfl : ∀ w, (Instr.fieldAt 36 (.pointer (some ⟨g230, 0, none⟩)) 5).run Try.prog w = .ok (.pointer (some ⟨g230, 5, none⟩)) w)) ?_
          clear hF; intro a hF
          refine ha_one 18 (by kernel_rfl) rfl (wn_none rfl) (wp_store (cs' := #[_, _, _, _, _, _, _, _, _]) hF hS rfl rfl rfl rfl 1 rfl sz34 (by simp [Value.cells, Value.oneCell']) (by simp [Value.cells]) rfl ?_)
          clear hF hS; intro a w hF hS
          replace hSS := hS.sub [] (by decide) rfl (by simp)
          refine ⟨.inr hSS, ?_⟩
          refine ha_done (by kernel_rfl) ?_ _
          refine then_n ?_
          refine c_seq ?_
          refine c_region ?_
          refine seq_yl hF (wn_none rfl) rfl rfl (yl_loadK (rs := [_, _, _, _, _, _, _, _, _]) (fun _ h => h ▸ hS) hF rfl rfl 1 rfl ag36 sz36 rfl rfl) ?_
          clear hF; intro a hF
          refine seq_wp (wn_none rfl) (wp_store (cs' := #[_, _, _, _, _, _, _, _, _]) hF hS rfl rfl rfl rfl 2 rfl sz36 (by simp [Value.cells, Value.oneCell']) (by simp [Value.cells]) rfl ?_)
          clear hF hS; intro a w hF hS
          refine wpList_nil ?_
          refine then_n ?_
          refine wp_ret ?_
          refine ret_c hF rfl (resC hS rfl 2 rfl ag36 sz36) ?_
          exact ⟨_, rfl, ((rnd (n) (4 : Int))), ((rnd (((n) / 4)) (6 : Int))), ((((rnd (((n) / 4)) (6 : Int))) + ((rnd (((n) / 4096)) (4 : Int))))), ((rnd (((n) / 64)) (3 : Int))), ((((rnd (((n) / 512)) (4 : Int))) - (1 : Int))), (x249), ((rnd (((n) / 262144)) (4 : Int))), (decide (((rnd (((n) / 1048576)) (2 : Int))) = (1 : Int))), ((rnd (((n) / 4194304)) (6 : Int))), rfl, by omega, by omega, by omega, by omega, by omega, by omega, by omega, by omega, (hS.sub [] (by decide) (by first | rfl | simp) (by simp))⟩
        · skip
          have hr257 := rnd_bounds (((n) / 1048576)) (2 : Int) (by omega)
          refine ha_op 11 rfl (wn_none rfl) (wp_call (vs := [_, _]) hF rfl rfl rfl rfl cf11 (round_any (((n) / 1048576)) (2 : Int) _ (by omega)) ?_)
          clear hF; rintro _ w ⟨rfl, hS1⟩ a hF
          replace hS := hS.callB hS1 rfl; clear hS1
          replace hSS := hS.sub [] (by decide) rfl (by simp)
          refine ⟨.inr hSS, ?_⟩
          refine ha_y 12 hF rfl rfl rfl (wn_none rfl) (.inr hSS) (yl_bin hF rfl rfl rfl rfl (fun _ => run_eql)) ?_
          clear hF; intro a hF
          refine ha_all (rs := [5, 15]) (by kernel_rfl) (by simp) ?_
          refine List.forall_mem_cons.2 ⟨?_, List.forall_mem_cons.2 ⟨?_, (fun _ h => by cases h)⟩⟩
          · skip
            refine ha_op 5 rfl (wn_none rfl) (wp_yl (S := fun w' => w' = w) hF rfl rfl rfl (yl_loadAt hF rfl rfl ag32 (fun _ h => rd_cell0 (enc := encI) (by subst h; exact hS.rdRow 0 rfl) encI_len hx249 rfl rfl)) ?_)
            clear hF; intro a hF
            replace hSS := hS.sub [] (by decide) rfl (by simp)
            refine ⟨.inr hSS, ?_⟩
            have hr258 := rnd_bounds (((n) / 4194304)) (6 : Int) (by omega)
            refine ha_one 15 (by kernel_rfl) rfl (wn_none rfl) (wp_call (vs := [_, _]) hF rfl rfl rfl rfl cf11 (round_any (((n) / 4194304)) (6 : Int) _ (by omega)) ?_)
            clear hF; rintro _ w ⟨rfl, hS1⟩ a hF
            replace hS := hS.callB hS1 rfl; clear hS1
            replace hSS := hS.sub [] (by decide) rfl (by simp)
            refine ⟨.inr hSS, ?_⟩
            refine ha_y 16 hF rfl rfl rfl (wn_none rfl) (.inr hSS) (yl_build (parts := [(0, .tmp 29), (1, .tmp 32), (2, .tmp 36), (3, .tmp 39)]) (vs := [(0, _), (1, _), (2, _), (3, _)]) (cs := [_, _, _, _]) hF bd34 rfl rfl rfl rfl) ?_
            clear hF; intro a hF
            refine ha_y 17 hF rfl rfl rfl (wn_none rfl) (.inr hSS) (yl_fieldAddr hF rfl rfl (fun w => by kernel_rfl : ∀ w, (Instr.fieldAt 36 (.pointer (some ⟨g230, 0, none⟩)) 5).run Try.prog w = .ok (.pointer (some ⟨g230, 5, none⟩)) w)) ?_
            clear hF; intro a hF
            refine ha_one 18 (by kernel_rfl) rfl (wn_none rfl) (wp_store (cs' := #[_, _, _, _, _, _, _, _, _]) hF hS rfl rfl rfl rfl 1 rfl sz34 (by simp [Value.cells, Value.oneCell']) (by simp [Value.cells]) rfl ?_)
            clear hF hS; intro a w hF hS
            replace hSS := hS.sub [] (by decide) rfl (by simp)
            refine ⟨.inr hSS, ?_⟩
            refine ha_done (by kernel_rfl) ?_ _
            refine then_n ?_
            refine c_seq ?_
            refine c_region ?_
            refine seq_yl hF (wn_none rfl) rfl rfl (yl_loadK (rs := [_, _, _, _, _, _, _, _, _]) (fun _ h => h ▸ hS) hF rfl rfl 1 rfl ag36 sz36 rfl rfl) ?_
            clear hF; intro a hF
            refine seq_wp (wn_none rfl) (wp_store (cs' := #[_, _, _, _, _, _, _, _, _]) hF hS rfl rfl rfl rfl 2 rfl sz36 (by simp [Value.cells, Value.oneCell']) (by simp [Value.cells]) rfl ?_)
            clear hF hS; intro a w hF hS
            refine wpList_nil ?_
            refine then_n ?_
            refine wp_ret ?_
            refine ret_c hF rfl (resC hS rfl 2 rfl ag36 sz36) ?_
            exact ⟨_, rfl, ((rnd (n) (4 : Int))), ((rnd (((n) / 4)) (6 : Int))), ((((rnd (((n) / 4)) (6 : Int))) + ((rnd (((n) / 4096)) (4 : Int))))), ((rnd (((n) / 64)) (3 : Int))), ((((rnd (((n) / 512)) (4 : Int))) - (1 : Int))), (x249), ((rnd (((n) / 262144)) (4 : Int))), (decide (((rnd (((n) / 1048576)) (2 : Int))) = (1 : Int))), ((rnd (((n) / 4194304)) (6 : Int))), rfl, by omega, by omega, by omega, by omega, by omega, by omega, by omega, by omega, (hS.sub [] (by decide) (by first | rfl | simp) (by simp))⟩
          · skip
            have hr259 := rnd_bounds (((n) / 4194304)) (6 : Int) (by omega)
            refine ha_op 15 rfl (wn_none rfl) (wp_call (vs := [_, _]) hF rfl rfl rfl rfl cf11 (round_any (((n) / 4194304)) (6 : Int) _ (by omega)) ?_)
            clear hF; rintro _ w ⟨rfl, hS1⟩ a hF
            replace hS := hS.callB hS1 rfl; clear hS1
            replace hSS := hS.sub [] (by decide) rfl (by simp)
            refine ⟨.inr hSS, ?_⟩
            refine ha_one 5 (by kernel_rfl) rfl (wn_none rfl) (wp_yl (S := fun w' => w' = w) hF rfl rfl rfl (yl_loadAt hF rfl rfl ag32 (fun _ h => rd_cell0 (enc := encI) (by subst h; exact hS.rdRow 0 rfl) encI_len hx249 rfl rfl)) ?_)
            clear hF; intro a hF
            replace hSS := hS.sub [] (by decide) rfl (by simp)
            refine ⟨.inr hSS, ?_⟩
            refine ha_y 16 hF rfl rfl rfl (wn_none rfl) (.inr hSS) (yl_build (parts := [(0, .tmp 29), (1, .tmp 32), (2, .tmp 36), (3, .tmp 39)]) (vs := [(0, _), (1, _), (2, _), (3, _)]) (cs := [_, _, _, _]) hF bd34 rfl rfl rfl rfl) ?_
            clear hF; intro a hF
            refine ha_y 17 hF rfl rfl rfl (wn_none rfl) (.inr hSS) (yl_fieldAddr hF rfl rfl (fun w => by kernel_rfl : ∀ w, (Instr.fieldAt 36 (.pointer (some ⟨g230, 0, none⟩)) 5).run Try.prog w = .ok (.pointer (some ⟨g230, 5, none⟩)) w)) ?_
            clear hF; intro a hF
            refine ha_one 18 (by kernel_rfl) rfl (wn_none rfl) (wp_store (cs' := #[_, _, _, _, _, _, _, _, _]) hF hS rfl rfl rfl rfl 1 rfl sz34 (by simp [Value.cells, Value.oneCell']) (by simp [Value.cells]) rfl ?_)
            clear hF hS; intro a w hF hS
            replace hSS := hS.sub [] (by decide) rfl (by simp)
            refine ⟨.inr hSS, ?_⟩
            refine ha_done (by kernel_rfl) ?_ _
            refine then_n ?_
            refine c_seq ?_
            refine c_region ?_
            refine seq_yl hF (wn_none rfl) rfl rfl (yl_loadK (rs := [_, _, _, _, _, _, _, _, _]) (fun _ h => h ▸ hS) hF rfl rfl 1 rfl ag36 sz36 rfl rfl) ?_
            clear hF; intro a hF
            refine seq_wp (wn_none rfl) (wp_store (cs' := #[_, _, _, _, _, _, _, _, _]) hF hS rfl rfl rfl rfl 2 rfl sz36 (by simp [Value.cells, Value.oneCell']) (by simp [Value.cells]) rfl ?_)
            clear hF hS; intro a w hF hS
            refine wpList_nil ?_
            refine then_n ?_
            refine wp_ret ?_
            refine ret_c hF rfl (resC hS rfl 2 rfl ag36 sz36) ?_
            exact ⟨_, rfl, ((rnd (n) (4 : Int))), ((rnd (((n) / 4)) (6 : Int))), ((((rnd (((n) / 4)) (6 : Int))) + ((rnd (((n) / 4096)) (4 : Int))))), ((rnd (((n) / 64)) (3 : Int))), ((((rnd (((n) / 512)) (4 : Int))) - (1 : Int))), (x249), ((rnd (((n) / 262144)) (4 : Int))), (decide (((rnd (((n) / 1048576)) (2 : Int))) = (1 : Int))), ((rnd (((n) / 4194304)) (6 : Int))), rfl, by omega, by omega, by omega, by omega, by omega, by omega, by omega, by omega, (hS.sub [] (by decide) (by first | rfl | simp) (by simp))⟩
    · skip
      have hr260 := rnd_bounds (((n) / 262144)) (4 : Int) (by omega)
      refine ha_op 8 rfl (wn_none rfl) (wp_call (vs := [_, _]) hF rfl rfl rfl rfl cf11 (round_any (((n) / 262144)) (4 : Int) _ (by omega)) ?_)
      clear hF; rintro _ w ⟨rfl, hS1⟩ a hF
      replace hS := hS.callB hS1 rfl; clear hS1
      replace hSS := hS.sub [] (by decide) rfl (by simp)
      refine ⟨.inr hSS, ?_⟩
      refine ha_all (rs := [0, 11]) (by kernel_rfl) (by simp) ?_
      refine List.forall_mem_cons.2 ⟨?_, List.forall_mem_cons.2 ⟨?_, (fun _ h => by cases h)⟩⟩
      · skip
        refine ha_op 0 rfl (wn_none rfl) (wp_bslice (parts := [(0, .const (Go.Value.int Go.IntKind.i64 0)), (1, .const (Go.Value.int Go.IntKind.i64 10)), (2, .const (Go.Value.int Go.IntKind.i64 11)), (3, .const (Go.Value.int Go.IntKind.i64 50)), (4, .const (Go.Value.int Go.IntKind.i64 10)), (5, .const (Go.Value.int Go.IntKind.i64 50))]) (vs := [(0, _), (1, _), (2, _), (3, _), (4, _), (5, _)]) (enc := encI) (e := 32) (size := 1) (cs := #[.int .i64 (0 : Int), .int .i64 (10 : Int), .int .i64 (11 : Int), .int .i64 (50 : Int), .int .i64 (10 : Int), .int .i64 (50 : Int)]) hF hS rfl rfl rfl rfl ([(0 : Int), (10 : Int), (11 : Int), (50 : Int), (10 : Int), (50 : Int)] : List Int) (fun w => by kernel_rfl) rfl rfl rfl (by decide) ?_)
        clear hF hS; intro a w v261 hF hS
        obtain ⟨Av261, cv261, rfl⟩ := hS.form 0 rfl
        replace hSS := hS.sub [] (by decide) rfl (by simp)
        refine ⟨.inr hSS, ?_⟩
        have herr : ∀ e ∈ ([(0 : Int), (10 : Int), (11 : Int), (50 : Int), (10 : Int), (50 : Int)] : List Int), e = 0 ∨ e = 10 ∨ e = 11 ∨ e = 50 := by decide
        have hlt_hx262 : rn247 < (([(0 : Int), (10 : Int), (11 : Int), (50 : Int), (10 : Int), (50 : Int)] : List Int)).length := by first | omega | (simp; done) | (simp; omega)
        obtain ⟨ad263, rfl⟩ := rd_some (hS.rdRow 0 rfl) hlt_hx262
        obtain ⟨x262, hx262⟩ := get_some hlt_hx262
        have hb_x262 := herr x262 (List.mem_of_getElem? hx262)
        refine ha_y 4 hF rfl rfl rfl (wn_none rfl) (.inr hSS) (yl_indexAddr hF rfl rfl rfl (fun _ => run_idx' sl59 sz32 (hS.rdRow 0 rfl) hlt_hx262)) ?_
        clear hF; intro a hF
        refine ha_all (rs := [5, 11]) (by kernel_rfl) (by simp) ?_
        refine List.forall_mem_cons.2 ⟨?_, List.forall_mem_cons.2 ⟨?_, (fun _ h => by cases h)⟩⟩
        · skip
          refine ha_op 5 rfl (wn_none rfl) (wp_yl (S := fun w' => w' = w) hF rfl rfl rfl (yl_loadAt hF rfl rfl ag32 (fun _ h => rd_cell0 (enc := encI) (by subst h; exact hS.rdRow 0 rfl) encI_len hx262 rfl rfl)) ?_)
          clear hF; intro a hF
          replace hSS := hS.sub [] (by decide) rfl (by simp)
          refine ⟨.inr hSS, ?_⟩
          have hr264 := rnd_bounds (((n) / 1048576)) (2 : Int) (by omega)
          refine ha_one 11 (by kernel_rfl) rfl (wn_none rfl) (wp_call (vs := [_, _]) hF rfl rfl rfl rfl cf11 (round_any (((n) / 1048576)) (2 : Int) _ (by omega)) ?_)
          clear hF; rintro _ w ⟨rfl, hS1⟩ a hF
          replace hS := hS.callB hS1 rfl; clear hS1
          replace hSS := hS.sub [] (by decide) rfl (by simp)
          refine ⟨.inr hSS, ?_⟩
          refine ha_y 12 hF rfl rfl rfl (wn_none rfl) (.inr hSS) (yl_bin hF rfl rfl rfl rfl (fun _ => run_eql)) ?_
          clear hF; intro a hF
          have hr265 := rnd_bounds (((n) / 4194304)) (6 : Int) (by omega)
          refine ha_one 15 (by kernel_rfl) rfl (wn_none rfl) (wp_call (vs := [_, _]) hF rfl rfl rfl rfl cf11 (round_any (((n) / 4194304)) (6 : Int) _ (by omega)) ?_)
          clear hF; rintro _ w ⟨rfl, hS1⟩ a hF
          replace hS := hS.callB hS1 rfl; clear hS1
          replace hSS := hS.sub [] (by decide) rfl (by simp)
          refine ⟨.inr hSS, ?_⟩
          refine ha_y 16 hF rfl rfl rfl (wn_none rfl) (.inr hSS) (yl_build (parts := [(0, .tmp 29), (1, .tmp 32), (2, .tmp 36), (3, .tmp 39)]) (vs := [(0, _), (1, _), (2, _), (3, _)]) (cs := [_, _, _, _]) hF bd34 rfl rfl rfl rfl) ?_
          clear hF; intro a hF
          refine ha_y 17 hF rfl rfl rfl (wn_none rfl) (.inr hSS) (yl_fieldAddr hF rfl rfl (fun w => by kernel_rfl : ∀ w, (Instr.fieldAt 36 (.pointer (some ⟨g230, 0, none⟩)) 5).run Try.prog w = .ok (.pointer (some ⟨g230, 5, none⟩)) w)) ?_
          clear hF; intro a hF
          refine ha_one 18 (by kernel_rfl) rfl (wn_none rfl) (wp_store (cs' := #[_, _, _, _, _, _, _, _, _]) hF hS rfl rfl rfl rfl 1 rfl sz34 (by simp [Value.cells, Value.oneCell']) (by simp [Value.cells]) rfl ?_)
          clear hF hS; intro a w hF hS
          replace hSS := hS.sub [] (by decide) rfl (by simp)
          refine ⟨.inr hSS, ?_⟩
          refine ha_done (by kernel_rfl) ?_ _
          refine then_n ?_
          refine c_seq ?_
          refine c_region ?_
          refine seq_yl hF (wn_none rfl) rfl rfl (yl_loadK (rs := [_, _, _, _, _, _, _, _, _]) (fun _ h => h ▸ hS) hF rfl rfl 1 rfl ag36 sz36 rfl rfl) ?_
          clear hF; intro a hF
          refine seq_wp (wn_none rfl) (wp_store (cs' := #[_, _, _, _, _, _, _, _, _]) hF hS rfl rfl rfl rfl 2 rfl sz36 (by simp [Value.cells, Value.oneCell']) (by simp [Value.cells]) rfl ?_)
          clear hF hS; intro a w hF hS
          refine wpList_nil ?_
          refine then_n ?_
          refine wp_ret ?_
          refine ret_c hF rfl (resC hS rfl 2 rfl ag36 sz36) ?_
          exact ⟨_, rfl, ((rnd (n) (4 : Int))), ((rnd (((n) / 4)) (6 : Int))), ((((rnd (((n) / 4)) (6 : Int))) + ((rnd (((n) / 4096)) (4 : Int))))), ((rnd (((n) / 64)) (3 : Int))), ((((rnd (((n) / 512)) (4 : Int))) - (1 : Int))), (x262), ((rnd (((n) / 262144)) (4 : Int))), (decide (((rnd (((n) / 1048576)) (2 : Int))) = (1 : Int))), ((rnd (((n) / 4194304)) (6 : Int))), rfl, by omega, by omega, by omega, by omega, by omega, by omega, by omega, by omega, (hS.sub [] (by decide) (by first | rfl | simp) (by simp))⟩
        · skip
          have hr266 := rnd_bounds (((n) / 1048576)) (2 : Int) (by omega)
          refine ha_op 11 rfl (wn_none rfl) (wp_call (vs := [_, _]) hF rfl rfl rfl rfl cf11 (round_any (((n) / 1048576)) (2 : Int) _ (by omega)) ?_)
          clear hF; rintro _ w ⟨rfl, hS1⟩ a hF
          replace hS := hS.callB hS1 rfl; clear hS1
          replace hSS := hS.sub [] (by decide) rfl (by simp)
          refine ⟨.inr hSS, ?_⟩
          refine ha_y 12 hF rfl rfl rfl (wn_none rfl) (.inr hSS) (yl_bin hF rfl rfl rfl rfl (fun _ => run_eql)) ?_
          clear hF; intro a hF
          refine ha_all (rs := [5, 15]) (by kernel_rfl) (by simp) ?_
          refine List.forall_mem_cons.2 ⟨?_, List.forall_mem_cons.2 ⟨?_, (fun _ h => by cases h)⟩⟩
          · skip
            refine ha_op 5 rfl (wn_none rfl) (wp_yl (S := fun w' => w' = w) hF rfl rfl rfl (yl_loadAt hF rfl rfl ag32 (fun _ h => rd_cell0 (enc := encI) (by subst h; exact hS.rdRow 0 rfl) encI_len hx262 rfl rfl)) ?_)
            clear hF; intro a hF
            replace hSS := hS.sub [] (by decide) rfl (by simp)
            refine ⟨.inr hSS, ?_⟩
            have hr267 := rnd_bounds (((n) / 4194304)) (6 : Int) (by omega)
            refine ha_one 15 (by kernel_rfl) rfl (wn_none rfl) (wp_call (vs := [_, _]) hF rfl rfl rfl rfl cf11 (round_any (((n) / 4194304)) (6 : Int) _ (by omega)) ?_)
            clear hF; rintro _ w ⟨rfl, hS1⟩ a hF
            replace hS := hS.callB hS1 rfl; clear hS1
            replace hSS := hS.sub [] (by decide) rfl (by simp)
            refine ⟨.inr hSS, ?_⟩
            refine ha_y 16 hF rfl rfl rfl (wn_none rfl) (.inr hSS) (yl_build (parts := [(0, .tmp 29), (1, .tmp 32), (2, .tmp 36), (3, .tmp 39)]) (vs := [(0, _), (1, _), (2, _), (3, _)]) (cs := [_, _, _, _]) hF bd34 rfl rfl rfl rfl) ?_
            clear hF; intro a hF
            refine ha_y 17 hF rfl rfl rfl (wn_none rfl) (.inr hSS) (yl_fieldAddr hF rfl rfl (fun w => by kernel_rfl : ∀ w, (Instr.fieldAt 36 (.pointer (some ⟨g230, 0, none⟩)) 5).run Try.prog w = .ok (.pointer (some ⟨g230, 5, none⟩)) w)) ?_
            clear hF; intro a hF
            refine ha_one 18 (by kernel_rfl) rfl (wn_none rfl) (wp_store (cs' := #[_, _, _, _, _, _, _, _, _]) hF hS rfl rfl rfl rfl 1 rfl sz34 (by simp [Value.cells, Value.oneCell']) (by simp [Value.cells]) rfl ?_)
            clear hF hS; intro a w hF hS
            replace hSS := hS.sub [] (by decide) rfl (by simp)
            refine ⟨.inr hSS, ?_⟩
            refine ha_done (by kernel_rfl) ?_ _
            refine then_n ?_
            refine c_seq ?_
            refine c_region ?_
            refine seq_yl hF (wn_none rfl) rfl rfl (yl_loadK (rs := [_, _, _, _, _, _, _, _, _]) (fun _ h => h ▸ hS) hF rfl rfl 1 rfl ag36 sz36 rfl rfl) ?_
            clear hF; intro a hF
            refine seq_wp (wn_none rfl) (wp_store (cs' := #[_, _, _, _, _, _, _, _, _]) hF hS rfl rfl rfl rfl 2 rfl sz36 (by simp [Value.cells, Value.oneCell']) (by simp [Value.cells]) rfl ?_)
            clear hF hS; intro a w hF hS
            refine wpList_nil ?_
            refine then_n ?_
            refine wp_ret ?_
            refine ret_c hF rfl (resC hS rfl 2 rfl ag36 sz36) ?_
            exact ⟨_, rfl, ((rnd (n) (4 : Int))), ((rnd (((n) / 4)) (6 : Int))), ((((rnd (((n) / 4)) (6 : Int))) + ((rnd (((n) / 4096)) (4 : Int))))), ((rnd (((n) / 64)) (3 : Int))), ((((rnd (((n) / 512)) (4 : Int))) - (1 : Int))), (x262), ((rnd (((n) / 262144)) (4 : Int))), (decide (((rnd (((n) / 1048576)) (2 : Int))) = (1 : Int))), ((rnd (((n) / 4194304)) (6 : Int))), rfl, by omega, by omega, by omega, by omega, by omega, by omega, by omega, by omega, (hS.sub [] (by decide) (by first | rfl | simp) (by simp))⟩
          · skip
            have hr268 := rnd_bounds (((n) / 4194304)) (6 : Int) (by omega)
            refine ha_op 15 rfl (wn_none rfl) (wp_call (vs := [_, _]) hF rfl rfl rfl rfl cf11 (round_any (((n) / 4194304)) (6 : Int) _ (by omega)) ?_)
            clear hF; rintro _ w ⟨rfl, hS1⟩ a hF
            replace hS := hS.callB hS1 rfl; clear hS1
            replace hSS := hS.sub [] (by decide) rfl (by simp)
            refine ⟨.inr hSS, ?_⟩
            refine ha_one 5 (by kernel_rfl) rfl (wn_none rfl) (wp_yl (S := fun w' => w' = w) hF rfl rfl rfl (yl_loadAt hF rfl rfl ag32 (fun _ h => rd_cell0 (enc := encI) (by subst h; exact hS.rdRow 0 rfl) encI_len hx262 rfl rfl)) ?_)
            clear hF; intro a hF
            replace hSS := hS.sub [] (by decide) rfl (by simp)
            refine ⟨.inr hSS, ?_⟩
            refine ha_y 16 hF rfl rfl rfl (wn_none rfl) (.inr hSS) (yl_build (parts := [(0, .tmp 29), (1, .tmp 32), (2, .tmp 36), (3, .tmp 39)]) (vs := [(0, _), (1, _), (2, _), (3, _)]) (cs := [_, _, _, _]) hF bd34 rfl rfl rfl rfl) ?_
            clear hF; intro a hF
            refine ha_y 17 hF rfl rfl rfl (wn_none rfl) (.inr hSS) (yl_fieldAddr hF rfl rfl (fun w => by kernel_rfl : ∀ w, (Instr.fieldAt 36 (.pointer (some ⟨g230, 0, none⟩)) 5).run Try.prog w = .ok (.pointer (some ⟨g230, 5, none⟩)) w)) ?_
            clear hF; intro a hF
            refine ha_one 18 (by kernel_rfl) rfl (wn_none rfl) (wp_store (cs' := #[_, _, _, _, _, _, _, _, _]) hF hS rfl rfl rfl rfl 1 rfl sz34 (by simp [Value.cells, Value.oneCell']) (by simp [Value.cells]) rfl ?_)
            clear hF hS; intro a w hF hS
            replace hSS := hS.sub [] (by decide) rfl (by simp)
            refine ⟨.inr hSS, ?_⟩
            refine ha_done (by kernel_rfl) ?_ _
            refine then_n ?_
            refine c_seq ?_
            refine c_region ?_
            refine seq_yl hF (wn_none rfl) rfl rfl (yl_loadK (rs := [_, _, _, _, _, _, _, _, _]) (fun _ h => h ▸ hS) hF rfl rfl 1 rfl ag36 sz36 rfl rfl) ?_
            clear hF; intro a hF
            refine seq_wp (wn_none rfl) (wp_store (cs' := #[_, _, _, _, _, _, _, _, _]) hF hS rfl rfl rfl rfl 2 rfl sz36 (by simp [Value.cells, Value.oneCell']) (by simp [Value.cells]) rfl ?_)
            clear hF hS; intro a w hF hS
            refine wpList_nil ?_
            refine then_n ?_
            refine wp_ret ?_
            refine ret_c hF rfl (resC hS rfl 2 rfl ag36 sz36) ?_
            exact ⟨_, rfl, ((rnd (n) (4 : Int))), ((rnd (((n) / 4)) (6 : Int))), ((((rnd (((n) / 4)) (6 : Int))) + ((rnd (((n) / 4096)) (4 : Int))))), ((rnd (((n) / 64)) (3 : Int))), ((((rnd (((n) / 512)) (4 : Int))) - (1 : Int))), (x262), ((rnd (((n) / 262144)) (4 : Int))), (decide (((rnd (((n) / 1048576)) (2 : Int))) = (1 : Int))), ((rnd (((n) / 4194304)) (6 : Int))), rfl, by omega, by omega, by omega, by omega, by omega, by omega, by omega, by omega, (hS.sub [] (by decide) (by first | rfl | simp) (by simp))⟩
      · skip
        have hr269 := rnd_bounds (((n) / 1048576)) (2 : Int) (by omega)
        refine ha_op 11 rfl (wn_none rfl) (wp_call (vs := [_, _]) hF rfl rfl rfl rfl cf11 (round_any (((n) / 1048576)) (2 : Int) _ (by omega)) ?_)
        clear hF; rintro _ w ⟨rfl, hS1⟩ a hF
        replace hS := hS.callB hS1 rfl; clear hS1
        replace hSS := hS.sub [] (by decide) rfl (by simp)
        refine ⟨.inr hSS, ?_⟩
        refine ha_y 12 hF rfl rfl rfl (wn_none rfl) (.inr hSS) (yl_bin hF rfl rfl rfl rfl (fun _ => run_eql)) ?_
        clear hF; intro a hF
        refine ha_all (rs := [0, 15]) (by kernel_rfl) (by simp) ?_
        refine List.forall_mem_cons.2 ⟨?_, List.forall_mem_cons.2 ⟨?_, (fun _ h => by cases h)⟩⟩
        · skip
          refine ha_op 0 rfl (wn_none rfl) (wp_bslice (parts := [(0, .const (Go.Value.int Go.IntKind.i64 0)), (1, .const (Go.Value.int Go.IntKind.i64 10)), (2, .const (Go.Value.int Go.IntKind.i64 11)), (3, .const (Go.Value.int Go.IntKind.i64 50)), (4, .const (Go.Value.int Go.IntKind.i64 10)), (5, .const (Go.Value.int Go.IntKind.i64 50))]) (vs := [(0, _), (1, _), (2, _), (3, _), (4, _), (5, _)]) (enc := encI) (e := 32) (size := 1) (cs := #[.int .i64 (0 : Int), .int .i64 (10 : Int), .int .i64 (11 : Int), .int .i64 (50 : Int), .int .i64 (10 : Int), .int .i64 (50 : Int)]) hF hS rfl rfl rfl rfl ([(0 : Int), (10 : Int), (11 : Int), (50 : Int), (10 : Int), (50 : Int)] : List Int) (fun w => by kernel_rfl) rfl rfl rfl (by decide) ?_)
          clear hF hS; intro a w v270 hF hS
          obtain ⟨Av270, cv270, rfl⟩ := hS.form 0 rfl
          replace hSS := hS.sub [] (by decide) rfl (by simp)
          refine ⟨.inr hSS, ?_⟩
          have herr : ∀ e ∈ ([(0 : Int), (10 : Int), (11 : Int), (50 : Int), (10 : Int), (50 : Int)] : List Int), e = 0 ∨ e = 10 ∨ e = 11 ∨ e = 50 := by decide
          have hlt_hx271 : rn247 < (([(0 : Int), (10 : Int), (11 : Int), (50 : Int), (10 : Int), (50 : Int)] : List Int)).length := by first | omega | (simp; done) | (simp; omega)
          obtain ⟨ad272, rfl⟩ := rd_some (hS.rdRow 0 rfl) hlt_hx271
          obtain ⟨x271, hx271⟩ := get_some hlt_hx271
          have hb_x271 := herr x271 (List.mem_of_getElem? hx271)
          refine ha_y 4 hF rfl rfl rfl (wn_none rfl) (.inr hSS) (yl_indexAddr hF rfl rfl rfl (fun _ => run_idx' sl59 sz32 (hS.rdRow 0 rfl) hlt_hx271)) ?_
          clear hF; intro a hF
          refine ha_all (rs := [5, 15]) (by kernel_rfl) (by simp) ?_
          refine List.forall_mem_cons.2 ⟨?_, List.forall_mem_cons.2 ⟨?_, (fun _ h => by cases h)⟩⟩
          · skip
            refine ha_op 5 rfl (wn_none rfl) (wp_yl (S := fun w' => w' = w) hF rfl rfl rfl (yl_loadAt hF rfl rfl ag32 (fun _ h => rd_cell0 (enc := encI) (by subst h; exact hS.rdRow 0 rfl) encI_len hx271 rfl rfl)) ?_)
            clear hF; intro a hF
            replace hSS := hS.sub [] (by decide) rfl (by simp)
            refine ⟨.inr hSS, ?_⟩
            have hr273 := rnd_bounds (((n) / 4194304)) (6 : Int) (by omega)
            refine ha_one 15 (by kernel_rfl) rfl (wn_none rfl) (wp_call (vs := [_, _]) hF rfl rfl rfl rfl cf11 (round_any (((n) / 4194304)) (6 : Int) _ (by omega)) ?_)
            clear hF; rintro _ w ⟨rfl, hS1⟩ a hF
            replace hS := hS.callB hS1 rfl; clear hS1
            replace hSS := hS.sub [] (by decide) rfl (by simp)
            refine ⟨.inr hSS, ?_⟩
            refine ha_y 16 hF rfl rfl rfl (wn_none rfl) (.inr hSS) (yl_build (parts := [(0, .tmp 29), (1, .tmp 32), (2, .tmp 36), (3, .tmp 39)]) (vs := [(0, _), (1, _), (2, _), (3, _)]) (cs := [_, _, _, _]) hF bd34 rfl rfl rfl rfl) ?_
            clear hF; intro a hF
            refine ha_y 17 hF rfl rfl rfl (wn_none rfl) (.inr hSS) (yl_fieldAddr hF rfl rfl (fun w => by kernel_rfl : ∀ w, (Instr.fieldAt 36 (.pointer (some ⟨g230, 0, none⟩)) 5).run Try.prog w = .ok (.pointer (some ⟨g230, 5, none⟩)) w)) ?_
            clear hF; intro a hF
            refine ha_one 18 (by kernel_rfl) rfl (wn_none rfl) (wp_store (cs' := #[_, _, _, _, _, _, _, _, _]) hF hS rfl rfl rfl rfl 1 rfl sz34 (by simp [Value.cells, Value.oneCell']) (by simp [Value.cells]) rfl ?_)
            clear hF hS; intro a w hF hS
            replace hSS := hS.sub [] (by decide) rfl (by simp)
            refine ⟨.inr hSS, ?_⟩
            refine ha_done (by kernel_rfl) ?_ _
            refine then_n ?_
            refine c_seq ?_
            refine c_region ?_
            refine seq_yl hF (wn_none rfl) rfl rfl (yl_loadK (rs := [_, _, _, _, _, _, _, _, _]) (fun _ h => h ▸ hS) hF rfl rfl 1 rfl ag36 sz36 rfl rfl) ?_
            clear hF; intro a hF
            refine seq_wp (wn_none rfl) (wp_store (cs' := #[_, _, _, _, _, _, _, _, _]) hF hS rfl rfl rfl rfl 2 rfl sz36 (by simp [Value.cells, Value.oneCell']) (by simp [Value.cells]) rfl ?_)
            clear hF hS; intro a w hF hS
            refine wpList_nil ?_
            refine then_n ?_
            refine wp_ret ?_
            refine ret_c hF rfl (resC hS rfl 2 rfl ag36 sz36) ?_
            exact ⟨_, rfl, ((rnd (n) (4 : Int))), ((rnd (((n) / 4)) (6 : Int))), ((((rnd (((n) / 4)) (6 : Int))) + ((rnd (((n) / 4096)) (4 : Int))))), ((rnd (((n) / 64)) (3 : Int))), ((((rnd (((n) / 512)) (4 : Int))) - (1 : Int))), (x271), ((rnd (((n) / 262144)) (4 : Int))), (decide (((rnd (((n) / 1048576)) (2 : Int))) = (1 : Int))), ((rnd (((n) / 4194304)) (6 : Int))), rfl, by omega, by omega, by omega, by omega, by omega, by omega, by omega, by omega, (hS.sub [] (by decide) (by first | rfl | simp) (by simp))⟩
          · skip
            have hr274 := rnd_bounds (((n) / 4194304)) (6 : Int) (by omega)
            refine ha_op 15 rfl (wn_none rfl) (wp_call (vs := [_, _]) hF rfl rfl rfl rfl cf11 (round_any (((n) / 4194304)) (6 : Int) _ (by omega)) ?_)
            clear hF; rintro _ w ⟨rfl, hS1⟩ a hF
            replace hS := hS.callB hS1 rfl; clear hS1
            replace hSS := hS.sub [] (by decide) rfl (by simp)
            refine ⟨.inr hSS, ?_⟩
            refine ha_one 5 (by kernel_rfl) rfl (wn_none rfl) (wp_yl (S := fun w' => w' = w) hF rfl rfl rfl (yl_loadAt hF rfl rfl ag32 (fun _ h => rd_cell0 (enc := encI) (by subst h; exact hS.rdRow 0 rfl) encI_len hx271 rfl rfl)) ?_)
            clear hF; intro a hF
            replace hSS := hS.sub [] (by decide) rfl (by simp)
            refine ⟨.inr hSS, ?_⟩
            refine ha_y 16 hF rfl rfl rfl (wn_none rfl) (.inr hSS) (yl_build (parts := [(0, .tmp 29), (1, .tmp 32), (2, .tmp 36), (3, .tmp 39)]) (vs := [(0, _), (1, _), (2, _), (3, _)]) (cs := [_, _, _, _]) hF bd34 rfl rfl rfl rfl) ?_
            clear hF; intro a hF
            refine ha_y 17 hF rfl rfl rfl (wn_none rfl) (.inr hSS) (yl_fieldAddr hF rfl rfl (fun w => by kernel_rfl : ∀ w, (Instr.fieldAt 36 (.pointer (some ⟨g230, 0, none⟩)) 5).run Try.prog w = .ok (.pointer (some ⟨g230, 5, none⟩)) w)) ?_
            clear hF; intro a hF
            refine ha_one 18 (by kernel_rfl) rfl (wn_none rfl) (wp_store (cs' := #[_, _, _, _, _, _, _, _, _]) hF hS rfl rfl rfl rfl 1 rfl sz34 (by simp [Value.cells, Value.oneCell']) (by simp [Value.cells]) rfl ?_)
            clear hF hS; intro a w hF hS
            replace hSS := hS.sub [] (by decide) rfl (by simp)
            refine ⟨.inr hSS, ?_⟩
            refine ha_done (by kernel_rfl) ?_ _
            refine then_n ?_
            refine c_seq ?_
            refine c_region ?_
            refine seq_yl hF (wn_none rfl) rfl rfl (yl_loadK (rs := [_, _, _, _, _, _, _, _, _]) (fun _ h => h ▸ hS) hF rfl rfl 1 rfl ag36 sz36 rfl rfl) ?_
            clear hF; intro a hF
            refine seq_wp (wn_none rfl) (wp_store (cs' := #[_, _, _, _, _, _, _, _, _]) hF hS rfl rfl rfl rfl 2 rfl sz36 (by simp [Value.cells, Value.oneCell']) (by simp [Value.cells]) rfl ?_)
            clear hF hS; intro a w hF hS
            refine wpList_nil ?_
            refine then_n ?_
            refine wp_ret ?_
            refine ret_c hF rfl (resC hS rfl 2 rfl ag36 sz36) ?_
            exact ⟨_, rfl, ((rnd (n) (4 : Int))), ((rnd (((n) / 4)) (6 : Int))), ((((rnd (((n) / 4)) (6 : Int))) + ((rnd (((n) / 4096)) (4 : Int))))), ((rnd (((n) / 64)) (3 : Int))), ((((rnd (((n) / 512)) (4 : Int))) - (1 : Int))), (x271), ((rnd (((n) / 262144)) (4 : Int))), (decide (((rnd (((n) / 1048576)) (2 : Int))) = (1 : Int))), ((rnd (((n) / 4194304)) (6 : Int))), rfl, by omega, by omega, by omega, by omega, by omega, by omega, by omega, by omega, (hS.sub [] (by decide) (by first | rfl | simp) (by simp))⟩
        · skip
          have hr275 := rnd_bounds (((n) / 4194304)) (6 : Int) (by omega)
          refine ha_op 15 rfl (wn_none rfl) (wp_call (vs := [_, _]) hF rfl rfl rfl rfl cf11 (round_any (((n) / 4194304)) (6 : Int) _ (by omega)) ?_)
          clear hF; rintro _ w ⟨rfl, hS1⟩ a hF
          replace hS := hS.callB hS1 rfl; clear hS1
          replace hSS := hS.sub [] (by decide) rfl (by simp)
          refine ⟨.inr hSS, ?_⟩
          refine ha_one 0 (by kernel_rfl) rfl (wn_none rfl) (wp_bslice (parts := [(0, .const (Go.Value.int Go.IntKind.i64 0)), (1, .const (Go.Value.int Go.IntKind.i64 10)), (2, .const (Go.Value.int Go.IntKind.i64 11)), (3, .const (Go.Value.int Go.IntKind.i64 50)), (4, .const (Go.Value.int Go.IntKind.i64 10)), (5, .const (Go.Value.int Go.IntKind.i64 50))]) (vs := [(0, _), (1, _), (2, _), (3, _), (4, _), (5, _)]) (enc := encI) (e := 32) (size := 1) (cs := #[.int .i64 (0 : Int), .int .i64 (10 : Int), .int .i64 (11 : Int), .int .i64 (50 : Int), .int .i64 (10 : Int), .int .i64 (50 : Int)]) hF hS rfl rfl rfl rfl ([(0 : Int), (10 : Int), (11 : Int), (50 : Int), (10 : Int), (50 : Int)] : List Int) (fun w => by kernel_rfl) rfl rfl rfl (by decide) ?_)
          clear hF hS; intro a w v276 hF hS
          obtain ⟨Av276, cv276, rfl⟩ := hS.form 0 rfl
          replace hSS := hS.sub [] (by decide) rfl (by simp)
          refine ⟨.inr hSS, ?_⟩
          have herr : ∀ e ∈ ([(0 : Int), (10 : Int), (11 : Int), (50 : Int), (10 : Int), (50 : Int)] : List Int), e = 0 ∨ e = 10 ∨ e = 11 ∨ e = 50 := by decide
          have hlt_hx277 : rn247 < (([(0 : Int), (10 : Int), (11 : Int), (50 : Int), (10 : Int), (50 : Int)] : List Int)).length := by first | omega | (simp; done) | (simp; omega)
          obtain ⟨ad278, rfl⟩ := rd_some (hS.rdRow 0 rfl) hlt_hx277
          obtain ⟨x277, hx277⟩ := get_some hlt_hx277
          have hb_x277 := herr x277 (List.mem_of_getElem? hx277)
          refine ha_y 4 hF rfl rfl rfl (wn_none rfl) (.inr hSS) (yl_indexAddr hF rfl rfl rfl (fun _ => run_idx' sl59 sz32 (hS.rdRow 0 rfl) hlt_hx277)) ?_
          clear hF; intro a hF
          refine ha_one 5 (by kernel_rfl) rfl (wn_none rfl) (wp_yl (S := fun w' => w' = w) hF rfl rfl rfl (yl_loadAt hF rfl rfl ag32 (fun _ h => rd_cell0 (enc := encI) (by subst h; exact hS.rdRow 0 rfl) encI_len hx277 rfl rfl)) ?_)
          clear hF; intro a hF
          replace hSS := hS.sub [] (by decide) rfl (by simp)
          refine ⟨.inr hSS, ?_⟩
          refine ha_y 16 hF rfl rfl rfl (wn_none rfl) (.inr hSS) (yl_build (parts := [(0, .tmp 29), (1, .tmp 32), (2, .tmp 36), (3, .tmp 39)]) (vs := [(0, _), (1, _), (2, _), (3, _)]) (cs := [_, _, _, _]) hF bd34 rfl rfl rfl rfl) ?_
          clear hF; intro a hF
          refine ha_y 17 hF rfl rfl rfl (wn_none rfl) (.inr hSS) (yl_fieldAddr hF rfl rfl (fun w => by kernel_rfl : ∀ w, (Instr.fieldAt 36 (.pointer (some ⟨g230, 0, none⟩)) 5).run Try.prog w = .ok (.pointer (some ⟨g230, 5, none⟩)) w)) ?_
          clear hF; intro a hF
          refine ha_one 18 (by kernel_rfl) rfl (wn_none rfl) (wp_store (cs' := #[_, _, _, _, _, _, _, _, _]) hF hS rfl rfl rfl rfl 1 rfl sz34 (by simp [Value.cells, Value.oneCell']) (by simp [Value.cells]) rfl ?_)
          clear hF hS; intro a w hF hS
          replace hSS := hS.sub [] (by decide) rfl (by simp)
          refine ⟨.inr hSS, ?_⟩
          refine ha_done (by kernel_rfl) ?_ _
          refine then_n ?_
          refine c_seq ?_
          refine c_region ?_
          refine seq_yl hF (wn_none rfl) rfl rfl (yl_loadK (rs := [_, _, _, _, _, _, _, _, _]) (fun _ h => h ▸ hS) hF rfl rfl 1 rfl ag36 sz36 rfl rfl) ?_
          clear hF; intro a hF
          refine seq_wp (wn_none rfl) (wp_store (cs' := #[_, _, _, _, _, _, _, _, _]) hF hS rfl rfl rfl rfl 2 rfl sz36 (by simp [Value.cells, Value.oneCell']) (by simp [Value.cells]) rfl ?_)
          clear hF hS; intro a w hF hS
          refine wpList_nil ?_
          refine then_n ?_
          refine wp_ret ?_
          refine ret_c hF rfl (resC hS rfl 2 rfl ag36 sz36) ?_
          exact ⟨_, rfl, ((rnd (n) (4 : Int))), ((rnd (((n) / 4)) (6 : Int))), ((((rnd (((n) / 4)) (6 : Int))) + ((rnd (((n) / 4096)) (4 : Int))))), ((rnd (((n) / 64)) (3 : Int))), ((((rnd (((n) / 512)) (4 : Int))) - (1 : Int))), (x277), ((rnd (((n) / 262144)) (4 : Int))), (decide (((rnd (((n) / 1048576)) (2 : Int))) = (1 : Int))), ((rnd (((n) / 4194304)) (6 : Int))), rfl, by omega, by omega, by omega, by omega, by omega, by omega, by omega, by omega, (hS.sub [] (by decide) (by first | rfl | simp) (by simp))⟩

set_option maxHeartbeats 2000000 in
theorem pushed_any (v : Value) (L : List Int) (n : Int) (w0 : World) (hv : Rd w0 1 v (L).length (cells encI (L))) (hL : L.length ≤ 9223372036854775807) :
    Fn Try.prog 10 #[v, .int .i64 n] w0 (fun v w' => ∃ (q : Qu) (b e m now : Int) (v1 : Value), v = .tuple #[.agg #[.int .i64 q.d, .int .i64 q.h, .int .i64 q.f, v1], .agg #[.int .i64 b, .int .i64 e, .int .i64 m], .int .i64 now] ∧ PQ q 10 ∧ (1 ≤ b ∧ b ≤ 4) ∧ (0 ≤ e ∧ e ≤ 2) ∧ (0 ≤ m ∧ m ≤ 2) ∧ (0 ≤ now ∧ now ≤ 60) ∧ Sat w0 w' [.row 39 12 v1 (q.L).length (cells enc39 (q.L))]) := by
  obtain ⟨Av, cv, rfl⟩ := Rd.form hv
  refine c_enter (N := 88) (l := [_, _]) Try.func10 rfl rfl (fun a w hF hS => ?_)
  replace hS := hS.addRo hv
  refine c_seq ?_
  refine c_region ?_
  refine seq_wp (wn_none rfl) (wp_alloc (cs := #[_, _, _, _]) hF hS rfl rfl rfl zr25 rfl ?_)
  clear hF hS; intro a w g279 hF hS
  refine seq_wp (wn_none rfl) (wp_alloc (cs := #[_, _, _]) hF hS rfl rfl rfl zr27 rfl ?_)
  clear hF hS; intro a w g280 hF hS
  refine seq_yl hF (wn_none rfl) rfl rfl (yl_assign hF rfl rfl) ?_
  clear hF; intro a hF
  refine wpList_nil ?_
  refine then_n ?_
  refine c_seq ?_
  refine c_region ?_
  refine seq_yl hF (wn_none rfl) rfl rfl (yl_move hF rfl rfl) ?_
  clear hF; intro a hF
  have hr281 := rnd_bounds (n) (4 : Int) (by omega)
  refine seq_wp (wn_none rfl) (wp_call (vs := [_, _]) hF rfl rfl rfl rfl cf11 (round_any (n) (4 : Int) _ (by omega)) ?_)
  clear hF; rintro _ w ⟨rfl, hS1⟩ a hF
  replace hS := hS.callB hS1 rfl; clear hS1
  refine seq_yl hF (wn_none rfl) rfl rfl (yl_bin hF rfl rfl rfl rfl (fun _ => run_add (by refine ⟨?_, ?_⟩ <;> omega))) ?_
  clear hF; intro a hF
  refine seq_yl hF (wn_none rfl) rfl rfl (yl_move hF rfl rfl) ?_
  clear hF; intro a hF
  refine seq_yl hF (wn_none rfl) rfl rfl (yl_bin hF rfl rfl rfl rfl (fun _ => run_shr (c := 3) (d := 8) (by decide) (by decide))) ?_
  clear hF; intro a hF
  have hr282 := rnd_bounds (((n) / 8)) (3 : Int) (by omega)
  refine seq_wp (wn_none rfl) (wp_call (vs := [_, _]) hF rfl rfl rfl rfl cf11 (round_any (((n) / 8)) (3 : Int) _ (by omega)) ?_)
  clear hF; rintro _ w ⟨rfl, hS1⟩ a hF
  replace hS := hS.callB hS1 rfl; clear hS1
  refine seq_yl hF (wn_none rfl) rfl rfl (yl_move hF rfl rfl) ?_
  clear hF; intro a hF
  refine seq_yl hF (wn_none rfl) rfl rfl (yl_bin hF rfl rfl rfl rfl (fun _ => run_shr (c := 5) (d := 32) (by decide) (by decide))) ?_
  clear hF; intro a hF
  have hr283 := rnd_bounds (((n) / 32)) (3 : Int) (by omega)
  refine seq_wp (wn_none rfl) (wp_call (vs := [_, _]) hF rfl rfl rfl rfl cf11 (round_any (((n) / 32)) (3 : Int) _ (by omega)) ?_)
  clear hF; rintro _ w ⟨rfl, hS1⟩ a hF
  replace hS := hS.callB hS1 rfl; clear hS1
  refine seq_yl hF (wn_none rfl) rfl rfl (yl_build (parts := [(0, .tmp 16), (1, .tmp 19), (2, .tmp 22)]) (vs := [(0, _), (1, _), (2, _)]) (cs := [_, _, _]) hF bd27 rfl rfl rfl rfl) ?_
  clear hF; intro a hF
  refine seq_wp (wn_none rfl) (wp_alloc (cs := #[_, _, _]) hF hS rfl rfl rfl zr27 rfl ?_)
  clear hF hS; intro a w g284 hF hS
  refine seq_wp (wn_none rfl) (wp_store (cs' := #[_, _, _]) hF hS rfl rfl rfl rfl 0 rfl sz27 (by simp [Value.cells, Value.oneCell']) (by simp [Value.cells]) rfl ?_)
  clear hF hS; intro a w hF hS
  refine wpList_nil ?_
  refine then_n ?_
  refine c_seq ?_
  refine c_region ?_
  refine seq_yl hF (wn_none rfl) rfl rfl (yl_move hF rfl rfl) ?_
  clear hF; intro a hF
  refine seq_yl hF (wn_none rfl) rfl rfl (yl_bin hF rfl rfl rfl rfl (fun _ => run_shr (c := 8) (d := 256) (by decide) (by decide))) ?_
  clear hF; intro a hF
  have hr285 := rnd_bounds (((n) / 256)) (8 : Int) (by omega)
  refine seq_wp (wn_none rfl) (wp_call (vs := [_, _]) hF rfl rfl rfl rfl cf11 (round_any (((n) / 256)) (8 : Int) _ (by omega)) ?_)
  clear hF; rintro _ w ⟨rfl, hS1⟩ a hF
  replace hS := hS.callB hS1 rfl; clear hS1
  refine seq_yl hF (wn_none rfl) rfl rfl (yl_bin hF rfl rfl rfl rfl (fun _ => run_add (by refine ⟨?_, ?_⟩ <;> omega))) ?_
  clear hF; intro a hF
  refine seq_yl hF (wn_none rfl) rfl rfl (yl_build (parts := [(0, .tmp 27)]) (vs := [(0, _)]) (cs := [_, _, _, _]) hF bd25 rfl rfl rfl rfl) ?_
  clear hF; intro a hF
  refine seq_wp (wn_none rfl) (wp_alloc (cs := #[_, _, _, _]) hF hS rfl rfl rfl zr25 rfl ?_)
  clear hF hS; intro a w g286 hF hS
  refine seq_wp (wn_none rfl) (wp_store (cs' := #[_, _, _, _]) hF hS rfl rfl rfl rfl 0 rfl sz25 (by simp [Value.cells, Value.oneCell']) (by simp [Value.cells]) rfl ?_)
  clear hF hS; intro a w hF hS
  refine wpList_nil ?_
  refine then_n ?_
  refine c_seq ?_
  refine c_region ?_
  refine seq_yl hF (wn_none rfl) rfl rfl (yl_assign hF rfl rfl) ?_
  clear hF; intro a hF
  refine wpList_nil ?_
  refine then_n ?_
  refine c_seq ?_
  refine c_seq ?_
  refine c_region ?_
  refine seq_yl hF (wn_none rfl) rfl rfl (yl_assign hF rfl rfl) ?_
  clear hF; intro a hF
  refine wpList_nil ?_
  refine then_n ?_
  refine wp_block ?_
  replace hS := hS.addNil 39 12
  refine c_loop (fun m a w => ∃ (i : Nat) (now : Int) (Q : Qu) (AvQ : Option Addr) (cvQ : Nat), m = 10 - i ∧ (i ≤ 10 ∧ 0 ≤ now ∧ now ≤ 6 * (i : Int) ∧ PQ Q (i : Int)) ∧ Fr 88 a [(0, .slice Av (L).length cv), (1, .int .i64 (n)), (4, .pointer (some ⟨g279, 0, none⟩)), (5, .pointer (some ⟨g280, 0, none⟩)), (6, .int .i64 (0 : Int)), (7, .pointer (some ⟨g284, 0, none⟩)), (8, .pointer (some ⟨g286, 0, none⟩)), (9, .int .i64 (now)), (10, .int .i64 ((i : Nat) : Int))] ∧ Sat w0 w (.box g279 25 #[.int .i64 (0 : Int), .int .i64 (0 : Int), .int .i64 (0 : Int), .slice none 0 0] :: .box g280 27 #[.int .i64 (0 : Int), .int .i64 (0 : Int), .int .i64 (0 : Int)] :: .box g284 27 #[.int .i64 (((1 : Int) + ((rnd (n) (4 : Int))))), .int .i64 ((rnd (((n) / 8)) (3 : Int))), .int .i64 ((rnd (((n) / 32)) (3 : Int)))] :: .ro 1 (.slice Av (L).length cv) (L).length (cells encI (L)) :: .box g286 25 #[.int .i64 (Q.d), .int .i64 (Q.h), .int .i64 (Q.f), .slice AvQ (Q.L).length cvQ] :: .row 39 12 (.slice AvQ (Q.L).length cvQ) (Q.L).length (cells enc39 (Q.L)) :: [])) (10 - 0) ?_ ?_
  · exact ⟨0, 0, ⟨(((1 : Int) + ((rnd (((n) / 256)) (8 : Int))))), 0, 0, []⟩, none, 0, rfl, ⟨by omega, by omega, by omega, pq_zero (by omega)⟩, hF.to [0, 1, 4, 5, 6, 7, 8, 9, 10] rfl, (hS.sub [4, 3, 2, 5, 1, 0] (by decide) (by first | rfl | simp) (by simp))⟩
  · clear hF hS; try clear hSS
    clear a w; rintro m a w ⟨i, now, Q, AvQ, cvQ, rfl, hinv, hF, hS⟩
    obtain ⟨hi, hn0, hn1, hpq0⟩ := hinv
    have hql : Q.L.length ≤ 8 := by have := hpq0.d; have := hpq0.len; omega
    refine c_seq ?_
    refine c_seq ?_
    refine c_region ?_
    refine seq_yl hF (wn_none rfl) rfl rfl (yl_move hF rfl rfl) ?_
    clear hF; intro a hF
    refine seq_yl hF (wn_none rfl) rfl rfl (yl_move hF rfl rfl) ?_
    clear hF; intro a hF
    refine seq_yl hF (wn_none rfl) rfl rfl (yl_len hF rfl rfl (fun _ => run_lenRd sl22 (hS.rdRo 3 rfl))) ?_
    clear hF; intro a hF
    refine seq_yl hF (wn_none rfl) rfl rfl (yl_bin hF rfl rfl rfl rfl (fun _ => run_lss)) ?_
    clear hF; intro a hF
    refine seq_yl hF (wn_none rfl) rfl rfl (yl_move hF rfl rfl) ?_
    clear hF; intro a hF
    refine fr_split hF (fun hc287 hF => ?_) (fun hc287 hF => ?_)
    · first | (replace hc287 := of_decide_eq_true hc287) | (replace hc287 := of_decide_eq_false (bnot_t hc287)) | (subst hc287) | (replace hc287 := bnot_t hc287; subst hc287) | (replace hc287 := bnot_t hc287) | skip
      refine seq_yl hF (wn_t hF rfl rfl rfl rfl) rfl rfl (yl_move hF rfl rfl) ?_
      clear hF; intro a hF
      refine seq_yl hF (wn_t hF rfl rfl rfl rfl) rfl rfl (yl_bin hF rfl rfl rfl rfl (fun _ => run_lss)) ?_
      clear hF; intro a hF
      refine seq_yl hF (wn_none rfl) rfl rfl (yl_pick (u := _) (v := undef) hF rfl rfl (fun _ => rfl) (fun h => by cases h)) ?_
      clear hF; intro a hF
      refine wpList_nil ?_
      refine then_n ?_
      refine c_cond hF rfl (fun hc288 => ?_) (fun hc288 => ?_)
      · first | (replace hc288 := of_decide_eq_true hc288) | (replace hc288 := of_decide_eq_false (bnot_t hc288)) | (subst hc288) | (replace hc288 := bnot_t hc288; subst hc288) | (replace hc288 := bnot_t hc288) | skip
        refine wp_skip ?_
        refine then_n ?_
        refine c_seq ?_
        refine wp_block ?_
        refine c_seq ?_
        refine c_region ?_
        refine seq_yl hF (wn_none rfl) rfl rfl (yl_move hF rfl rfl) ?_
        clear hF; intro a hF
        refine seq_yl hF (wn_none rfl) rfl rfl (yl_move hF rfl rfl) ?_
        clear hF; intro a hF
        refine seq_yl hF (wn_none rfl) rfl rfl (yl_move hF rfl rfl) ?_
        clear hF; intro a hF
        have hlt_hx289 : i < (L).length := by first | omega | (simp; done) | (simp; omega)
        obtain ⟨ad290, rfl⟩ := rd_some (hS.rdRo 3 rfl) hlt_hx289
        obtain ⟨x289, hx289⟩ := get_some hlt_hx289
        refine seq_yl hF (wn_none rfl) rfl rfl (yl_indexAddr hF rfl rfl rfl (fun _ => run_idx' sl22 sz3 (hS.rdRo 3 rfl) hlt_hx289)) ?_
        clear hF; intro a hF
        refine seq_yl hF (wn_none rfl) rfl rfl (yl_loadAt hF rfl rfl ag3 (fun _ h => rd_cell0 (enc := encI) (by subst h; exact hS.rdRo 3 rfl) encI_len hx289 rfl rfl)) ?_
        clear hF; intro a hF
        have hr291 := rnd_bounds (x289) (7 : Int) (by omega)
        refine seq_wp (wn_none rfl) (wp_call (vs := [_, _]) hF rfl rfl rfl rfl cf11 (round_any (x289) (7 : Int) _ (by omega)) ?_)
        clear hF; rintro _ w ⟨rfl, hS1⟩ a hF
        replace hS := hS.callB hS1 rfl; clear hS1
        refine seq_yl hF (wn_none rfl) rfl rfl (yl_bin hF rfl rfl rfl rfl (fun _ => run_add (by refine ⟨?_, ?_⟩ <;> omega))) ?_
        clear hF; intro a hF
        refine seq_yl hF (wn_none rfl) rfl rfl (yl_assign hF rfl rfl) ?_
        clear hF; intro a hF
        refine wpList_nil ?_
        refine then_n ?_
        refine c_seq ?_
        refine ha_startS hS [3] 30 (by kernel_rfl) ?_; clear hS; intro w hS
        have hSS := hS.sub [3] (by decide) rfl (by simp)
        refine ha_y 0 hF rfl rfl rfl (wn_none rfl) (.inr hSS) (yl_move hF rfl rfl) ?_
        clear hF; intro a hF
        refine ha_y 1 hF rfl rfl rfl (wn_none rfl) (.inr hSS) (yl_move hF rfl rfl) ?_
        clear hF; intro a hF
        refine ha_y 2 hF rfl rfl rfl (wn_none rfl) (.inr hSS) (yl_move hF rfl rfl) ?_
        clear hF; intro a hF
        refine ha_y 3 hF rfl rfl rfl (wn_none rfl) (.inr hSS) (yl_indexAddr hF rfl rfl rfl (fun _ => run_idx' sl22 sz3 (hS.rdRo 3 rfl) hlt_hx289)) ?_
        clear hF; intro a hF
        refine ha_y 8 hF rfl rfl rfl (wn_none rfl) (.inr hSS) (yl_move hF rfl rfl) ?_
        clear hF; intro a hF
        refine ha_y 9 hF rfl rfl rfl (wn_none rfl) (.inr hSS) (yl_move hF rfl rfl) ?_
        clear hF; intro a hF
        refine ha_y 10 hF rfl rfl rfl (wn_none rfl) (.inr hSS) (yl_indexAddr hF rfl rfl rfl (fun _ => run_idx' sl22 sz3 (hS.rdRo 3 rfl) hlt_hx289)) ?_
        clear hF; intro a hF
        refine ha_y 14 hF rfl rfl rfl (wn_none rfl) (.inr hSS) (yl_move hF rfl rfl) ?_
        clear hF; intro a hF
        refine ha_y 15 hF rfl rfl rfl (wn_none rfl) (.inr hSS) (yl_move hF rfl rfl) ?_
        clear hF; intro a hF
        refine ha_y 16 hF rfl rfl rfl (wn_none rfl) (.inr hSS) (yl_indexAddr hF rfl rfl rfl (fun _ => run_idx' sl22 sz3 (hS.rdRo 3 rfl) hlt_hx289)) ?_
        clear hF; intro a hF
        refine ha_y 20 hF rfl rfl rfl (wn_none rfl) (.inr hSS) (yl_move hF rfl rfl) ?_
        clear hF; intro a hF
        refine ha_y 21 hF rfl rfl rfl (wn_none rfl) (.inr hSS) (yl_move hF rfl rfl) ?_
        clear hF; intro a hF
        refine ha_y 22 hF rfl rfl rfl (wn_none rfl) (.inr hSS) (yl_indexAddr hF rfl rfl rfl (fun _ => run_idx' sl22 sz3 (hS.rdRo 3 rfl) hlt_hx289)) ?_
        clear hF; intro a hF
        refine ha_l 4 hF rfl rfl rfl (wn_none rfl) hSS (yl_loadAt hF rfl rfl ag3 (fun _ h => rd_cell0 (enc := encI) (Sat.rdRo h 0 rfl) encI_len hx289 rfl rfl)) ?_
        clear hF; intro a hF
        refine ha_y 5 hF rfl rfl rfl (wn_none rfl) (.inr hSS) (yl_bin hF rfl rfl rfl rfl (fun _ => run_shr (c := 3) (d := 8) (by decide) (by decide))) ?_
        clear hF; intro a hF
        refine ha_l 11 hF rfl rfl rfl (wn_none rfl) hSS (yl_loadAt hF rfl rfl ag3 (fun _ h => rd_cell0 (enc := encI) (Sat.rdRo h 0 rfl) encI_len hx289 rfl rfl)) ?_
        clear hF; intro a hF
        refine ha_y 12 hF rfl rfl rfl (wn_none rfl) (.inr hSS) (yl_bin hF rfl rfl rfl rfl (fun _ => run_shr (c := 5) (d := 32) (by decide) (by decide))) ?_
        clear hF; intro a hF
        refine ha_l 17 hF rfl rfl rfl (wn_none rfl) hSS (yl_loadAt hF rfl rfl ag3 (fun _ h => rd_cell0 (enc := encI) (Sat.rdRo h 0 rfl) encI_len hx289 rfl rfl)) ?_
        clear hF; intro a hF
        refine ha_y 18 hF rfl rfl rfl (wn_none rfl) (.inr hSS) (yl_bin hF rfl rfl rfl rfl (fun _ => run_shr (c := 10) (d := 1024) (by decide) (by decide))) ?_
        clear hF; intro a hF
        refine ha_l 23 hF rfl rfl rfl (wn_none rfl) hSS (yl_loadAt hF rfl rfl ag3 (fun _ h => rd_cell0 (enc := encI) (Sat.rdRo h 0 rfl) encI_len hx289 rfl rfl)) ?_
        clear hF; intro a hF
        refine ha_y 24 hF rfl rfl rfl (wn_none rfl) (.inr hSS) (yl_bin hF rfl rfl rfl rfl (fun _ => run_shr (c := 13) (d := 8192) (by decide) (by decide))) ?_
        clear hF; intro a hF
        refine ha_all (rs := [6, 28]) (by kernel_rfl) (by simp) ?_
        refine List.forall_mem_cons.2 ⟨?_, List.forall_mem_cons.2 ⟨?_, (fun _ h => by cases h)⟩⟩
        · skip
          have hr292 := rnd_bounds (((x289) / 8)) (3 : Int) (by omega)
          refine ha_op 6 rfl (wn_none rfl) (wp_call (vs := [_, _]) hF rfl rfl rfl rfl cf11 (round_any (((x289) / 8)) (3 : Int) _ (by omega)) ?_)
          clear hF; rintro _ w ⟨rfl, hS1⟩ a hF
          replace hS := hS.callB hS1 rfl; clear hS1
          replace hSS := hS.sub [3] (by decide) rfl (by simp)
          refine ⟨.inr hSS, ?_⟩
          refine ha_y 7 hF rfl rfl rfl (wn_none rfl) (.inr hSS) (yl_bin hF rfl rfl rfl rfl (fun _ => run_add (by refine ⟨?_, ?_⟩ <;> omega))) ?_
          clear hF; intro a hF
          refine ha_all (rs := [13, 28]) (by kernel_rfl) (by simp) ?_
          refine List.forall_mem_cons.2 ⟨?_, List.forall_mem_cons.2 ⟨?_, (fun _ h => by cases h)⟩⟩
          · skip
            have hr293 := rnd_bounds (((x289) / 32)) (20 : Int) (by omega)
            refine ha_op 13 rfl (wn_none rfl) (wp_call (vs := [_, _]) hF rfl rfl rfl rfl cf11 (round_any (((x289) / 32)) (20 : Int) _ (by omega)) ?_)
            clear hF; rintro _ w ⟨rfl, hS1⟩ a hF
            replace hS := hS.callB hS1 rfl; clear hS1
            replace hSS := hS.sub [3] (by decide) rfl (by simp)
            refine ⟨.inr hSS, ?_⟩
            refine ha_all (rs := [19, 28]) (by kernel_rfl) (by simp) ?_
            refine List.forall_mem_cons.2 ⟨?_, List.forall_mem_cons.2 ⟨?_, (fun _ h => by cases h)⟩⟩
            · skip
              have hr294 := rnd_bounds (((x289) / 1024)) (5 : Int) (by omega)
              refine ha_op 19 rfl (wn_none rfl) (wp_call (vs := [_, _]) hF rfl rfl rfl rfl cf11 (round_any (((x289) / 1024)) (5 : Int) _ (by omega)) ?_)
              clear hF; rintro _ w ⟨rfl, hS1⟩ a hF
              replace hS := hS.callB hS1 rfl; clear hS1
              replace hSS := hS.sub [3] (by decide) rfl (by simp)
              refine ⟨.inr hSS, ?_⟩
              refine ha_all (rs := [25, 28]) (by kernel_rfl) (by simp) ?_
              refine List.forall_mem_cons.2 ⟨?_, List.forall_mem_cons.2 ⟨?_, (fun _ h => by cases h)⟩⟩
              · skip
                refine ha_op 25 rfl (wn_none rfl) (wp_call (vs := [_]) hF rfl rfl rfl rfl cf12 (rule_any (((x289) / 8192)) _) ?_)
                clear hF; rintro _ w ⟨k295, f296, l297, s298, t299, er300, dn301, hf302, dl303, rfl, hb304, hb305, hb306, hb307, hb308, hb309, hb310, hb311, hS1⟩ a hF
                replace hS := hS.callB hS1 rfl; clear hS1
                replace hSS := hS.sub [3] (by decide) rfl (by simp)
                refine ⟨.inr hSS, ?_⟩
                refine ha_y 26 hF rfl rfl rfl (wn_none rfl) (.inr hSS) (yl_field hF rfl rfl (fun w => by kernel_rfl : ∀ w, (Instr.field 36 (.agg #[.int .i64 (k295), .int .i64 (f296), .int .i64 (l297), .int .i64 (s298), .int .i64 (t299), .int .i64 (er300), .int .i64 (dn301), .bool hf302, .int .i64 (dl303)]) 5).run Try.prog w = .ok (.agg #[.int .i64 (er300), .int .i64 (dn301), .bool hf302, .int .i64 (dl303)]) w)) ?_
                clear hF; intro a hF
                refine ha_y 27 hF rfl rfl rfl (wn_none rfl) (.inr hSS) (yl_build (parts := [(0, .tmp 46), (1, .tmp 53), (2, .tmp 59), (3, .tmp 65), (8, .tmp 72)]) (vs := [(0, _), (1, _), (2, _), (3, _), (8, _)]) (cs := [_, _, _, _, _, _, _, _, _, _, _, _]) hF bd39 rfl rfl rfl rfl) ?_
                clear hF; intro a hF
                refine ha_one 28 (by kernel_rfl) rfl (wn_none rfl) (wp_alloc (cs := #[_, _, _, _, _, _, _, _, _, _, _, _]) hF hS rfl rfl rfl zr39 rfl ?_)
                clear hF hS; intro a w g312 hF hS
                replace hSS := hS.sub [4] (by decide) rfl (by simp)
                refine ⟨.inr hSS, ?_⟩
                refine ha_one 29 (by kernel_rfl) rfl (wn_none rfl) (wp_store (cs' := #[_, _, _, _, _, _, _, _, _, _, _, _]) hF hS rfl rfl rfl rfl 0 rfl sz39 (by simp [Value.cells, Value.oneCell']) (by simp [Value.cells]) rfl ?_)
                clear hF hS; intro a w hF hS
                replace hSS := hS.sub [4] (by decide) rfl (by simp)
                refine ⟨.inr hSS, ?_⟩
                refine ha_done (by kernel_rfl) ?_ _
                refine then_n ?_
                refine c_seq ?_
                refine c_region ?_
                refine seq_yl hF (wn_none rfl) rfl rfl (yl_loadK (rs := [_, _, _, _]) (fun _ h => h ▸ hS) hF rfl rfl 5 rfl ag25 sz25 rfl rfl) ?_
                clear hF; intro a hF
                refine seq_yl hF (wn_none rfl) rfl rfl (yl_loadK (rs := [_, _, _]) (fun _ h => h ▸ hS) hF rfl rfl 3 rfl ag27 sz27 rfl rfl) ?_
                clear hF; intro a hF
                refine seq_yl hF (wn_none rfl) rfl rfl (yl_move hF rfl rfl) ?_
                clear hF; intro a hF
                refine seq_yl hF (wn_none rfl) rfl rfl (yl_loadK (rs := [_, _, _, _, _, _, _, _, _, _, _, _]) (fun _ h => h ▸ hS) hF rfl rfl 0 rfl ag39 sz39 rfl rfl) ?_
                clear hF; intro a hF
                refine seq_wp (wn_none rfl) (wp_call (vs := [_, _, _, _]) hF rfl rfl rfl rfl cf22 (push2_any (Qu.mk (Q.d) (Q.h) (Q.f) Q.L) (((1 : Int) + ((rnd (n) (4 : Int))))) ((rnd (((n) / 8)) (3 : Int))) ((rnd (((n) / 32)) (3 : Int))) (((now) + ((rnd (x289) (7 : Int))))) (E39.mk ((i : Nat) : Int) (((1 : Int) + ((rnd (((x289) / 8)) (3 : Int))))) ((rnd (((x289) / 32)) (20 : Int))) ((rnd (((x289) / 1024)) (5 : Int))) (⟨#[]⟩) false (0 : Int) (0 : Int) (er300) (dn301) hf302 (dl303)) _ _ (hS.rdRow 6 rfl) (by first | omega | (simp; done) | (simp; omega))) ?_)
                clear hF; rintro _ w ⟨d313, h314, f315, er316, v318, L317, rfl, hp319, hS1⟩ a hF
                replace hS := hS.callB hS1 rfl; clear hS1
                obtain ⟨Av318, cv318, rfl⟩ := hS.form 0 rfl
                refine seq_yl hF (wn_none rfl) rfl rfl (yl_move hF rfl rfl) ?_
                clear hF; intro a hF
                refine seq_yl hF (wn_none rfl) rfl rfl (yl_extract hF rfl rfl rfl) ?_
                clear hF; intro a hF
                refine seq_yl hF (wn_none rfl) rfl rfl (yl_extract hF rfl rfl rfl) ?_
                clear hF; intro a hF
                have hrun := push_run hp319 hpq0 (by omega) ⟨rfl, by (try dsimp only); omega, by (try dsimp only); omega, by (try dsimp only); omega, by (try dsimp only); omega⟩ (by omega) (by omega) (by omega) (by omega); dsimp only at hrun; rcases hrun with ⟨hfull, her⟩ | ⟨her, hroom, hdd, hlen, hpq, hhh, en, hLL, hlast, hcase⟩
                · skip
                  replace hF := fr_seti (b' := 3) hF (by assumption)
                  refine seq_wp (wn_none rfl) (wp_alloc (cs := #[_, _, _, _]) hF hS rfl rfl rfl zr25 rfl ?_)
                  clear hF hS; intro a w g320 hF hS
                  refine seq_wp (wn_none rfl) (wp_store (cs' := #[_, _, _, _]) hF hS rfl rfl rfl rfl 0 rfl sz25 (by simp [Value.cells, Value.oneCell']) (by simp [Value.cells]) rfl ?_)
                  clear hF hS; intro a w hF hS
                  refine seq_yl hF (wn_none rfl) rfl rfl (yl_assign hF rfl rfl) ?_
                  clear hF; intro a hF
                  refine wpList_nil ?_
                  refine then_n ?_
                  refine c_seq ?_
                  refine c_region ?_
                  refine seq_yl hF (wn_none rfl) rfl rfl (yl_move hF rfl rfl) ?_
                  clear hF; intro a hF
                  refine seq_yl hF (wn_none rfl) rfl rfl (yl_bin hF rfl rfl rfl rfl (fun _ => run_eql)) ?_
                  clear hF; intro a hF
                  replace hF := fr_set (b' := false) hF (by decide)
                  refine wpList_nil ?_
                  refine then_n ?_
                  refine c_cond_f hF rfl ?_
                  refine wp_skip ?_
                  refine inb_n ?_
                  refine then_n ?_
                  refine c_region ?_
                  refine seq_yl hF (wn_none rfl) rfl rfl (yl_move hF rfl rfl) ?_
                  clear hF; intro a hF
                  refine seq_yl hF (wn_none rfl) rfl rfl (yl_bin hF rfl rfl rfl rfl (fun _ => run_inc (by omega))) ?_
                  clear hF; intro a hF
                  refine seq_yl hF (wn_none rfl) rfl rfl (yl_assign hF rfl rfl) ?_
                  clear hF; intro a hF
                  refine wpList_nil ?_
                  refine then_n ?_
                  exact ⟨_, (by omega), i + 1, (((now) + ((rnd (x289) (7 : Int))))), Q, AvQ, cvQ, rfl, ⟨by omega, by omega, by omega, pq_mono hpq0⟩, hF.to [0, 1, 4, 5, 6, 7, 8, 9, 10] rfl, (hS.sub [3, 4, 5, 6, 7, 8] (by decide) (by first | rfl | simp) (by simp))⟩
                · skip
                  replace hF := fr_seti (b' := 0) hF (by assumption)
                  refine seq_wp (wn_none rfl) (wp_alloc (cs := #[_, _, _, _]) hF hS rfl rfl rfl zr25 rfl ?_)
                  clear hF hS; intro a w g321 hF hS
                  refine seq_wp (wn_none rfl) (wp_store (cs' := #[_, _, _, _]) hF hS rfl rfl rfl rfl 0 rfl sz25 (by simp [Value.cells, Value.oneCell']) (by simp [Value.cells]) rfl ?_)
                  clear hF hS; intro a w hF hS
                  refine seq_yl hF (wn_none rfl) rfl rfl (yl_assign hF rfl rfl) ?_
                  clear hF; intro a hF
                  refine wpList_nil ?_
                  refine then_n ?_
                  refine c_seq ?_
                  refine c_region ?_
                  refine seq_yl hF (wn_none rfl) rfl rfl (yl_move hF rfl rfl) ?_
                  clear hF; intro a hF
                  refine seq_yl hF (wn_none rfl) rfl rfl (yl_bin hF rfl rfl rfl rfl (fun _ => run_eql)) ?_
                  clear hF; intro a hF
                  replace hF := fr_set (b' := true) hF (by decide)
                  refine wpList_nil ?_
                  refine then_n ?_
                  refine c_cond_t hF rfl ?_
                  refine c_region ?_
                  refine seq_yl hF (wn_none rfl) rfl rfl (yl_loadK (rs := [_, _, _, _]) (fun _ h => h ▸ hS) hF rfl rfl 0 rfl ag25 sz25 rfl rfl) ?_
                  clear hF; intro a hF
                  refine seq_wp (wn_none rfl) (wp_store (cs' := #[_, _, _, _]) hF hS rfl rfl rfl rfl 7 rfl sz25 (by simp [Value.cells, Value.oneCell']) (by simp [Value.cells]) rfl ?_)
                  clear hF hS; intro a w hF hS
                  refine wpList_nil ?_
                  refine inb_n ?_
                  refine then_n ?_
                  refine c_region ?_
                  refine seq_yl hF (wn_none rfl) rfl rfl (yl_move hF rfl rfl) ?_
                  clear hF; intro a hF
                  refine seq_yl hF (wn_none rfl) rfl rfl (yl_bin hF rfl rfl rfl rfl (fun _ => run_inc (by omega))) ?_
                  clear hF; intro a hF
                  refine seq_yl hF (wn_none rfl) rfl rfl (yl_assign hF rfl rfl) ?_
                  clear hF; intro a hF
                  refine wpList_nil ?_
                  refine then_n ?_
                  exact ⟨_, (by omega), i + 1, (((now) + ((rnd (x289) (7 : Int))))), (Qu.mk (d313) (h314) (f315) L317), Av318, cv318, rfl, ⟨by omega, by omega, by omega, hpq⟩, hF.to [0, 1, 4, 5, 6, 7, 8, 9, 10] rfl, (hS.sub [3, 4, 5, 6, 7, 1] (by decide) (by first | rfl | simp) (by simp))⟩
              · skip
                refine ha_op 28 rfl (wn_none rfl) (wp_alloc (cs := #[_, _, _, _, _, _, _, _, _, _, _, _]) hF hS rfl rfl rfl zr39 rfl ?_)
                clear hF hS; intro a w g322 hF hS
                replace hSS := hS.sub [4] (by decide) rfl (by simp)
                refine ⟨.inr hSS, ?_⟩
                refine ha_one 25 (by kernel_rfl) rfl (wn_none rfl) (wp_call (vs := [_]) hF rfl rfl rfl rfl cf12 (rule_any (((x289) / 8192)) _) ?_)
                clear hF; rintro _ w ⟨k323, f324, l325, s326, t327, er328, dn329, hf330, dl331, rfl, hb332, hb333, hb334, hb335, hb336, hb337, hb338, hb339, hS1⟩ a hF
                replace hS := hS.callB hS1 rfl; clear hS1
                replace hSS := hS.sub [4] (by decide) rfl (by simp)
                refine ⟨.inr hSS, ?_⟩
                refine ha_y 26 hF rfl rfl rfl (wn_none rfl) (.inr hSS) (yl_field hF rfl rfl (fun w => by kernel_rfl : ∀ w, (Instr.field 36 (.agg #[.int .i64 (k323), .int .i64 (f324), .int .i64 (l325), .int .i64 (s326), .int .i64 (t327), .int .i64 (er328), .int .i64 (dn329), .bool hf330, .int .i64 (dl331)]) 5).run Try.prog w = .ok (.agg #[.int .i64 (er328), .int .i64 (dn329), .bool hf330, .int .i64 (dl331)]) w)) ?_
                clear hF; intro a hF
                refine ha_y 27 hF rfl rfl rfl (wn_none rfl) (.inr hSS) (yl_build (parts := [(0, .tmp 46), (1, .tmp 53), (2, .tmp 59), (3, .tmp 65), (8, .tmp 72)]) (vs := [(0, _), (1, _), (2, _), (3, _), (8, _)]) (cs := [_, _, _, _, _, _, _, _, _, _, _, _]) hF bd39 rfl rfl rfl rfl) ?_
                clear hF; intro a hF
                refine ha_one 29 (by kernel_rfl) rfl (wn_none rfl) (wp_store (cs' := #[_, _, _, _, _, _, _, _, _, _, _, _]) hF hS rfl rfl rfl rfl 0 rfl sz39 (by simp [Value.cells, Value.oneCell']) (by simp [Value.cells]) rfl ?_)
                clear hF hS; intro a w hF hS
                replace hSS := hS.sub [4] (by decide) rfl (by simp)
                refine ⟨.inr hSS, ?_⟩
                refine ha_done (by kernel_rfl) ?_ _
                refine then_n ?_
                refine c_seq ?_
                refine c_region ?_
                refine seq_yl hF (wn_none rfl) rfl rfl (yl_loadK (rs := [_, _, _, _]) (fun _ h => h ▸ hS) hF rfl rfl 5 rfl ag25 sz25 rfl rfl) ?_
                clear hF; intro a hF
                refine seq_yl hF (wn_none rfl) rfl rfl (yl_loadK (rs := [_, _, _]) (fun _ h => h ▸ hS) hF rfl rfl 3 rfl ag27 sz27 rfl rfl) ?_
                clear hF; intro a hF
                refine seq_yl hF (wn_none rfl) rfl rfl (yl_move hF rfl rfl) ?_
                clear hF; intro a hF
                refine seq_yl hF (wn_none rfl) rfl rfl (yl_loadK (rs := [_, _, _, _, _, _, _, _, _, _, _, _]) (fun _ h => h ▸ hS) hF rfl rfl 0 rfl ag39 sz39 rfl rfl) ?_
                clear hF; intro a hF
                refine seq_wp (wn_none rfl) (wp_call (vs := [_, _, _, _]) hF rfl rfl rfl rfl cf22 (push2_any (Qu.mk (Q.d) (Q.h) (Q.f) Q.L) (((1 : Int) + ((rnd (n) (4 : Int))))) ((rnd (((n) / 8)) (3 : Int))) ((rnd (((n) / 32)) (3 : Int))) (((now) + ((rnd (x289) (7 : Int))))) (E39.mk ((i : Nat) : Int) (((1 : Int) + ((rnd (((x289) / 8)) (3 : Int))))) ((rnd (((x289) / 32)) (20 : Int))) ((rnd (((x289) / 1024)) (5 : Int))) (⟨#[]⟩) false (0 : Int) (0 : Int) (er328) (dn329) hf330 (dl331)) _ _ (hS.rdRow 6 rfl) (by first | omega | (simp; done) | (simp; omega))) ?_)
                clear hF; rintro _ w ⟨d340, h341, f342, er343, v345, L344, rfl, hp346, hS1⟩ a hF
                replace hS := hS.callB hS1 rfl; clear hS1
                obtain ⟨Av345, cv345, rfl⟩ := hS.form 0 rfl
                refine seq_yl hF (wn_none rfl) rfl rfl (yl_move hF rfl rfl) ?_
                clear hF; intro a hF
                refine seq_yl hF (wn_none rfl) rfl rfl (yl_extract hF rfl rfl rfl) ?_
                clear hF; intro a hF
                refine seq_yl hF (wn_none rfl) rfl rfl (yl_extract hF rfl rfl rfl) ?_
                clear hF; intro a hF
                have hrun := push_run hp346 hpq0 (by omega) ⟨rfl, by (try dsimp only); omega, by (try dsimp only); omega, by (try dsimp only); omega, by (try dsimp only); omega⟩ (by omega) (by omega) (by omega) (by omega); dsimp only at hrun; rcases hrun with ⟨hfull, her⟩ | ⟨her, hroom, hdd, hlen, hpq, hhh, en, hLL, hlast, hcase⟩
                · skip
                  replace hF := fr_seti (b' := 3) hF (by assumption)
                  refine seq_wp (wn_none rfl) (wp_alloc (cs := #[_, _, _, _]) hF hS rfl rfl rfl zr25 rfl ?_)
                  clear hF hS; intro a w g347 hF hS
                  refine seq_wp (wn_none rfl) (wp_store (cs' := #[_, _, _, _]) hF hS rfl rfl rfl rfl 0 rfl sz25 (by simp [Value.cells, Value.oneCell']) (by simp [Value.cells]) rfl ?_)
                  clear hF hS; intro a w hF hS
                  refine seq_yl hF (wn_none rfl) rfl rfl (yl_assign hF rfl rfl) ?_
                  clear hF; intro a hF
                  refine wpList_nil ?_
                  refine then_n ?_
                  refine c_seq ?_
                  refine c_region ?_
                  refine seq_yl hF (wn_none rfl) rfl rfl (yl_move hF rfl rfl) ?_
                  clear hF; intro a hF
                  refine seq_yl hF (wn_none rfl) rfl rfl (yl_bin hF rfl rfl rfl rfl (fun _ => run_eql)) ?_
                  clear hF; intro a hF
                  replace hF := fr_set (b' := false) hF (by decide)
                  refine wpList_nil ?_
                  refine then_n ?_
                  refine c_cond_f hF rfl ?_
                  refine wp_skip ?_
                  refine inb_n ?_
                  refine then_n ?_
                  refine c_region ?_
                  refine seq_yl hF (wn_none rfl) rfl rfl (yl_move hF rfl rfl) ?_
                  clear hF; intro a hF
                  refine seq_yl hF (wn_none rfl) rfl rfl (yl_bin hF rfl rfl rfl rfl (fun _ => run_inc (by omega))) ?_
                  clear hF; intro a hF
                  refine seq_yl hF (wn_none rfl) rfl rfl (yl_assign hF rfl rfl) ?_
                  clear hF; intro a hF
                  refine wpList_nil ?_
                  refine then_n ?_
                  exact ⟨_, (by omega), i + 1, (((now) + ((rnd (x289) (7 : Int))))), Q, AvQ, cvQ, rfl, ⟨by omega, by omega, by omega, pq_mono hpq0⟩, hF.to [0, 1, 4, 5, 6, 7, 8, 9, 10] rfl, (hS.sub [3, 4, 5, 6, 7, 8] (by decide) (by first | rfl | simp) (by simp))⟩
                · skip
                  replace hF := fr_seti (b' := 0) hF (by assumption)
                  refine seq_wp (wn_none rfl) (wp_alloc (cs := #[_, _, _, _]) hF hS rfl rfl rfl zr25 rfl ?_)
                  clear hF hS; intro a w g348 hF hS
                  refine seq_wp (wn_none rfl) (wp_store (cs' := #[_, _, _, _]) hF hS rfl rfl rfl rfl 0 rfl sz25 (by simp [Value.cells, Value.oneCell']) (by simp [Value.cells]) rfl ?_)
                  clear hF hS; intro a w hF hS
                  refine seq_yl hF (wn_none rfl) rfl rfl (yl_assign hF rfl rfl) ?_
                  clear hF; intro a hF
                  refine wpList_nil ?_
                  refine then_n ?_
                  refine c_seq ?_
                  refine c_region ?_
                  refine seq_yl hF (wn_none rfl) rfl rfl (yl_move hF rfl rfl) ?_
                  clear hF; intro a hF
                  refine seq_yl hF (wn_none rfl) rfl rfl (yl_bin hF rfl rfl rfl rfl (fun _ => run_eql)) ?_
                  clear hF; intro a hF
                  replace hF := fr_set (b' := true) hF (by decide)
                  refine wpList_nil ?_
                  refine then_n ?_
                  refine c_cond_t hF rfl ?_
                  refine c_region ?_
                  refine seq_yl hF (wn_none rfl) rfl rfl (yl_loadK (rs := [_, _, _, _]) (fun _ h => h ▸ hS) hF rfl rfl 0 rfl ag25 sz25 rfl rfl) ?_
                  clear hF; intro a hF
                  refine seq_wp (wn_none rfl) (wp_store (cs' := #[_, _, _, _]) hF hS rfl rfl rfl rfl 7 rfl sz25 (by simp [Value.cells, Value.oneCell']) (by simp [Value.cells]) rfl ?_)
                  clear hF hS; intro a w hF hS
                  refine wpList_nil ?_
                  refine inb_n ?_
                  refine then_n ?_
                  refine c_region ?_
                  refine seq_yl hF (wn_none rfl) rfl rfl (yl_move hF rfl rfl) ?_
                  clear hF; intro a hF
                  refine seq_yl hF (wn_none rfl) rfl rfl (yl_bin hF rfl rfl rfl rfl (fun _ => run_inc (by omega))) ?_
                  clear hF; intro a hF
                  refine seq_yl hF (wn_none rfl) rfl rfl (yl_assign hF rfl rfl) ?_
                  clear hF; intro a hF
                  refine wpList_nil ?_
                  refine then_n ?_
                  exact ⟨_, (by omega), i + 1, (((now) + ((rnd (x289) (7 : Int))))), (Qu.mk (d340) (h341) (f342) L344), Av345, cv345, rfl, ⟨by omega, by omega, by omega, hpq⟩, hF.to [0, 1, 4, 5, 6, 7, 8, 9, 10] rfl, (hS.sub [3, 4, 5, 6, 7, 1] (by decide) (by first | rfl | simp) (by simp))⟩
            · skip
              refine ha_op 28 rfl (wn_none rfl) (wp_alloc (cs := #[_, _, _, _, _, _, _, _, _, _, _, _]) hF hS rfl rfl rfl zr39 rfl ?_)
              clear hF hS; intro a w g349 hF hS
              replace hSS := hS.sub [4] (by decide) rfl (by simp)
              refine ⟨.inr hSS, ?_⟩
              have hr350 := rnd_bounds (((x289) / 1024)) (5 : Int) (by omega)
              refine ha_one 19 (by kernel_rfl) rfl (wn_none rfl) (wp_call (vs := [_, _]) hF rfl rfl rfl rfl cf11 (round_any (((x289) / 1024)) (5 : Int) _ (by omega)) ?_)
              clear hF; rintro _ w ⟨rfl, hS1⟩ a hF
              replace hS := hS.callB hS1 rfl; clear hS1
              replace hSS := hS.sub [4] (by decide) rfl (by simp)
              refine ⟨.inr hSS, ?_⟩
              refine ha_one 25 (by kernel_rfl) rfl (wn_none rfl) (wp_call (vs := [_]) hF rfl rfl rfl rfl cf12 (rule_any (((x289) / 8192)) _) ?_)
              clear hF; rintro _ w ⟨k351, f352, l353, s354, t355, er356, dn357, hf358, dl359, rfl, hb360, hb361, hb362, hb363, hb364, hb365, hb366, hb367, hS1⟩ a hF
              replace hS := hS.callB hS1 rfl; clear hS1
              replace hSS := hS.sub [4] (by decide) rfl (by simp)
              refine ⟨.inr hSS, ?_⟩
              refine ha_y 26 hF rfl rfl rfl (wn_none rfl) (.inr hSS) (yl_field hF rfl rfl (fun w => by kernel_rfl : ∀ w, (Instr.field 36 (.agg #[.int .i64 (k351), .int .i64 (f352), .int .i64 (l353), .int .i64 (s354), .int .i64 (t355), .int .i64 (er356), .int .i64 (dn357), .bool hf358, .int .i64 (dl359)]) 5).run Try.prog w = .ok (.agg #[.int .i64 (er356), .int .i64 (dn357), .bool hf358, .int .i64 (dl359)]) w)) ?_
              clear hF; intro a hF
              refine ha_y 27 hF rfl rfl rfl (wn_none rfl) (.inr hSS) (yl_build (parts := [(0, .tmp 46), (1, .tmp 53), (2, .tmp 59), (3, .tmp 65), (8, .tmp 72)]) (vs := [(0, _), (1, _), (2, _), (3, _), (8, _)]) (cs := [_, _, _, _, _, _, _, _, _, _, _, _]) hF bd39 rfl rfl rfl rfl) ?_
              clear hF; intro a hF
              refine ha_one 29 (by kernel_rfl) rfl (wn_none rfl) (wp_store (cs' := #[_, _, _, _, _, _, _, _, _, _, _, _]) hF hS rfl rfl rfl rfl 0 rfl sz39 (by simp [Value.cells, Value.oneCell']) (by simp [Value.cells]) rfl ?_)
              clear hF hS; intro a w hF hS
              replace hSS := hS.sub [4] (by decide) rfl (by simp)
              refine ⟨.inr hSS, ?_⟩
              refine ha_done (by kernel_rfl) ?_ _
              refine then_n ?_
              refine c_seq ?_
              refine c_region ?_
              refine seq_yl hF (wn_none rfl) rfl rfl (yl_loadK (rs := [_, _, _, _]) (fun _ h => h ▸ hS) hF rfl rfl 5 rfl ag25 sz25 rfl rfl) ?_
              clear hF; intro a hF
              refine seq_yl hF (wn_none rfl) rfl rfl (yl_loadK (rs := [_, _, _]) (fun _ h => h ▸ hS) hF rfl rfl 3 rfl ag27 sz27 rfl rfl) ?_
              clear hF; intro a hF
              refine seq_yl hF (wn_none rfl) rfl rfl (yl_move hF rfl rfl) ?_
              clear hF; intro a hF
              refine seq_yl hF (wn_none rfl) rfl rfl (yl_loadK (rs := [_, _, _, _, _, _, _, _, _, _, _, _]) (fun _ h => h ▸ hS) hF rfl rfl 0 rfl ag39 sz39 rfl rfl) ?_
              clear hF; intro a hF
              refine seq_wp (wn_none rfl) (wp_call (vs := [_, _, _, _]) hF rfl rfl rfl rfl cf22 (push2_any (Qu.mk (Q.d) (Q.h) (Q.f) Q.L) (((1 : Int) + ((rnd (n) (4 : Int))))) ((rnd (((n) / 8)) (3 : Int))) ((rnd (((n) / 32)) (3 : Int))) (((now) + ((rnd (x289) (7 : Int))))) (E39.mk ((i : Nat) : Int) (((1 : Int) + ((rnd (((x289) / 8)) (3 : Int))))) ((rnd (((x289) / 32)) (20 : Int))) ((rnd (((x289) / 1024)) (5 : Int))) (⟨#[]⟩) false (0 : Int) (0 : Int) (er356) (dn357) hf358 (dl359)) _ _ (hS.rdRow 6 rfl) (by first | omega | (simp; done) | (simp; omega))) ?_)
              clear hF; rintro _ w ⟨d368, h369, f370, er371, v373, L372, rfl, hp374, hS1⟩ a hF
              replace hS := hS.callB hS1 rfl; clear hS1
              obtain ⟨Av373, cv373, rfl⟩ := hS.form 0 rfl
              refine seq_yl hF (wn_none rfl) rfl rfl (yl_move hF rfl rfl) ?_
              clear hF; intro a hF
              refine seq_yl hF (wn_none rfl) rfl rfl (yl_extract hF rfl rfl rfl) ?_
              clear hF; intro a hF
              refine seq_yl hF (wn_none rfl) rfl rfl (yl_extract hF rfl rfl rfl) ?_
              clear hF; intro a hF
              have hrun := push_run hp374 hpq0 (by omega) ⟨rfl, by (try dsimp only); omega, by (try dsimp only); omega, by (try dsimp only); omega, by (try dsimp only); omega⟩ (by omega) (by omega) (by omega) (by omega); dsimp only at hrun; rcases hrun with ⟨hfull, her⟩ | ⟨her, hroom, hdd, hlen, hpq, hhh, en, hLL, hlast, hcase⟩
              · skip
                replace hF := fr_seti (b' := 3) hF (by assumption)
                refine seq_wp (wn_none rfl) (wp_alloc (cs := #[_, _, _, _]) hF hS rfl rfl rfl zr25 rfl ?_)
                clear hF hS; intro a w g375 hF hS
                refine seq_wp (wn_none rfl) (wp_store (cs' := #[_, _, _, _]) hF hS rfl rfl rfl rfl 0 rfl sz25 (by simp [Value.cells, Value.oneCell']) (by simp [Value.cells]) rfl ?_)
                clear hF hS; intro a w hF hS
                refine seq_yl hF (wn_none rfl) rfl rfl (yl_assign hF rfl rfl) ?_
                clear hF; intro a hF
                refine wpList_nil ?_
                refine then_n ?_
                refine c_seq ?_
                refine c_region ?_
                refine seq_yl hF (wn_none rfl) rfl rfl (yl_move hF rfl rfl) ?_
                clear hF; intro a hF
                refine seq_yl hF (wn_none rfl) rfl rfl (yl_bin hF rfl rfl rfl rfl (fun _ => run_eql)) ?_
                clear hF; intro a hF
                replace hF := fr_set (b' := false) hF (by decide)
                refine wpList_nil ?_
                refine then_n ?_
                refine c_cond_f hF rfl ?_
                refine wp_skip ?_
                refine inb_n ?_
                refine then_n ?_
                refine c_region ?_
                refine seq_yl hF (wn_none rfl) rfl rfl (yl_move hF rfl rfl) ?_
                clear hF; intro a hF
                refine seq_yl hF (wn_none rfl) rfl rfl (yl_bin hF rfl rfl rfl rfl (fun _ => run_inc (by omega))) ?_
                clear hF; intro a hF
                refine seq_yl hF (wn_none rfl) rfl rfl (yl_assign hF rfl rfl) ?_
                clear hF; intro a hF
                refine wpList_nil ?_
                refine then_n ?_
                exact ⟨_, (by omega), i + 1, (((now) + ((rnd (x289) (7 : Int))))), Q, AvQ, cvQ, rfl, ⟨by omega, by omega, by omega, pq_mono hpq0⟩, hF.to [0, 1, 4, 5, 6, 7, 8, 9, 10] rfl, (hS.sub [3, 4, 5, 6, 7, 8] (by decide) (by first | rfl | simp) (by simp))⟩
              · skip
                replace hF := fr_seti (b' := 0) hF (by assumption)
                refine seq_wp (wn_none rfl) (wp_alloc (cs := #[_, _, _, _]) hF hS rfl rfl rfl zr25 rfl ?_)
                clear hF hS; intro a w g376 hF hS
                refine seq_wp (wn_none rfl) (wp_store (cs' := #[_, _, _, _]) hF hS rfl rfl rfl rfl 0 rfl sz25 (by simp [Value.cells, Value.oneCell']) (by simp [Value.cells]) rfl ?_)
                clear hF hS; intro a w hF hS
                refine seq_yl hF (wn_none rfl) rfl rfl (yl_assign hF rfl rfl) ?_
                clear hF; intro a hF
                refine wpList_nil ?_
                refine then_n ?_
                refine c_seq ?_
                refine c_region ?_
                refine seq_yl hF (wn_none rfl) rfl rfl (yl_move hF rfl rfl) ?_
                clear hF; intro a hF
                refine seq_yl hF (wn_none rfl) rfl rfl (yl_bin hF rfl rfl rfl rfl (fun _ => run_eql)) ?_
                clear hF; intro a hF
                replace hF := fr_set (b' := true) hF (by decide)
                refine wpList_nil ?_
                refine then_n ?_
                refine c_cond_t hF rfl ?_
                refine c_region ?_
                refine seq_yl hF (wn_none rfl) rfl rfl (yl_loadK (rs := [_, _, _, _]) (fun _ h => h ▸ hS) hF rfl rfl 0 rfl ag25 sz25 rfl rfl) ?_
                clear hF; intro a hF
                refine seq_wp (wn_none rfl) (wp_store (cs' := #[_, _, _, _]) hF hS rfl rfl rfl rfl 7 rfl sz25 (by simp [Value.cells, Value.oneCell']) (by simp [Value.cells]) rfl ?_)
                clear hF hS; intro a w hF hS
                refine wpList_nil ?_
                refine inb_n ?_
                refine then_n ?_
                refine c_region ?_
                refine seq_yl hF (wn_none rfl) rfl rfl (yl_move hF rfl rfl) ?_
                clear hF; intro a hF
                refine seq_yl hF (wn_none rfl) rfl rfl (yl_bin hF rfl rfl rfl rfl (fun _ => run_inc (by omega))) ?_
                clear hF; intro a hF
                refine seq_yl hF (wn_none rfl) rfl rfl (yl_assign hF rfl rfl) ?_
                clear hF; intro a hF
                refine wpList_nil ?_
                refine then_n ?_
                exact ⟨_, (by omega), i + 1, (((now) + ((rnd (x289) (7 : Int))))), (Qu.mk (d368) (h369) (f370) L372), Av373, cv373, rfl, ⟨by omega, by omega, by omega, hpq⟩, hF.to [0, 1, 4, 5, 6, 7, 8, 9, 10] rfl, (hS.sub [3, 4, 5, 6, 7, 1] (by decide) (by first | rfl | simp) (by simp))⟩
          · skip
            refine ha_op 28 rfl (wn_none rfl) (wp_alloc (cs := #[_, _, _, _, _, _, _, _, _, _, _, _]) hF hS rfl rfl rfl zr39 rfl ?_)
            clear hF hS; intro a w g377 hF hS
            replace hSS := hS.sub [4] (by decide) rfl (by simp)
            refine ⟨.inr hSS, ?_⟩
            have hr378 := rnd_bounds (((x289) / 32)) (20 : Int) (by omega)
            refine ha_one 13 (by kernel_rfl) rfl (wn_none rfl) (wp_call (vs := [_, _]) hF rfl rfl rfl rfl cf11 (round_any (((x289) / 32)) (20 : Int) _ (by omega)) ?_)
            clear hF; rintro _ w ⟨rfl, hS1⟩ a hF
            replace hS := hS.callB hS1 rfl; clear hS1
            replace hSS := hS.sub [4] (by decide) rfl (by simp)
            refine ⟨.inr hSS, ?_⟩
            have hr379 := rnd_bounds (((x289) / 1024)) (5 : Int) (by omega)
            refine ha_one 19 (by kernel_rfl) rfl (wn_none rfl) (wp_call (vs := [_, _]) hF rfl rfl rfl rfl cf11 (round_any (((x289) / 1024)) (5 : Int) _ (by omega)) ?_)
            clear hF; rintro _ w ⟨rfl, hS1⟩ a hF
            replace hS := hS.callB hS1 rfl; clear hS1
            replace hSS := hS.sub [4] (by decide) rfl (by simp)
            refine ⟨.inr hSS, ?_⟩
            refine ha_one 25 (by kernel_rfl) rfl (wn_none rfl) (wp_call (vs := [_]) hF rfl rfl rfl rfl cf12 (rule_any (((x289) / 8192)) _) ?_)
            clear hF; rintro _ w ⟨k380, f381, l382, s383, t384, er385, dn386, hf387, dl388, rfl, hb389, hb390, hb391, hb392, hb393, hb394, hb395, hb396, hS1⟩ a hF
            replace hS := hS.callB hS1 rfl; clear hS1
            replace hSS := hS.sub [4] (by decide) rfl (by simp)
            refine ⟨.inr hSS, ?_⟩
            refine ha_y 26 hF rfl rfl rfl (wn_none rfl) (.inr hSS) (yl_field hF rfl rfl (fun w => by kernel_rfl : ∀ w, (Instr.field 36 (.agg #[.int .i64 (k380), .int .i64 (f381), .int .i64 (l382), .int .i64 (s383), .int .i64 (t384), .int .i64 (er385), .int .i64 (dn386), .bool hf387, .int .i64 (dl388)]) 5).run Try.prog w = .ok (.agg #[.int .i64 (er385), .int .i64 (dn386), .bool hf387, .int .i64 (dl388)]) w)) ?_
            clear hF; intro a hF
            refine ha_y 27 hF rfl rfl rfl (wn_none rfl) (.inr hSS) (yl_build (parts := [(0, .tmp 46), (1, .tmp 53), (2, .tmp 59), (3, .tmp 65), (8, .tmp 72)]) (vs := [(0, _), (1, _), (2, _), (3, _), (8, _)]) (cs := [_, _, _, _, _, _, _, _, _, _, _, _]) hF bd39 rfl rfl rfl rfl) ?_
            clear hF; intro a hF
            refine ha_one 29 (by kernel_rfl) rfl (wn_none rfl) (wp_store (cs' := #[_, _, _, _, _, _, _, _, _, _, _, _]) hF hS rfl rfl rfl rfl 0 rfl sz39 (by simp [Value.cells, Value.oneCell']) (by simp [Value.cells]) rfl ?_)
            clear hF hS; intro a w hF hS
            replace hSS := hS.sub [4] (by decide) rfl (by simp)
            refine ⟨.inr hSS, ?_⟩
            refine ha_done (by kernel_rfl) ?_ _
            refine then_n ?_
            refine c_seq ?_
            refine c_region ?_
            refine seq_yl hF (wn_none rfl) rfl rfl (yl_loadK (rs := [_, _, _, _]) (fun _ h => h ▸ hS) hF rfl rfl 5 rfl ag25 sz25 rfl rfl) ?_
            clear hF; intro a hF
            refine seq_yl hF (wn_none rfl) rfl rfl (yl_loadK (rs := [_, _, _]) (fun _ h => h ▸ hS) hF rfl rfl 3 rfl ag27 sz27 rfl rfl) ?_
            clear hF; intro a hF
            refine seq_yl hF (wn_none rfl) rfl rfl (yl_move hF rfl rfl) ?_
            clear hF; intro a hF
            refine seq_yl hF (wn_none rfl) rfl rfl (yl_loadK (rs := [_, _, _, _, _, _, _, _, _, _, _, _]) (fun _ h => h ▸ hS) hF rfl rfl 0 rfl ag39 sz39 rfl rfl) ?_
            clear hF; intro a hF
            refine seq_wp (wn_none rfl) (wp_call (vs := [_, _, _, _]) hF rfl rfl rfl rfl cf22 (push2_any (Qu.mk (Q.d) (Q.h) (Q.f) Q.L) (((1 : Int) + ((rnd (n) (4 : Int))))) ((rnd (((n) / 8)) (3 : Int))) ((rnd (((n) / 32)) (3 : Int))) (((now) + ((rnd (x289) (7 : Int))))) (E39.mk ((i : Nat) : Int) (((1 : Int) + ((rnd (((x289) / 8)) (3 : Int))))) ((rnd (((x289) / 32)) (20 : Int))) ((rnd (((x289) / 1024)) (5 : Int))) (⟨#[]⟩) false (0 : Int) (0 : Int) (er385) (dn386) hf387 (dl388)) _ _ (hS.rdRow 6 rfl) (by first | omega | (simp; done) | (simp; omega))) ?_)
            clear hF; rintro _ w ⟨d397, h398, f399, er400, v402, L401, rfl, hp403, hS1⟩ a hF
            replace hS := hS.callB hS1 rfl; clear hS1
            obtain ⟨Av402, cv402, rfl⟩ := hS.form 0 rfl
            refine seq_yl hF (wn_none rfl) rfl rfl (yl_move hF rfl rfl) ?_
            clear hF; intro a hF
            refine seq_yl hF (wn_none rfl) rfl rfl (yl_extract hF rfl rfl rfl) ?_
            clear hF; intro a hF
            refine seq_yl hF (wn_none rfl) rfl rfl (yl_extract hF rfl rfl rfl) ?_
            clear hF; intro a hF
            have hrun := push_run hp403 hpq0 (by omega) ⟨rfl, by (try dsimp only); omega, by (try dsimp only); omega, by (try dsimp only); omega, by (try dsimp only); omega⟩ (by omega) (by omega) (by omega) (by omega); dsimp only at hrun; rcases hrun with ⟨hfull, her⟩ | ⟨her, hroom, hdd, hlen, hpq, hhh, en, hLL, hlast, hcase⟩
            · skip
              replace hF := fr_seti (b' := 3) hF (by assumption)
              refine seq_wp (wn_none rfl) (wp_alloc (cs := #[_, _, _, _]) hF hS rfl rfl rfl zr25 rfl ?_)
              clear hF hS; intro a w g404 hF hS
              refine seq_wp (wn_none rfl) (wp_store (cs' := #[_, _, _, _]) hF hS rfl rfl rfl rfl 0 rfl sz25 (by simp [Value.cells, Value.oneCell']) (by simp [Value.cells]) rfl ?_)
              clear hF hS; intro a w hF hS
              refine seq_yl hF (wn_none rfl) rfl rfl (yl_assign hF rfl rfl) ?_
              clear hF; intro a hF
              refine wpList_nil ?_
              refine then_n ?_
              refine c_seq ?_
              refine c_region ?_
              refine seq_yl hF (wn_none rfl) rfl rfl (yl_move hF rfl rfl) ?_
              clear hF; intro a hF
              refine seq_yl hF (wn_none rfl) rfl rfl (yl_bin hF rfl rfl rfl rfl (fun _ => run_eql)) ?_
              clear hF; intro a hF
              replace hF := fr_set (b' := false) hF (by decide)
              refine wpList_nil ?_
              refine then_n ?_
              refine c_cond_f hF rfl ?_
              refine wp_skip ?_
              refine inb_n ?_
              refine then_n ?_
              refine c_region ?_
              refine seq_yl hF (wn_none rfl) rfl rfl (yl_move hF rfl rfl) ?_
              clear hF; intro a hF
              refine seq_yl hF (wn_none rfl) rfl rfl (yl_bin hF rfl rfl rfl rfl (fun _ => run_inc (by omega))) ?_
              clear hF; intro a hF
              refine seq_yl hF (wn_none rfl) rfl rfl (yl_assign hF rfl rfl) ?_
              clear hF; intro a hF
              refine wpList_nil ?_
              refine then_n ?_
              exact ⟨_, (by omega), i + 1, (((now) + ((rnd (x289) (7 : Int))))), Q, AvQ, cvQ, rfl, ⟨by omega, by omega, by omega, pq_mono hpq0⟩, hF.to [0, 1, 4, 5, 6, 7, 8, 9, 10] rfl, (hS.sub [3, 4, 5, 6, 7, 8] (by decide) (by first | rfl | simp) (by simp))⟩
            · skip
              replace hF := fr_seti (b' := 0) hF (by assumption)
              refine seq_wp (wn_none rfl) (wp_alloc (cs := #[_, _, _, _]) hF hS rfl rfl rfl zr25 rfl ?_)
              clear hF hS; intro a w g405 hF hS
              refine seq_wp (wn_none rfl) (wp_store (cs' := #[_, _, _, _]) hF hS rfl rfl rfl rfl 0 rfl sz25 (by simp [Value.cells, Value.oneCell']) (by simp [Value.cells]) rfl ?_)
              clear hF hS; intro a w hF hS
              refine seq_yl hF (wn_none rfl) rfl rfl (yl_assign hF rfl rfl) ?_
              clear hF; intro a hF
              refine wpList_nil ?_
              refine then_n ?_
              refine c_seq ?_
              refine c_region ?_
              refine seq_yl hF (wn_none rfl) rfl rfl (yl_move hF rfl rfl) ?_
              clear hF; intro a hF
              refine seq_yl hF (wn_none rfl) rfl rfl (yl_bin hF rfl rfl rfl rfl (fun _ => run_eql)) ?_
              clear hF; intro a hF
              replace hF := fr_set (b' := true) hF (by decide)
              refine wpList_nil ?_
              refine then_n ?_
              refine c_cond_t hF rfl ?_
              refine c_region ?_
              refine seq_yl hF (wn_none rfl) rfl rfl (yl_loadK (rs := [_, _, _, _]) (fun _ h => h ▸ hS) hF rfl rfl 0 rfl ag25 sz25 rfl rfl) ?_
              clear hF; intro a hF
              refine seq_wp (wn_none rfl) (wp_store (cs' := #[_, _, _, _]) hF hS rfl rfl rfl rfl 7 rfl sz25 (by simp [Value.cells, Value.oneCell']) (by simp [Value.cells]) rfl ?_)
              clear hF hS; intro a w hF hS
              refine wpList_nil ?_
              refine inb_n ?_
              refine then_n ?_
              refine c_region ?_
              refine seq_yl hF (wn_none rfl) rfl rfl (yl_move hF rfl rfl) ?_
              clear hF; intro a hF
              refine seq_yl hF (wn_none rfl) rfl rfl (yl_bin hF rfl rfl rfl rfl (fun _ => run_inc (by omega))) ?_
              clear hF; intro a hF
              refine seq_yl hF (wn_none rfl) rfl rfl (yl_assign hF rfl rfl) ?_
              clear hF; intro a hF
              refine wpList_nil ?_
              refine then_n ?_
              exact ⟨_, (by omega), i + 1, (((now) + ((rnd (x289) (7 : Int))))), (Qu.mk (d397) (h398) (f399) L401), Av402, cv402, rfl, ⟨by omega, by omega, by omega, hpq⟩, hF.to [0, 1, 4, 5, 6, 7, 8, 9, 10] rfl, (hS.sub [3, 4, 5, 6, 7, 1] (by decide) (by first | rfl | simp) (by simp))⟩
        · skip
          refine ha_op 28 rfl (wn_none rfl) (wp_alloc (cs := #[_, _, _, _, _, _, _, _, _, _, _, _]) hF hS rfl rfl rfl zr39 rfl ?_)
          clear hF hS; intro a w g406 hF hS
          replace hSS := hS.sub [4] (by decide) rfl (by simp)
          refine ⟨.inr hSS, ?_⟩
          have hr407 := rnd_bounds (((x289) / 8)) (3 : Int) (by omega)
          refine ha_one 6 (by kernel_rfl) rfl (wn_none rfl) (wp_call (vs := [_, _]) hF rfl rfl rfl rfl cf11 (round_any (((x289) / 8)) (3 : Int) _ (by omega)) ?_)
          clear hF; rintro _ w ⟨rfl, hS1⟩ a hF
          replace hS := hS.callB hS1 rfl; clear hS1
          replace hSS := hS.sub [4] (by decide) rfl (by simp)
          refine ⟨.inr hSS, ?_⟩
          refine ha_y 7 hF rfl rfl rfl (wn_none rfl) (.inr hSS) (yl_bin hF rfl rfl rfl rfl (fun _ => run_add (by refine ⟨?_, ?_⟩ <;> omega))) ?_
          clear hF; intro a hF
          have hr408 := rnd_bounds (((x289) / 32)) (20 : Int) (by omega)
          refine ha_one 13 (by kernel_rfl) rfl (wn_none rfl) (wp_call (vs := [_, _]) hF rfl rfl rfl rfl cf11 (round_any (((x289) / 32)) (20 : Int) _ (by omega)) ?_)
          clear hF; rintro _ w ⟨rfl, hS1⟩ a hF
          replace hS := hS.callB hS1 rfl; clear hS1
          replace hSS := hS.sub [4] (by decide) rfl (by simp)
          refine ⟨.inr hSS, ?_⟩
          have hr409 := rnd_bounds (((x289) / 1024)) (5 : Int) (by omega)
          refine ha_one 19 (by kernel_rfl) rfl (wn_none rfl) (wp_call (vs := [_, _]) hF rfl rfl rfl rfl cf11 (round_any (((x289) / 1024)) (5 : Int) _ (by omega)) ?_)
          clear hF; rintro _ w ⟨rfl, hS1⟩ a hF
          replace hS := hS.callB hS1 rfl; clear hS1
          replace hSS := hS.sub [4] (by decide) rfl (by simp)
          refine ⟨.inr hSS, ?_⟩
          refine ha_one 25 (by kernel_rfl) rfl (wn_none rfl) (wp_call (vs := [_]) hF rfl rfl rfl rfl cf12 (rule_any (((x289) / 8192)) _) ?_)
          clear hF; rintro _ w ⟨k410, f411, l412, s413, t414, er415, dn416, hf417, dl418, rfl, hb419, hb420, hb421, hb422, hb423, hb424, hb425, hb426, hS1⟩ a hF
          replace hS := hS.callB hS1 rfl; clear hS1
          replace hSS := hS.sub [4] (by decide) rfl (by simp)
          refine ⟨.inr hSS, ?_⟩
          refine ha_y 26 hF rfl rfl rfl (wn_none rfl) (.inr hSS) (yl_field hF rfl rfl (fun w => by kernel_rfl : ∀ w, (Instr.field 36 (.agg #[.int .i64 (k410), .int .i64 (f411), .int .i64 (l412), .int .i64 (s413), .int .i64 (t414), .int .i64 (er415), .int .i64 (dn416), .bool hf417, .int .i64 (dl418)]) 5).run Try.prog w = .ok (.agg #[.int .i64 (er415), .int .i64 (dn416), .bool hf417, .int .i64 (dl418)]) w)) ?_
          clear hF; intro a hF
          refine ha_y 27 hF rfl rfl rfl (wn_none rfl) (.inr hSS) (yl_build (parts := [(0, .tmp 46), (1, .tmp 53), (2, .tmp 59), (3, .tmp 65), (8, .tmp 72)]) (vs := [(0, _), (1, _), (2, _), (3, _), (8, _)]) (cs := [_, _, _, _, _, _, _, _, _, _, _, _]) hF bd39 rfl rfl rfl rfl) ?_
          clear hF; intro a hF
          refine ha_one 29 (by kernel_rfl) rfl (wn_none rfl) (wp_store (cs' := #[_, _, _, _, _, _, _, _, _, _, _, _]) hF hS rfl rfl rfl rfl 0 rfl sz39 (by simp [Value.cells, Value.oneCell']) (by simp [Value.cells]) rfl ?_)
          clear hF hS; intro a w hF hS
          replace hSS := hS.sub [4] (by decide) rfl (by simp)
          refine ⟨.inr hSS, ?_⟩
          refine ha_done (by kernel_rfl) ?_ _
          refine then_n ?_
          refine c_seq ?_
          refine c_region ?_
          refine seq_yl hF (wn_none rfl) rfl rfl (yl_loadK (rs := [_, _, _, _]) (fun _ h => h ▸ hS) hF rfl rfl 5 rfl ag25 sz25 rfl rfl) ?_
          clear hF; intro a hF
          refine seq_yl hF (wn_none rfl) rfl rfl (yl_loadK (rs := [_, _, _]) (fun _ h => h ▸ hS) hF rfl rfl 3 rfl ag27 sz27 rfl rfl) ?_
          clear hF; intro a hF
          refine seq_yl hF (wn_none rfl) rfl rfl (yl_move hF rfl rfl) ?_
          clear hF; intro a hF
          refine seq_yl hF (wn_none rfl) rfl rfl (yl_loadK (rs := [_, _, _, _, _, _, _, _, _, _, _, _]) (fun _ h => h ▸ hS) hF rfl rfl 0 rfl ag39 sz39 rfl rfl) ?_
          clear hF; intro a hF
          refine seq_wp (wn_none rfl) (wp_call (vs := [_, _, _, _]) hF rfl rfl rfl rfl cf22 (push2_any (Qu.mk (Q.d) (Q.h) (Q.f) Q.L) (((1 : Int) + ((rnd (n) (4 : Int))))) ((rnd (((n) / 8)) (3 : Int))) ((rnd (((n) / 32)) (3 : Int))) (((now) + ((rnd (x289) (7 : Int))))) (E39.mk ((i : Nat) : Int) (((1 : Int) + ((rnd (((x289) / 8)) (3 : Int))))) ((rnd (((x289) / 32)) (20 : Int))) ((rnd (((x289) / 1024)) (5 : Int))) (⟨#[]⟩) false (0 : Int) (0 : Int) (er415) (dn416) hf417 (dl418)) _ _ (hS.rdRow 6 rfl) (by first | omega | (simp; done) | (simp; omega))) ?_)
          clear hF; rintro _ w ⟨d427, h428, f429, er430, v432, L431, rfl, hp433, hS1⟩ a hF
          replace hS := hS.callB hS1 rfl; clear hS1
          obtain ⟨Av432, cv432, rfl⟩ := hS.form 0 rfl
          refine seq_yl hF (wn_none rfl) rfl rfl (yl_move hF rfl rfl) ?_
          clear hF; intro a hF
          refine seq_yl hF (wn_none rfl) rfl rfl (yl_extract hF rfl rfl rfl) ?_
          clear hF; intro a hF
          refine seq_yl hF (wn_none rfl) rfl rfl (yl_extract hF rfl rfl rfl) ?_
          clear hF; intro a hF
          have hrun := push_run hp433 hpq0 (by omega) ⟨rfl, by (try dsimp only); omega, by (try dsimp only); omega, by (try dsimp only); omega, by (try dsimp only); omega⟩ (by omega) (by omega) (by omega) (by omega); dsimp only at hrun; rcases hrun with ⟨hfull, her⟩ | ⟨her, hroom, hdd, hlen, hpq, hhh, en, hLL, hlast, hcase⟩
          · skip
            replace hF := fr_seti (b' := 3) hF (by assumption)
            refine seq_wp (wn_none rfl) (wp_alloc (cs := #[_, _, _, _]) hF hS rfl rfl rfl zr25 rfl ?_)
            clear hF hS; intro a w g434 hF hS
            refine seq_wp (wn_none rfl) (wp_store (cs' := #[_, _, _, _]) hF hS rfl rfl rfl rfl 0 rfl sz25 (by simp [Value.cells, Value.oneCell']) (by simp [Value.cells]) rfl ?_)
            clear hF hS; intro a w hF hS
            refine seq_yl hF (wn_none rfl) rfl rfl (yl_assign hF rfl rfl) ?_
            clear hF; intro a hF
            refine wpList_nil ?_
            refine then_n ?_
            refine c_seq ?_
            refine c_region ?_
            refine seq_yl hF (wn_none rfl) rfl rfl (yl_move hF rfl rfl) ?_
            clear hF; intro a hF
            refine seq_yl hF (wn_none rfl) rfl rfl (yl_bin hF rfl rfl rfl rfl (fun _ => run_eql)) ?_
            clear hF; intro a hF
            replace hF := fr_set (b' := false) hF (by decide)
            refine wpList_nil ?_
            refine then_n ?_
            refine c_cond_f hF rfl ?_
            refine wp_skip ?_
            refine inb_n ?_
            refine then_n ?_
            refine c_region ?_
            refine seq_yl hF (wn_none rfl) rfl rfl (yl_move hF rfl rfl) ?_
            clear hF; intro a hF
            refine seq_yl hF (wn_none rfl) rfl rfl (yl_bin hF rfl rfl rfl rfl (fun _ => run_inc (by omega))) ?_
            clear hF; intro a hF
            refine seq_yl hF (wn_none rfl) rfl rfl (yl_assign hF rfl rfl) ?_
            clear hF; intro a hF
            refine wpList_nil ?_
            refine then_n ?_
            exact ⟨_, (by omega), i + 1, (((now) + ((rnd (x289) (7 : Int))))), Q, AvQ, cvQ, rfl, ⟨by omega, by omega, by omega, pq_mono hpq0⟩, hF.to [0, 1, 4, 5, 6, 7, 8, 9, 10] rfl, (hS.sub [3, 4, 5, 6, 7, 8] (by decide) (by first | rfl | simp) (by simp))⟩
          · skip
            replace hF := fr_seti (b' := 0) hF (by assumption)
            refine seq_wp (wn_none rfl) (wp_alloc (cs := #[_, _, _, _]) hF hS rfl rfl rfl zr25 rfl ?_)
            clear hF hS; intro a w g435 hF hS
            refine seq_wp (wn_none rfl) (wp_store (cs' := #[_, _, _, _]) hF hS rfl rfl rfl rfl 0 rfl sz25 (by simp [Value.cells, Value.oneCell']) (by simp [Value.cells]) rfl ?_)
            clear hF hS; intro a w hF hS
            refine seq_yl hF (wn_none rfl) rfl rfl (yl_assign hF rfl rfl) ?_
            clear hF; intro a hF
            refine wpList_nil ?_
            refine then_n ?_
            refine c_seq ?_
            refine c_region ?_
            refine seq_yl hF (wn_none rfl) rfl rfl (yl_move hF rfl rfl) ?_
            clear hF; intro a hF
            refine seq_yl hF (wn_none rfl) rfl rfl (yl_bin hF rfl rfl rfl rfl (fun _ => run_eql)) ?_
            clear hF; intro a hF
            replace hF := fr_set (b' := true) hF (by decide)
            refine wpList_nil ?_
            refine then_n ?_
            refine c_cond_t hF rfl ?_
            refine c_region ?_
            refine seq_yl hF (wn_none rfl) rfl rfl (yl_loadK (rs := [_, _, _, _]) (fun _ h => h ▸ hS) hF rfl rfl 0 rfl ag25 sz25 rfl rfl) ?_
            clear hF; intro a hF
            refine seq_wp (wn_none rfl) (wp_store (cs' := #[_, _, _, _]) hF hS rfl rfl rfl rfl 7 rfl sz25 (by simp [Value.cells, Value.oneCell']) (by simp [Value.cells]) rfl ?_)
            clear hF hS; intro a w hF hS
            refine wpList_nil ?_
            refine inb_n ?_
            refine then_n ?_
            refine c_region ?_
            refine seq_yl hF (wn_none rfl) rfl rfl (yl_move hF rfl rfl) ?_
            clear hF; intro a hF
            refine seq_yl hF (wn_none rfl) rfl rfl (yl_bin hF rfl rfl rfl rfl (fun _ => run_inc (by omega))) ?_
            clear hF; intro a hF
            refine seq_yl hF (wn_none rfl) rfl rfl (yl_assign hF rfl rfl) ?_
            clear hF; intro a hF
            refine wpList_nil ?_
            refine then_n ?_
            exact ⟨_, (by omega), i + 1, (((now) + ((rnd (x289) (7 : Int))))), (Qu.mk (d427) (h428) (f429) L431), Av432, cv432, rfl, ⟨by omega, by omega, by omega, hpq⟩, hF.to [0, 1, 4, 5, 6, 7, 8, 9, 10] rfl, (hS.sub [3, 4, 5, 6, 7, 1] (by decide) (by first | rfl | simp) (by simp))⟩
      · first | (replace hc288 := of_decide_eq_false hc288) | (replace hc288 := of_decide_eq_true (bnot_f hc288)) | (subst hc288) | (replace hc288 := bnot_f hc288; subst hc288) | (replace hc288 := bnot_f hc288) | skip
        refine wp_exit ?_
        refine then_x ?_
        refine then_x ?_
        refine inb_x ?_
        refine then_n ?_
        refine c_seq ?_
        refine ha_startS hS [4, 2] 6 (by kernel_rfl) ?_; clear hS; intro w hS
        have hSS := hS.sub [4, 2] (by decide) rfl (by simp)
        refine ha_y 2 hF rfl rfl rfl (wn_none rfl) (.inr hSS) (yl_move hF rfl rfl) ?_
        clear hF; intro a hF
        refine ha_l 0 hF rfl rfl rfl (wn_none rfl) hSS (yl_loadK (rs := [_, _, _, _]) (fun _ h => h) hF rfl rfl 0 rfl ag25 sz25 rfl rfl) ?_
        clear hF; intro a hF
        refine ha_l 1 hF rfl rfl rfl (wn_none rfl) hSS (yl_loadK (rs := [_, _, _]) (fun _ h => h) hF rfl rfl 1 rfl ag27 sz27 rfl rfl) ?_
        clear hF; intro a hF
        refine ha_one 3 (by kernel_rfl) rfl (wn_none rfl) (wp_store (cs' := #[_, _, _, _]) hF hS rfl rfl rfl rfl 0 rfl sz25 (by simp [Value.cells, Value.oneCell']) (by simp [Value.cells]) rfl ?_)
        clear hF hS; intro a w hF hS
        replace hSS := hS.sub [4, 2] (by decide) rfl (by simp)
        refine ⟨.inr hSS, ?_⟩
        refine ha_one 4 (by kernel_rfl) rfl (wn_none rfl) (wp_store (cs' := #[_, _, _]) hF hS rfl rfl rfl rfl 1 rfl sz27 (by simp [Value.cells, Value.oneCell']) (by simp [Value.cells]) rfl ?_)
        clear hF hS; intro a w hF hS
        replace hSS := hS.sub [4, 2] (by decide) rfl (by simp)
        refine ⟨.inr hSS, ?_⟩
        refine ha_y 5 hF rfl rfl rfl (wn_none rfl) (.inr hSS) (yl_assign hF rfl rfl) ?_
        clear hF; intro a hF
        refine ha_done (by kernel_rfl) ?_ _
        refine then_n ?_
        refine wp_ret ?_
        refine ret_cct hF rfl (resC hS rfl 0 rfl ag25 sz25) (resC hS rfl 1 rfl ag27 sz27) rfl ?_
        exact ⟨_, rfl, Q, (((1 : Int) + ((rnd (n) (4 : Int))))), ((rnd (((n) / 8)) (3 : Int))), ((rnd (((n) / 32)) (3 : Int))), now, _, rfl, pq_to hpq0 (by omega), by omega, by omega, by omega, by omega, (hS.sub [5] (by decide) (by first | rfl | simp) (by simp))⟩
    · first | (replace hc287 := of_decide_eq_false hc287) | (replace hc287 := of_decide_eq_true (bnot_f hc287)) | (subst hc287) | (replace hc287 := bnot_f hc287; subst hc287) | (replace hc287 := bnot_f hc287) | skip
      refine seq_skip hF (wn_f hF rfl rfl rfl rfl) rfl rfl ?_
      clear hF; intro a hF
      refine seq_skip hF (wn_f hF rfl rfl rfl rfl) rfl rfl ?_
      clear hF; intro a hF
      refine seq_yl hF (wn_none rfl) rfl rfl (yl_pick (u := _) (v := undef) hF rfl rfl (fun h => by cases h) (fun _ => rfl)) ?_
      clear hF; intro a hF
      refine wpList_nil ?_
      refine then_n ?_
      refine c_cond_f hF rfl ?_
      refine wp_exit ?_
      refine then_x ?_
      refine then_x ?_
      refine inb_x ?_
      refine then_n ?_
      refine c_seq ?_
      refine ha_startS hS [4, 2] 6 (by kernel_rfl) ?_; clear hS; intro w hS
      have hSS := hS.sub [4, 2] (by decide) rfl (by simp)
      refine ha_y 2 hF rfl rfl rfl (wn_none rfl) (.inr hSS) (yl_move hF rfl rfl) ?_
      clear hF; intro a hF
      refine ha_l 0 hF rfl rfl rfl (wn_none rfl) hSS (yl_loadK (rs := [_, _, _, _]) (fun _ h => h) hF rfl rfl 0 rfl ag25 sz25 rfl rfl) ?_
      clear hF; intro a hF
      refine ha_l 1 hF rfl rfl rfl (wn_none rfl) hSS (yl_loadK (rs := [_, _, _]) (fun _ h => h) hF rfl rfl 1 rfl ag27 sz27 rfl rfl) ?_
      clear hF; intro a hF
      refine ha_one 3 (by kernel_rfl) rfl (wn_none rfl) (wp_store (cs' := #[_, _, _, _]) hF hS rfl rfl rfl rfl 0 rfl sz25 (by simp [Value.cells, Value.oneCell']) (by simp [Value.cells]) rfl ?_)
      clear hF hS; intro a w hF hS
      replace hSS := hS.sub [4, 2] (by decide) rfl (by simp)
      refine ⟨.inr hSS, ?_⟩
      refine ha_one 4 (by kernel_rfl) rfl (wn_none rfl) (wp_store (cs' := #[_, _, _]) hF hS rfl rfl rfl rfl 1 rfl sz27 (by simp [Value.cells, Value.oneCell']) (by simp [Value.cells]) rfl ?_)
      clear hF hS; intro a w hF hS
      replace hSS := hS.sub [4, 2] (by decide) rfl (by simp)
      refine ⟨.inr hSS, ?_⟩
      refine ha_y 5 hF rfl rfl rfl (wn_none rfl) (.inr hSS) (yl_assign hF rfl rfl) ?_
      clear hF; intro a hF
      refine ha_done (by kernel_rfl) ?_ _
      refine then_n ?_
      refine wp_ret ?_
      refine ret_cct hF rfl (resC hS rfl 0 rfl ag25 sz25) (resC hS rfl 1 rfl ag27 sz27) rfl ?_
      exact ⟨_, rfl, Q, (((1 : Int) + ((rnd (n) (4 : Int))))), ((rnd (((n) / 8)) (3 : Int))), ((rnd (((n) / 32)) (3 : Int))), now, _, rfl, pq_to hpq0 (by omega), by omega, by omega, by omega, by omega, (hS.sub [5] (by decide) (by first | rfl | simp) (by simp))⟩

end Go.Proofs.Ytjjjmpkmjicpbaa

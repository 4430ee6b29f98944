/- walks, printed by wip/gen -/
import Derived.Test.YtlhcpeolkkadbaaW5
import Derived.Test.YtlhcpeolkkadbaaPQ
namespace Go.Proofs.Ytlhcpeolkkadbaa
open Go.RowKit
set_option linter.unusedVariables false
set_option linter.unusedSimpArgs false

set_option maxRecDepth 100000 in
theorem number_any (v : Value) (L : List Int) (i : Nat) (w0 : World) (hv : Rd w0 1 v (L).length (cells encI (L))) (hL : L.length ≤ 9223372036854775807) :
    Fn Try.prog 45 #[v, .int .i64 ((i : Nat) : Int)] w0 (fun v w' => ∃ x : Int, v = .int .i64 x ∧ Sat w0 w' []) := by
  obtain ⟨Av, cv, rfl⟩ := Rd.form hv
  refine c_enter (N := 17) (l := [_, _]) Try.func45 rfl rfl (fun a w hF hS => ?_)
  replace hS := hS.addRo hv
  refine c_seq ?_
  refine c_region ?_
  refine seq_yl hF (wn_none rfl) rfl rfl (yl_assign hF rfl rfl) ?_
  clear hF; intro a hF
  refine wpList_nil ?_
  refine then_n ?_
  refine c_seq ?_
  refine c_seq ?_
  refine c_region ?_
  refine seq_yl hF (wn_none rfl) rfl rfl (yl_move hF rfl rfl) ?_
  clear hF; intro a hF
  refine seq_yl hF (wn_none rfl) rfl rfl (yl_bin hF rfl rfl rfl rfl (fun _ => run_geq)) ?_
  clear hF; intro a hF
  refine seq_yl hF (wn_none rfl) rfl rfl (yl_move hF rfl rfl) ?_
  clear hF; intro a hF
  refine fr_split hF (fun hc192 hF => ?_) (fun hc192 hF => ?_)
  · first | (replace hc192 := of_decide_eq_true hc192) | (replace hc192 := of_decide_eq_false (bnot_t hc192)) | (subst hc192) | (replace hc192 := bnot_t hc192; subst hc192) | (replace hc192 := bnot_t hc192) | skip
    try (have hc192x := hc192; simp only [okS, okI, okW, okP] at hc192x)
    refine seq_yl hF (wn_t hF rfl rfl rfl rfl) rfl rfl (yl_move hF rfl rfl) ?_
    clear hF; intro a hF
    refine seq_yl hF (wn_t hF rfl rfl rfl rfl) rfl rfl (yl_move hF rfl rfl) ?_
    clear hF; intro a hF
    refine seq_yl hF (wn_t hF rfl rfl rfl rfl) rfl rfl (yl_len hF rfl rfl (fun _ => run_lenRd sl25 (hS.rdRo 0 rfl))) ?_
    clear hF; intro a hF
    refine seq_yl hF (wn_t hF rfl rfl rfl rfl) rfl rfl (yl_bin hF rfl rfl rfl rfl (fun _ => run_lss)) ?_
    clear hF; intro a hF
    refine seq_yl hF (wn_none rfl) rfl rfl (yl_pick (u := _) (v := undef) hF rfl rfl (fun _ => rfl) (fun h => by cases h)) ?_
    clear hF; intro a hF
    refine wpList_nil ?_
    refine then_n ?_
    refine c_cond hF rfl (fun hc193 => ?_) (fun hc193 => ?_)
    · first | (replace hc193 := of_decide_eq_true hc193) | (replace hc193 := of_decide_eq_false (bnot_t hc193)) | (subst hc193) | (replace hc193 := bnot_t hc193; subst hc193) | (replace hc193 := bnot_t hc193) | skip
      try (have hc193x := hc193; simp only [okS, okI, okW, okP] at hc193x)
      refine c_seq ?_
      refine c_region ?_
      refine seq_yl hF (wn_none rfl) rfl rfl (yl_move hF rfl rfl) ?_
      clear hF; intro a hF
      refine seq_yl hF (wn_none rfl) rfl rfl (yl_move hF rfl rfl) ?_
      clear hF; intro a hF
      have hlt_hx194 : i < (L).length := by first | omega | (simp; done) | (simp; omega)
      obtain ⟨ad195, rfl⟩ := rd_some (hS.rdRo 0 rfl) hlt_hx194
      obtain ⟨x194, hx194⟩ := get_some hlt_hx194
      refine seq_yl hF (wn_none rfl) rfl rfl (yl_indexAddr hF rfl rfl rfl (fun _ => run_idx' sl25 sz3 (hS.rdRo 0 rfl) hlt_hx194)) ?_
      clear hF; intro a hF
      refine seq_yl hF (wn_none rfl) rfl rfl (yl_loadAt hF rfl rfl ag3 (fun _ h => rd_cell0 (enc := encI) (by subst h; exact hS.rdRo 0 rfl) encI_len hx194 rfl rfl)) ?_
      clear hF; intro a hF
      refine seq_yl hF (wn_none rfl) rfl rfl (yl_assign hF rfl rfl) ?_
      clear hF; intro a hF
      refine wpList_nil ?_
      refine then_n ?_
      refine wp_ret ?_
      refine then_r ?_
      refine ret_t hF rfl rfl ?_
      exact ⟨_, rfl, _, rfl, (hS.sub [] (by decide) (by first | rfl | simp) (by simp))⟩
    · first | (replace hc193 := of_decide_eq_false hc193) | (replace hc193 := of_decide_eq_true (bnot_f hc193)) | (subst hc193) | (replace hc193 := bnot_f hc193; subst hc193) | (replace hc193 := bnot_f hc193) | skip
      try (have hc193x := hc193; simp only [okS, okI, okW, okP] at hc193x)
      refine wp_skip ?_
      refine then_n ?_
      refine c_seq ?_
      refine c_region ?_
      refine seq_yl hF (wn_none rfl) rfl rfl (yl_assign hF rfl rfl) ?_
      clear hF; intro a hF
      refine wpList_nil ?_
      refine then_n ?_
      refine wp_ret ?_
      refine ret_t hF rfl rfl ?_
      exact ⟨_, rfl, _, rfl, (hS.sub [] (by decide) (by first | rfl | simp) (by simp))⟩
  · first | (replace hc192 := of_decide_eq_false hc192) | (replace hc192 := of_decide_eq_true (bnot_f hc192)) | (subst hc192) | (replace hc192 := bnot_f hc192; subst hc192) | (replace hc192 := bnot_f hc192) | skip
    try (have hc192x := hc192; simp only [okS, okI, okW, okP] at hc192x)
    refine seq_skip hF (wn_f hF rfl rfl rfl rfl) rfl rfl ?_
    clear hF; intro a hF
    refine seq_skip hF (wn_f hF rfl rfl rfl rfl) rfl rfl ?_
    clear hF; intro a hF
    refine seq_skip hF (wn_f hF rfl rfl rfl rfl) rfl rfl ?_
    clear hF; intro a hF
    refine seq_skip hF (wn_f hF rfl rfl rfl rfl) rfl rfl ?_
    clear hF; intro a hF
    refine seq_yl hF (wn_none rfl) rfl rfl (yl_pick (u := _) (v := undef) hF rfl rfl (fun h => by cases h) (fun _ => rfl)) ?_
    clear hF; intro a hF
    refine wpList_nil ?_
    refine then_n ?_
    refine c_cond_f hF rfl ?_
    refine wp_skip ?_
    refine then_n ?_
    refine c_seq ?_
    refine c_region ?_
    refine seq_yl hF (wn_none rfl) rfl rfl (yl_assign hF rfl rfl) ?_
    clear hF; intro a hF
    refine wpList_nil ?_
    refine then_n ?_
    refine wp_ret ?_
    refine ret_t hF rfl rfl ?_
    exact ⟨_, rfl, _, rfl, (hS.sub [] (by decide) (by first | rfl | simp) (by simp))⟩

set_option maxHeartbeats 1000000 in
set_option maxRecDepth 100000 in
theorem data_any (n c : Int) (w0 : World) (hc : c ≤ 128) :
    Fn Try.prog 25 #[.int .i64 n, .int .i64 c] w0 (fun v w' => v = .string (dataF n c) ∧ Sat w0 w' []) := by
  refine c_enter (N := 34) (l := [_, _]) Try.func25 rfl rfl (fun a w hF hS => ?_)
  refine c_seq ?_
  refine c_region ?_
  refine seq_yl hF (wn_none rfl) rfl rfl (yl_assign hF rfl rfl) ?_
  clear hF; intro a hF
  refine wpList_nil ?_
  refine then_n ?_
  refine c_seq ?_
  refine c_region ?_
  refine seq_yl hF (wn_none rfl) rfl rfl (yl_move hF rfl rfl) ?_
  clear hF; intro a hF
  refine seq_yl hF (wn_none rfl) rfl rfl (yl_max2 hF rfl rfl rfl) ?_
  clear hF; intro a hF
  refine seq_yl hF (wn_none rfl) rfl rfl (yl_bin hF rfl rfl rfl rfl (fun _ => run_mul (by refine ⟨?_, ?_⟩ <;> omega))) ?_
  clear hF; intro a hF
  refine seq_wp (wn_none rfl) (wp_make (m := (((((max (0 : Int) (c))) * (8 : Int)))).toNat) (enc := encU) hF hS rfl rfl rfl rfl rfl (by omega) sl65 inf5 (0 : Int) made_U (by omega) (by omega) (by omega) ?_)
  clear hF hS; intro a w v196 hF hS
  obtain ⟨Av196, cv196, rfl⟩ := hS.form 0 rfl
  refine seq_yl hF (wn_none rfl) rfl rfl (yl_assign hF rfl rfl) ?_
  clear hF; intro a hF
  refine wpList_nil ?_
  refine then_n ?_
  refine c_seq ?_
  refine c_seq ?_
  refine c_region ?_
  refine seq_yl hF (wn_none rfl) rfl rfl (yl_assign hF rfl rfl) ?_
  clear hF; intro a hF
  refine wpList_nil ?_
  refine then_n ?_
  refine wp_block ?_
  have hM8 : (max (0 : Int) c) * 8 ≤ 1024 ∧ 0 ≤ (max (0 : Int) c) * 8 := by omega
  refine c_loop (fun m a w => ∃ (k : Nat) (AvD : Option Addr) (mv cvD : Nat), m = (max 0 c * 8).toNat - k ∧ (k ≤ (max 0 c * 8).toNat) ∧ Fr 34 a [(0, .int .i64 (n)), (5, .slice AvD mv cvD), (6, .int .i64 ((k : Nat) : Int))] ∧ Sat w0 w (.row 5 1 (.slice AvD mv cvD) ((datL n k ++ List.replicate ((max 0 c * 8).toNat - k) 0)).length (cells encU ((datL n k ++ List.replicate ((max 0 c * 8).toNat - k) 0))) :: [])) ((max 0 c * 8).toNat - 0) ?_ ?_
  · exact ⟨0, Av196, _, cv196, rfl, (Nat.zero_le _), hF.to [0, 5, 6] rfl, (hS.sub [0] (by decide) (by first | rfl | simp) (by simp))⟩
  · clear hF hS; try clear hSS
    clear a w; rintro m a w ⟨k, AvD, mv, cvD, rfl, hinv, hF, hS⟩
    have hk : k ≤ (max 0 c * 8).toNat := hinv
    have hll : (datL n k ++ List.replicate ((max 0 c * 8).toNat - k) 0).length = (max 0 c * 8).toNat := by simp [datL]; omega
    refine c_seq ?_
    refine c_seq ?_
    refine c_region ?_
    refine seq_yl hF (wn_none rfl) rfl rfl (yl_move hF rfl rfl) ?_
    clear hF; intro a hF
    refine seq_yl hF (wn_none rfl) rfl rfl (yl_move hF rfl rfl) ?_
    clear hF; intro a hF
    refine seq_yl hF (wn_none rfl) rfl rfl (yl_len hF rfl rfl (fun _ => run_lenRd sl65 (hS.rdRow 0 rfl))) ?_
    clear hF; intro a hF
    refine seq_yl hF (wn_none rfl) rfl rfl (yl_bin hF rfl rfl rfl rfl (fun _ => run_lss)) ?_
    clear hF; intro a hF
    refine wpList_nil ?_
    refine then_n ?_
    refine c_cond hF rfl (fun hc197 => ?_) (fun hc197 => ?_)
    · first | (replace hc197 := of_decide_eq_true hc197) | (replace hc197 := of_decide_eq_false (bnot_t hc197)) | (subst hc197) | (replace hc197 := bnot_t hc197; subst hc197) | (replace hc197 := bnot_t hc197) | skip
      try (have hc197x := hc197; simp only [okS, okI, okW, okP] at hc197x)
      refine wp_skip ?_
      refine then_n ?_
      refine c_seq ?_
      refine wp_block ?_
      refine c_region ?_
      refine seq_yl hF (wn_none rfl) rfl rfl (yl_move hF rfl rfl) ?_
      clear hF; intro a hF
      refine seq_yl hF (wn_none rfl) rfl rfl (yl_move hF rfl rfl) ?_
      clear hF; intro a hF
      refine seq_yl hF (wn_none rfl) rfl rfl (yl_move hF rfl rfl) ?_
      clear hF; intro a hF
      refine seq_yl hF (wn_none rfl) rfl rfl (yl_move hF rfl rfl) ?_
      clear hF; intro a hF
      refine seq_yl hF (wn_none rfl) rfl rfl (yl_bin hF rfl rfl rfl rfl (fun _ => run_quoN (by omega) (by omega) (by omega))) ?_
      clear hF; intro a hF
      refine seq_yl hF (wn_none rfl) rfl rfl (yl_bin hF rfl rfl rfl rfl (fun _ => run_mul (by refine ⟨?_, ?_⟩ <;> omega))) ?_
      clear hF; intro a hF
      refine seq_yl hF (wn_none rfl) rfl rfl (yl_bin hF rfl rfl rfl rfl (fun _ => run_addW)) ?_
      clear hF; intro a hF
      refine seq_yl hF (wn_none rfl) rfl rfl (yl_move hF rfl rfl) ?_
      clear hF; intro a hF
      refine seq_yl hF (wn_none rfl) rfl rfl (yl_bin hF rfl rfl rfl rfl (fun _ => run_quoN (by omega) (by omega) (by omega))) ?_
      clear hF; intro a hF
      refine seq_yl hF (wn_none rfl) rfl rfl (yl_bin hF rfl rfl rfl rfl (fun _ => run_mul (by refine ⟨?_, ?_⟩ <;> omega))) ?_
      clear hF; intro a hF
      refine seq_yl hF (wn_none rfl) rfl rfl (yl_bin hF rfl rfl rfl rfl (fun _ => run_addW)) ?_
      clear hF; intro a hF
      have hr198 := rnd_bounds ((IntKind.i64.wrap (((IntKind.i64.wrap ((n) + ((((((k : Nat) : Int) / (4 : Int))) * (7 : Int)))))) + ((((((k : Nat) : Int) / (8 : Int))) * (3 : Int)))))) (26 : Int) (by omega)
      refine seq_wp (wn_none rfl) (wp_call (vs := [_, _]) hF rfl rfl rfl rfl cf24 (round_any ((IntKind.i64.wrap (((IntKind.i64.wrap ((n) + ((((((k : Nat) : Int) / (4 : Int))) * (7 : Int)))))) + ((((((k : Nat) : Int) / (8 : Int))) * (3 : Int)))))) (26 : Int) _ (by omega)) ?_)
      clear hF; rintro _ w ⟨rfl, hS1⟩ a hF
      replace hS := hS.callB hS1 rfl; clear hS1
      refine seq_yl hF (wn_none rfl) rfl rfl (yl_conv hF rfl rfl (fun _ => run_cnv Try.underlying3 Try.underlying5)) ?_
      clear hF; intro a hF
      refine seq_yl hF (wn_none rfl) rfl rfl (yl_bin hF rfl rfl rfl rfl (fun _ => run_addU)) ?_
      clear hF; intro a hF
      have hlt_hx199 : k < ((datL n k ++ List.replicate ((max 0 c * 8).toNat - k) 0)).length := by omega
      obtain ⟨ad200, rfl⟩ := rd_some (hS.rdRow 0 rfl) hlt_hx199
      obtain ⟨x199, hx199⟩ := get_some hlt_hx199
      refine seq_yl hF (wn_none rfl) rfl rfl (yl_indexAddr hF rfl rfl rfl (fun _ => run_idx' sl65 sz5 (hS.rdRow 0 rfl) hlt_hx199)) ?_
      clear hF; intro a hF
      refine seq_wp (wn_none rfl) (wp_storeAt0 (enc := encU) (z' := ((IntKind.u8.wrap ((97 : Int) + ((IntKind.u8.wrap ((rnd ((IntKind.i64.wrap (((IntKind.i64.wrap ((n) + ((((((k : Nat) : Int) / (4 : Int))) * (7 : Int)))))) + ((((((k : Nat) : Int) / (8 : Int))) * (3 : Int)))))) (26 : Int)))) : Int))) : Int)) hF hS rfl rfl rfl rfl 0 rfl sz5 (by simp [Value.cells, Value.oneCell']) encU_len hx199 (by simp [Value.cells]) rfl ?_)
      clear hF hS; intro a w hF hS
      have hlt_hx201 : k < ((datL n k ++ List.replicate ((max 0 c * 8).toNat - k) 0).set k ((IntKind.u8.wrap ((97 : Int) + ((IntKind.u8.wrap ((rnd ((IntKind.i64.wrap (((IntKind.i64.wrap ((n) + ((((((k : Nat) : Int) / (4 : Int))) * (7 : Int)))))) + ((((((k : Nat) : Int) / (8 : Int))) * (3 : Int)))))) (26 : Int)))) : Int))) : Int)).length := by simpa using hlt_hx199
      obtain ⟨x201, hx201, hex201⟩ : ∃ x, ((datL n k ++ List.replicate ((max 0 c * 8).toNat - k) 0).set k ((IntKind.u8.wrap ((97 : Int) + ((IntKind.u8.wrap ((rnd ((IntKind.i64.wrap (((IntKind.i64.wrap ((n) + ((((((k : Nat) : Int) / (4 : Int))) * (7 : Int)))))) + ((((((k : Nat) : Int) / (8 : Int))) * (3 : Int)))))) (26 : Int)))) : Int))) : Int))[k]? = some x ∧ x = ((IntKind.u8.wrap ((97 : Int) + ((IntKind.u8.wrap ((rnd ((IntKind.i64.wrap (((IntKind.i64.wrap ((n) + ((((((k : Nat) : Int) / (4 : Int))) * (7 : Int)))))) + ((((((k : Nat) : Int) / (8 : Int))) * (3 : Int)))))) (26 : Int)))) : Int))) : Int) := ⟨_, List.getElem?_set_self hlt_hx199, rfl⟩
      refine wpList_nil ?_
      refine inb_n ?_
      refine then_n ?_
      refine c_region ?_
      refine seq_yl hF (wn_none rfl) rfl rfl (yl_move hF rfl rfl) ?_
      clear hF; intro a hF
      refine seq_yl hF (wn_none rfl) rfl rfl (yl_bin hF rfl rfl rfl rfl (fun _ => run_inc (by omega))) ?_
      clear hF; intro a hF
      refine seq_yl hF (wn_none rfl) rfl rfl (yl_assign hF rfl rfl) ?_
      clear hF; intro a hF
      refine wpList_nil ?_
      refine then_n ?_
      have hsf : ((datL n k ++ List.replicate ((max 0 c * 8).toNat - k) 0).set k ((IntKind.u8.wrap ((97 : Int) + ((IntKind.u8.wrap ((rnd ((IntKind.i64.wrap (((IntKind.i64.wrap ((n) + ((((((k : Nat) : Int) / (4 : Int))) * (7 : Int)))))) + ((((((k : Nat) : Int) / (8 : Int))) * (3 : Int)))))) (26 : Int)))) : Int))) : Int)) = datL n (k + 1) ++ List.replicate ((max 0 c * 8).toNat - (k + 1)) 0 := set_fill (by omega)
      rw [hsf] at hS
      exact ⟨_, (by omega), k + 1, (some ad200), mv, cvD, rfl, (show _ ≤ _ by omega), hF.to [0, 5, 6] rfl, (hS.sub [0] (by decide) (by first | rfl | simp) (by simp))⟩
    · first | (replace hc197 := of_decide_eq_false hc197) | (replace hc197 := of_decide_eq_true (bnot_f hc197)) | (subst hc197) | (replace hc197 := bnot_f hc197; subst hc197) | (replace hc197 := bnot_f hc197) | skip
      try (have hc197x := hc197; simp only [okS, okI, okW, okP] at hc197x)
      refine wp_exit ?_
      refine then_x ?_
      refine then_x ?_
      refine inb_x ?_
      refine then_n ?_
      refine c_seq ?_
      refine c_region ?_
      refine seq_yl hF (wn_none rfl) rfl rfl (yl_move hF rfl rfl) ?_
      clear hF; intro a hF
      refine seq_yl hF (wn_none rfl) rfl rfl (yl_toStr (L := (datL n k ++ List.replicate ((max 0 c * 8).toNat - k) 0)) hF rfl rfl sl65 Try.underlying5 Try.underlying9 (fun _ h => h ▸ (hS.rdRow 0 rfl))) ?_
      clear hF; intro a hF
      refine seq_yl hF (wn_none rfl) rfl rfl (yl_assign hF rfl rfl) ?_
      clear hF; intro a hF
      refine wpList_nil ?_
      refine then_n ?_
      refine wp_ret ?_
      refine ret_t hF rfl rfl ?_
      exact ⟨_, rfl, congrArg Value.string (dat_end (by omega)), (hS.sub [] (by decide) (by first | rfl | simp) (by simp))⟩

set_option maxRecDepth 100000 in
theorem image_any (n c : Int) (w0 : World) (hc : c ≤ 128) :
    Fn Try.prog 46 #[.int .i64 n, .int .i64 c] w0 (fun v w' => v = .string (dataF n c) ∧ Sat w0 w' []) := by
  refine c_enter (N := 8) (l := [_, _]) Try.func46 rfl rfl (fun a w hF hS => ?_)
  refine c_seq ?_
  refine c_region ?_
  refine seq_yl hF (wn_none rfl) rfl rfl (yl_assign hF rfl rfl) ?_
  clear hF; intro a hF
  refine wpList_nil ?_
  refine then_n ?_
  refine c_seq ?_
  refine c_region ?_
  refine seq_yl hF (wn_none rfl) rfl rfl (yl_move hF rfl rfl) ?_
  clear hF; intro a hF
  refine seq_yl hF (wn_none rfl) rfl rfl (yl_move hF rfl rfl) ?_
  clear hF; intro a hF
  refine seq_wp (wn_none rfl) (wp_call (vs := [_, _]) hF rfl rfl rfl rfl cf25 (data_any (n) (c) _ (by omega)) ?_)
  clear hF; rintro _ w ⟨rfl, hS1⟩ a hF
  replace hS := hS.callB hS1 rfl; clear hS1
  have hz202 := dataF_size (n) (c)
  refine seq_yl hF (wn_none rfl) rfl rfl (yl_assign hF rfl rfl) ?_
  clear hF; intro a hF
  refine wpList_nil ?_
  refine then_n ?_
  refine wp_ret ?_
  refine ret_t hF rfl rfl ?_
  exact ⟨_, rfl, rfl, (hS.sub [] (by decide) (by first | rfl | simp) (by simp))⟩

set_option maxHeartbeats 2000000 in
set_option maxRecDepth 100000 in
theorem drive_any (v : Value) (L : List Int) (w0 : World) (hv : Rd w0 1 v (L).length (cells encI (L))) (hL : L.length ≤ 9223372036854775807) :
    Fn Try.prog 20 #[v] w0 (fun v w' => ∃ (st : ByteArray) (lv : Value) (M : List E59) (rm : Int), v = .agg #[.string st, lv, .int .i64 rm] ∧ (okD st M rm ∧ 8 ≤ (st.size : Int) ∧ (st.size : Int) ≤ 48 ∧ rm ≤ 4 ∧ okQ st M) ∧ Sat w0 w' [.row 59 2 lv (M).length (cells enc59 (M))]) := by
  obtain ⟨Av, cv, rfl⟩ := Rd.form hv
  refine c_enter (N := 70) (l := [_]) Try.func20 rfl rfl (fun a w hF hS => ?_)
  replace hS := hS.addRo hv
  refine c_seq ?_
  refine c_region ?_
  refine seq_wp (wn_none rfl) (wp_alloc (cs := #[_, _, _]) hF hS rfl rfl rfl zr24 rfl ?_)
  clear hF hS; intro a w g203 hF hS
  refine wpList_nil ?_
  refine then_n ?_
  refine c_seq ?_
  refine c_region ?_
  refine seq_yl hF (wn_none rfl) rfl rfl (yl_move hF rfl rfl) ?_
  clear hF; intro a hF
  refine seq_wp (wn_none rfl) (wp_call (vs := [_, _]) hF rfl rfl rfl rfl cf45 (number_any _ L 0 _ (hS.rdRo 1 rfl) (by first | omega | (simp; done) | (simp; omega))) ?_)
  clear hF; rintro _ w ⟨x204, rfl, hS1⟩ a hF
  replace hS := hS.callB hS1 rfl; clear hS1
  refine seq_yl hF (wn_none rfl) rfl rfl (yl_assign hF rfl rfl) ?_
  clear hF; intro a hF
  refine wpList_nil ?_
  refine then_n ?_
  refine c_seq ?_
  refine c_region ?_
  refine seq_yl hF (wn_none rfl) rfl rfl (yl_move hF rfl rfl) ?_
  clear hF; intro a hF
  refine seq_yl hF (wn_none rfl) rfl rfl (yl_move hF rfl rfl) ?_
  clear hF; intro a hF
  refine seq_yl hF (wn_none rfl) rfl rfl (yl_bin hF rfl rfl rfl rfl (fun _ => run_shr (c := 5) (d := 32) (by decide) (by decide))) ?_
  clear hF; intro a hF
  have hr205 := rnd_bounds (((x204) / 32)) (6 : Int) (by omega)
  refine seq_wp (wn_none rfl) (wp_call (vs := [_, _]) hF rfl rfl rfl rfl cf24 (round_any (((x204) / 32)) (6 : Int) _ (by omega)) ?_)
  clear hF; rintro _ w ⟨rfl, hS1⟩ a hF
  replace hS := hS.callB hS1 rfl; clear hS1
  refine seq_yl hF (wn_none rfl) rfl rfl (yl_bin hF rfl rfl rfl rfl (fun _ => run_add (by refine ⟨?_, ?_⟩ <;> omega))) ?_
  clear hF; intro a hF
  refine seq_wp (wn_none rfl) (wp_call (vs := [_, _]) hF rfl rfl rfl rfl cf46 (image_any (x204) (((1 : Int) + ((rnd (((x204) / 32)) (6 : Int))))) _ (by omega)) ?_)
  clear hF; rintro _ w ⟨rfl, hS1⟩ a hF
  replace hS := hS.callB hS1 rfl; clear hS1
  have hz206 := dataF_size (x204) (((1 : Int) + ((rnd (((x204) / 32)) (6 : Int)))))
  refine seq_yl hF (wn_none rfl) rfl rfl (yl_move hF rfl rfl) ?_
  clear hF; intro a hF
  refine seq_yl hF (wn_none rfl) rfl rfl (yl_bin hF rfl rfl rfl rfl (fun _ => run_shr (c := 9) (d := 512) (by decide) (by decide))) ?_
  clear hF; intro a hF
  have hr207 := rnd_bounds (((x204) / 512)) (5 : Int) (by omega)
  refine seq_wp (wn_none rfl) (wp_call (vs := [_, _]) hF rfl rfl rfl rfl cf24 (round_any (((x204) / 512)) (5 : Int) _ (by omega)) ?_)
  clear hF; rintro _ w ⟨rfl, hS1⟩ a hF
  replace hS := hS.callB hS1 rfl; clear hS1
  refine seq_yl hF (wn_none rfl) rfl rfl (yl_build (parts := [(0, .tmp 15), (2, .tmp 18)]) (vs := [(0, _), (2, _)]) (cs := [_, _, _]) hF bd24 rfl rfl rfl rfl) ?_
  clear hF; intro a hF
  refine seq_wp (wn_none rfl) (wp_alloc (cs := #[_, _, _]) hF hS rfl rfl rfl zr24 rfl ?_)
  clear hF hS; intro a w g208 hF hS
  refine seq_wp (wn_none rfl) (wp_store (cs' := #[_, _, _]) hF hS rfl rfl rfl rfl 0 rfl sz24 (by simp [Value.cells, Value.oneCell']) (by simp [Value.cells]) rfl ?_)
  clear hF hS; intro a w hF hS
  refine wpList_nil ?_
  refine then_n ?_
  refine c_seq ?_
  refine c_seq ?_
  refine c_region ?_
  refine seq_yl hF (wn_none rfl) rfl rfl (yl_assign hF rfl rfl) ?_
  clear hF; intro a hF
  refine wpList_nil ?_
  refine then_n ?_
  refine wp_block ?_
  replace hS := hS.addNil 59 2
  refine c_loop (fun m a w => ∃ (i : Nat) (st1 : ByteArray) (L1 : List E59) (rm1 : Int) (AvW : Option Addr) (cvW : Nat), m = 10 - i ∧ ((1 ≤ i ∧ i ≤ 10) ∧ okD st1 L1 rm1 ∧ 8 ≤ (st1.size : Int) ∧ (st1.size : Int) ≤ 48 ∧ rm1 ≤ 4 ∧ okQ st1 L1) ∧ Fr 70 a [(0, .slice Av (L).length cv), (2, .pointer (some ⟨g203, 0, none⟩)), (4, .pointer (some ⟨g208, 0, none⟩)), (5, .int .i64 ((i : Nat) : Int))] ∧ Sat w0 w (.ro 1 (.slice Av (L).length cv) (L).length (cells encI (L)) :: .box g203 24 #[.string (⟨#[]⟩ : ByteArray), .slice none 0 0, .int .i64 (0 : Int)] :: .box g208 24 #[.string st1, .slice AvW (L1).length cvW, .int .i64 (rm1)] :: .row 59 2 (.slice AvW (L1).length cvW) (L1).length (cells enc59 (L1)) :: [])) (10 - 1) ?_ ?_
  · exact ⟨1, (dataF (x204) (((1 : Int) + ((rnd (((x204) / 32)) (6 : Int)))))), [], ((rnd (((x204) / 512)) (5 : Int))), none, 0, rfl, ⟨⟨by omega, by omega⟩, ⟨by unfold okI; omega, by omega, by simp; omega, by simp⟩, by omega, by omega, by omega, okQ_start (noQ_data _ _)⟩, hF.to [0, 2, 4, 5] rfl, (hS.sub [3, 2, 1, 0] (by decide) (by first | rfl | simp) (by simp))⟩
  · clear hF hS; try clear hSS
    clear a w; rintro m a w ⟨i, st1, L1, rm1, AvW, cvW, rfl, hinv, hF, hS⟩
    obtain ⟨hi, hd1, hs8, hs48, hr4, hQ⟩ := hinv
    have hd1i := okD_I hd1
    refine c_seq ?_
    refine c_seq ?_
    refine c_region ?_
    refine seq_yl hF (wn_none rfl) rfl rfl (yl_move hF rfl rfl) ?_
    clear hF; intro a hF
    refine seq_yl hF (wn_none rfl) rfl rfl (yl_move hF rfl rfl) ?_
    clear hF; intro a hF
    refine seq_yl hF (wn_none rfl) rfl rfl (yl_len hF rfl rfl (fun _ => run_lenRd sl25 (hS.rdRo 0 rfl))) ?_
    clear hF; intro a hF
    refine seq_yl hF (wn_none rfl) rfl rfl (yl_bin hF rfl rfl rfl rfl (fun _ => run_lss)) ?_
    clear hF; intro a hF
    refine seq_yl hF (wn_none rfl) rfl rfl (yl_move hF rfl rfl) ?_
    clear hF; intro a hF
    refine fr_split hF (fun hc209 hF => ?_) (fun hc209 hF => ?_)
    · first | (replace hc209 := of_decide_eq_true hc209) | (replace hc209 := of_decide_eq_false (bnot_t hc209)) | (subst hc209) | (replace hc209 := bnot_t hc209; subst hc209) | (replace hc209 := bnot_t hc209) | skip
      try (have hc209x := hc209; simp only [okS, okI, okW, okP] at hc209x)
      refine seq_yl hF (wn_t hF rfl rfl rfl rfl) rfl rfl (yl_move hF rfl rfl) ?_
      clear hF; intro a hF
      refine seq_yl hF (wn_t hF rfl rfl rfl rfl) rfl rfl (yl_bin hF rfl rfl rfl rfl (fun _ => run_lss)) ?_
      clear hF; intro a hF
      refine seq_yl hF (wn_none rfl) rfl rfl (yl_pick (u := _) (v := undef) hF rfl rfl (fun _ => rfl) (fun h => by cases h)) ?_
      clear hF; intro a hF
      refine wpList_nil ?_
      refine then_n ?_
      refine c_cond hF rfl (fun hc210 => ?_) (fun hc210 => ?_)
      · first | (replace hc210 := of_decide_eq_true hc210) | (replace hc210 := of_decide_eq_false (bnot_t hc210)) | (subst hc210) | (replace hc210 := bnot_t hc210; subst hc210) | (replace hc210 := bnot_t hc210) | skip
        try (have hc210x := hc210; simp only [okS, okI, okW, okP] at hc210x)
        refine wp_skip ?_
        refine then_n ?_
        refine c_seq ?_
        refine wp_block ?_
        refine c_seq ?_
        refine ha_startS hS [0, 2] 8 (by kernel_rfl) ?_; clear hS; intro w hS
        have hSS := hS.sub [0, 2] (by decide) rfl (by simp)
        refine ha_y 0 hF rfl rfl rfl (wn_none rfl) (.inr hSS) (yl_move hF rfl rfl) ?_
        clear hF; intro a hF
        refine ha_y 1 hF rfl rfl rfl (wn_none rfl) (.inr hSS) (yl_move hF rfl rfl) ?_
        clear hF; intro a hF
        have hlt_hx211 : i < (L).length := by first | omega | (simp; done) | (simp; omega)
        obtain ⟨ad212, rfl⟩ := rd_some (hS.rdRo 0 rfl) hlt_hx211
        obtain ⟨x211, hx211⟩ := get_some hlt_hx211
        refine ha_y 2 hF rfl rfl rfl (wn_none rfl) (.inr hSS) (yl_indexAddr hF rfl rfl rfl (fun _ => run_idx' sl25 sz3 (hS.rdRo 0 rfl) hlt_hx211)) ?_
        clear hF; intro a hF
        refine ha_l 3 hF rfl rfl rfl (wn_none rfl) hSS (yl_loadAt hF rfl rfl ag3 (fun _ h => rd_cell0 (enc := encI) (Sat.rdRo h 0 rfl) encI_len hx211 rfl rfl)) ?_
        clear hF; intro a hF
        refine ha_l 4 hF rfl rfl rfl (wn_none rfl) hSS (yl_loadK (rs := [_, _, _]) (fun _ h => h) hF rfl rfl 1 rfl ag24 sz24 rfl rfl) ?_
        clear hF; intro a hF
        refine ha_one 5 (by kernel_rfl) rfl (wn_none rfl) (wp_call (vs := [_]) hF rfl rfl rfl rfl cf27 (secs_any st1 _ _ _ (by omega)) ?_)
        clear hF; rintro _ w ⟨rfl, hS1⟩ a hF
        replace hS := hS.callB hS1 rfl; clear hS1
        replace hSS := hS.sub [0, 2] (by decide) rfl (by simp)
        refine ⟨.inr hSS, ?_⟩
        have hr213 := rnd_bounds (x211) ((((st1).size : Int) / 8)) (by omega)
        refine ha_one 6 (by kernel_rfl) rfl (wn_none rfl) (wp_call (vs := [_, _]) hF rfl rfl rfl rfl cf24 (round_any (x211) ((((st1).size : Int) / 8)) _ (by omega)) ?_)
        clear hF; rintro _ w ⟨rfl, hS1⟩ a hF
        replace hS := hS.callB hS1 rfl; clear hS1
        replace hSS := hS.sub [0, 2] (by decide) rfl (by simp)
        refine ⟨.inr hSS, ?_⟩
        refine ha_y 7 hF rfl rfl rfl (wn_none rfl) (.inr hSS) (yl_assign hF rfl rfl) ?_
        clear hF; intro a hF
        refine ha_done (by kernel_rfl) ?_ _
        refine then_n ?_
        refine c_seq ?_
        refine ha_startS hS [0, 2] 13 (by kernel_rfl) ?_; clear hS; intro w hS
        have hSS := hS.sub [0, 2] (by decide) rfl (by simp)
        refine ha_y 0 hF rfl rfl rfl (wn_none rfl) (.inr hSS) (yl_move hF rfl rfl) ?_
        clear hF; intro a hF
        refine ha_y 1 hF rfl rfl rfl (wn_none rfl) (.inr hSS) (yl_move hF rfl rfl) ?_
        clear hF; intro a hF
        refine ha_y 2 hF rfl rfl rfl (wn_none rfl) (.inr hSS) (yl_indexAddr hF rfl rfl rfl (fun _ => run_idx' sl25 sz3 (hS.rdRo 0 rfl) hlt_hx211)) ?_
        clear hF; intro a hF
        refine ha_y 7 hF rfl rfl rfl (wn_none rfl) (.inr hSS) (yl_move hF rfl rfl) ?_
        clear hF; intro a hF
        refine ha_l 3 hF rfl rfl rfl (wn_none rfl) hSS (yl_loadAt hF rfl rfl ag3 (fun _ h => rd_cell0 (enc := encI) (Sat.rdRo h 0 rfl) encI_len hx211 rfl rfl)) ?_
        clear hF; intro a hF
        refine ha_y 4 hF rfl rfl rfl (wn_none rfl) (.inr hSS) (yl_bin hF rfl rfl rfl rfl (fun _ => run_shr (c := 4) (d := 16) (by decide) (by decide))) ?_
        clear hF; intro a hF
        refine ha_l 5 hF rfl rfl rfl (wn_none rfl) hSS (yl_loadK (rs := [_, _, _]) (fun _ h => h) hF rfl rfl 1 rfl ag24 sz24 rfl rfl) ?_
        clear hF; intro a hF
        refine ha_one 6 (by kernel_rfl) rfl (wn_none rfl) (wp_call (vs := [_]) hF rfl rfl rfl rfl cf27 (secs_any st1 _ _ _ (by omega)) ?_)
        clear hF; rintro _ w ⟨rfl, hS1⟩ a hF
        replace hS := hS.callB hS1 rfl; clear hS1
        replace hSS := hS.sub [0, 2] (by decide) rfl (by simp)
        refine ⟨.inr hSS, ?_⟩
        refine ha_y 8 hF rfl rfl rfl (wn_none rfl) (.inr hSS) (yl_bin hF rfl rfl rfl rfl (fun _ => run_sub (by refine ⟨?_, ?_⟩ <;> omega))) ?_
        clear hF; intro a hF
        refine ha_y 9 hF rfl rfl rfl (wn_none rfl) (.inr hSS) (yl_min2 hF rfl rfl rfl) ?_
        clear hF; intro a hF
        have hr214 := rnd_bounds (((x211) / 16)) ((min (3 : Int) ((((((st1).size : Int) / 8)) - ((rnd (x211) ((((st1).size : Int) / 8)))))))) (by omega)
        refine ha_one 10 (by kernel_rfl) rfl (wn_none rfl) (wp_call (vs := [_, _]) hF rfl rfl rfl rfl cf24 (round_any (((x211) / 16)) ((min (3 : Int) ((((((st1).size : Int) / 8)) - ((rnd (x211) ((((st1).size : Int) / 8)))))))) _ (by omega)) ?_)
        clear hF; rintro _ w ⟨rfl, hS1⟩ a hF
        replace hS := hS.callB hS1 rfl; clear hS1
        replace hSS := hS.sub [0, 2] (by decide) rfl (by simp)
        refine ⟨.inr hSS, ?_⟩
        refine ha_y 11 hF rfl rfl rfl (wn_none rfl) (.inr hSS) (yl_bin hF rfl rfl rfl rfl (fun _ => run_add (by refine ⟨?_, ?_⟩ <;> omega))) ?_
        clear hF; intro a hF
        refine ha_y 12 hF rfl rfl rfl (wn_none rfl) (.inr hSS) (yl_assign hF rfl rfl) ?_
        clear hF; intro a hF
        refine ha_done (by kernel_rfl) ?_ _
        refine then_n ?_
        refine ha_startS hS [2, 0] 20 (by kernel_rfl) ?_; clear hS; intro w hS
        have hSS := hS.sub [2, 0] (by decide) rfl (by simp)
        refine ha_y 1 hF rfl rfl rfl (wn_none rfl) (.inr hSS) (yl_move hF rfl rfl) ?_
        clear hF; intro a hF
        refine ha_y 2 hF rfl rfl rfl (wn_none rfl) (.inr hSS) (yl_move hF rfl rfl) ?_
        clear hF; intro a hF
        refine ha_y 3 hF rfl rfl rfl (wn_none rfl) (.inr hSS) (yl_move hF rfl rfl) ?_
        clear hF; intro a hF
        refine ha_y 4 hF rfl rfl rfl (wn_none rfl) (.inr hSS) (yl_indexAddr hF rfl rfl rfl (fun _ => run_idx' sl25 sz3 (hS.rdRo 0 rfl) hlt_hx211)) ?_
        clear hF; intro a hF
        refine ha_y 7 hF rfl rfl rfl (wn_none rfl) (.inr hSS) (yl_move hF rfl rfl) ?_
        clear hF; intro a hF
        refine ha_y 9 hF rfl rfl rfl (wn_none rfl) (.inr hSS) (yl_move hF rfl rfl) ?_
        clear hF; intro a hF
        refine ha_y 10 hF rfl rfl rfl (wn_none rfl) (.inr hSS) (yl_move hF rfl rfl) ?_
        clear hF; intro a hF
        refine ha_y 11 hF rfl rfl rfl (wn_none rfl) (.inr hSS) (yl_indexAddr hF rfl rfl rfl (fun _ => run_idx' sl25 sz3 (hS.rdRo 0 rfl) hlt_hx211)) ?_
        clear hF; intro a hF
        refine ha_l 0 hF rfl rfl rfl (wn_none rfl) hSS (yl_loadK (rs := [_, _, _]) (fun _ h => h) hF rfl rfl 0 rfl ag24 sz24 rfl rfl) ?_
        clear hF; intro a hF
        refine ha_l 5 hF rfl rfl rfl (wn_none rfl) hSS (yl_loadAt hF rfl rfl ag3 (fun _ h => rd_cell0 (enc := encI) (Sat.rdRo h 1 rfl) encI_len hx211 rfl rfl)) ?_
        clear hF; intro a hF
        refine ha_y 6 hF rfl rfl rfl (wn_none rfl) (.inr hSS) (yl_bin hF rfl rfl rfl rfl (fun _ => run_shr (c := 6) (d := 64) (by decide) (by decide))) ?_
        clear hF; intro a hF
        refine ha_l 12 hF rfl rfl rfl (wn_none rfl) hSS (yl_loadAt hF rfl rfl ag3 (fun _ h => rd_cell0 (enc := encI) (Sat.rdRo h 1 rfl) encI_len hx211 rfl rfl)) ?_
        clear hF; intro a hF
        refine ha_y 13 hF rfl rfl rfl (wn_none rfl) (.inr hSS) (yl_bin hF rfl rfl rfl rfl (fun _ => run_shr (c := 12) (d := 4096) (by decide) (by decide))) ?_
        clear hF; intro a hF
        refine ha_one 8 (by kernel_rfl) rfl (wn_none rfl) (wp_call (vs := [_, _]) hF rfl rfl rfl rfl cf25 (data_any (((x211) / 64)) (((1 : Int) + ((rnd (((x211) / 16)) ((min (3 : Int) ((((((st1).size : Int) / 8)) - ((rnd (x211) ((((st1).size : Int) / 8)))))))))))) _ (by omega)) ?_)
        clear hF; rintro _ w ⟨rfl, hS1⟩ a hF
        replace hS := hS.callB hS1 rfl; clear hS1
        have hz215 := dataF_size (((x211) / 64)) (((1 : Int) + ((rnd (((x211) / 16)) ((min (3 : Int) ((((((st1).size : Int) / 8)) - ((rnd (x211) ((((st1).size : Int) / 8))))))))))))
        replace hSS := hS.sub [2, 0] (by decide) rfl (by simp)
        refine ⟨.inr hSS, ?_⟩
        have hr216 := rnd_bounds (((x211) / 4096)) (6 : Int) (by omega)
        refine ha_one 14 (by kernel_rfl) rfl (wn_none rfl) (wp_call (vs := [_, _]) hF rfl rfl rfl rfl cf24 (round_any (((x211) / 4096)) (6 : Int) _ (by omega)) ?_)
        clear hF; rintro _ w ⟨rfl, hS1⟩ a hF
        replace hS := hS.callB hS1 rfl; clear hS1
        replace hSS := hS.sub [2, 0] (by decide) rfl (by simp)
        refine ⟨.inr hSS, ?_⟩
        refine ha_y 15 hF rfl rfl rfl (wn_none rfl) (.inr hSS) (yl_bin hF rfl rfl rfl rfl (fun _ => run_eql)) ?_
        clear hF; intro a hF
        refine ha_one 16 (by kernel_rfl) rfl (wn_none rfl) (wp_call (vs := [_, _, _, _]) hF rfl rfl rfl rfl cf29 (write2_any st1 _ L1 (rm1) ((rnd (x211) ((((st1).size : Int) / 8)))) (dataF (((x211) / 64)) (((1 : Int) + ((rnd (((x211) / 16)) ((min (3 : Int) ((((((st1).size : Int) / 8)) - ((rnd (x211) ((((st1).size : Int) / 8))))))))))))) (decide (((rnd (((x211) / 4096)) (6 : Int))) = (0 : Int))) _ (hS.rdRow 3 rfl) (by first | omega | (simp; done)) (by first | omega | (simp; done)) (by first | omega | (simp; done))) ?_)
        clear hF; rintro _ w ⟨st217, v218, Lq219, rm220, b221, rfl, hq222, hS1⟩ a hF
        replace hS := hS.callB hS1 rfl; clear hS1
        obtain ⟨Av218, cv218, rfl⟩ := hS.form 0 rfl
        have hq222b := writeF_bd hq222
        obtain ⟨rfl, -, -, hq222d, hq222s, rfl⟩ := (writeF_ok hq222).resolve_right (fun h9 => h9.2.1 (⟨hd1, by unfold okW okS okI; omega⟩))
        have hq222i := okD_I hq222d
        replace hSS := hS.sub [3, 1] (by decide) rfl (by simp)
        refine ⟨.inr hSS, ?_⟩
        refine ha_y 17 hF rfl rfl rfl (wn_none rfl) (.inr hSS) (yl_move hF rfl rfl) ?_
        clear hF; intro a hF
        refine ha_y 18 hF rfl rfl rfl (wn_none rfl) (.inr hSS) (yl_extract hF rfl rfl rfl) ?_
        clear hF; intro a hF
        refine ha_y 19 hF rfl rfl rfl (wn_none rfl) (.inr hSS) (yl_extract hF rfl rfl rfl) ?_
        clear hF; intro a hF
        refine ha_one 20 (by kernel_rfl) rfl (wn_none rfl) (wp_store (cs' := #[_, _, _]) hF hS rfl rfl rfl rfl 3 rfl sz24 (by simp [Value.cells, Value.oneCell']) (by simp [Value.cells]) rfl ?_)
        clear hF hS; intro a w hF hS
        refine ⟨.inl (by kernel_rfl), ?_⟩
        refine ha_done (by kernel_rfl) ?_ _
        refine inb_n ?_
        refine then_n ?_
        refine c_region ?_
        refine seq_yl hF (wn_none rfl) rfl rfl (yl_move hF rfl rfl) ?_
        clear hF; intro a hF
        refine seq_yl hF (wn_none rfl) rfl rfl (yl_bin hF rfl rfl rfl rfl (fun _ => run_inc (by omega))) ?_
        clear hF; intro a hF
        refine seq_yl hF (wn_none rfl) rfl rfl (yl_assign hF rfl rfl) ?_
        clear hF; intro a hF
        refine wpList_nil ?_
        refine then_n ?_
        exact ⟨_, (by omega), i + 1, st217, Lq219, ((rm1)), Av218, cv218, rfl, ⟨⟨by omega, by omega⟩, hq222d, by omega, by omega, by omega, okQ_write hq222 (noQ_data _ _) hQ⟩, hF.to [0, 2, 4, 5] rfl, (hS.sub [1, 2, 3, 0] (by decide) (by first | rfl | simp) (by simp))⟩
      · first | (replace hc210 := of_decide_eq_false hc210) | (replace hc210 := of_decide_eq_true (bnot_f hc210)) | (subst hc210) | (replace hc210 := bnot_f hc210; subst hc210) | (replace hc210 := bnot_f hc210) | skip
        try (have hc210x := hc210; simp only [okS, okI, okW, okP] at hc210x)
        refine wp_exit ?_
        refine then_x ?_
        refine then_x ?_
        refine inb_x ?_
        refine then_n ?_
        refine c_seq ?_
        refine c_region ?_
        refine seq_yl hF (wn_none rfl) rfl rfl (yl_loadK (rs := [_, _, _]) (fun _ h => h ▸ hS) hF rfl rfl 2 rfl ag24 sz24 rfl rfl) ?_
        clear hF; intro a hF
        refine seq_wp (wn_none rfl) (wp_store (cs' := #[_, _, _]) hF hS rfl rfl rfl rfl 1 rfl sz24 (by simp [Value.cells, Value.oneCell']) (by simp [Value.cells]) rfl ?_)
        clear hF hS; intro a w hF hS
        refine wpList_nil ?_
        refine then_n ?_
        refine wp_ret ?_
        refine ret_c hF rfl (resC hS rfl 1 rfl ag24 sz24) ?_
        exact ⟨_, rfl, _, _, _, _, rfl, ⟨hd1, hs8, hs48, hr4, hQ⟩, (hS.sub [3] (by decide) (by first | rfl | simp) (by simp))⟩
    · first | (replace hc209 := of_decide_eq_false hc209) | (replace hc209 := of_decide_eq_true (bnot_f hc209)) | (subst hc209) | (replace hc209 := bnot_f hc209; subst hc209) | (replace hc209 := bnot_f hc209) | skip
      try (have hc209x := hc209; simp only [okS, okI, okW, okP] at hc209x)
      refine seq_skip hF (wn_f hF rfl rfl rfl rfl) rfl rfl ?_
      clear hF; intro a hF
      refine seq_skip hF (wn_f hF rfl rfl rfl rfl) rfl rfl ?_
      clear hF; intro a hF
      refine seq_yl hF (wn_none rfl) rfl rfl (yl_pick (u := _) (v := undef) hF rfl rfl (fun h => by cases h) (fun _ => rfl)) ?_
      clear hF; intro a hF
      refine wpList_nil ?_
      refine then_n ?_
      refine c_cond_f hF rfl ?_
      refine wp_exit ?_
      refine then_x ?_
      refine then_x ?_
      refine inb_x ?_
      refine then_n ?_
      refine c_seq ?_
      refine c_region ?_
      refine seq_yl hF (wn_none rfl) rfl rfl (yl_loadK (rs := [_, _, _]) (fun _ h => h ▸ hS) hF rfl rfl 2 rfl ag24 sz24 rfl rfl) ?_
      clear hF; intro a hF
      refine seq_wp (wn_none rfl) (wp_store (cs' := #[_, _, _]) hF hS rfl rfl rfl rfl 1 rfl sz24 (by simp [Value.cells, Value.oneCell']) (by simp [Value.cells]) rfl ?_)
      clear hF hS; intro a w hF hS
      refine wpList_nil ?_
      refine then_n ?_
      refine wp_ret ?_
      refine ret_c hF rfl (resC hS rfl 1 rfl ag24 sz24) ?_
      exact ⟨_, rfl, _, _, _, _, rfl, ⟨hd1, hs8, hs48, hr4, hQ⟩, (hS.sub [3] (by decide) (by first | rfl | simp) (by simp))⟩

end Go.Proofs.Ytlhcpeolkkadbaa

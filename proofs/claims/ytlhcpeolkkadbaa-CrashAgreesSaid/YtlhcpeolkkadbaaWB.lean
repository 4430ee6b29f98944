/- walks, printed by wip/gen -/
import Derived.Test.YtlhcpeolkkadbaaW2
import Derived.Test.YtlhcpeolkkadbaaSH
import Derived.Test.YtlhcpeolkkadbaaW3
namespace Go.Proofs.Ytlhcpeolkkadbaa
open Go.RowKit
set_option linter.unusedVariables false
set_option linter.unusedSimpArgs false

set_option maxRecDepth 100000 in
theorem cc_fresh (w0 w : World) (Ht : List Chunk) (gb : Nat) (vb : Value) (hS : Sat w0 w (.box gb 67 #[.pointer none, vb] :: Ht)) :
    Fn Try.prog 55 #[.pointer (some ⟨gb, 0, none⟩)] w (fun v w' => v = .tuple #[] ∧ Sat w0 w' (.box gb 67 #[(.pointer (some ⟨gb, 0, none⟩)), vb] :: Ht)) := by
  refine c_enterS (N := 20) (l := [_]) Try.func55 rfl rfl (fun a hF => ?_)
  refine c_seq ?_
  refine c_region ?_
  refine seq_yl hF (wn_none rfl) rfl rfl (yl_move hF rfl rfl) ?_
  clear hF; intro a hF
  refine seq_yl hF (wn_none rfl) rfl rfl (yl_nilCheck hF rfl rfl) ?_
  clear hF; intro a hF
  refine seq_yl hF (wn_none rfl) rfl rfl (yl_fieldAddr hF rfl rfl (fun w => by kernel_rfl : ∀ w, (Instr.fieldAt 67 (.pointer (some ⟨gb, 0, none⟩)) 0).run Try.prog w = .ok (.pointer (some ⟨gb, 0, none⟩)) w)) ?_
  clear hF; intro a hF
  refine seq_yl hF (wn_none rfl) rfl rfl (yl_load (fun _ h => h ▸ hS) hF rfl rfl 0 rfl ag64 rfl) ?_
  clear hF; intro a hF
  refine seq_yl hF (wn_none rfl) rfl rfl (yl_bin hF rfl rfl rfl rfl (fun _ => run_eqp_nn Try.underlying64 (by kernel_rfl))) ?_
  clear hF; intro a hF
  refine wpList_nil ?_
  refine then_n ?_
  refine c_cond_t hF rfl ?_
  refine c_region ?_
  refine seq_yl hF (wn_none rfl) rfl rfl (yl_move hF rfl rfl) ?_
  clear hF; intro a hF
  refine seq_yl hF (wn_none rfl) rfl rfl (yl_move hF rfl rfl) ?_
  clear hF; intro a hF
  refine seq_yl hF (wn_none rfl) rfl rfl (yl_toUnsafe (fun _ h => h ▸ hS) hF rfl rfl 0 rfl (by kernel_rfl) Try.underlying64 Try.underlying90 (by kernel_rfl)) ?_
  clear hF; intro a hF
  refine seq_wp (wn_none rfl) (wp_yl (S := fun w' => w' = w) hF rfl rfl rfl (yl_extern (xs := [_]) (vs := [_]) hF rfl rfl (fun w => run_noEsc Try.func62 (by kernel_rfl) (by kernel_rfl) (by kernel_rfl) (by kernel_rfl) _ w)) ?_)
  clear hF; intro a hF
  refine seq_yl hF (wn_none rfl) rfl rfl (yl_fromUnsafe (fun _ h => h ▸ hS) hF rfl rfl 0 rfl Try.underlying90 Try.underlying64 (by kernel_rfl) (by kernel_rfl)) ?_
  clear hF; intro a hF
  refine seq_yl hF (wn_none rfl) rfl rfl (yl_nilCheck hF rfl rfl) ?_
  clear hF; intro a hF
  refine seq_yl hF (wn_none rfl) rfl rfl (yl_fieldAddr hF rfl rfl (fun w => by kernel_rfl : ∀ w, (Instr.fieldAt 67 (.pointer (some ⟨gb, 0, none⟩)) 0).run Try.prog w = .ok (.pointer (some ⟨gb, 0, none⟩)) w)) ?_
  clear hF; intro a hF
  refine seq_wp (wn_none rfl) (wp_store (cs' := #[_, _]) hF hS rfl rfl rfl rfl 0 rfl sz64 (by simp [Value.cells, Value.oneCell']) (by simp [Value.cells]) rfl ?_)
  clear hF hS; intro a w hF hS
  refine wpList_nil ?_
  refine ret_n ?_
  refine ret_0 hF rfl  ?_
  exact ⟨_, rfl, rfl, (hS.subT 1 [0] (by decide) (by first | rfl | simp) (by simp) (by simp))⟩

set_option maxRecDepth 100000 in
theorem cc_used (w0 w : World) (Ht : List Chunk) (gb : Nat) (vb : Value) (hS : Sat w0 w (.box gb 67 #[(.pointer (some ⟨gb, 0, none⟩)), vb] :: Ht)) :
    Fn Try.prog 55 #[.pointer (some ⟨gb, 0, none⟩)] w (fun v w' => v = .tuple #[] ∧ Sat w0 w' (.box gb 67 #[(.pointer (some ⟨gb, 0, none⟩)), vb] :: Ht)) := by
  refine c_enterS (N := 20) (l := [_]) Try.func55 rfl rfl (fun a hF => ?_)
  refine c_seq ?_
  refine c_region ?_
  refine seq_yl hF (wn_none rfl) rfl rfl (yl_move hF rfl rfl) ?_
  clear hF; intro a hF
  refine seq_yl hF (wn_none rfl) rfl rfl (yl_nilCheck hF rfl rfl) ?_
  clear hF; intro a hF
  refine seq_yl hF (wn_none rfl) rfl rfl (yl_fieldAddr hF rfl rfl (fun w => by kernel_rfl : ∀ w, (Instr.fieldAt 67 (.pointer (some ⟨gb, 0, none⟩)) 0).run Try.prog w = .ok (.pointer (some ⟨gb, 0, none⟩)) w)) ?_
  clear hF; intro a hF
  refine seq_yl hF (wn_none rfl) rfl rfl (yl_load (fun _ h => h ▸ hS) hF rfl rfl 0 rfl ag64 rfl) ?_
  clear hF; intro a hF
  refine seq_yl hF (wn_none rfl) rfl rfl (yl_bin hF rfl rfl rfl rfl (fun _ => run_eqp_sn Try.underlying64 (by kernel_rfl))) ?_
  clear hF; intro a hF
  refine wpList_nil ?_
  refine then_n ?_
  refine c_cond_f hF rfl ?_
  refine c_seq ?_
  refine c_region ?_
  refine seq_yl hF (wn_none rfl) rfl rfl (yl_move hF rfl rfl) ?_
  clear hF; intro a hF
  refine seq_yl hF (wn_none rfl) rfl rfl (yl_nilCheck hF rfl rfl) ?_
  clear hF; intro a hF
  refine seq_yl hF (wn_none rfl) rfl rfl (yl_fieldAddr hF rfl rfl (fun w => by kernel_rfl : ∀ w, (Instr.fieldAt 67 (.pointer (some ⟨gb, 0, none⟩)) 0).run Try.prog w = .ok (.pointer (some ⟨gb, 0, none⟩)) w)) ?_
  clear hF; intro a hF
  refine seq_yl hF (wn_none rfl) rfl rfl (yl_load (fun _ h => h ▸ hS) hF rfl rfl 0 rfl ag64 rfl) ?_
  clear hF; intro a hF
  refine seq_yl hF (wn_none rfl) rfl rfl (yl_move hF rfl rfl) ?_
  clear hF; intro a hF
  refine seq_yl hF (wn_none rfl) rfl rfl (yl_bin hF rfl rfl rfl rfl (fun _ => run_neqp_same Try.underlying64 (by kernel_rfl))) ?_
  clear hF; intro a hF
  refine wpList_nil ?_
  refine then_n ?_
  refine c_cond_f hF rfl ?_
  refine wp_skip ?_
  refine ret_n ?_
  refine ret_0 hF rfl  ?_
  exact ⟨_, rfl, rfl, (hS.subT 1 [0] (by decide) (by first | rfl | simp) (by simp) (by simp))⟩

theorem cc_any (w0 w : World) (Ht : List Chunk) (gb : Nat) (p vb : Value) (hp : p = .pointer none ∨ p = (.pointer (some ⟨gb, 0, none⟩))) (hS : Sat w0 w (.box gb 67 #[p, vb] :: Ht)) : Fn Try.prog 55 #[.pointer (some ⟨gb, 0, none⟩)] w (fun v w' => v = .tuple #[] ∧ Sat w0 w' (.box gb 67 #[(.pointer (some ⟨gb, 0, none⟩)), vb] :: Ht)) := by
  rcases hp with rfl | rfl
  · exact cc_fresh _ _ _ _ _ hS
  · exact cc_used _ _ _ _ _ hS

set_option maxRecDepth 100000 in
theorem wstr_any (w0 w : World) (Ht : List Chunk) (gb : Nat) (p : Value) (Avb : Option Addr) (cvb : Nat) (acc x : ByteArray) (hS : Sat w0 w (.box gb 67 #[p, .slice Avb (byteL acc).length cvb] :: .row 5 1 (.slice Avb (byteL acc).length cvb) (byteL acc).length (cells encU (byteL acc)) :: Ht)) (hp : p = .pointer none ∨ p = (.pointer (some ⟨gb, 0, none⟩))) (hz : (acc.size : Int) + (x.size : Int) ≤ 1000000) :
    Fn Try.prog 40 #[.pointer (some ⟨gb, 0, none⟩), .string x] w (fun v w' => ∃ v1, v = .tuple #[.int .i64 (x.size : Int), .nilIface] ∧ Sat w0 w' (.box gb 67 #[(.pointer (some ⟨gb, 0, none⟩)), v1] :: .row 5 1 v1 (byteL (acc ++ x)).length (cells encU (byteL (acc ++ x))) :: Ht)) := by
  have hbl := byteL_len acc
  refine c_enterS (N := 19) (l := [_, _]) Try.func40 rfl rfl (fun a hF => ?_)
  refine c_seq ?_
  refine c_region ?_
  refine seq_yl hF (wn_none rfl) rfl rfl (yl_assign hF rfl rfl) ?_
  clear hF; intro a hF
  refine seq_yl hF (wn_none rfl) rfl rfl (yl_assign hF rfl rfl) ?_
  clear hF; intro a hF
  refine wpList_nil ?_
  refine then_n ?_
  refine c_seq ?_
  refine c_region ?_
  refine seq_yl hF (wn_none rfl) rfl rfl (yl_move hF rfl rfl) ?_
  clear hF; intro a hF
  refine seq_wp (wn_none rfl) (wp_call (vs := [_]) hF rfl rfl rfl rfl cf55 (cc_any _ _ _ _ _ _ hp hS) ?_)
  clear hF hS; rintro _ w ⟨rfl, hS⟩ a hF
  refine wpList_nil ?_
  refine then_n ?_
  refine c_seq ?_
  refine c_region ?_
  refine seq_yl hF (wn_none rfl) rfl rfl (yl_move hF rfl rfl) ?_
  clear hF; intro a hF
  refine seq_yl hF (wn_none rfl) rfl rfl (yl_move hF rfl rfl) ?_
  clear hF; intro a hF
  refine seq_yl hF (wn_none rfl) rfl rfl (yl_nilCheck hF rfl rfl) ?_
  clear hF; intro a hF
  refine seq_yl hF (wn_none rfl) rfl rfl (yl_fieldAddr hF rfl rfl (fun w => by kernel_rfl : ∀ w, (Instr.fieldAt 67 (.pointer (some ⟨gb, 0, none⟩)) 1).run Try.prog w = .ok (.pointer (some ⟨gb, 1, none⟩)) w)) ?_
  clear hF; intro a hF
  refine seq_yl hF (wn_none rfl) rfl rfl (yl_load (fun _ h => h ▸ hS) hF rfl rfl 0 rfl ag65 rfl) ?_
  clear hF; intro a hF
  refine seq_yl hF (wn_none rfl) rfl rfl (yl_move hF rfl rfl) ?_
  clear hF; intro a hF
  refine seq_wp (wn_none rfl) (wp_appS (s := x) (L := (byteL acc)) hF hS rfl rfl rfl rfl rfl 1 rfl sl65 Try.underlying9 inf5 (by omega) ?_)
  clear hF hS; intro a w v223 hF hS
  obtain ⟨Av223, cv223, rfl⟩ := hS.form 1 rfl
  refine seq_yl hF (wn_none rfl) rfl rfl (yl_nilCheck hF rfl rfl) ?_
  clear hF; intro a hF
  refine seq_yl hF (wn_none rfl) rfl rfl (yl_fieldAddr hF rfl rfl (fun w => by kernel_rfl : ∀ w, (Instr.fieldAt 67 (.pointer (some ⟨gb, 0, none⟩)) 1).run Try.prog w = .ok (.pointer (some ⟨gb, 1, none⟩)) w)) ?_
  clear hF; intro a hF
  refine seq_wp (wn_none rfl) (wp_store (cs' := #[_, _]) hF hS rfl rfl rfl rfl 0 rfl sz65 (by simp [Value.cells, Value.oneCell']) (by simp [Value.cells]) rfl ?_)
  clear hF hS; intro a w hF hS
  refine wpList_nil ?_
  refine then_n ?_
  refine c_seq ?_
  refine c_region ?_
  refine seq_yl hF (wn_none rfl) rfl rfl (yl_move hF rfl rfl) ?_
  clear hF; intro a hF
  refine seq_yl hF (wn_none rfl) rfl rfl (yl_len hF rfl rfl (fun _ => run_lenStr Try.underlying9)) ?_
  clear hF; intro a hF
  refine seq_yl hF (wn_none rfl) rfl rfl (yl_assign hF rfl rfl) ?_
  clear hF; intro a hF
  refine seq_yl hF (wn_none rfl) rfl rfl (yl_assign hF rfl rfl) ?_
  clear hF; intro a hF
  refine wpList_nil ?_
  refine then_n ?_
  refine wp_ret ?_
  refine ret_tt hF rfl rfl rfl ?_
  rw [byteL_app] at hS; exact ⟨_, rfl, _, rfl, (hS.subT 2 [0, 1] (by decide) (by first | rfl | simp) (by simp) (by simp))⟩

end Go.Proofs.Ytlhcpeolkkadbaa

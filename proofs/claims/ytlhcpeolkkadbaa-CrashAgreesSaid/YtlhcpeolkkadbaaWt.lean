/- walks, printed by wip/gen -/
import Derived.Test.YtlhcpeolkkadbaaWm
import Derived.Test.YtlhcpeolkkadbaaPG
namespace Go.Proofs.Ytlhcpeolkkadbaa
open Go.RowKit
set_option linter.unusedVariables false
set_option linter.unusedSimpArgs false

set_option maxHeartbeats 1000000 in
set_option maxRecDepth 100000 in
theorem agrees_any (av : Value) (A : List Int) (bv : Value) (B : List Int) (gv : Value) (G : List Int) (w0 : World) (hav : Rd w0 1 av (A).length (cells encI (A))) (hal : A.length ≤ 9223372036854775807) (hbv : Rd w0 1 bv (B).length (cells encI (B))) (hbl : B.length ≤ 9223372036854775807) (hgv : Rd w0 1 gv (G).length (cells encI (G))) (hgl : G.length ≤ 9223372036854775807) :
    Fn Try.prog 5 #[av, bv, gv] w0 (fun v w' => v = .bool true ∧ Sat w0 w' []) := by
  obtain ⟨Aav, cav, rfl⟩ := Rd.form hav
  obtain ⟨Abv, cbv, rfl⟩ := Rd.form hbv
  obtain ⟨Agv, cgv, rfl⟩ := Rd.form hgv
  refine c_enter (N := 112) (l := [_, _, _]) Try.func5 rfl rfl (fun a w hF hS => ?_)
  replace hS := hS.addRo hgv
  replace hS := hS.addRo hbv
  replace hS := hS.addRo hav
  refine c_seq ?_
  refine c_region ?_
  refine seq_yl hF (wn_none rfl) rfl rfl (yl_assign hF rfl rfl) ?_
  clear hF; intro a hF
  refine wpList_nil ?_
  refine then_n ?_
  refine c_seq ?_
  refine c_region ?_
  refine seq_yl hF (wn_none rfl) rfl rfl (yl_move hF rfl rfl) ?_
  clear hF; intro a hF
  refine seq_wp (wn_none rfl) (wp_call (vs := [_]) hF rfl rfl rfl rfl cf20 (drive_any _ A _ (hS.rdRo 0 rfl) (by first | omega | (simp; done) | (simp; omega))) ?_)
  clear hF; rintro _ w ⟨st832, v833, Lq834, rm835, rfl, hd836, hS1⟩ a hF
  replace hS := hS.callB hS1 rfl; clear hS1
  obtain ⟨Av833, cv833, rfl⟩ := hS.form 0 rfl
  obtain ⟨hd836d, hd836s⟩ := hd836; have hd836i := okD_I hd836d
  refine seq_wp (wn_none rfl) (wp_alloc (cs := #[_, _, _]) hF hS rfl rfl rfl zr24 rfl ?_)
  clear hF hS; intro a w g837 hF hS
  refine seq_wp (wn_none rfl) (wp_store (cs' := #[_, _, _]) hF hS rfl rfl rfl rfl 0 rfl sz24 (by simp [Value.cells, Value.oneCell']) (by simp [Value.cells]) rfl ?_)
  clear hF hS; intro a w hF hS
  refine wpList_nil ?_
  refine then_n ?_
  refine c_seq ?_
  refine c_region ?_
  refine seq_yl hF (wn_none rfl) rfl rfl (yl_loadK (rs := [_, _, _]) (fun _ h => h ▸ hS) hF rfl rfl 0 rfl ag24 sz24 rfl rfl) ?_
  clear hF; intro a hF
  refine seq_yl hF (wn_none rfl) rfl rfl (yl_move hF rfl rfl) ?_
  clear hF; intro a hF
  refine seq_wp (wn_none rfl) (wp_call (vs := [_, _]) hF rfl rfl rfl rfl cf21 (flying_any st832 _ (rm835) _ B _ (hS.rdRo 3 rfl) (by first | omega | (simp; done) | (simp; omega)) (by unfold okI; omega) (by omega)) ?_)
  clear hF; rintro _ w ⟨v838, Fq839, rfl, hfy840, hS1⟩ a hF
  replace hS := hS.callB hS1 rfl; clear hS1
  obtain ⟨Av838, cv838, rfl⟩ := hS.form 0 rfl
  have hfy840l := hfy840.1
  refine seq_yl hF (wn_none rfl) rfl rfl (yl_assign hF rfl rfl) ?_
  clear hF; intro a hF
  refine wpList_nil ?_
  refine then_n ?_
  refine c_seq ?_
  refine ha_startS hS [1] 6 (by kernel_rfl) ?_; clear hS; intro w hS
  have hSS := hS.sub [1] (by decide) rfl (by simp)
  refine ha_y 1 hF rfl rfl rfl (wn_none rfl) (.inr hSS) (yl_move hF rfl rfl) ?_
  clear hF; intro a hF
  refine ha_y 2 hF rfl rfl rfl (wn_none rfl) (.inr hSS) (yl_move hF rfl rfl) ?_
  clear hF; intro a hF
  refine ha_l 0 hF rfl rfl rfl (wn_none rfl) hSS (yl_loadK (rs := [_, _, _]) (fun _ h => h) hF rfl rfl 0 rfl ag24 sz24 rfl rfl) ?_
  clear hF; intro a hF
  refine ha_one 3 (by kernel_rfl) rfl (wn_none rfl) (wp_call (vs := [_]) hF rfl rfl rfl rfl cf22 (choice_any _ G _ (hS.rdRo 5 rfl) (by first | omega | (simp; done) | (simp; omega))) ?_)
  clear hF; rintro _ w ⟨v841, Pq842, v843, Tq844, rfl, hch845, hS1⟩ a hF
  replace hS := hS.callB hS1 rfl; clear hS1
  obtain ⟨Av841, cv841, rfl⟩ := hS.form 0 rfl
  obtain ⟨Av843, cv843, rfl⟩ := hS.form 1 rfl
  replace hSS := hS.sub [3] (by decide) rfl (by simp)
  refine ⟨.inr hSS, ?_⟩
  refine ha_one 4 (by kernel_rfl) rfl (wn_none rfl) (wp_call (vs := [_, _, _]) hF rfl rfl rfl rfl cf15 (choose_any st832 _ Lq834 (rm835) _ Fq839 _ Pq842 _ Tq844 _ (hS.rdRow 4 rfl) (by first | omega | (simp; done)) (by first | omega | (simp; done)) (hS.rdRow 2 rfl) (by first | omega | (simp; done)) (hS.rdRow 0 rfl) (hS.rdRow 1 rfl) (by first | omega | (simp; done) | (simp; omega)) (by first | omega | (simp; done) | (simp; omega))) ?_)
  clear hF; rintro _ w ⟨rfl, hS1⟩ a hF
  replace hS := hS.callB hS1 rfl; clear hS1
  have hz846 := choose_bd st832 Lq834 Fq839 (rm835) Pq842 Tq844
  replace hSS := hS.sub [3] (by decide) rfl (by simp)
  refine ⟨.inr hSS, ?_⟩
  refine ha_y 5 hF rfl rfl rfl (wn_none rfl) (.inr hSS) (yl_assign hF rfl rfl) ?_
  clear hF; intro a hF
  refine ha_done (by kernel_rfl) ?_ _
  refine then_n ?_
  refine c_seq ?_
  refine c_seq ?_
  refine c_region ?_
  have hC : okC st832 Lq834 Fq839 rm835 := okC_of hd836d hfy840.2; have hcz := choose_size (P := Pq842) (T := Tq844) hC
  refine seq_yl hF (wn_none rfl) rfl rfl (yl_loadK (rs := [_, _, _]) (fun _ h => h ▸ hS) hF rfl rfl 3 rfl ag24 sz24 rfl rfl) ?_
  clear hF; intro a hF
  refine seq_yl hF (wn_none rfl) rfl rfl (yl_move hF rfl rfl) ?_
  clear hF; intro a hF
  refine seq_yl hF (wn_none rfl) rfl rfl (yl_move hF rfl rfl) ?_
  clear hF; intro a hF
  refine seq_wp (wn_none rfl) (wp_call (vs := [_, _, _]) hF rfl rfl rfl rfl cf17 (perm_any st832 _ Lq834 (rm835) _ Fq839 (chooseF st832 Lq834 Fq839 (rm835) Pq842 Tq844) _ (hS.rdRow 4 rfl) (by first | omega | (simp; done)) (by first | omega | (simp; done)) (hS.rdRow 2 rfl) (by first | omega | (simp; done)) (by first | omega | (simp; done))) ?_)
  clear hF; rintro _ w ⟨bq847, rfl, hpm848, hS1⟩ a hF
  replace hS := hS.callB hS1 rfl; clear hS1
  replace hF := fr_set (b' := true) hF (hpm848.2 (perm_choose hC))
  refine seq_yl hF (wn_none rfl) rfl rfl (yl_un hF rfl rfl (fun _ => run_not)) ?_
  clear hF; intro a hF
  refine wpList_nil ?_
  refine then_n ?_
  refine c_cond_f hF rfl ?_
  refine wp_skip ?_
  refine then_n ?_
  refine c_seq ?_
  refine c_region ?_
  refine seq_yl hF (wn_none rfl) rfl rfl (yl_loadK (rs := [_, _, _]) (fun _ h => h ▸ hS) hF rfl rfl 3 rfl ag24 sz24 rfl rfl) ?_
  clear hF; intro a hF
  refine seq_yl hF (wn_none rfl) rfl rfl (yl_move hF rfl rfl) ?_
  clear hF; intro a hF
  refine seq_wp (wn_none rfl) (wp_call (vs := [_, _]) hF rfl rfl rfl rfl cf13 (csecF_any st832 _ Lq834 (rm835) _ Fq839 _ (hS.rdRow 4 rfl) (by first | omega | (simp; done)) (by first | omega | (simp; done)) (hS.rdRow 2 rfl) (by first | omega | (simp; done))) ?_)
  clear hF; rintro _ w ⟨v849, M850, rfl, hM851, hS1⟩ a hF
  replace hS := hS.callB hS1 rfl; clear hS1
  obtain ⟨Av849, cv849, rfl⟩ := hS.form 0 rfl
  have hM851l := secF_len st832 Lq834 Fq839 (rm835); rw [← hM851] at hM851l
  refine seq_yl hF (wn_none rfl) rfl rfl (yl_assign hF rfl rfl) ?_
  clear hF; intro a hF
  refine wpList_nil ?_
  refine then_n ?_
  refine c_seq ?_
  refine c_region ?_
  refine seq_wp (wn_none rfl) (wp_alloc (cs := #[_, _]) hF hS rfl rfl rfl zr28 rfl ?_)
  clear hF hS; intro a w g852 hF hS
  refine wpList_nil ?_
  refine then_n ?_
  refine c_seq ?_
  refine c_seq ?_
  refine c_region ?_
  refine seq_yl hF (wn_none rfl) rfl rfl (yl_assign hF rfl rfl) ?_
  clear hF; intro a hF
  refine wpList_nil ?_
  refine then_n ?_
  refine wp_block ?_
  replace hS := hS.addNil 3 1
  replace hS := hS.addNil 4 1
  refine c_loop (fun m a w => ∃ (k : Nat) (P1 : List Int) (T1 : List Bool) (AvP : Option Addr) (cvP : Nat) (AvT : Option Addr) (cvT : Nat), m = M850.length - k ∧ (k ≤ M850.length ∧ P1.length = k ∧ T1.length = k ∧ AG st832 (Lq834 ++ Fq839) M850 P1 T1 k (chooseF st832 Lq834 Fq839 (rm835) Pq842 Tq844)) ∧ Fr 112 a [(7, .pointer (some ⟨g837, 0, none⟩)), (8, .slice Av838 (Fq839).length cv838), (9, .string (chooseF st832 Lq834 Fq839 (rm835) Pq842 Tq844)), (10, .slice Av849 (M850).length cv849), (11, .pointer (some ⟨g852, 0, none⟩)), (12, .int .i64 ((k : Nat) : Int))] ∧ Sat w0 w (.box g837 24 #[.string st832, .slice Av833 (Lq834).length cv833, .int .i64 (rm835)] :: .row 59 2 (.slice Av833 (Lq834).length cv833) (Lq834).length (cells enc59 (Lq834)) :: .row 59 2 (.slice Av838 (Fq839).length cv838) (Fq839).length (cells enc59 (Fq839)) :: .row 3 1 (.slice Av849 (M850).length cv849) (M850).length (cells encI (M850)) :: .box g852 28 #[.slice AvP (P1).length cvP, .slice AvT (T1).length cvT] :: .row 3 1 (.slice AvP (P1).length cvP) (P1).length (cells encI (P1)) :: .row 4 1 (.slice AvT (T1).length cvT) (T1).length (cells encB (T1)) :: [])) (M850.length - 0) ?_ ?_
  · exact ⟨0, [], [], none, 0, none, 0, rfl, ⟨by omega, rfl, rfl, AG_start _ _ _ _ _ _⟩, hF.to [7, 8, 9, 10, 11, 12] rfl, (hS.sub [7, 8, 6, 3, 2, 1, 0] (by decide) (by first | rfl | simp) (by simp))⟩
  · clear hF hS; try clear hSS
    clear a w; rintro m a w ⟨k, P1, T1, AvP, cvP, AvT, cvT, rfl, hinv, hF, hS⟩
    obtain ⟨hk, hpl, htl, hag⟩ := hinv
    refine c_seq ?_
    refine c_seq ?_
    refine c_region ?_
    refine seq_yl hF (wn_none rfl) rfl rfl (yl_move hF rfl rfl) ?_
    clear hF; intro a hF
    refine seq_yl hF (wn_none rfl) rfl rfl (yl_move hF rfl rfl) ?_
    clear hF; intro a hF
    refine seq_yl hF (wn_none rfl) rfl rfl (yl_len hF rfl rfl (fun _ => run_lenRd sl25 (hS.rdRow 3 rfl))) ?_
    clear hF; intro a hF
    refine seq_yl hF (wn_none rfl) rfl rfl (yl_bin hF rfl rfl rfl rfl (fun _ => run_lss)) ?_
    clear hF; intro a hF
    refine wpList_nil ?_
    refine then_n ?_
    refine c_cond hF rfl (fun hc853 => ?_) (fun hc853 => ?_)
    · first | (replace hc853 := of_decide_eq_true hc853) | (replace hc853 := of_decide_eq_false (bnot_t hc853)) | (replace hc853 := bnot_t hc853) | skip
      try (have hc853x := hc853; simp only [okS, okI, okW, okP] at hc853x)
      refine wp_skip ?_
      refine then_n ?_
      refine c_seq ?_
      refine wp_block ?_
      refine c_seq ?_
      refine c_cut (fun a w => ∃ (Av855 : Option Addr) (cv855 : Nat) (Av857 : Option Addr) (cv857 : Nat), Fr 112 a [(7, .pointer (some ⟨g837, 0, none⟩)), (8, .slice Av838 (Fq839).length cv838), (9, .string (chooseF st832 Lq834 Fq839 (rm835) Pq842 Tq844)), (10, .slice Av849 (M850).length cv849), (11, .pointer (some ⟨g852, 0, none⟩)), (12, .int .i64 ((k : Nat) : Int))] ∧ Sat w0 w (.box g837 24 #[.string st832, .slice Av833 (Lq834).length cv833, .int .i64 (rm835)] :: .row 59 2 (.slice Av833 (Lq834).length cv833) (Lq834).length (cells enc59 (Lq834)) :: .row 59 2 (.slice Av838 (Fq839).length cv838) (Fq839).length (cells enc59 (Fq839)) :: .row 3 1 (.slice Av849 (M850).length cv849) (M850).length (cells encI (M850)) :: .box g852 28 #[.slice Av855 ((P1 ++ ([(0 : Int)] : List Int))).length cv855, .slice Av857 ((T1 ++ ([false] : List Bool))).length cv857] :: .row 3 1 (.slice Av855 ((P1 ++ ([(0 : Int)] : List Int))).length cv855) ((P1 ++ ([(0 : Int)] : List Int))).length (cells encI ((P1 ++ ([(0 : Int)] : List Int)))) :: .row 4 1 (.slice Av857 ((T1 ++ ([false] : List Bool))).length cv857) ((T1 ++ ([false] : List Bool))).length (cells encB ((T1 ++ ([false] : List Bool)))) :: [])) ?_ ?_
      · skip
        refine ha_startS hS [4] 9 (by kernel_rfl) ?_; clear hS; intro w hS
        have hSS := hS.sub [4] (by decide) rfl (by simp)
        refine ha_y 0 hF rfl rfl rfl (wn_none rfl) (.inr hSS) (yl_fieldAddr hF rfl rfl (fun w => by kernel_rfl : ∀ w, (Instr.fieldAt 28 (.pointer (some ⟨g852, 0, none⟩)) 0).run Try.prog w = .ok (.pointer (some ⟨g852, 0, none⟩)) w)) ?_
        clear hF; intro a hF
        refine ha_y 4 hF rfl rfl rfl (wn_none rfl) (.inr hSS) (yl_fieldAddr hF rfl rfl (fun w => by kernel_rfl : ∀ w, (Instr.fieldAt 28 (.pointer (some ⟨g852, 0, none⟩)) 1).run Try.prog w = .ok (.pointer (some ⟨g852, 1, none⟩)) w)) ?_
        clear hF; intro a hF
        refine ha_l 1 hF rfl rfl rfl (wn_none rfl) hSS (yl_load (fun _ h => h) hF rfl rfl 0 rfl ag25 rfl) ?_
        clear hF; intro a hF
        refine ha_l 5 hF rfl rfl rfl (wn_none rfl) hSS (yl_load (fun _ h => h) hF rfl rfl 0 rfl ag26 rfl) ?_
        clear hF; intro a hF
        refine ha_all (rs := [2, 6]) (by kernel_rfl) (by simp) ?_
        refine List.forall_mem_cons.2 ⟨?_, List.forall_mem_cons.2 ⟨?_, (fun _ h => by cases h)⟩⟩
        · skip
          refine ha_op 2 rfl (wn_none rfl) (wp_bslice (parts := [(0, .const (Go.Value.int Go.IntKind.i64 0))]) (vs := [(0, _)]) (enc := encI) (e := 3) (size := 1) (cs := #[.int .i64 (0 : Int)]) hF hS rfl rfl rfl rfl ([(0 : Int)] : List Int) (fun w => by kernel_rfl) rfl rfl rfl (by decide) ?_)
          clear hF hS; intro a w v858 hF hS
          obtain ⟨Av858, cv858, rfl⟩ := hS.form 0 rfl
          replace hSS := hS.sub [5] (by decide) rfl (by simp)
          refine ⟨.inr hSS, ?_⟩
          refine ha_all (rs := [3, 6]) (by kernel_rfl) (by simp) ?_
          refine List.forall_mem_cons.2 ⟨?_, List.forall_mem_cons.2 ⟨?_, (fun _ h => by cases h)⟩⟩
          · skip
            refine ha_op 3 rfl (wn_none rfl) (wp_app (enc := encI) hF hS rfl rfl rfl rfl rfl 6 rfl sl25 inf3 rfl (by decide) (hS.rdRow 0 rfl) encI_one (by decide) (by first | omega | (simp only [List.length_append, List.length_cons, List.length_nil]; omega) | (simp; omega)) ?_)
            clear hF hS; intro a w v859 hF hS
            obtain ⟨Av859, cv859, rfl⟩ := hS.form 6 rfl
            replace hSS := hS.sub [5] (by decide) rfl (by simp)
            refine ⟨.inr hSS, ?_⟩
            refine ha_y 8 hF rfl rfl rfl (wn_none rfl) (.inr hSS) (yl_fieldAddr hF rfl rfl (fun w => by kernel_rfl : ∀ w, (Instr.fieldAt 28 (.pointer (some ⟨g852, 0, none⟩)) 0).run Try.prog w = .ok (.pointer (some ⟨g852, 0, none⟩)) w)) ?_
            clear hF; intro a hF
            refine ha_one 6 (by kernel_rfl) rfl (wn_none rfl) (wp_bslice (parts := [(0, .const (Go.Value.bool false))]) (vs := [(0, _)]) (enc := encB) (e := 4) (size := 1) (cs := #[.bool false]) hF hS rfl rfl rfl rfl ([false] : List Bool) (fun w => by kernel_rfl) rfl rfl rfl (by decide) ?_)
            clear hF hS; intro a w v860 hF hS
            obtain ⟨Av860, cv860, rfl⟩ := hS.form 0 rfl
            replace hSS := hS.sub [6] (by decide) rfl (by simp)
            refine ⟨.inr hSS, ?_⟩
            refine ha_one 7 (by kernel_rfl) rfl (wn_none rfl) (wp_app (enc := encB) hF hS rfl rfl rfl rfl rfl 8 rfl sl26 inf4 rfl (by decide) (hS.rdRow 0 rfl) encB_one (by decide) (by first | omega | (simp only [List.length_append, List.length_cons, List.length_nil]; omega) | (simp; omega)) ?_)
            clear hF hS; intro a w v861 hF hS
            obtain ⟨Av861, cv861, rfl⟩ := hS.form 8 rfl
            replace hSS := hS.sub [6] (by decide) rfl (by simp)
            refine ⟨.inr hSS, ?_⟩
            refine ha_one 9 (by kernel_rfl) rfl (wn_none rfl) (wp_store (cs' := #[_, _]) hF hS rfl rfl rfl rfl 6 rfl sz25 (by simp [Value.cells, Value.oneCell']) (by simp [Value.cells]) rfl ?_)
            clear hF hS; intro a w hF hS
            refine ⟨.inl (by kernel_rfl), ?_⟩
            refine ha_y 10 hF rfl rfl rfl (wn_none rfl) (.inl (by kernel_rfl)) (yl_fieldAddr hF rfl rfl (fun w => by kernel_rfl : ∀ w, (Instr.fieldAt 28 (.pointer (some ⟨g852, 0, none⟩)) 1).run Try.prog w = .ok (.pointer (some ⟨g852, 1, none⟩)) w)) ?_
            clear hF; intro a hF
            refine ha_one 11 (by kernel_rfl) rfl (wn_none rfl) (wp_store (cs' := #[_, _]) hF hS rfl rfl rfl rfl 6 rfl sz26 (by simp [Value.cells, Value.oneCell']) (by simp [Value.cells]) rfl ?_)
            clear hF hS; intro a w hF hS
            refine ⟨.inl (by kernel_rfl), ?_⟩
            refine ha_done (by kernel_rfl) ?_ _
            refine cut_n ?_
            exact ⟨_, _, _, _, hF.to [7, 8, 9, 10, 11, 12] rfl, (hS.sub [2, 3, 4, 5, 6, 7, 8] (by decide) (by first | rfl | simp) (by simp))⟩
          · skip
            refine ha_op 6 rfl (wn_none rfl) (wp_bslice (parts := [(0, .const (Go.Value.bool false))]) (vs := [(0, _)]) (enc := encB) (e := 4) (size := 1) (cs := #[.bool false]) hF hS rfl rfl rfl rfl ([false] : List Bool) (fun w => by kernel_rfl) rfl rfl rfl (by decide) ?_)
            clear hF hS; intro a w v862 hF hS
            obtain ⟨Av862, cv862, rfl⟩ := hS.form 0 rfl
            replace hSS := hS.sub [6] (by decide) rfl (by simp)
            refine ⟨.inr hSS, ?_⟩
            refine ha_one 3 (by kernel_rfl) rfl (wn_none rfl) (wp_app (enc := encI) hF hS rfl rfl rfl rfl rfl 7 rfl sl25 inf3 rfl (by decide) (hS.rdRow 1 rfl) encI_one (by decide) (by first | omega | (simp only [List.length_append, List.length_cons, List.length_nil]; omega) | (simp; omega)) ?_)
            clear hF hS; intro a w v863 hF hS
            obtain ⟨Av863, cv863, rfl⟩ := hS.form 7 rfl
            replace hSS := hS.sub [6] (by decide) rfl (by simp)
            refine ⟨.inr hSS, ?_⟩
            refine ha_y 8 hF rfl rfl rfl (wn_none rfl) (.inr hSS) (yl_fieldAddr hF rfl rfl (fun w => by kernel_rfl : ∀ w, (Instr.fieldAt 28 (.pointer (some ⟨g852, 0, none⟩)) 0).run Try.prog w = .ok (.pointer (some ⟨g852, 0, none⟩)) w)) ?_
            clear hF; intro a hF
            refine ha_one 7 (by kernel_rfl) rfl (wn_none rfl) (wp_app (enc := encB) hF hS rfl rfl rfl rfl rfl 8 rfl sl26 inf4 rfl (by decide) (hS.rdRow 0 rfl) encB_one (by decide) (by first | omega | (simp only [List.length_append, List.length_cons, List.length_nil]; omega) | (simp; omega)) ?_)
            clear hF hS; intro a w v864 hF hS
            obtain ⟨Av864, cv864, rfl⟩ := hS.form 8 rfl
            replace hSS := hS.sub [6] (by decide) rfl (by simp)
            refine ⟨.inr hSS, ?_⟩
            refine ha_one 9 (by kernel_rfl) rfl (wn_none rfl) (wp_store (cs' := #[_, _]) hF hS rfl rfl rfl rfl 6 rfl sz25 (by simp [Value.cells, Value.oneCell']) (by simp [Value.cells]) rfl ?_)
            clear hF hS; intro a w hF hS
            refine ⟨.inl (by kernel_rfl), ?_⟩
            refine ha_y 10 hF rfl rfl rfl (wn_none rfl) (.inl (by kernel_rfl)) (yl_fieldAddr hF rfl rfl (fun w => by kernel_rfl : ∀ w, (Instr.fieldAt 28 (.pointer (some ⟨g852, 0, none⟩)) 1).run Try.prog w = .ok (.pointer (some ⟨g852, 1, none⟩)) w)) ?_
            clear hF; intro a hF
            refine ha_one 11 (by kernel_rfl) rfl (wn_none rfl) (wp_store (cs' := #[_, _]) hF hS rfl rfl rfl rfl 6 rfl sz26 (by simp [Value.cells, Value.oneCell']) (by simp [Value.cells]) rfl ?_)
            clear hF hS; intro a w hF hS
            refine ⟨.inl (by kernel_rfl), ?_⟩
            refine ha_done (by kernel_rfl) ?_ _
            refine cut_n ?_
            exact ⟨_, _, _, _, hF.to [7, 8, 9, 10, 11, 12] rfl, (hS.sub [2, 3, 4, 5, 6, 7, 8] (by decide) (by first | rfl | simp) (by simp))⟩
        · skip
          refine ha_op 6 rfl (wn_none rfl) (wp_bslice (parts := [(0, .const (Go.Value.bool false))]) (vs := [(0, _)]) (enc := encB) (e := 4) (size := 1) (cs := #[.bool false]) hF hS rfl rfl rfl rfl ([false] : List Bool) (fun w => by kernel_rfl) rfl rfl rfl (by decide) ?_)
          clear hF hS; intro a w v865 hF hS
          obtain ⟨Av865, cv865, rfl⟩ := hS.form 0 rfl
          replace hSS := hS.sub [5] (by decide) rfl (by simp)
          refine ⟨.inr hSS, ?_⟩
          refine ha_one 2 (by kernel_rfl) rfl (wn_none rfl) (wp_bslice (parts := [(0, .const (Go.Value.int Go.IntKind.i64 0))]) (vs := [(0, _)]) (enc := encI) (e := 3) (size := 1) (cs := #[.int .i64 (0 : Int)]) hF hS rfl rfl rfl rfl ([(0 : Int)] : List Int) (fun w => by kernel_rfl) rfl rfl rfl (by decide) ?_)
          clear hF hS; intro a w v866 hF hS
          obtain ⟨Av866, cv866, rfl⟩ := hS.form 0 rfl
          replace hSS := hS.sub [6] (by decide) rfl (by simp)
          refine ⟨.inr hSS, ?_⟩
          refine ha_one 3 (by kernel_rfl) rfl (wn_none rfl) (wp_app (enc := encI) hF hS rfl rfl rfl rfl rfl 7 rfl sl25 inf3 rfl (by decide) (hS.rdRow 0 rfl) encI_one (by decide) (by first | omega | (simp only [List.length_append, List.length_cons, List.length_nil]; omega) | (simp; omega)) ?_)
          clear hF hS; intro a w v867 hF hS
          obtain ⟨Av867, cv867, rfl⟩ := hS.form 7 rfl
          replace hSS := hS.sub [6] (by decide) rfl (by simp)
          refine ⟨.inr hSS, ?_⟩
          refine ha_y 8 hF rfl rfl rfl (wn_none rfl) (.inr hSS) (yl_fieldAddr hF rfl rfl (fun w => by kernel_rfl : ∀ w, (Instr.fieldAt 28 (.pointer (some ⟨g852, 0, none⟩)) 0).run Try.prog w = .ok (.pointer (some ⟨g852, 0, none⟩)) w)) ?_
          clear hF; intro a hF
          refine ha_one 7 (by kernel_rfl) rfl (wn_none rfl) (wp_app (enc := encB) hF hS rfl rfl rfl rfl rfl 8 rfl sl26 inf4 rfl (by decide) (hS.rdRow 1 rfl) encB_one (by decide) (by first | omega | (simp only [List.length_append, List.length_cons, List.length_nil]; omega) | (simp; omega)) ?_)
          clear hF hS; intro a w v868 hF hS
          obtain ⟨Av868, cv868, rfl⟩ := hS.form 8 rfl
          replace hSS := hS.sub [6] (by decide) rfl (by simp)
          refine ⟨.inr hSS, ?_⟩
          refine ha_one 9 (by kernel_rfl) rfl (wn_none rfl) (wp_store (cs' := #[_, _]) hF hS rfl rfl rfl rfl 6 rfl sz25 (by simp [Value.cells, Value.oneCell']) (by simp [Value.cells]) rfl ?_)
          clear hF hS; intro a w hF hS
          refine ⟨.inl (by kernel_rfl), ?_⟩
          refine ha_y 10 hF rfl rfl rfl (wn_none rfl) (.inl (by kernel_rfl)) (yl_fieldAddr hF rfl rfl (fun w => by kernel_rfl : ∀ w, (Instr.fieldAt 28 (.pointer (some ⟨g852, 0, none⟩)) 1).run Try.prog w = .ok (.pointer (some ⟨g852, 1, none⟩)) w)) ?_
          clear hF; intro a hF
          refine ha_one 11 (by kernel_rfl) rfl (wn_none rfl) (wp_store (cs' := #[_, _]) hF hS rfl rfl rfl rfl 6 rfl sz26 (by simp [Value.cells, Value.oneCell']) (by simp [Value.cells]) rfl ?_)
          clear hF hS; intro a w hF hS
          refine ⟨.inl (by kernel_rfl), ?_⟩
          refine ha_done (by kernel_rfl) ?_ _
          refine cut_n ?_
          exact ⟨_, _, _, _, hF.to [7, 8, 9, 10, 11, 12] rfl, (hS.sub [2, 3, 4, 5, 6, 7, 8] (by decide) (by first | rfl | simp) (by simp))⟩
      clear hF hS
      rintro a w ⟨Av855, cv855, Av857, cv857, hF, hS⟩
      refine then_n ?_
      refine c_seq ?_
      refine c_region ?_
      refine seq_yl hF (wn_none rfl) rfl rfl (yl_assign hF rfl rfl) ?_
      clear hF; intro a hF
      refine wpList_nil ?_
      refine then_n ?_
      refine c_seq ?_
      refine c_seq ?_
      refine c_region ?_
      refine seq_yl hF (wn_none rfl) rfl rfl (yl_assign hF rfl rfl) ?_
      clear hF; intro a hF
      refine wpList_nil ?_
      refine then_n ?_
      refine wp_block ?_
      have hlt_hx869 : k < (M850).length := by first | omega | (simp; done) | (simp; omega)
      obtain ⟨ad870, rfl⟩ := rd_some (hS.rdRow 3 rfl) hlt_hx869
      obtain ⟨x869, hx869⟩ := get_some hlt_hx869
      obtain ⟨hsx, hpx, hox⟩ := choose_pick (P := Pq842) (T := Tq844) hC hM851 hx869
      have hvx := versC_len st832 (Lq834 ++ Fq839) x869; rw [List.length_append] at hvx
      refine c_loop (fun m a w => ∃ (i : Nat) (b : Bool) (P2 : List Int) (T2 : List Bool) (AvP2 : Option Addr) (cvP2 : Nat) (AvT2 : Option Addr) (cvT2 : Nat), m = 20 - i ∧ (i ≤ 20 ∧ P2.length = k + 1 ∧ T2.length = k + 1 ∧ AG st832 (Lq834 ++ Fq839) M850 P2 T2 k (chooseF st832 Lq834 Fq839 (rm835) Pq842 Tq844) ∧ FD (versC st832 (Lq834 ++ Fq839) x869) (sec (chooseF st832 Lq834 Fq839 (rm835) Pq842 Tq844) x869) i b k P2 T2) ∧ Fr 112 a [(7, .pointer (some ⟨g837, 0, none⟩)), (8, .slice Av838 (Fq839).length cv838), (9, .string (chooseF st832 Lq834 Fq839 (rm835) Pq842 Tq844)), (10, .slice (some ad870) (M850).length cv849), (11, .pointer (some ⟨g852, 0, none⟩)), (12, .int .i64 ((k : Nat) : Int)), (13, .bool b), (14, .int .i64 ((i : Nat) : Int))] ∧ Sat w0 w (.box g837 24 #[.string st832, .slice Av833 (Lq834).length cv833, .int .i64 (rm835)] :: .row 59 2 (.slice Av833 (Lq834).length cv833) (Lq834).length (cells enc59 (Lq834)) :: .row 59 2 (.slice Av838 (Fq839).length cv838) (Fq839).length (cells enc59 (Fq839)) :: .row 3 1 (.slice (some ad870) (M850).length cv849) (M850).length (cells encI (M850)) :: .box g852 28 #[.slice AvP2 (P2).length cvP2, .slice AvT2 (T2).length cvT2] :: .row 3 1 (.slice AvP2 (P2).length cvP2) (P2).length (cells encI (P2)) :: .row 4 1 (.slice AvT2 (T2).length cvT2) (T2).length (cells encB (T2)) :: [])) (20 - 0) ?_ ?_
      · exact ⟨0, _, (P1 ++ ([(0 : Int)] : List Int)), (T1 ++ ([false] : List Bool)), Av855, cv855, Av857, cv857, rfl, ⟨by omega, by simp; omega, by simp; omega, AG_app hag hpl htl, FD_start _ _ _ _ _⟩, hF.to [7, 8, 9, 10, 11, 12, 13, 14] rfl, (hS.sub [0, 1, 2, 3, 4, 5, 6] (by decide) (by first | rfl | simp) (by simp))⟩
      · clear hF hS; try clear hSS
        clear a w; rintro m a w ⟨i, b, P2, T2, AvP2, cvP2, AvT2, cvT2, rfl, hinv, hF, hS⟩
        obtain ⟨hi, hpl2, htl2, hag2, hfd⟩ := hinv
        refine c_seq ?_
        refine c_seq ?_
        refine c_region ?_
        refine seq_yl hF (wn_none rfl) rfl rfl (yl_move hF rfl rfl) ?_
        clear hF; intro a hF
        refine seq_yl hF (wn_none rfl) rfl rfl (yl_bin hF rfl rfl rfl rfl (fun _ => run_lss)) ?_
        clear hF; intro a hF
        refine seq_yl hF (wn_none rfl) rfl rfl (yl_move hF rfl rfl) ?_
        clear hF; intro a hF
        refine fr_split hF (fun hc871 hF => ?_) (fun hc871 hF => ?_)
        · first | (replace hc871 := of_decide_eq_true hc871) | (replace hc871 := of_decide_eq_false (bnot_t hc871)) | (replace hc871 := bnot_t hc871) | skip
          try (have hc871x := hc871; simp only [okS, okI, okW, okP] at hc871x)
          refine seq_yl hF (wn_t hF rfl rfl rfl rfl) rfl rfl (yl_move hF rfl rfl) ?_
          clear hF; intro a hF
          refine seq_yl hF (wn_t hF rfl rfl rfl rfl) rfl rfl (yl_un hF rfl rfl (fun _ => run_not)) ?_
          clear hF; intro a hF
          refine seq_yl hF (wn_none rfl) rfl rfl (yl_pick (u := _) (v := undef) hF rfl rfl (fun _ => rfl) (fun h => by cases h)) ?_
          clear hF; intro a hF
          refine wpList_nil ?_
          refine then_n ?_
          refine c_cond hF rfl (fun hc872 => ?_) (fun hc872 => ?_)
          · first | (replace hc872 := of_decide_eq_true hc872) | (replace hc872 := of_decide_eq_false (bnot_t hc872)) | (replace hc872 := bnot_t hc872) | skip
            try (have hc872x := hc872; simp only [okS, okI, okW, okP] at hc872x)
            refine wp_skip ?_
            refine then_n ?_
            refine c_seq ?_
            refine wp_block ?_
            refine c_seq ?_
            refine ha_startS hS [4] 15 (by kernel_rfl) ?_; clear hS; intro w hS
            have hSS := hS.sub [4] (by decide) rfl (by simp)
            refine ha_y 0 hF rfl rfl rfl (wn_none rfl) (.inr hSS) (yl_fieldAddr hF rfl rfl (fun w => by kernel_rfl : ∀ w, (Instr.fieldAt 28 (.pointer (some ⟨g852, 0, none⟩)) 0).run Try.prog w = .ok (.pointer (some ⟨g852, 0, none⟩)) w)) ?_
            clear hF; intro a hF
            refine ha_y 2 hF rfl rfl rfl (wn_none rfl) (.inr hSS) (yl_move hF rfl rfl) ?_
            clear hF; intro a hF
            refine ha_y 3 hF rfl rfl rfl (wn_none rfl) (.inr hSS) (yl_fieldAddr hF rfl rfl (fun w => by kernel_rfl : ∀ w, (Instr.fieldAt 28 (.pointer (some ⟨g852, 0, none⟩)) 1).run Try.prog w = .ok (.pointer (some ⟨g852, 1, none⟩)) w)) ?_
            clear hF; intro a hF
            refine ha_y 5 hF rfl rfl rfl (wn_none rfl) (.inr hSS) (yl_move hF rfl rfl) ?_
            clear hF; intro a hF
            refine ha_y 6 hF rfl rfl rfl (wn_none rfl) (.inr hSS) (yl_move hF rfl rfl) ?_
            clear hF; intro a hF
            refine ha_y 7 hF rfl rfl rfl (wn_none rfl) (.inr hSS) (yl_bin hF rfl rfl rfl rfl (fun _ => run_quoN (by omega) (by omega) (by omega))) ?_
            clear hF; intro a hF
            refine ha_y 8 hF rfl rfl rfl (wn_none rfl) (.inr hSS) (yl_move hF rfl rfl) ?_
            clear hF; intro a hF
            refine ha_y 9 hF rfl rfl rfl (wn_none rfl) (.inr hSS) (yl_bin hF rfl rfl rfl rfl (fun _ => run_remN (by omega) (by omega))) ?_
            clear hF; intro a hF
            refine ha_y 10 hF rfl rfl rfl (wn_none rfl) (.inr hSS) (yl_bin hF rfl rfl rfl rfl (fun _ => run_eql)) ?_
            clear hF; intro a hF
            refine ha_l 1 hF rfl rfl rfl (wn_none rfl) hSS (yl_load (fun _ h => h) hF rfl rfl 0 rfl ag25 rfl) ?_
            clear hF; intro a hF
            have hlt_hx873 : k < (P2).length := by first | omega | (simp; done) | (simp; omega)
            obtain ⟨ad874, rfl⟩ := rd_some (hS.rdRow 5 rfl) hlt_hx873
            obtain ⟨x873, hx873⟩ := get_some hlt_hx873
            refine ha_y 11 hF rfl rfl rfl (wn_none rfl) (.inr hSS) (yl_indexAddr hF rfl rfl rfl (fun _ => run_idx' sl25 sz3 (hS.rdRow 5 rfl) hlt_hx873)) ?_
            clear hF; intro a hF
            refine ha_l 4 hF rfl rfl rfl (wn_none rfl) hSS (yl_load (fun _ h => h) hF rfl rfl 0 rfl ag26 rfl) ?_
            clear hF; intro a hF
            refine ha_one 12 (by kernel_rfl) rfl (wn_none rfl) (wp_storeAt0 (enc := encI) (z' := ((((i : Nat) : Int) / (2 : Int)))) hF hS rfl rfl rfl rfl 5 rfl sz3 (by simp [Value.cells, Value.oneCell']) encI_len hx873 (by simp [Value.cells]) rfl ?_)
            clear hF hS; intro a w hF hS
            have hlt_hx875 : k < (P2.set k ((((i : Nat) : Int) / (2 : Int)))).length := by simpa using hlt_hx873
            obtain ⟨x875, hx875, hex875⟩ : ∃ x, (P2.set k ((((i : Nat) : Int) / (2 : Int))))[k]? = some x ∧ x = ((((i : Nat) : Int) / (2 : Int))) := ⟨_, List.getElem?_set_self hlt_hx873, rfl⟩
            replace hSS := hS.sub [4] (by decide) rfl (by simp)
            refine ⟨.inr hSS, ?_⟩
            have hlt_hx876 : k < (T2).length := by first | omega | (simp; done) | (simp; omega)
            obtain ⟨ad877, rfl⟩ := rd_some (hS.rdRow 6 rfl) hlt_hx876
            obtain ⟨x876, hx876⟩ := get_some hlt_hx876
            refine ha_y 13 hF rfl rfl rfl (wn_none rfl) (.inr hSS) (yl_indexAddr hF rfl rfl rfl (fun _ => run_idx' sl26 sz4 (hS.rdRow 6 rfl) hlt_hx876)) ?_
            clear hF; intro a hF
            refine ha_one 14 (by kernel_rfl) rfl (wn_none rfl) (wp_storeAt0 (enc := encB) (z' := (decide (((((i : Nat) : Int) % (2 : Int))) = (1 : Int)))) hF hS rfl rfl rfl rfl 6 rfl sz4 (by simp [Value.cells, Value.oneCell']) encB_len hx876 (by simp [Value.cells]) rfl ?_)
            clear hF hS; intro a w hF hS
            have hlt_hx878 : k < (T2.set k (decide (((((i : Nat) : Int) % (2 : Int))) = (1 : Int)))).length := by simpa using hlt_hx876
            obtain ⟨x878, hx878, hex878⟩ : ∃ x, (T2.set k (decide (((((i : Nat) : Int) % (2 : Int))) = (1 : Int))))[k]? = some x ∧ x = (decide (((((i : Nat) : Int) % (2 : Int))) = (1 : Int))) := ⟨_, List.getElem?_set_self hlt_hx876, rfl⟩
            replace hSS := hS.sub [4] (by decide) rfl (by simp)
            refine ⟨.inr hSS, ?_⟩
            refine ha_done (by kernel_rfl) ?_ _
            refine then_n ?_
            refine c_seq ?_
            refine ha_startS hS [0, 4, 3] 14 (by kernel_rfl) ?_; clear hS; intro w hS
            have hSS := hS.sub [0, 4, 3] (by decide) rfl (by simp)
            refine ha_y 1 hF rfl rfl rfl (wn_none rfl) (.inr hSS) (yl_move hF rfl rfl) ?_
            clear hF; intro a hF
            refine ha_y 4 hF rfl rfl rfl (wn_none rfl) (.inr hSS) (yl_move hF rfl rfl) ?_
            clear hF; intro a hF
            refine ha_y 5 hF rfl rfl rfl (wn_none rfl) (.inr hSS) (yl_move hF rfl rfl) ?_
            clear hF; intro a hF
            refine ha_y 6 hF rfl rfl rfl (wn_none rfl) (.inr hSS) (yl_indexAddr hF rfl rfl rfl (fun _ => run_idx' sl25 sz3 (hS.rdRow 3 rfl) hlt_hx869)) ?_
            clear hF; intro a hF
            refine ha_l 0 hF rfl rfl rfl (wn_none rfl) hSS (yl_loadK (rs := [_, _, _]) (fun _ h => h) hF rfl rfl 0 rfl ag24 sz24 rfl rfl) ?_
            clear hF; intro a hF
            refine ha_l 2 hF rfl rfl rfl (wn_none rfl) hSS (yl_loadK (rs := [_, _]) (fun _ h => h) hF rfl rfl 1 rfl ag28 sz28 rfl rfl) ?_
            clear hF; intro a hF
            refine ha_l 7 hF rfl rfl rfl (wn_none rfl) hSS (yl_loadAt hF rfl rfl ag3 (fun _ h => rd_cell0 (enc := encI) (Sat.rdRow h 2 rfl) encI_len hx869 rfl rfl)) ?_
            clear hF; intro a hF
            refine ha_one 3 (by kernel_rfl) rfl (wn_none rfl) (wp_call (vs := [_, _, _]) hF rfl rfl rfl rfl cf15 (choose_any st832 _ Lq834 (rm835) _ Fq839 _ (P2.set k ((((i : Nat) : Int) / (2 : Int)))) _ (T2.set k (decide (((((i : Nat) : Int) % (2 : Int))) = (1 : Int)))) _ (hS.rdRow 1 rfl) (by first | omega | (simp; done)) (by first | omega | (simp; done)) (hS.rdRow 2 rfl) (by first | omega | (simp; done)) (hS.rdRow 5 rfl) (hS.rdRow 6 rfl) (by first | omega | (simp; done) | (simp; omega)) (by first | omega | (simp; done) | (simp; omega))) ?_)
            clear hF; rintro _ w ⟨rfl, hS1⟩ a hF
            replace hS := hS.callB hS1 rfl; clear hS1
            have hz879 := choose_bd st832 Lq834 Fq839 (rm835) (P2.set k ((((i : Nat) : Int) / (2 : Int)))) (T2.set k (decide (((((i : Nat) : Int) % (2 : Int))) = (1 : Int))))
            replace hSS := hS.sub [0, 4, 3] (by decide) rfl (by simp)
            refine ⟨.inr hSS, ?_⟩
            refine ha_one 8 (by kernel_rfl) rfl (wn_none rfl) (wp_call (vs := [_, _, _]) hF rfl rfl rfl rfl cf26 (imRead2_any (chooseF st832 Lq834 Fq839 (rm835) (P2.set k ((((i : Nat) : Int) / (2 : Int)))) (T2.set k (decide (((((i : Nat) : Int) % (2 : Int))) = (1 : Int))))) (x869) (1 : Int) _ (by omega)) ?_)
            clear hF; rintro _ w ⟨xs880, e881, rfl, hsp882, hS1⟩ a hF
            replace hS := hS.callB hS1 rfl; clear hS1
            have hsp882z := fun h9 : okS (((chooseF st832 Lq834 Fq839 (rm835) (P2.set k ((((i : Nat) : Int) / (2 : Int)))) (T2.set k (decide (((((i : Nat) : Int) % (2 : Int))) = (1 : Int)))))).size : Int) (x869) (1 : Int) => subs_size (s := (chooseF st832 Lq834 Fq839 (rm835) (P2.set k ((((i : Nat) : Int) / (2 : Int)))) (T2.set k (decide (((((i : Nat) : Int) % (2 : Int))) = (1 : Int)))))) (i := (x869) * 8) (j := ((x869) + (1 : Int)) * 8) (by unfold okS at h9; omega) (by unfold okS at h9; omega) (by unfold okS okI at h9; omega)
            obtain ⟨hk883, rfl, rfl⟩ := hsp882.resolve_right (fun h9 => h9.1 ((by rw [choose_size hC]; exact hsx)))
            try (have hk883x := hk883; simp only [okS, okI, okW, okP] at hk883x)
            replace hSS := hS.sub [0, 4, 3] (by decide) rfl (by simp)
            refine ⟨.inr hSS, ?_⟩
            refine ha_y 9 hF rfl rfl rfl (wn_none rfl) (.inr hSS) (yl_move hF rfl rfl) ?_
            clear hF; intro a hF
            refine ha_y 10 hF rfl rfl rfl (wn_none rfl) (.inr hSS) (yl_extract hF rfl rfl rfl) ?_
            clear hF; intro a hF
            refine ha_y 11 hF rfl rfl rfl (wn_none rfl) (.inr hSS) (yl_extract hF rfl rfl rfl) ?_
            clear hF; intro a hF
            refine ha_y 12 hF rfl rfl rfl (wn_none rfl) (.inr hSS) (yl_assign hF rfl rfl) ?_
            clear hF; intro a hF
            refine ha_y 13 hF rfl rfl rfl (wn_none rfl) (.inr hSS) (yl_assign hF rfl rfl) ?_
            clear hF; intro a hF
            refine ha_done (by kernel_rfl) ?_ _
            refine then_n ?_
            refine c_seq ?_
            refine c_region ?_
            refine seq_yl hF (wn_none rfl) rfl rfl (yl_move hF rfl rfl) ?_
            clear hF; intro a hF
            refine seq_yl hF (wn_none rfl) rfl rfl (yl_move hF rfl rfl) ?_
            clear hF; intro a hF
            refine seq_yl hF (wn_none rfl) rfl rfl (yl_move hF rfl rfl) ?_
            clear hF; intro a hF
            refine seq_yl hF (wn_none rfl) rfl rfl (yl_indexAddr hF rfl rfl rfl (fun _ => run_idx' sl25 sz3 (hS.rdRow 3 rfl) hlt_hx869)) ?_
            clear hF; intro a hF
            refine seq_yl hF (wn_none rfl) rfl rfl (yl_loadAt hF rfl rfl ag3 (fun _ h => rd_cell0 (enc := encI) (by subst h; exact hS.rdRow 3 rfl) encI_len hx869 rfl rfl)) ?_
            clear hF; intro a hF
            refine seq_wp (wn_none rfl) (wp_call (vs := [_, _, _]) hF rfl rfl rfl rfl cf26 (imRead2_any (chooseF st832 Lq834 Fq839 (rm835) Pq842 Tq844) (x869) (1 : Int) _ (by omega)) ?_)
            clear hF; rintro _ w ⟨xs884, e885, rfl, hsp886, hS1⟩ a hF
            replace hS := hS.callB hS1 rfl; clear hS1
            have hsp886z := fun h9 : okS (((chooseF st832 Lq834 Fq839 (rm835) Pq842 Tq844)).size : Int) (x869) (1 : Int) => subs_size (s := (chooseF st832 Lq834 Fq839 (rm835) Pq842 Tq844)) (i := (x869) * 8) (j := ((x869) + (1 : Int)) * 8) (by unfold okS at h9; omega) (by unfold okS at h9; omega) (by unfold okS okI at h9; omega)
            obtain ⟨hk887, rfl, rfl⟩ := hsp886.resolve_right (fun h9 => h9.1 ((by rw [choose_size hC]; exact hsx)))
            try (have hk887x := hk887; simp only [okS, okI, okW, okP] at hk887x)
            refine seq_yl hF (wn_none rfl) rfl rfl (yl_move hF rfl rfl) ?_
            clear hF; intro a hF
            refine seq_yl hF (wn_none rfl) rfl rfl (yl_extract hF rfl rfl rfl) ?_
            clear hF; intro a hF
            refine seq_yl hF (wn_none rfl) rfl rfl (yl_extract hF rfl rfl rfl) ?_
            clear hF; intro a hF
            refine seq_yl hF (wn_none rfl) rfl rfl (yl_assign hF rfl rfl) ?_
            clear hF; intro a hF
            refine seq_yl hF (wn_none rfl) rfl rfl (yl_assign hF rfl rfl) ?_
            clear hF; intro a hF
            refine wpList_nil ?_
            refine then_n ?_
            refine c_region ?_
            refine seq_yl hF (wn_none rfl) rfl rfl (yl_move hF rfl rfl) ?_
            clear hF; intro a hF
            refine seq_yl hF (wn_none rfl) rfl rfl (yl_move hF rfl rfl) ?_
            clear hF; intro a hF
            refine seq_yl hF (wn_t hF rfl rfl rfl rfl) rfl rfl (yl_move hF rfl rfl) ?_
            clear hF; intro a hF
            refine seq_yl hF (wn_t hF rfl rfl rfl rfl) rfl rfl (yl_move hF rfl rfl) ?_
            clear hF; intro a hF
            refine seq_yl hF (wn_t hF rfl rfl rfl rfl) rfl rfl (yl_bin hF rfl rfl rfl rfl (fun _ => run_str_eql)) ?_
            clear hF; intro a hF
            refine seq_yl hF (wn_none rfl) rfl rfl (yl_pick (u := _) (v := undef) hF rfl rfl (fun _ => rfl) (fun h => by cases h)) ?_
            clear hF; intro a hF
            refine seq_yl hF (wn_none rfl) rfl rfl (yl_assign hF rfl rfl) ?_
            clear hF; intro a hF
            refine wpList_nil ?_
            refine inb_n ?_
            refine then_n ?_
            refine c_region ?_
            refine seq_yl hF (wn_none rfl) rfl rfl (yl_move hF rfl rfl) ?_
            clear hF; intro a hF
            refine seq_yl hF (wn_none rfl) rfl rfl (yl_bin hF rfl rfl rfl rfl (fun _ => run_inc (by omega))) ?_
            clear hF; intro a hF
            refine seq_yl hF (wn_none rfl) rfl rfl (yl_assign hF rfl rfl) ?_
            clear hF; intro a hF
            refine wpList_nil ?_
            refine then_n ?_
            have hpy := (choose_pick (P := (P2.set k ((((i : Nat) : Int) / (2 : Int))))) (T := (T2.set k (decide (((((i : Nat) : Int) % (2 : Int))) = (1 : Int))))) hC hM851 hx869).2.1
            exact ⟨_, (by omega), i + 1, _, (P2.set k ((((i : Nat) : Int) / (2 : Int)))), (T2.set k (decide (((((i : Nat) : Int) % (2 : Int))) = (1 : Int)))), (some ad874), cvP2, (some ad877), cvT2, rfl, ⟨by omega, by simp; omega, by simp; omega, AG_set hag2, FD_step hfd (by assumption) (by omega) (by omega) hpy⟩, hF.to [7, 8, 9, 10, 11, 12, 13, 14] rfl, (hS.sub [0, 1, 2, 3, 4, 5, 6] (by decide) (by first | rfl | simp) (by simp))⟩
          · first | (replace hc872 := of_decide_eq_false hc872) | (replace hc872 := of_decide_eq_true (bnot_f hc872)) | (replace hc872 := bnot_f hc872) | skip
            try (have hc872x := hc872; simp only [okS, okI, okW, okP] at hc872x)
            refine wp_exit ?_
            refine then_x ?_
            refine then_x ?_
            refine inb_x ?_
            refine then_n ?_
            refine c_seq ?_
            refine c_region ?_
            have hbt : b = true := FD_end hfd hox (by omega) (by first | exact .inl (by omega) | exact .inr (by assumption))
            refine seq_yl hF (wn_none rfl) rfl rfl (yl_move hF rfl rfl) ?_
            clear hF; intro a hF
            refine seq_yl hF (wn_none rfl) rfl rfl (yl_un hF rfl rfl (fun _ => run_not)) ?_
            clear hF; intro a hF
            replace hF := fr_set (b' := false) hF (by rw [hbt]; rfl)
            refine wpList_nil ?_
            refine then_n ?_
            refine c_cond_f hF rfl ?_
            refine wp_skip ?_
            refine inb_n ?_
            refine then_n ?_
            refine c_region ?_
            refine seq_yl hF (wn_none rfl) rfl rfl (yl_move hF rfl rfl) ?_
            clear hF; intro a hF
            refine seq_yl hF (wn_none rfl) rfl rfl (yl_bin hF rfl rfl rfl rfl (fun _ => run_inc (by omega))) ?_
            clear hF; intro a hF
            refine seq_yl hF (wn_none rfl) rfl rfl (yl_assign hF rfl rfl) ?_
            clear hF; intro a hF
            refine wpList_nil ?_
            refine then_n ?_
            exact ⟨_, (by omega), k + 1, P2, T2, AvP2, cvP2, AvT2, cvT2, rfl, ⟨by omega, by omega, by omega, AG_succ hag2 hx869 (hfd.1 hbt)⟩, hF.to [7, 8, 9, 10, 11, 12] rfl, (hS.sub [0, 1, 2, 3, 4, 5, 6] (by decide) (by first | rfl | simp) (by simp))⟩
        · first | (replace hc871 := of_decide_eq_false hc871) | (replace hc871 := of_decide_eq_true (bnot_f hc871)) | (replace hc871 := bnot_f hc871) | skip
          try (have hc871x := hc871; simp only [okS, okI, okW, okP] at hc871x)
          refine seq_skip hF (wn_f hF rfl rfl rfl rfl) rfl rfl ?_
          clear hF; intro a hF
          refine seq_skip hF (wn_f hF rfl rfl rfl rfl) rfl rfl ?_
          clear hF; intro a hF
          refine seq_yl hF (wn_none rfl) rfl rfl (yl_pick (u := _) (v := undef) hF rfl rfl (fun h => by cases h) (fun _ => rfl)) ?_
          clear hF; intro a hF
          refine wpList_nil ?_
          refine then_n ?_
          refine c_cond_f hF rfl ?_
          refine wp_exit ?_
          refine then_x ?_
          refine then_x ?_
          refine inb_x ?_
          refine then_n ?_
          refine c_seq ?_
          refine c_region ?_
          have hbt : b = true := FD_end hfd hox (by omega) (by first | exact .inl (by omega) | exact .inr (by assumption))
          refine seq_yl hF (wn_none rfl) rfl rfl (yl_move hF rfl rfl) ?_
          clear hF; intro a hF
          refine seq_yl hF (wn_none rfl) rfl rfl (yl_un hF rfl rfl (fun _ => run_not)) ?_
          clear hF; intro a hF
          replace hF := fr_set (b' := false) hF (by rw [hbt]; rfl)
          refine wpList_nil ?_
          refine then_n ?_
          refine c_cond_f hF rfl ?_
          refine wp_skip ?_
          refine inb_n ?_
          refine then_n ?_
          refine c_region ?_
          refine seq_yl hF (wn_none rfl) rfl rfl (yl_move hF rfl rfl) ?_
          clear hF; intro a hF
          refine seq_yl hF (wn_none rfl) rfl rfl (yl_bin hF rfl rfl rfl rfl (fun _ => run_inc (by omega))) ?_
          clear hF; intro a hF
          refine seq_yl hF (wn_none rfl) rfl rfl (yl_assign hF rfl rfl) ?_
          clear hF; intro a hF
          refine wpList_nil ?_
          refine then_n ?_
          exact ⟨_, (by omega), k + 1, P2, T2, AvP2, cvP2, AvT2, cvT2, rfl, ⟨by omega, by omega, by omega, AG_succ hag2 hx869 (hfd.1 hbt)⟩, hF.to [7, 8, 9, 10, 11, 12] rfl, (hS.sub [0, 1, 2, 3, 4, 5, 6] (by decide) (by first | rfl | simp) (by simp))⟩
    · first | (replace hc853 := of_decide_eq_false hc853) | (replace hc853 := of_decide_eq_true (bnot_f hc853)) | (replace hc853 := bnot_f hc853) | skip
      try (have hc853x := hc853; simp only [okS, okI, okW, okP] at hc853x)
      refine wp_exit ?_
      refine then_x ?_
      refine then_x ?_
      refine inb_x ?_
      refine then_n ?_
      refine c_seq ?_
      refine c_region ?_
      refine seq_yl hF (wn_none rfl) rfl rfl (yl_loadK (rs := [_, _, _]) (fun _ h => h ▸ hS) hF rfl rfl 0 rfl ag24 sz24 rfl rfl) ?_
      clear hF; intro a hF
      refine seq_yl hF (wn_none rfl) rfl rfl (yl_move hF rfl rfl) ?_
      clear hF; intro a hF
      refine seq_yl hF (wn_none rfl) rfl rfl (yl_loadK (rs := [_, _]) (fun _ h => h ▸ hS) hF rfl rfl 4 rfl ag28 sz28 rfl rfl) ?_
      clear hF; intro a hF
      refine seq_wp (wn_none rfl) (wp_call (vs := [_, _, _]) hF rfl rfl rfl rfl cf15 (choose_any st832 _ Lq834 (rm835) _ Fq839 _ P1 _ T1 _ (hS.rdRow 1 rfl) (by first | omega | (simp; done)) (by first | omega | (simp; done)) (hS.rdRow 2 rfl) (by first | omega | (simp; done)) (hS.rdRow 5 rfl) (hS.rdRow 6 rfl) (by first | omega | (simp; done) | (simp; omega)) (by first | omega | (simp; done) | (simp; omega))) ?_)
      clear hF; rintro _ w ⟨rfl, hS1⟩ a hF
      replace hS := hS.callB hS1 rfl; clear hS1
      have hz888 := choose_bd st832 Lq834 Fq839 (rm835) P1 T1
      refine seq_yl hF (wn_none rfl) rfl rfl (yl_move hF rfl rfl) ?_
      clear hF; intro a hF
      refine seq_yl hF (wn_none rfl) rfl rfl (yl_bin hF rfl rfl rfl rfl (fun _ => run_str_eql)) ?_
      clear hF; intro a hF
      replace hF := fr_set (b' := true) hF (by rw [decide_eq_true_eq]; exact AG_end hC hM851 hag (by omega))
      refine seq_yl hF (wn_none rfl) rfl rfl (yl_move hF rfl rfl) ?_
      clear hF; intro a hF
      refine seq_wp (wn_t hF rfl rfl rfl rfl) (wp_call (vs := []) hF rfl rfl rfl rfl cf19 (awake_any _) ?_)
      clear hF; rintro _ w ⟨rfl, hS1⟩ a hF
      replace hS := hS.callB hS1 rfl; clear hS1
      refine seq_yl hF (wn_none rfl) rfl rfl (yl_pick (u := _) (v := undef) hF rfl rfl (fun _ => rfl) (fun h => by cases h)) ?_
      clear hF; intro a hF
      refine seq_yl hF (wn_none rfl) rfl rfl (yl_assign hF rfl rfl) ?_
      clear hF; intro a hF
      refine wpList_nil ?_
      refine then_n ?_
      refine wp_ret ?_
      refine ret_t hF rfl rfl ?_
      exact ⟨_, rfl, rfl, (hS.sub [] (by decide) (by first | rfl | simp) (by simp))⟩

end Go.Proofs.Ytlhcpeolkkadbaa

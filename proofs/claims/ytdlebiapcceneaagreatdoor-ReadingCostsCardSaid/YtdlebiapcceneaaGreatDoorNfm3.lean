/-
  Contracts of functions of this seat, for every input that each theorem names.
-/
import Derived.Test.YtdlebiapcceneaaGreatDoorNfm2
import Derived.Test.YtdlebiapcceneaaGreatDoorNfs1
set_option linter.unusedVariables false
set_option linter.unusedSimpArgs false
set_option linter.unusedSectionVars false
namespace Go.AX
open Go Go.Proofs
noncomputable section
set_option linter.unusedSimpArgs false
set_option linter.unusedVariables false
attribute [local go_sem] b_seq wp_skip wp_exit wp_ret wp_region b_block wops_nil b_ops b_opsg b_cond condV_lite wo_mv b_bin wo_call callV_func wo_pick b_box wo_load1 wo_loadN wo_store wo_nilCheck wo_not wo_lenStr' wo_lenSl wo_ixStr' wo_ixSl wo_fAddr wo_part1 wo_partN wo_extract wo_cInt wo_cStr wo_mkMap wo_mkIface wo_mkFunc wo_lookup pickV_bool ifT_true ifT_false b_loadV b_loadNV b_storeV nilV_ptr nilV_func nilV_iface notV_bool lenStrV_str lenSlV_nil lenSlV_slice b_ixStrV ixSlV_slice fAddrV_ptr b_part1V partNV_agg b_extractV convV_int strV_str evC_tm evC_cn T.get_set putA_some putA_none onO_some evCs_nil evCs_cons appL_nil appL_cons guardOk_true guardOk_false cellsV_bool cellsV_int cellsV_str cellsV_nilptr cellsV_ptr cellsV_nilslice cellsV_slice cellsV_nilmap cellsV_map cellsV_func cellsV_nilfunc cellsV_iface cellsV_niliface cellsV_agg bin_lss bin_gtr bin_leq bin_geq bin_eql bin_neq bin_add bin_sub bin_eqlS bin_neqS mkFrame_nil mkFrame_cons resA_one resA_two resA_three over_0 over_1 over_2 over_3 over_4 over_5 over0_nil over0_cons Option.getD_some if_true if_false AHeap.next_push AVal.bool.injEq decide_eq_true_eq decide_eq_false_iff_not Bool.not_eq_true' Bool.not_eq_false' Bool.not_eq_true decide_true decide_false Bool.not_true Bool.not_false Int.toNat_natCast Int.natCast_nonneg true_and and_true wo_mapPut wp_drawn' wsts_nil b_pure b_read b_new b_wr wor_none b_org rer_nil rer_load1 rer_loadN wo_append AHeap.next_skip AHeap.next_put' AHeap.mk_push_t AHeap.mk_eta AHeap.mk_skip ldA_skip ldN_skip Nat.add_zero Nat.zero_add b_lite_true b_lite_false eq_self_iff_true not_true_eq_false not_false_eq_true bx_k bx_q bx_x bx_1 undefA_bool putAt_push List.length_cons List.length_nil Nat.le_refl ldA_push_new ldN_push_new List.getElem?_cons_zero List.getElem?_cons_succ List.drop_zero List.drop_succ_cons List.take_succ_cons List.take_zero b_build b_buildSlice evParts_nil evParts_cons b_fillA_nil b_fillA nbeq nble natadd natmul lenL_eq repL_1 repL_2 repL_3 wo_sliceData sdV_nil sdV_slice wo_unsafeStr usV_nil wo_slStr slStrV_str evCo_none evCo_some boundA_none Bool.and_true Bool.true_and wo_minmax2' mm2V_int
end
end Go.AX
namespace Go.AX
open Go Go.Proofs
noncomputable section
set_option linter.unusedSimpArgs false
set_option linter.unusedVariables false
attribute [local go_sem] b_seq wp_skip wp_exit wp_ret wp_region b_block wops_nil b_ops b_opsg b_cond condV_lite wo_mv b_bin wo_call callV_func wo_pick b_box wo_load1 wo_loadN wo_store wo_nilCheck wo_not wo_lenStr' wo_lenSl wo_ixStr' wo_ixSl wo_fAddr wo_part1 wo_partN wo_extract wo_cInt wo_cStr wo_mkMap wo_mkIface wo_mkFunc wo_lookup pickV_bool ifT_true ifT_false b_loadV b_loadNV b_storeV nilV_ptr nilV_func nilV_iface notV_bool lenStrV_str lenSlV_nil lenSlV_slice b_ixStrV ixSlV_slice fAddrV_ptr b_part1V partNV_agg b_extractV convV_int strV_str evC_tm evC_cn T.get_set putA_some putA_none onO_some evCs_nil evCs_cons appL_nil appL_cons guardOk_true guardOk_false cellsV_bool cellsV_int cellsV_str cellsV_nilptr cellsV_ptr cellsV_nilslice cellsV_slice cellsV_nilmap cellsV_map cellsV_func cellsV_nilfunc cellsV_iface cellsV_niliface cellsV_agg bin_lss bin_gtr bin_leq bin_geq bin_eql bin_neq bin_add bin_sub bin_eqlS bin_neqS mkFrame_nil mkFrame_cons resA_one resA_two resA_three over_0 over_1 over_2 over_3 over_4 over_5 over0_nil over0_cons Option.getD_some if_true if_false AHeap.next_push AVal.bool.injEq decide_eq_true_eq decide_eq_false_iff_not Bool.not_eq_true' Bool.not_eq_false' Bool.not_eq_true decide_true decide_false Bool.not_true Bool.not_false Int.toNat_natCast Int.natCast_nonneg true_and and_true wo_mapPut wp_drawn' wsts_nil b_pure b_read b_new b_wr wor_none b_org rer_nil rer_load1 rer_loadN wo_append AHeap.next_skip AHeap.next_put' AHeap.mk_push_t AHeap.mk_eta AHeap.mk_skip ldA_skip ldN_skip Nat.add_zero Nat.zero_add b_lite_true b_lite_false eq_self_iff_true not_true_eq_false not_false_eq_true bx_k bx_q bx_x bx_1 undefA_bool putAt_push List.length_cons List.length_nil Nat.le_refl ldA_push_new ldN_push_new List.getElem?_cons_zero List.getElem?_cons_succ List.drop_zero List.drop_succ_cons List.take_succ_cons List.take_zero b_build b_buildSlice evParts_nil evParts_cons b_fillA_nil b_fillA nbeq nble natadd natmul lenL_eq repL_1 repL_2 repL_3 wo_sliceData sdV_nil sdV_slice wo_unsafeStr usV_nil wo_slStr slStrV_str evCo_none evCo_some boundA_none Bool.and_true Bool.true_and wo_minmax2' mm2V_int
end
end Go.AX
namespace Go.AX
open Go Go.Proofs
noncomputable section
def c51_l0 : CCode :=
 (.seq
  (.seq
   (.region [⟨some 6, none, .mv (.t 5)⟩, ⟨some 7, none, .fAddr 0 (.t 2)⟩, ⟨some 8, none, .load1 (.t 7)⟩, ⟨some 9, none, .len .slice (.t 8)⟩, ⟨some 10, none, .bin .lss .none (.t 6) (.t 9)⟩])
   (.cond (.t 10)
    .skip
    (.exit 0)))
  (.seq
   (.block 1
    (.seq
     (.region [⟨some 13, none, .fAddr 0 (.t 2)⟩, ⟨some 14, none, .load1 (.t 13)⟩, ⟨some 15, none, .mv (.t 5)⟩, ⟨some 16, none, .ixSl 2 (.t 14) (.t 15)⟩, ⟨some 17, none, .fAddr 0 (.t 16)⟩, ⟨some 18, none, .load1 (.t 17)⟩, ⟨some 19, none, .mv (.t 1)⟩, ⟨some 20, none, .bin .eql .none (.t 18) (.t 19)⟩])
     (.cond (.t 20)
      (.seq
       (.region [⟨some 21, none, .fAddr 0 (.t 2)⟩, ⟨some 22, none, .load1 (.t 21)⟩, ⟨some 23, none, .mv (.t 5)⟩, ⟨some 24, none, .ixSl 2 (.t 22) (.t 23)⟩, ⟨some 25, none, .fAddr 1 (.t 24)⟩, ⟨some 26, none, .load1 (.t 25)⟩, ⟨some 4, none, .mv (.t 26)⟩])
       .ret)
      .skip)))
   (.region [⟨some 11, none, .mv (.t 5)⟩, ⟨some 12, none, .bin .add .none (.t 11) (.c (.int .i64 1))⟩, ⟨some 5, none, .mv (.t 12)⟩])))
def c51 : CCode :=
 (.seq
  (.region [⟨some 2, none, .box 55 (.t 0)⟩, ⟨some 4, none, .mv (.c (.int .i64 0))⟩])
  (.seq
   (.seq
    (.region [⟨some 5, none, .mv (.c (.int .i64 0))⟩])
    (.block 0
     (.loop c51_l0)))
   (.seq
    (.region [⟨some 4, none, .mv (.c (.int .i64 (-1)))⟩])
    .ret)))
end
end Go.AX
namespace Go.AX
open Go Go.Proofs
noncomputable section
set_option linter.unusedSimpArgs false
set_option linter.unusedVariables false
attribute [local go_sem] b_seq wp_skip wp_exit wp_ret wp_region b_block wops_nil b_ops b_opsg b_cond condV_lite wo_mv b_bin wo_call callV_func wo_pick b_box wo_load1 wo_loadN wo_store wo_nilCheck wo_not wo_lenStr' wo_lenSl wo_ixStr' wo_ixSl wo_fAddr wo_part1 wo_partN wo_extract wo_cInt wo_cStr wo_mkMap wo_mkIface wo_mkFunc wo_lookup pickV_bool ifT_true ifT_false b_loadV b_loadNV b_storeV nilV_ptr nilV_func nilV_iface notV_bool lenStrV_str lenSlV_nil lenSlV_slice b_ixStrV ixSlV_slice fAddrV_ptr b_part1V partNV_agg b_extractV convV_int strV_str evC_tm evC_cn T.get_set putA_some putA_none onO_some evCs_nil evCs_cons appL_nil appL_cons guardOk_true guardOk_false cellsV_bool cellsV_int cellsV_str cellsV_nilptr cellsV_ptr cellsV_nilslice cellsV_slice cellsV_nilmap cellsV_map cellsV_func cellsV_nilfunc cellsV_iface cellsV_niliface cellsV_agg bin_lss bin_gtr bin_leq bin_geq bin_eql bin_neq bin_add bin_sub bin_eqlS bin_neqS mkFrame_nil mkFrame_cons resA_one resA_two resA_three over_0 over_1 over_2 over_3 over_4 over_5 over0_nil over0_cons Option.getD_some if_true if_false AHeap.next_push AVal.bool.injEq decide_eq_true_eq decide_eq_false_iff_not Bool.not_eq_true' Bool.not_eq_false' Bool.not_eq_true decide_true decide_false Bool.not_true Bool.not_false Int.toNat_natCast Int.natCast_nonneg true_and and_true wo_mapPut wp_drawn' wsts_nil b_pure b_read b_new b_wr wor_none b_org rer_nil rer_load1 rer_loadN wo_append AHeap.next_skip AHeap.next_put' AHeap.mk_push_t AHeap.mk_eta AHeap.mk_skip ldA_skip ldN_skip Nat.add_zero Nat.zero_add b_lite_true b_lite_false eq_self_iff_true not_true_eq_false not_false_eq_true bx_k bx_q bx_x bx_1 undefA_bool putAt_push List.length_cons List.length_nil Nat.le_refl ldA_push_new ldN_push_new List.getElem?_cons_zero List.getElem?_cons_succ List.drop_zero List.drop_succ_cons List.take_succ_cons List.take_zero b_build b_buildSlice evParts_nil evParts_cons b_fillA_nil b_fillA nbeq nble natadd natmul lenL_eq repL_1 repL_2 repL_3 wo_sliceData sdV_nil sdV_slice wo_unsafeStr usV_nil wo_slStr slStrV_str evCo_none evCo_some boundA_none Bool.and_true Bool.true_and wo_minmax2' mm2V_int
end
end Go.AX
namespace Go.AX
open Go Go.Proofs
noncomputable section
set_option linter.unusedSimpArgs false
set_option linter.unusedVariables false
attribute [local go_sem] b_seq wp_skip wp_exit wp_ret wp_region b_block wops_nil b_ops b_opsg b_cond condV_lite wo_mv b_bin wo_call callV_func wo_pick b_box wo_load1 wo_loadN wo_store wo_nilCheck wo_not wo_lenStr' wo_lenSl wo_ixStr' wo_ixSl wo_fAddr wo_part1 wo_partN wo_extract wo_cInt wo_cStr wo_mkMap wo_mkIface wo_mkFunc wo_lookup pickV_bool ifT_true ifT_false b_loadV b_loadNV b_storeV nilV_ptr nilV_func nilV_iface notV_bool lenStrV_str lenSlV_nil lenSlV_slice b_ixStrV ixSlV_slice fAddrV_ptr b_part1V partNV_agg b_extractV convV_int strV_str evC_tm evC_cn T.get_set putA_some putA_none onO_some evCs_nil evCs_cons appL_nil appL_cons guardOk_true guardOk_false cellsV_bool cellsV_int cellsV_str cellsV_nilptr cellsV_ptr cellsV_nilslice cellsV_slice cellsV_nilmap cellsV_map cellsV_func cellsV_nilfunc cellsV_iface cellsV_niliface cellsV_agg bin_lss bin_gtr bin_leq bin_geq bin_eql bin_neq bin_add bin_sub bin_eqlS bin_neqS mkFrame_nil mkFrame_cons resA_one resA_two resA_three over_0 over_1 over_2 over_3 over_4 over_5 over0_nil over0_cons Option.getD_some if_true if_false AHeap.next_push AVal.bool.injEq decide_eq_true_eq decide_eq_false_iff_not Bool.not_eq_true' Bool.not_eq_false' Bool.not_eq_true decide_true decide_false Bool.not_true Bool.not_false Int.toNat_natCast Int.natCast_nonneg true_and and_true wo_mapPut wp_drawn' wsts_nil b_pure b_read b_new b_wr wor_none b_org rer_nil rer_load1 rer_loadN wo_append AHeap.next_skip AHeap.next_put' AHeap.mk_push_t AHeap.mk_eta AHeap.mk_skip ldA_skip ldN_skip Nat.add_zero Nat.zero_add b_lite_true b_lite_false eq_self_iff_true not_true_eq_false not_false_eq_true bx_k bx_q bx_x bx_1 undefA_bool putAt_push List.length_cons List.length_nil Nat.le_refl ldA_push_new ldN_push_new List.getElem?_cons_zero List.getElem?_cons_succ List.drop_zero List.drop_succ_cons List.take_succ_cons List.take_zero b_build b_buildSlice evParts_nil evParts_cons b_fillA_nil b_fillA nbeq nble natadd natmul lenL_eq repL_1 repL_2 repL_3 wo_sliceData sdV_nil sdV_slice wo_unsafeStr usV_nil wo_slStr slStrV_str evCo_none evCo_some boundA_none Bool.and_true Bool.true_and wo_minmax2' mm2V_int
theorem RowA.keep {h h' : AHeap} {b o : Nat} {l : List AVal} (H : RowA h b o l) (hn : h.next ≤ h'.next) (hg : h'.get b = h.get b) : RowA h' b o l := H.get (Nat.lt_of_lt_of_le H.1 hn) hg
theorem SlA.keep {h h' : AHeap} {size : Nat} {v : AVal} {xs : List (List AVal)} (H : SlA h size v xs) (hn : h.next ≤ h'.next) (hg : ∀ c, blkOf v c → c < h.next → h'.get c = h.get c) : SlA h' size v xs := by
  obtain ⟨h1, h2⟩ := H
  refine ⟨h1, h2.imp id fun ⟨b, o, c, ex, e, hr⟩ => ⟨b, o, c, ex, e, hr.imp id fun hr => hr.keep hn (hg b ⟨_, _, _, _, e⟩ hr.1)⟩⟩
theorem AltsA.keep {h h' : AHeap} {v : AVal} {alts : List Alt} (H : AltsA h v alts) (hn : h.next ≤ h'.next) (hg : ∀ c, blkOf v c → c < h.next → h'.get c = h.get c) : AltsA h' v alts := ⟨H.1.keep hn hg, H.2⟩
def BoxL (A : Nat → Prop) (h : AHeap) (b : Nat) (l : List Alt) : Prop := b < h.next ∧ ¬ A b ∧ ∃ v, h.get b = some (.cells [v] 55) ∧ OwnL h 2 57 v (l.map altC).flatten ∧ (∀ c, blkOf v c → c ≠ b ∧ ¬ A c)
theorem BoxL.push {A : Nat → Prop} {h : AHeap} {b : Nat} {l : List Alt} (H : BoxL A h b l) (o : AObj) : BoxL (fun c => A c ∨ c = h.next) (h.push o) b l := by
  obtain ⟨h1, h2, v, h3, h5, h6⟩ := H
  exact ⟨by simp [AHeap.next_push]; omega, fun e => e.elim h2 (fun e => by omega), v, by rw [AHeap.get_push_ne _ _ (by omega)]; exact h3, h5.frame (by simp [AHeap.next_push]) (fun c hc => AHeap.get_push_ne _ _ (by have := h5.blk hc; omega)), fun c hc => ⟨(h6 c hc).1, fun e => e.elim (h6 c hc).2 (fun e => by have := h5.blk hc; omega)⟩⟩
theorem BoxL.mono {A : Nat → Prop} {h h' : AHeap} {b : Nat} {l : List Alt} (H : BoxL A h b l) (hle : Hle h h') : BoxL A h' b l := by
  obtain ⟨h1, h2, v, h3, h5, h6⟩ := H
  exact ⟨by have := hle.next; omega, h2, v, by rw [hle.get b h1]; exact h3, h5.frame hle.next (fun c hc => hle.get c (h5.blk hc)), h6⟩
theorem BoxL.sub {A A' : Nat → Prop} {h : AHeap} {b : Nat} {l : List Alt} (H : BoxL A h b l) (hA : ∀ c, A' c → A c) : BoxL A' h b l := by
  obtain ⟨h1, h2, v, h3, h5, h6⟩ := H
  exact ⟨h1, fun e => h2 (hA _ e), v, h3, h5, fun c hc => ⟨(h6 c hc).1, fun e => (h6 c hc).2 (hA _ e)⟩⟩
theorem BoxL.new {A : Nat → Prop} {h : AHeap} (hA : ¬ A h.next) : BoxL A (h.push (.cells [.nilslice] 55)) h.next [] :=
  ⟨by simp [AHeap.next_push], hA, _, AHeap.get_push_same _ _, .inl ⟨rfl, rfl⟩, fun c ⟨_, _, _, _, hc⟩ => by cases hc⟩
theorem OwnL.flatV {h : AHeap} {size : Nat} {elem : TypeId} {v : AVal} {l : List AVal} (H : OwnL h size elem v l) : v.flat = true := by
  rcases H.form with rfl | ⟨_, _, _, _, _, rfl⟩ <;> rfl
theorem BoxL.ld {A : Nat → Prop} {h : AHeap} {b : Nat} {l : List Alt} (H : BoxL A h b l) : ∃ v, h.get b = some (.cells [v] 55) ∧ ldA h b 0 = some v ∧ ldN h b 0 1 = some [v] ∧ OwnL h 2 57 v (l.map altC).flatten ∧ ∀ c, blkOf v c → c ≠ b ∧ ¬ A c := by
  obtain ⟨h1, h2, v, h3, h5, h6⟩ := H
  have hr : RowA h b 0 [v] := RowA.of_cells h1 h3 (fun x hx => by simp at hx; subst hx; exact h5.flatV)
  exact ⟨v, h3, hr.ldA (i := 0) rfl, hr.ldN (i := 0) (n := 1) (by simp), h5, h6⟩
theorem altC_len (l : List Alt) : (l.map altC).flatten.length = l.length * 2 := by
  have : ∀ x, x ∈ l.map altC → x.length = 2 := fun x hx => by obtain ⟨a, _, rfl⟩ := List.mem_map.1 hx; rfl
  rw [flatten_len this]; simp
theorem altC_flat (l : List Alt) : ∀ x, x ∈ (l.map altC).flatten → x.flat = true := by
  intro x hx
  obtain ⟨y, hy, hxy⟩ := List.mem_flatten.1 hx
  obtain ⟨a, _, rfl⟩ := List.mem_map.1 hy
  simp only [altC, List.mem_cons, List.not_mem_nil, or_false] at hxy
  rcases hxy with rfl | rfl <;> rfl
theorem OwnL.alts {h : AHeap} {v : AVal} {l : List Alt} (H : OwnL h 2 57 v (l.map altC).flatten) (hl : ∀ a, a ∈ l → a.1.length ≤ 9223372036854775807) : AltsA h v l :=
  ⟨H.SlA (fun x hx => by obtain ⟨a, _, rfl⟩ := List.mem_map.1 hx; rfl) (by omega) (altC_flat l), hl⟩
theorem BoxL.app {A : Nat → Prop} {h : AHeap} {b : Nat} {l : List Alt} (H : BoxL A h b l) (hA : ∀ c, A c → c < h.next) (s : List Nat) (n : Int) (hm : l.length ≤ 100000000) {v : AVal} (hv : ldA h b 0 = some v) {K : AVal → AHeap → Prop}
    (hK : ∀ v' h' h'', cellsV v' = some [v'] → putAt h' b 0 1 [v'] = some h'' → BoxL A h'' b (l ++ [(s, n)]) → h.next ≤ h''.next → (∀ c, A c → h''.get c = h.get c) → K v' h') : appV 57 2 v (.slice h.next 0 1 1 true) (h.push (.cells [.str s, .int .i64 n] 57)) K := by
  obtain ⟨h1, h2, _⟩ := id H
  obtain ⟨v2, h3, hv2, _, h5, h6⟩ := H.ld
  obtain rfl : v = v2 := Option.some.inj (hv.symm.trans hv2)
  have hone : SlA (h.push (.cells [.str s, .int .i64 n] 57)) 2 (.slice h.next 0 1 1 true) [[.str s, .int .i64 n]] := ⟨by simp, .inr ⟨_, _, _, _, rfl, .inr (RowA.of_cells (e := 57) (by simp [AHeap.next_push]) (AHeap.get_push_same _ _) (by intro x hx; simp at hx; rcases hx with rfl | rfl <;> rfl))⟩⟩
  have own' := h5.frame (h' := h.push (.cells [.str s, .int .i64 n] 57)) (by simp [AHeap.next_push]) (fun c hc => AHeap.get_push_ne _ _ (by have := h5.blk hc; omega))
  refine appV_own own' (srcCells_SlA hone (by simp)) (by simp) (by simp) (by omega) (by rw [altC_len]; simp; omega) ?_
  intro v' h'' ho hn hf hb
  have hn' : h''.next = h.next + 1 + 1 := hn
  have hgb : h''.get b = some (.cells [v] 55) := by
    rw [hf b (by simp [AHeap.next_push]; omega) (fun hc => (h6 b hc).1 rfl), AHeap.get_push_ne _ _ (by omega)]; exact h3
  have hp : putAt h'' b 0 1 [v'] = some (h''.put b (.cells [v'] 55)) := putAt_cells (o := 0) (n := 1) (vs := [v']) hgb rfl (by simp)
  have hblk : ∀ c, blkOf v' c → c = h.next + 1 := by
    rintro c ⟨o, n, c2, e, rfl⟩
    obtain ⟨_, _, _, _, he⟩ := hb
    cases he; rfl
  refine hK v' h'' _ (cellsV_flat ho.flatV) hp ⟨by simp [AHeap.next_put]; omega, h2, v', AHeap.get_put_same _ _ _, ?_, fun c hc => ?_⟩ (by simp [AHeap.next_put]; omega) fun c hc => ?_
  · have e : ((l ++ [(s, n)]).map altC).flatten = (l.map altC).flatten ++ [[AVal.str s, AVal.int .i64 n]].flatten := by simp [altC]
    rw [e]
    exact ho.frame (by simp [AHeap.next_put]) fun c hc => AHeap.get_put_ne _ _ (fun e => by have := hblk c hc; omega)
  · have := hblk c hc
    exact ⟨by omega, fun e => by have := hA c e; omega⟩
  · have hcb : c ≠ b := fun e => h2 (e ▸ hc)
    have hcl := hA c hc
    rw [AHeap.get_put_ne _ _ (Ne.symm hcb), hf c (by simp [AHeap.next_push]; omega) (fun hk => (h6 c hk).2 hc), AHeap.get_push_ne _ _ (by omega)]
def OutL (n0 : Nat) (h : AHeap) (out : AVal) (done : List (List Alt)) : Prop := ∃ vs, OwnL h 1 55 out vs ∧ All2 (AltsA h) vs done ∧ (∀ x, x ∈ vs → ∀ c, blkOf x c → n0 ≤ c ∧ c < h.next ∧ ¬ blkOf out c) ∧ ∀ c, blkOf out c → n0 ≤ c
theorem OutL.nil (n0 : Nat) (h : AHeap) : OutL n0 h .nilslice [] := ⟨[], .inl ⟨rfl, rfl⟩, ⟨rfl, fun i x y hx => by simp at hx⟩, (fun x hx => by simp at hx), fun c ⟨_, _, _, _, hc⟩ => by cases hc⟩
theorem OutL.keep {n0 : Nat} {h h' : AHeap} {out : AVal} {done : List (List Alt)} (H : OutL n0 h out done) (hle : Hle h h') : OutL n0 h' out done := by
  obtain ⟨vs, h1, h2, h3⟩ := H
  exact ⟨vs, h1.frame hle.next (fun c hc => hle.get c (h1.blk hc)), ⟨h2.1, fun i x y hx hy => (h2.2 i x y hx hy).mono hle⟩, (fun x hx c hc => ⟨(h3.1 x hx c hc).1, by have := (h3.1 x hx c hc).2.1; have := hle.next; omega, (h3.1 x hx c hc).2.2⟩), h3.2⟩
theorem flat_single (vs : List AVal) : (vs.map fun x => [x]).flatten = vs := by
  induction vs with
  | nil => rfl
  | cons a l ih => simp [ih]
theorem OutL.cells {n0 : Nat} {h : AHeap} {out : AVal} {done : List (List Alt)} (H : OutL n0 h out done) : CellsA h out done := by
  obtain ⟨vs, h1, h2, h3⟩ := H
  have e := flat_single vs
  refine ⟨vs, OwnL.SlA (elem := 55) (by rw [e]; exact h1) (fun x hx => by obtain ⟨a, _, rfl⟩ := List.mem_map.1 hx; rfl) (by omega) ?_, h2⟩
  rw [e]
  intro x hx
  obtain ⟨i, hi⟩ := List.mem_iff_getElem?.1 hx
  obtain ⟨y, hy⟩ : ∃ y, done[i]? = some y := ⟨_, List.getElem?_eq_getElem (by rw [← h2.1]; exact (List.getElem?_eq_some_iff.1 hi).1)⟩
  exact (h2.2 i x y hi hy).flat
theorem OutL.app2 {n0 : Nat} {h : AHeap} {out v : AVal} {done : List (List Alt)} {l : List Alt} {z : Nat} (H : OutL n0 h out done) (hn0 : n0 ≤ h.next) (hv : AltsA h v l) (hd : ∀ c, blkOf v c → n0 ≤ c ∧ c < h.next ∧ ¬ blkOf out c) (hm : done.length ≤ 100000000) (hz : z < h.next) (hzg : h.get z = some (.cells [v] 55)) {K : AVal → AHeap → Prop}
    (hK : ∀ v' h', OutL n0 h' v' (done ++ [l]) → v'.flat = true → h.next ≤ h'.next → (∀ c, c < n0 → h'.get c = h.get c) → K v' h') : appV 55 1 out (.slice z 0 1 1 true) h K := by
  obtain ⟨vs, h1, h2, h3, h4⟩ := H
  have hone : SlA h 1 (.slice z 0 1 1 true) [[v]] := ⟨by simp, .inr ⟨_, _, _, _, rfl, .inr (RowA.of_cells (e := 55) hz hzg (by intro x hx; simp at hx; subst hx; exact hv.flat))⟩⟩
  refine appV_own h1 (srcCells_SlA hone (by simp)) (by simp) (by simp) (by omega) (by rw [h2.1]; simp; omega) ?_
  intro v' h'' ho hn hf hb
  have hblk : ∀ c, blkOf v' c → c = h.next := by
    rintro c ⟨o, n, c2, e, rfl⟩
    obtain ⟨_, _, _, _, he⟩ := hb
    cases he; rfl
  have hkeep : ∀ x y, AltsA h x y → (∀ c, blkOf x c → ¬ blkOf out c) → AltsA h'' x y := fun x y hx hxo => hx.keep (by omega) fun c hc hcl => hf c hcl (hxo c hc)
  refine hK v' h'' ⟨vs ++ [v], by simpa using ho, ⟨by simp [h2.1], fun i x y hx hy => ?_⟩, fun x hx c hc => ?_, fun c hc => by have := hblk c hc; omega⟩ ho.flatV (by omega) fun c hc => ?_
  · by_cases hi : i < vs.length
    · rw [List.getElem?_append_left hi] at hx
      rw [List.getElem?_append_left (by rw [← h2.1]; exact hi)] at hy
      exact hkeep x y (h2.2 i x y hx hy) (fun c hc => (h3 x (List.mem_of_getElem? hx) c hc).2.2)
    · rw [List.getElem?_append_right (by omega)] at hx
      rw [List.getElem?_append_right (by rw [← h2.1]; omega), ← h2.1] at hy
      have : i - vs.length = 0 := by
        have := (List.getElem?_eq_some_iff.1 hx).1
        simp at this; omega
      rw [this] at hx hy
      simp at hx hy
      subst hx; subst hy
      exact hkeep _ _ hv (fun c hc => (hd c hc).2.2)
  · rcases List.mem_append.1 hx with hx | hx
    · have := h3 x hx c hc
      exact ⟨this.1, by omega, fun hc' => by have := hblk c hc'; omega⟩
    · simp at hx; subst hx
      have := hd c hc
      exact ⟨this.1, by omega, fun hc' => by have := hblk c hc'; omega⟩
  · exact hf c (by omega) (fun hk => by have := h4 c hk; omega)
theorem OutL.blk {n0 : Nat} {h : AHeap} {out : AVal} {done : List (List Alt)} (H : OutL n0 h out done) {c : Nat} (hc : blkOf out c) : c < h.next := by
  obtain ⟨vs, h1, _⟩ := H
  exact h1.blk hc
theorem OutL.app {n0 : Nat} {h : AHeap} {out v : AVal} {done : List (List Alt)} {l : List Alt} (H : OutL n0 h out done) (hn0 : n0 ≤ h.next) (hv : AltsA h v l) (hd : ∀ c, blkOf v c → ¬ blkOf out c) (hvb : ∀ c, blkOf v c → n0 ≤ c ∧ c < h.next) (hm : done.length ≤ 100000000) {K : AVal → AHeap → Prop}
    (hK : ∀ v' h', OutL n0 h' v' (done ++ [l]) → h.next ≤ h'.next → (∀ c, c < n0 → h'.get c = h.get c) → K v' h') : appV 55 1 out (.slice h.next 0 1 1 true) (h.push (.cells [v] 55)) K :=
  OutL.app2 (H.keep ((Hle.refl h).push _)) (by simp [AHeap.next_push]; omega) (hv.mono ((Hle.refl h).push _)) (fun c hc => ⟨(hvb c hc).1, by have := (hvb c hc).2; simp [AHeap.next_push]; omega, hd c hc⟩) hm (by simp [AHeap.next_push]) (AHeap.get_push_same _ _)
    fun v' h' ho _ hn hg => hK v' h' ho (by have : (h.push (.cells [v] 55)).next = h.next + 1 := rfl; omega) fun c hc => by rw [hg c hc, AHeap.get_push_ne _ _ (by omega)]
end
end Go.AX
namespace Go.AX
open Go Go.Proofs
noncomputable section
set_option linter.unusedSimpArgs false
set_option linter.unusedVariables false
attribute [local go_sem] b_seq wp_skip wp_exit wp_ret wp_region b_block wops_nil b_ops b_opsg b_cond condV_lite wo_mv b_bin wo_call callV_func wo_pick b_box wo_load1 wo_loadN wo_store wo_nilCheck wo_not wo_lenStr' wo_lenSl wo_ixStr' wo_ixSl wo_fAddr wo_part1 wo_partN wo_extract wo_cInt wo_cStr wo_mkMap wo_mkIface wo_mkFunc wo_lookup pickV_bool ifT_true ifT_false b_loadV b_loadNV b_storeV nilV_ptr nilV_func nilV_iface notV_bool lenStrV_str lenSlV_nil lenSlV_slice b_ixStrV ixSlV_slice fAddrV_ptr b_part1V partNV_agg b_extractV convV_int strV_str evC_tm evC_cn T.get_set putA_some putA_none onO_some evCs_nil evCs_cons appL_nil appL_cons guardOk_true guardOk_false cellsV_bool cellsV_int cellsV_str cellsV_nilptr cellsV_ptr cellsV_nilslice cellsV_slice cellsV_nilmap cellsV_map cellsV_func cellsV_nilfunc cellsV_iface cellsV_niliface cellsV_agg bin_lss bin_gtr bin_leq bin_geq bin_eql bin_neq bin_add bin_sub bin_eqlS bin_neqS mkFrame_nil mkFrame_cons resA_one resA_two resA_three over_0 over_1 over_2 over_3 over_4 over_5 over0_nil over0_cons Option.getD_some if_true if_false AHeap.next_push AVal.bool.injEq decide_eq_true_eq decide_eq_false_iff_not Bool.not_eq_true' Bool.not_eq_false' Bool.not_eq_true decide_true decide_false Bool.not_true Bool.not_false Int.toNat_natCast Int.natCast_nonneg true_and and_true wo_mapPut wp_drawn' wsts_nil b_pure b_read b_new b_wr wor_none b_org rer_nil rer_load1 rer_loadN wo_append AHeap.next_skip AHeap.next_put' AHeap.mk_push_t AHeap.mk_eta AHeap.mk_skip ldA_skip ldN_skip Nat.add_zero Nat.zero_add b_lite_true b_lite_false eq_self_iff_true not_true_eq_false not_false_eq_true bx_k bx_q bx_x bx_1 undefA_bool putAt_push List.length_cons List.length_nil Nat.le_refl ldA_push_new ldN_push_new List.getElem?_cons_zero List.getElem?_cons_succ List.drop_zero List.drop_succ_cons List.take_succ_cons List.take_zero b_build b_buildSlice evParts_nil evParts_cons b_fillA_nil b_fillA nbeq nble natadd natmul lenL_eq repL_1 repL_2 repL_3 wo_sliceData sdV_nil sdV_slice wo_unsafeStr usV_nil wo_slStr slStrV_str evCo_none evCo_some boundA_none Bool.and_true Bool.true_and wo_minmax2' mm2V_int
theorem AHeap.mk_put_t (n b : Nat) (t : T AObj) (o : AObj) : (⟨n, (AHeap.put ⟨n, t⟩ b o).t⟩ : AHeap) = AHeap.put ⟨n, t⟩ b o := rfl
theorem AHeap.mk_put_st (h : AHeap) (n b : Nat) (o : AObj) : (⟨h.next + n, (AHeap.put (h.skip n) b o).t⟩ : AHeap) = AHeap.put (h.skip n) b o := rfl
theorem AHeap.mk_put_st2 (h : AHeap) (n b b2 : Nat) (o o2 : AObj) : (⟨h.next + n, (AHeap.put (AHeap.put (h.skip n) b2 o2) b o).t⟩ : AHeap) = AHeap.put (AHeap.put (h.skip n) b2 o2) b o := rfl
theorem AHeap.mk_put_st3 (h : AHeap) (n b b2 b3 : Nat) (o o2 o3 : AObj) : (⟨h.next + n, (AHeap.put (AHeap.put (AHeap.put (h.skip n) b3 o3) b2 o2) b o).t⟩ : AHeap) = AHeap.put (AHeap.put (AHeap.put (h.skip n) b3 o3) b2 o2) b o := rfl
theorem AHeap.mk_skip_t (h : AHeap) (n : Nat) : (⟨h.next + n, (h.skip n).t⟩ : AHeap) = h.skip n := rfl
theorem putAt_put {h : AHeap} {b o n : Nat} {vs c : List AVal} {e : TypeId} (hv : vs.length = n) (hn : o + n ≤ c.length) : putAt (h.put b (.cells c e)) b o n vs = some (h.put b (.cells (over c o vs) e)) := by
  rw [putAt_cells (AHeap.get_put_same _ _ _) hv hn, AHeap.put_put]
theorem over_one (v : AVal) : ∀ (l : List AVal) (n : Nat), over l n [v] = l.set n v
  | [], 0 => rfl
  | [], n + 1 => rfl
  | a :: l, 0 => rfl
  | a :: l, n + 1 => by
    show a :: over l n [v] = _
    rw [over_one v l n]; rfl
theorem repL_rep (z : List AVal) : ∀ n, repL n z = (List.replicate n z).flatten
  | 0 => rfl
  | n + 1 => by
    show appL z (repL n z) = _
    rw [appL_eq, repL_rep z n]
    simp [List.replicate_succ]
def mkV (e : TypeId) (z : List AVal) (by' : Nat) (l c : AVal) (h : AHeap) (K : AVal → AHeap → Prop) : Prop := onO (I.mkSlice e z by' (.c l) (.c c) .nil h) fun r => K r.1 r.2
theorem wo_mkSlice {E : Env} {fr : Fr} {h : AHeap} {K : AVal → AHeap → Prop} {e : TypeId} {z : List AVal} {by' : Nat} {l c : COpd} : wo E (.mkSlice e z by' l c) fr h K = mkV e z by' (evC l fr) (evC c fr) h K := propext Iff.rfl
theorem mkV_ok {e : TypeId} {z : List AVal} {by' : Nat} {k k' : IntKind} {n : Int} {m : Nat} (hn : n = (m : Int)) (hb : m * by' ≤ 1073741824) (hb2 : m ≤ 1073741824) {h : AHeap} {K : AVal → AHeap → Prop} :
    mkV e z by' (.int k n) (.int k' n) h K = K (.slice h.next 0 m m true) (h.push (.cells (List.replicate m z).flatten e)) := by
  subst hn
  unfold mkV
  show onO (ifT (and (Nat.ble m m) (and (Nat.ble (Nat.mul m by') 1073741824) (Nat.ble m 1073741824))) (some (AVal.slice h.next 0 m m true, h.push (.cells (repL m z) e))) none) _ = _
  rw [ifT_eq, if_pos (by
    simp only [Bool.and_eq_true, Nat.ble_eq, Nat.le_refl, true_and]
    exact ⟨hb, hb2⟩), repL_rep]
  exact propext Iff.rfl
theorem flat_rep1 (v : AVal) (n : Nat) : (List.replicate n [v]).flatten = List.replicate n v := by
  induction n with
  | zero => rfl
  | succ n ih => rw [List.replicate_succ, List.flatten_cons, ih]; rfl
theorem SlA.of1 {h : AHeap} {b : Nat} {vs : List AVal} {e : TypeId} {c : Nat} {ex : Bool} (hb : b < h.next) (hg : h.get b = some (.cells vs e)) (hf : ∀ x, x ∈ vs → x.flat = true) : SlA h 1 (.slice b 0 vs.length c ex) (vs.map fun x => [x]) :=
  ⟨by simp, .inr ⟨b, 0, c, ex, by rw [List.length_map], .inr (by rw [flat_single]; exact RowA.of_cells hb hg hf)⟩⟩
theorem ixSlV_at {size b o n c : Nat} {e : Bool} {k : IntKind} {i : Int} {j : Nat} (hi : i = (j : Int)) (hj : j < n) {h : AHeap} {K : AVal → AHeap → Prop} : ixSlV size (.slice b o n c e) (.int k i) h K = K (.ptr b (o + j * size)) h := by
  subst hi
  rw [ixSlV_slice]
  simp [hj]
section
variable {α : Type}
def encL (enc : α → List AVal) (l : List α) : List AVal := (l.map enc).flatten
structure RowsL (size : Nat) (elem : TypeId) (enc : α → List AVal) (n0 : Nat) (h : AHeap) (vs : List AVal) (ls : List (List α)) : Prop where
  len : vs.length = ls.length
  own : ∀ (i : Nat) (v : AVal) (l : List α), vs[i]? = some v → ls[i]? = some l → OwnL h size elem v (encL enc l)
  low : ∀ (i : Nat) (v : AVal) (c : Nat), vs[i]? = some v → blkOf v c → n0 ≤ c ∧ c < h.next
  dis : ∀ (i j : Nat) (v w : AVal) (c : Nat), vs[i]? = some v → vs[j]? = some w → blkOf v c → blkOf w c → i = j
variable {size : Nat} {elem : TypeId} {enc : α → List AVal} {n0 : Nat} {h : AHeap} {vs : List AVal} {ls : List (List α)}
theorem not_blk_nil {c : Nat} : ¬ blkOf .nilslice c := by rintro ⟨_, _, _, _, h⟩; cases h
theorem RowsL.replicate (n : Nat) : RowsL size elem enc n0 h (List.replicate n .nilslice) (List.replicate n []) := by
  refine ⟨by simp, fun i v l hv hl => ?_, fun i v c hv hc => ?_, fun i j v w c hv _ hc _ => ?_⟩
  · rw [List.getElem?_replicate] at hv hl
    split at hv
    · cases hv; rw [if_pos (by assumption)] at hl; cases hl; exact .inl ⟨rfl, rfl⟩
    · cases hv
  · rw [List.getElem?_replicate] at hv
    split at hv
    · cases hv; exact (not_blk_nil hc).elim
    · cases hv
  · rw [List.getElem?_replicate] at hv
    split at hv
    · cases hv; exact (not_blk_nil hc).elim
    · cases hv
theorem RowsL.frame (H : RowsL size elem enc n0 h vs ls) {h' : AHeap} (hn : h.next ≤ h'.next) (hg : ∀ c, n0 ≤ c → c < h.next → (∃ (i : Nat) (v : AVal), vs[i]? = some v ∧ blkOf v c) → h'.get c = h.get c) : RowsL size elem enc n0 h' vs ls :=
  ⟨H.len, fun i v l hv hl => (H.own i v l hv hl).frame hn fun b hb => hg b (H.low i v b hv hb).1 (H.low i v b hv hb).2 ⟨i, v, hv, hb⟩,
    fun i v c hv hc => ⟨(H.low i v c hv hc).1, Nat.lt_of_lt_of_le (H.low i v c hv hc).2 hn⟩, H.dis⟩
theorem RowsL.flat (H : RowsL size elem enc n0 h vs ls) : ∀ x, x ∈ vs → x.flat = true := by
  intro x hx
  obtain ⟨i, hi⟩ := List.mem_iff_getElem?.1 hx
  have hil := (List.getElem?_eq_some_iff.1 hi).1
  obtain ⟨l, hl⟩ : ∃ l, ls[i]? = some l := ⟨_, List.getElem?_eq_getElem (by rw [← H.len]; exact hil)⟩
  exact (H.own i x l hi hl).flatV
theorem RowsL.app (H : RowsL size elem enc n0 h vs ls) (hn0 : n0 ≤ h.next) {i : Nat} {v : AVal} {l : List α} (hv : vs[i]? = some v) (hl : ls[i]? = some l) {x : AVal} {a : α} (hs : srcCells h size x = some (1, enc a)) (hlen : (enc a).length = size) (hsz : 0 < size) (hmax : (encL enc l).length + 1 ≤ 1073741824)
    {K : AVal → AHeap → Prop} (hK : ∀ v' h', RowsL size elem enc n0 h' (vs.set i v') (ls.set i (l ++ [a])) → v'.flat = true → h'.next = h.next + 1 → (∀ c, c < h.next → ¬ blkOf v c → h'.get c = h.get c) → K v' h') : appV elem size v x h K := by
  refine appV_own (H.own i v l hv hl) hs (by simp) (by simpa using hlen) hsz hmax ?_
  intro v' h' ho hn hf hb
  have hil := (List.getElem?_eq_some_iff.1 hv).1
  have hblk : ∀ c, blkOf v' c → c = h.next := by
    rintro c ⟨o, n, c2, e, rfl⟩
    obtain ⟨_, _, _, _, he⟩ := hb
    cases he; rfl
  refine hK v' h' ⟨by simp [H.len], fun j w m hw hm => ?_, fun j w c hw hc => ?_, fun j k w u c hw hu hc hcu => ?_⟩ ho.flatV hn hf
  · rw [List.getElem?_set] at hw hm
    by_cases e : i = j
    · subst e
      rw [if_pos rfl, if_pos (by omega)] at hw
      rw [if_pos rfl, if_pos (by rw [← H.len]; omega)] at hm
      cases hw; cases hm
      unfold encL at ho ⊢
      simpa using ho
    · rw [if_neg e] at hw hm
      exact (H.own j w m hw hm).frame (by omega) fun b hb => hf b (H.low j w b hw hb).2 fun hc => e (H.dis i j v w b hv hw hc hb)
  · rw [List.getElem?_set] at hw
    by_cases e : i = j
    · subst e
      rw [if_pos rfl, if_pos (by omega)] at hw
      cases hw
      have := hblk c hc
      omega
    · rw [if_neg e] at hw
      have := H.low j w c hw hc
      omega
  · rw [List.getElem?_set] at hw hu
    by_cases e : i = j
    · by_cases e2 : i = k
      · omega
      · subst e
        rw [if_pos rfl, if_pos (by omega)] at hw
        rw [if_neg e2] at hu
        cases hw
        have := hblk c hc
        have := (H.low k u c hu hcu).2
        omega
    · rw [if_neg e] at hw
      by_cases e2 : i = k
      · subst e2
        rw [if_pos rfl, if_pos (by omega)] at hu
        cases hu
        have := hblk c hcu
        have := (H.low j w c hw hc).2
        omega
      · rw [if_neg e2] at hu
        exact H.dis j k w u c hw hu hc hcu
theorem RowsL.sl (H : RowsL size elem enc n0 h vs ls) (henc : ∀ a, (enc a).length = size) (hsz : 0 < size) (hfl : ∀ a x, x ∈ enc a → x.flat = true) {i : Nat} {v : AVal} {l : List α} (hv : vs[i]? = some v) (hl : ls[i]? = some l) : SlA h size v (l.map enc) := by
  refine (H.own i v l hv hl).SlA (fun x hx => ?_) hsz fun x hx => ?_
  · obtain ⟨a, _, rfl⟩ := List.mem_map.1 hx; exact henc a
  · obtain ⟨y, hy, hxy⟩ := List.mem_flatten.1 hx
    obtain ⟨a, _, rfl⟩ := List.mem_map.1 hy
    exact hfl a x hxy
end
end
end Go.AX
namespace Go.AX
open Go Go.Proofs
def c5 : CCode :=
 (.seq
  (.region [⟨some 2, none, .mv (.c (.bool false))⟩])
  (.seq
   (.region [⟨some 8, none, .mv (.t 0)⟩, ⟨some 9, none, .call (.c (.func 11 [] [])) [(.t 8)]⟩, ⟨some 7, none, .mv (.t 9)⟩, ⟨some 10, none, .extract 0 (.t 7)⟩, ⟨some 11, none, .extract 1 (.t 7)⟩, ⟨some 3, none, .mv (.t 10)⟩, ⟨some 4, none, .mv (.t 11)⟩])
   (.seq
    (.seq
     (.region [⟨some 12, none, .mv (.t 4)⟩, ⟨some 13, none, .bin .neq .none (.t 12) (.c (.int .i64 0))⟩])
     (.cond (.t 13)
      (.seq
       (.region [⟨some 14, none, .call (.c (.func 13 [] [])) []⟩, ⟨some 15, none, .mv (.t 14)⟩, ⟨some 16, some (15, true), .mv (.t 3)⟩, ⟨some 17, some (15, true), .bin .eql .none (.t 16) (.c (.str []))⟩, ⟨some 18, none, .pick (.t 15) (.t 17) (.c (.bool false))⟩, ⟨some 19, none, .mv (.t 18)⟩, ⟨some 20, some (19, true), .mv (.t 0)⟩, ⟨some 21, some (19, true), .call (.c (.func 14 [] [])) [(.t 20)]⟩, ⟨some 22, some (19, true), .mv (.t 4)⟩, ⟨some 23, some (19, true), .bin .eql .none (.t 21) (.t 22)⟩, ⟨some 24, none, .pick (.t 19) (.t 23) (.c (.bool false))⟩, ⟨some 2, none, .mv (.t 24)⟩])
       .ret)
      .skip))
    (.seq
     (.region [⟨some 26, none, .mv (.t 3)⟩, ⟨some 27, none, .call (.c (.func 16 [] [])) [(.t 26)]⟩, ⟨some 25, none, .mv (.t 27)⟩, ⟨some 28, none, .extract 0 (.t 25)⟩, ⟨some 29, none, .extract 1 (.t 25)⟩, ⟨some 5, none, .mv (.t 28)⟩, ⟨some 6, none, .mv (.t 29)⟩])
     (.seq
      (.region [⟨some 30, none, .call (.c (.func 13 [] [])) []⟩, ⟨some 31, none, .mv (.t 30)⟩, ⟨some 32, some (31, true), .mv (.t 6)⟩, ⟨some 33, some (31, true), .bin .eql .none (.t 32) (.c (.int .i64 0))⟩, ⟨some 34, none, .pick (.t 31) (.t 33) (.c (.bool false))⟩, ⟨some 35, none, .mv (.t 34)⟩, ⟨some 36, some (35, true), .mv (.t 5)⟩, ⟨some 37, some (35, true), .mv (.t 0)⟩, ⟨some 38, some (35, true), .call (.c (.func 18 [] [])) [(.t 36), (.t 37)]⟩, ⟨some 39, none, .pick (.t 35) (.t 38) (.c (.bool false))⟩, ⟨some 2, none, .mv (.t 39)⟩])
      .ret)))))
end Go.AX

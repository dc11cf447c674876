/-
  Contracts of functions of this seat, for every input that each theorem names.
-/
import Derived.Test.YtdlebiapcceneaaGreatDoorNfm4
import Derived.Test.YtdlebiapcceneaaGreatDoorNfm3
import Derived.Test.YtdlebiapcceneaaGreatDoorNfb1
import Derived.Test.YtdlebiapcceneaaGreatDoorNfm5
import Derived.Test.YtdlebiapcceneaaGreatDoorNfm1
import Derived.Test.YtdlebiapcceneaaGreatDoorNfm2
set_option linter.unusedVariables false
set_option linter.unusedSimpArgs false
set_option linter.unusedSectionVars false
namespace Go.AX
open Go Go.Proofs
noncomputable section
def cbV (v : AVal) (h : AHeap) (K : AVal → AHeap → Prop) : Prop := onO (I.cBytesStr (.c v) .nil h) fun r => K r.1 r.2
theorem wo_cBytesStr {E : Env} {fr : Fr} {h : AHeap} {K : AVal → AHeap → Prop} {x : COpd} : wo E (.cBytesStr x) fr h K = cbV (evC x fr) h K := propext Iff.rfl
set_option linter.unusedSimpArgs false
set_option linter.unusedVariables false
attribute [local go_sem] b_seq wp_skip wp_exit wp_ret wp_region b_block wops_nil b_ops b_opsg b_cond condV_lite wo_mv b_bin wo_call callV_func wo_pick b_box wo_load1 wo_loadN wo_store wo_nilCheck wo_not wo_lenStr' wo_lenSl wo_ixStr' wo_ixSl wo_fAddr wo_part1 wo_partN wo_extract wo_cInt wo_cStr wo_mkMap wo_mkIface wo_mkFunc wo_lookup pickV_bool ifT_true ifT_false b_loadV b_loadNV b_storeV nilV_ptr nilV_func nilV_iface notV_bool lenStrV_str lenSlV_nil lenSlV_slice b_ixStrV ixSlV_slice fAddrV_ptr b_part1V partNV_agg b_extractV convV_int strV_str evC_tm evC_cn T.get_set putA_some putA_none onO_some evCs_nil evCs_cons appL_nil appL_cons guardOk_true guardOk_false cellsV_bool cellsV_int cellsV_str cellsV_nilptr cellsV_ptr cellsV_nilslice cellsV_slice cellsV_nilmap cellsV_map cellsV_func cellsV_nilfunc cellsV_iface cellsV_niliface cellsV_agg bin_lss bin_gtr bin_leq bin_geq bin_eql bin_neq bin_add bin_sub bin_eqlS bin_neqS mkFrame_nil mkFrame_cons resA_one resA_two resA_three over_0 over_1 over_2 over_3 over_4 over_5 over0_nil over0_cons Option.getD_some if_true if_false AHeap.next_push AVal.bool.injEq decide_eq_true_eq decide_eq_false_iff_not Bool.not_eq_true' Bool.not_eq_false' Bool.not_eq_true decide_true decide_false Bool.not_true Bool.not_false Int.toNat_natCast Int.natCast_nonneg true_and and_true wo_mapPut wp_drawn' wsts_nil b_pure b_read b_new b_wr wor_none b_org rer_nil rer_load1 rer_loadN wo_append AHeap.next_skip AHeap.next_put' AHeap.mk_push_t AHeap.mk_eta AHeap.mk_skip ldA_skip ldN_skip Nat.add_zero Nat.zero_add b_lite_true b_lite_false eq_self_iff_true not_true_eq_false not_false_eq_true bx_k bx_q bx_x bx_1 undefA_bool putAt_push List.length_cons List.length_nil Nat.le_refl ldA_push_new ldN_push_new List.getElem?_cons_zero List.getElem?_cons_succ List.drop_zero List.drop_succ_cons List.take_succ_cons List.take_zero b_build b_buildSlice evParts_nil evParts_cons b_fillA_nil b_fillA nbeq nble natadd natmul lenL_eq repL_1 repL_2 repL_3 wo_sliceData sdV_nil sdV_slice wo_unsafeStr usV_nil wo_slStr slStrV_str evCo_none evCo_some boundA_none Bool.and_true Bool.true_and wo_minmax2' mm2V_int
attribute [local go_sem] wo_cBytesStr
theorem BoxL.only {A : Nat → Prop} {h h' : AHeap} {b p : Nat} {l : List Alt} (H : BoxL A h b l) (hp : A p) (hon : Only p h h') : BoxL A h' b l := by
  obtain ⟨h1, h2, v, h3, h5, h6⟩ := H
  exact ⟨by have := hon.1; omega, h2, v, by rw [hon.2 b h1 (fun e => h2 (e ▸ hp))]; exact h3, h5.frame hon.1 (fun c hc => hon.2 c (h5.blk hc) (fun e => (h6 c hc).2 (e ▸ hp))), h6⟩
theorem BoxL.app2 {A : Nat → Prop} {h : AHeap} {b z : Nat} {l : List Alt} (H : BoxL A h b l) (hA : ∀ c, A c → c < h.next) (s : List Nat) (n : Int) (hm : l.length ≤ 100000000) {v : AVal} (hv : ldA h b 0 = some v) (hz : z < h.next) (hzg : h.get z = some (.cells [.str s, .int .i64 n] 57)) {K : AVal → AHeap → Prop}
    (hK : ∀ v' h' h'', cellsV v' = some [v'] → putAt h' b 0 1 [v'] = some h'' → BoxL A h'' b (l ++ [(s, n)]) → h.next ≤ h''.next → (∀ c, A c → h''.get c = h.get c) → K v' h') : appV 57 2 v (.slice z 0 1 1 true) h K := by
  obtain ⟨h1, h2, _⟩ := id H
  obtain ⟨v2, h3, hv2, _, h5, h6⟩ := H.ld
  obtain rfl : v = v2 := Option.some.inj (hv.symm.trans hv2)
  have hone : SlA h 2 (.slice z 0 1 1 true) [[.str s, .int .i64 n]] := ⟨by simp, .inr ⟨_, _, _, _, rfl, .inr (RowA.of_cells (e := 57) hz hzg (by intro x hx; simp at hx; rcases hx with rfl | rfl <;> rfl))⟩⟩
  refine appV_own h5 (srcCells_SlA hone (by simp)) (by simp) (by simp) (by omega) (by rw [altC_len]; simp; omega) ?_
  intro v' h'' ho hn hf hb
  have hgb : h''.get b = some (.cells [v] 55) := by
    rw [hf b h1 (fun hc => (h6 b hc).1 rfl)]; exact h3
  have hp : putAt h'' b 0 1 [v'] = some (h''.put b (.cells [v'] 55)) := putAt_cells (o := 0) (n := 1) (vs := [v']) hgb rfl (by simp)
  have hblk : ∀ c, blkOf v' c → c = h.next := by
    rintro c ⟨o, n, c2, e, rfl⟩
    obtain ⟨_, _, _, _, he⟩ := hb
    cases he; rfl
  refine hK v' h'' _ (cellsV_flat ho.flatV) hp ⟨by simp [AHeap.next_put]; omega, h2, v', AHeap.get_put_same _ _ _, ?_, fun c hc => ?_⟩ (by simp [AHeap.next_put]; omega) fun c hc => ?_
  · have e : ((l ++ [(s, n)]).map altC).flatten = (l.map altC).flatten ++ [[AVal.str s, AVal.int .i64 n]].flatten := by simp [altC]
    rw [e]
    exact ho.frame (by simp [AHeap.next_put]) fun c hc => AHeap.get_put_ne _ _ (fun e => by have := hblk c hc; omega)
  · have := hblk c hc
    exact ⟨by omega, fun e => by have := hA c e; omega⟩
  · have hcb : c ≠ b := fun e => h2 (e ▸ hc)
    have hcl := hA c hc
    rw [AHeap.get_put_ne _ _ (Ne.symm hcb), hf c hcl (fun hk => (h6 c hk).2 hc)]
end
end Go.AX
namespace Go.AX
open Go Go.Proofs
noncomputable section
set_option linter.unusedSimpArgs false
set_option linter.unusedVariables false
attribute [local go_sem] b_seq wp_skip wp_exit wp_ret wp_region b_block wops_nil b_ops b_opsg b_cond condV_lite wo_mv b_bin wo_call callV_func wo_pick b_box wo_load1 wo_loadN wo_store wo_nilCheck wo_not wo_lenStr' wo_lenSl wo_ixStr' wo_ixSl wo_fAddr wo_part1 wo_partN wo_extract wo_cInt wo_cStr wo_mkMap wo_mkIface wo_mkFunc wo_lookup pickV_bool ifT_true ifT_false b_loadV b_loadNV b_storeV nilV_ptr nilV_func nilV_iface notV_bool lenStrV_str lenSlV_nil lenSlV_slice b_ixStrV ixSlV_slice fAddrV_ptr b_part1V partNV_agg b_extractV convV_int strV_str evC_tm evC_cn T.get_set putA_some putA_none onO_some evCs_nil evCs_cons appL_nil appL_cons guardOk_true guardOk_false cellsV_bool cellsV_int cellsV_str cellsV_nilptr cellsV_ptr cellsV_nilslice cellsV_slice cellsV_nilmap cellsV_map cellsV_func cellsV_nilfunc cellsV_iface cellsV_niliface cellsV_agg bin_lss bin_gtr bin_leq bin_geq bin_eql bin_neq bin_add bin_sub bin_eqlS bin_neqS mkFrame_nil mkFrame_cons resA_one resA_two resA_three over_0 over_1 over_2 over_3 over_4 over_5 over0_nil over0_cons Option.getD_some if_true if_false AHeap.next_push AVal.bool.injEq decide_eq_true_eq decide_eq_false_iff_not Bool.not_eq_true' Bool.not_eq_false' Bool.not_eq_true decide_true decide_false Bool.not_true Bool.not_false Int.toNat_natCast Int.natCast_nonneg true_and and_true wo_mapPut wp_drawn' wsts_nil b_pure b_read b_new b_wr wor_none b_org rer_nil rer_load1 rer_loadN wo_append AHeap.next_skip AHeap.next_put' AHeap.mk_push_t AHeap.mk_eta AHeap.mk_skip ldA_skip ldN_skip Nat.add_zero Nat.zero_add b_lite_true b_lite_false eq_self_iff_true not_true_eq_false not_false_eq_true bx_k bx_q bx_x bx_1 undefA_bool putAt_push List.length_cons List.length_nil Nat.le_refl ldA_push_new ldN_push_new List.getElem?_cons_zero List.getElem?_cons_succ List.drop_zero List.drop_succ_cons List.take_succ_cons List.take_zero b_build b_buildSlice evParts_nil evParts_cons b_fillA_nil b_fillA nbeq nble natadd natmul lenL_eq repL_1 repL_2 repL_3 wo_sliceData sdV_nil sdV_slice wo_unsafeStr usV_nil wo_slStr slStrV_str evCo_none evCo_some boundA_none Bool.and_true Bool.true_and wo_minmax2' mm2V_int
theorem CellsA.nil (h : AHeap) : CellsA h .nilslice [] := ⟨[], ⟨by simp, .inl ⟨rfl, rfl⟩⟩, rfl, fun i x y hx => by simp at hx⟩
end
end Go.AX
namespace Go.AX
open Go Go.Proofs
noncomputable section
set_option linter.unusedSimpArgs false
set_option linter.unusedVariables false
attribute [local go_sem] b_seq wp_skip wp_exit wp_ret wp_region b_block wops_nil b_ops b_opsg b_cond condV_lite wo_mv b_bin wo_call callV_func wo_pick b_box wo_load1 wo_loadN wo_store wo_nilCheck wo_not wo_lenStr' wo_lenSl wo_ixStr' wo_ixSl wo_fAddr wo_part1 wo_partN wo_extract wo_cInt wo_cStr wo_mkMap wo_mkIface wo_mkFunc wo_lookup pickV_bool ifT_true ifT_false b_loadV b_loadNV b_storeV nilV_ptr nilV_func nilV_iface notV_bool lenStrV_str lenSlV_nil lenSlV_slice b_ixStrV ixSlV_slice fAddrV_ptr b_part1V partNV_agg b_extractV convV_int strV_str evC_tm evC_cn T.get_set putA_some putA_none onO_some evCs_nil evCs_cons appL_nil appL_cons guardOk_true guardOk_false cellsV_bool cellsV_int cellsV_str cellsV_nilptr cellsV_ptr cellsV_nilslice cellsV_slice cellsV_nilmap cellsV_map cellsV_func cellsV_nilfunc cellsV_iface cellsV_niliface cellsV_agg bin_lss bin_gtr bin_leq bin_geq bin_eql bin_neq bin_add bin_sub bin_eqlS bin_neqS mkFrame_nil mkFrame_cons resA_one resA_two resA_three over_0 over_1 over_2 over_3 over_4 over_5 over0_nil over0_cons Option.getD_some if_true if_false AHeap.next_push AVal.bool.injEq decide_eq_true_eq decide_eq_false_iff_not Bool.not_eq_true' Bool.not_eq_false' Bool.not_eq_true decide_true decide_false Bool.not_true Bool.not_false Int.toNat_natCast Int.natCast_nonneg true_and and_true wo_mapPut wp_drawn' wsts_nil b_pure b_read b_new b_wr wor_none b_org rer_nil rer_load1 rer_loadN wo_append AHeap.next_skip AHeap.next_put' AHeap.mk_push_t AHeap.mk_eta AHeap.mk_skip ldA_skip ldN_skip Nat.add_zero Nat.zero_add b_lite_true b_lite_false eq_self_iff_true not_true_eq_false not_false_eq_true bx_k bx_q bx_x bx_1 undefA_bool putAt_push List.length_cons List.length_nil Nat.le_refl ldA_push_new ldN_push_new List.getElem?_cons_zero List.getElem?_cons_succ List.drop_zero List.drop_succ_cons List.take_succ_cons List.take_zero b_build b_buildSlice evParts_nil evParts_cons b_fillA_nil b_fillA nbeq nble natadd natmul lenL_eq repL_1 repL_2 repL_3 wo_sliceData sdV_nil sdV_slice wo_unsafeStr usV_nil wo_slStr slStrV_str evCo_none evCo_some boundA_none Bool.and_true Bool.true_and wo_minmax2' mm2V_int
attribute [local go_sem] wo_cBytesStr
theorem OutL.only {n0 : Nat} {h h' : AHeap} {out : AVal} {done : List (List Alt)} {p : Nat} (H : OutL n0 h out done) (hp : p < n0) (hon : Only p h h') : OutL n0 h' out done := by
  obtain ⟨vs, h1, h2, h3, h4⟩ := H
  exact ⟨vs, h1.frame hon.1 (fun c hc => hon.2 c (h1.blk hc) (by have := h4 c hc; omega)), ⟨h2.1, fun i x y hx hy => (h2.2 i x y hx hy).keep hon.1 fun c hc hcl => hon.2 c hcl (by have := (h3 x (List.mem_of_getElem? hx) c hc).1; omega)⟩, (fun x hx c hc => ⟨(h3 x hx c hc).1, by have := (h3 x hx c hc).2.1; have := hon.1; omega, (h3 x hx c hc).2.2⟩), h4⟩
theorem OutL.form {n0 : Nat} {h : AHeap} {out : AVal} {done : List (List Alt)} (H : OutL n0 h out done) : out = .nilslice ∨ ∃ b o n c e, out = .slice b o n c e := by
  obtain ⟨vs, h1, _⟩ := H
  exact h1.form
end
end Go.AX
namespace Go.AX
open Go Go.Proofs
noncomputable section
set_option linter.unusedSimpArgs false
set_option linter.unusedVariables false
attribute [local go_sem] b_seq wp_skip wp_exit wp_ret wp_region b_block wops_nil b_ops b_opsg b_cond condV_lite wo_mv b_bin wo_call callV_func wo_pick b_box wo_load1 wo_loadN wo_store wo_nilCheck wo_not wo_lenStr' wo_lenSl wo_ixStr' wo_ixSl wo_fAddr wo_part1 wo_partN wo_extract wo_cInt wo_cStr wo_mkMap wo_mkIface wo_mkFunc wo_lookup pickV_bool ifT_true ifT_false b_loadV b_loadNV b_storeV nilV_ptr nilV_func nilV_iface notV_bool lenStrV_str lenSlV_nil lenSlV_slice b_ixStrV ixSlV_slice fAddrV_ptr b_part1V partNV_agg b_extractV convV_int strV_str evC_tm evC_cn T.get_set putA_some putA_none onO_some evCs_nil evCs_cons appL_nil appL_cons guardOk_true guardOk_false cellsV_bool cellsV_int cellsV_str cellsV_nilptr cellsV_ptr cellsV_nilslice cellsV_slice cellsV_nilmap cellsV_map cellsV_func cellsV_nilfunc cellsV_iface cellsV_niliface cellsV_agg bin_lss bin_gtr bin_leq bin_geq bin_eql bin_neq bin_add bin_sub bin_eqlS bin_neqS mkFrame_nil mkFrame_cons resA_one resA_two resA_three over_0 over_1 over_2 over_3 over_4 over_5 over0_nil over0_cons Option.getD_some if_true if_false AHeap.next_push AVal.bool.injEq decide_eq_true_eq decide_eq_false_iff_not Bool.not_eq_true' Bool.not_eq_false' Bool.not_eq_true decide_true decide_false Bool.not_true Bool.not_false Int.toNat_natCast Int.natCast_nonneg true_and and_true wo_mapPut wp_drawn' wsts_nil b_pure b_read b_new b_wr wor_none b_org rer_nil rer_load1 rer_loadN wo_append AHeap.next_skip AHeap.next_put' AHeap.mk_push_t AHeap.mk_eta AHeap.mk_skip ldA_skip ldN_skip Nat.add_zero Nat.zero_add b_lite_true b_lite_false eq_self_iff_true not_true_eq_false not_false_eq_true bx_k bx_q bx_x bx_1 undefA_bool putAt_push List.length_cons List.length_nil Nat.le_refl ldA_push_new ldN_push_new List.getElem?_cons_zero List.getElem?_cons_succ List.drop_zero List.drop_succ_cons List.take_succ_cons List.take_zero b_build b_buildSlice evParts_nil evParts_cons b_fillA_nil b_fillA nbeq nble natadd natmul lenL_eq repL_1 repL_2 repL_3 wo_sliceData sdV_nil sdV_slice wo_unsafeStr usV_nil wo_slStr slStrV_str evCo_none evCo_some boundA_none Bool.and_true Bool.true_and wo_minmax2' mm2V_int
def EvP (args : List AVal) (h : AHeap) (p : AVal × AHeap) : Prop := ∃ N, ∀ m n, N ≤ m → N ≤ n → parseR E2 (callN E2 m n) m args h = some p
theorem EvP.inj {args : List AVal} {h : AHeap} {p q : AVal × AHeap} (hp : EvP args h p) (hq : EvP args h q) : p = q := by
  obtain ⟨N, hN⟩ := hp
  obtain ⟨M, hM⟩ := hq
  exact Option.some.inj ((hN (N + M) (N + M) (by omega) (by omega)).symm.trans (hM (N + M) (N + M) (by omega) (by omega)))
theorem Ev.inj {E : Env} {f : FuncId} {args : List AVal} {h : AHeap} {v w : AVal} {h1 h2 : AHeap} (hp : Ev E f args h v h1) (hq : Ev E f args h w h2) : v = w ∧ h1 = h2 := by
  obtain ⟨N, hN⟩ := hp
  obtain ⟨M, hM⟩ := hq
  have := Option.some.inj ((hN (N + M) (N + M) (by omega) (by omega)).symm.trans (hM (N + M) (N + M) (by omega) (by omega)))
  exact ⟨congrArg Prod.fst this, congrArg Prod.snd this⟩
def ecP (f : FuncId) (args : List AVal) (h : AHeap) : R := open Classical in if H : ∃ p : AVal × AHeap, Ev E2 f args h p.1 p.2 then some H.choose else none
theorem ecP_ok (f : FuncId) : PrimOK f (.fn (ecP f)) := by
  intro args h v h' hp
  have hp' : ecP f args h = some (v, h') := hp
  unfold ecP at hp'
  split at hp'
  · rename_i H
    have hv := H.choose_spec
    rw [Option.some.inj hp'] at hv
    obtain ⟨N, hN⟩ := hv
    exact call2 N N f args h v h' (hN N N (Nat.le_refl _) (Nat.le_refl _))
  · cases hp'
end
end Go.AX
namespace Go.AX
open Go Go.Proofs
noncomputable section
set_option linter.unusedSimpArgs false
set_option linter.unusedVariables false
attribute [local go_sem] b_seq wp_skip wp_exit wp_ret wp_region b_block wops_nil b_ops b_opsg b_cond condV_lite wo_mv b_bin wo_call callV_func wo_pick b_box wo_load1 wo_loadN wo_store wo_nilCheck wo_not wo_lenStr' wo_lenSl wo_ixStr' wo_ixSl wo_fAddr wo_part1 wo_partN wo_extract wo_cInt wo_cStr wo_mkMap wo_mkIface wo_mkFunc wo_lookup pickV_bool ifT_true ifT_false b_loadV b_loadNV b_storeV nilV_ptr nilV_func nilV_iface notV_bool lenStrV_str lenSlV_nil lenSlV_slice b_ixStrV ixSlV_slice fAddrV_ptr b_part1V partNV_agg b_extractV convV_int strV_str evC_tm evC_cn T.get_set putA_some putA_none onO_some evCs_nil evCs_cons appL_nil appL_cons guardOk_true guardOk_false cellsV_bool cellsV_int cellsV_str cellsV_nilptr cellsV_ptr cellsV_nilslice cellsV_slice cellsV_nilmap cellsV_map cellsV_func cellsV_nilfunc cellsV_iface cellsV_niliface cellsV_agg bin_lss bin_gtr bin_leq bin_geq bin_eql bin_neq bin_add bin_sub bin_eqlS bin_neqS mkFrame_nil mkFrame_cons resA_one resA_two resA_three over_0 over_1 over_2 over_3 over_4 over_5 over0_nil over0_cons Option.getD_some if_true if_false AHeap.next_push AVal.bool.injEq decide_eq_true_eq decide_eq_false_iff_not Bool.not_eq_true' Bool.not_eq_false' Bool.not_eq_true decide_true decide_false Bool.not_true Bool.not_false Int.toNat_natCast Int.natCast_nonneg true_and and_true wo_mapPut wp_drawn' wsts_nil b_pure b_read b_new b_wr wor_none b_org rer_nil rer_load1 rer_loadN wo_append AHeap.next_skip AHeap.next_put' AHeap.mk_push_t AHeap.mk_eta AHeap.mk_skip ldA_skip ldN_skip Nat.add_zero Nat.zero_add b_lite_true b_lite_false eq_self_iff_true not_true_eq_false not_false_eq_true bx_k bx_q bx_x bx_1 undefA_bool putAt_push List.length_cons List.length_nil Nat.le_refl ldA_push_new ldN_push_new List.getElem?_cons_zero List.getElem?_cons_succ List.drop_zero List.drop_succ_cons List.take_succ_cons List.take_zero b_build b_buildSlice evParts_nil evParts_cons b_fillA_nil b_fillA nbeq nble natadd natmul lenL_eq repL_1 repL_2 repL_3 wo_sliceData sdV_nil sdV_slice wo_unsafeStr usV_nil wo_slStr slStrV_str evCo_none evCo_some boundA_none Bool.and_true Bool.true_and wo_minmax2' mm2V_int
def prL7 : List (Nat × Prim) := [(13, .fn (ecP 13)), (21, .fn costP), (22, .fn (ecP 22))]
def E7 : Env := ⟨prL7.foldl (fun t p => t.set p.1 p.2) .nil, tiT, fnT, eqT, plT⟩
theorem env7 : EnvOK E7 Tryz.prog := envOK rfl rfl rfl
theorem primS7 : PrimS E7 Tryz.prog := by
  refine primS_of (L := prL7) rfl fun f p hfp => ?_
  simp only [prL7, List.mem_cons, List.not_mem_nil, or_false, Prod.mk.injEq] at hfp
  rcases hfp with ⟨rfl, rfl⟩ | ⟨rfl, rfl⟩ | ⟨rfl, rfl⟩
  · exact ecP_ok _
  · exact cost_ok
  · exact ecP_ok _
theorem call7 (lf n : Nat) : CallS Tryz.prog (callN E7 lf n) := callN_sound' env7 (names_of rfl) primS7 lf n
theorem ec7 {f : FuncId} {args : List AVal} {h : AHeap} {Q : AVal → AHeap → Prop} (hf : E7.prim.get f = some (.fn (ecP f))) (hc : Ec E2 f args h Q) : Ec E7 f args h Q := by
  obtain ⟨v, h', hv, hq⟩ := hc
  refine Ec.of_prim (p := .fn (ecP f)) (v := v) (h' := h') hf ?_ hq
  show ecP f args h = _
  unfold ecP
  have H : ∃ p : AVal × AHeap, Ev E2 f args h p.1 p.2 := ⟨(v, h'), hv⟩
  rw [dif_pos H]
  obtain ⟨e1, e2⟩ := Ev.inj H.choose_spec hv
  congr 1
  exact Prod.ext e1 e2
theorem p7_13 : E7.prim.get 13 = some (.fn (ecP 13)) := by kernel_rfl
theorem p7_21 : E7.prim.get 21 = some (.fn costP) := by kernel_rfl
theorem p7_22 : E7.prim.get 22 = some (.fn (ecP 22)) := by kernel_rfl
theorem p7_7 : E7.prim.get 7 = none := by kernel_rfl
theorem codeLCosts7 : E7.code 7 = some (cLCosts, [.tmp 4]) := by kernel_rfl
theorem cost_c7 {A : AutoS} {v : AVal} {s : List Nat} {h : AHeap} (H : AutoA h v A) (hs : s.length ≤ 9223372036854775807) : Ec E7 21 [v, .str s] h fun u h' => u = costV A s ∧ h' = h :=
  Ec.of_prim (p := .fn costP) (v := costV A s) (h' := h) p7_21 (costP_eq H hs) ⟨rfl, rfl⟩
theorem cost_long {A : AutoS} {s : List Nat} (hs : 400 ≤ s.length) : costV A s = .tup [.int .i64 0, .bool false] := by
  unfold costV
  split
  · rename_i hA
    obtain ⟨n, hn, n1, n4, l4, e4, hP, hE⟩ := checkZ_ok hA
    have : costO A s = none := costO_eq (fun k hk => by
      obtain ⟨e, he, k', hr, _⟩ := hk
      obtain ⟨b1, b2, b3, b4⟩ := Run.bound hP hr
      obtain ⟨a1, a2, _⟩ := endsP_mem hE he
      omega)
    rw [this]; rfl
  · rfl
theorem costV_tup (A : AutoS) (s : List Nat) : ∃ (n : Int) (b : Bool), costV A s = .tup [.int .i64 n, .bool b] := by
  unfold costV
  split
  · exact ⟨_, _, rfl⟩
  · exact ⟨_, _, rfl⟩
theorem costs_law (A : AutoS) (v : AVal) (s : List Nat) (h : AHeap) (H : AutoA h v A) (hs : s.length ≤ 9223372036854775807) : Ec E7 7 [v, .str s] h fun r _ => r = .bool true := by
  obtain ⟨va, ve, rfl, ha, he, hla, hlee⟩ := id H
  refine Ec.of_wpb p7_7 codeLCosts7 ?_
  unfold cLCosts
  have ln : ldN (h.push (.cells [.int .i64 A.n, va, ve] 36)) h.next 0 3 = some [.int .i64 A.n, va, ve] := by rw [ldN_push_new _ _ _ (by simp)]; rfl
  have hle1 : Hle h (h.push (.cells [.int .i64 A.n, va, ve] 36)) := (Hle.refl h).push _
  simp only [go_sem, Nat.reduceEqDiff, Int.reduceLT, Int.reduceLE, Int.reduceEq, Nat.reduceLT, Nat.reduceAdd, Nat.reduceMul, Int.reduceToNat, Nat.reduceLeDiff, reduceCtorEq, ln]
  generalize h.push (.cells [.int .i64 A.n, va, ve] 36) = h1 at ln hle1 ⊢
  refine ⟨by decide, ?_⟩
  refine (cost_c7 (H.mono hle1) hs).mono ?_
  rintro r h2 ⟨rfl, rfl⟩
  by_cases hc : (400 : Int) ≤ (s.length : Int)
  · rw [cost_long (by omega)]
    have hc' : ¬ (s.length : Int) < 400 := by omega
    simp only [go_sem, Nat.reduceEqDiff, Int.reduceLT, Int.reduceLE, Int.reduceEq, Nat.reduceLT, Nat.reduceAdd, Nat.reduceMul, Int.reduceToNat, Nat.reduceLeDiff, reduceCtorEq, hc']
    refine ⟨by decide, ?_⟩
    refine (ec7 p7_13 (alive_c h2)).mono ?_
    rintro r h3 ⟨rfl, rfl⟩
    simp only [go_sem, Nat.reduceEqDiff, Int.reduceLT, Int.reduceLE, Int.reduceEq, Nat.reduceLT, Nat.reduceAdd, Nat.reduceMul, Int.reduceToNat, Nat.reduceLeDiff, reduceCtorEq]
  · obtain ⟨n, b, hv⟩ := costV_tup A s
    have hc' : (s.length : Int) < 400 := by omega
    have hbb : binA .eql .bool (.bool b) (.bool b) = some (.bool true) := by cases b <;> rfl
    rw [hv]
    simp only [go_sem, Nat.reduceEqDiff, Int.reduceLT, Int.reduceLE, Int.reduceEq, Nat.reduceLT, Nat.reduceAdd, Nat.reduceMul, Int.reduceToNat, Nat.reduceLeDiff, reduceCtorEq, hc', ln]
    refine ⟨by decide, ?_⟩
    refine (ec7 p7_22 (rcost_c A _ s h2 (H.mono hle1) hs)).mono ?_
    rintro r h3 ⟨rfl, hle3⟩
    rw [hv]
    simp only [go_sem, Nat.reduceEqDiff, Int.reduceLT, Int.reduceLE, Int.reduceEq, Nat.reduceLT, Nat.reduceAdd, Nat.reduceMul, Int.reduceToNat, Nat.reduceLeDiff, reduceCtorEq]
    refine ⟨by decide, ?_⟩
    refine (ec7 p7_13 (alive_c h3)).mono ?_
    rintro r h4 ⟨rfl, rfl⟩
    simp only [go_sem, Nat.reduceEqDiff, Int.reduceLT, Int.reduceLE, Int.reduceEq, Nat.reduceLT, Nat.reduceAdd, Nat.reduceMul, Int.reduceToNat, Nat.reduceLeDiff, reduceCtorEq, hbb]
end
end Go.AX
namespace Go.AX
open Go Go.Proofs Go.RowKit Go.WideShapes Go.ChangeShapes
noncomputable section
theorem len2 {α : Type} {l : List α} (h : l.length = 2) : ∃ a b, l = [a, b] := by
  match l, h with
  | [a, b], _ => exact ⟨a, b, rfl⟩
end
end Go.AX
namespace Go.AX
open Go Go.Proofs Go.RowKit Go.WideShapes Go.ChangeShapes
noncomputable section
theorem maxLen_le : maxLen ≤ 9223372036854775807 := by decide
theorem ocInt : Tryz.prog.cellsOf 3 = 1 := by kernel_rfl
theorem ocByte : Tryz.prog.cellsOf 5 = 1 := by kernel_rfl
theorem ocArc : Tryz.prog.cellsOf 84 = 4 := by kernel_rfl
theorem ocEnd : Tryz.prog.cellsOf 87 = 2 := by kernel_rfl
theorem ocArcs : Tryz.prog.cellsOf 33 = 1 := by kernel_rfl
theorem ocEnds : Tryz.prog.cellsOf 34 = 1 := by kernel_rfl
theorem ocAuto : Tryz.prog.cellsOf 36 = 3 := by kernel_rfl
theorem len3 {α : Type} {l : List α} (h : l.length = 3) : ∃ a b c, l = [a, b, c] := by
  match l, h with
  | [a, b, c], _ => exact ⟨a, b, c, rfl⟩
theorem len4 {α : Type} {l : List α} (h : l.length = 4) : ∃ a b c d, l = [a, b, c, d] := by
  match l, h with
  | [a, b, c, d], _ => exact ⟨a, b, c, d, rfl⟩
theorem wf_u8 {n : Int} (h : (Lit.int .u8 n).wf = true) : 0 ≤ n := by
  have : IntKind.u8.min = 0 := by decide
  simp [Lit.wf, this] at h
  exact h.1
theorem opnArc : Opn Tryz.prog 84 4 (fun _ (a : ArcS) l => l = arcC a) := by
  refine ⟨ocArc, fun {H enc w base held fuel cs x} h => ?_⟩
  obtain ⟨hl, n, hf⟩ := trod_fields Tryz.underlying84 ocArc (fun i f hi => by
    match i, hi with
    | 0, hi => cases hi; exact ⟨rfl, ocInt⟩
    | 1, hi => cases hi; exact ⟨rfl, ocInt⟩
    | 2, hi => cases hi; exact ⟨rfl, ocByte⟩
    | 3, hi => cases hi; exact ⟨rfl, ocInt⟩
    | (i + 4), hi => simp at hi) h
  obtain ⟨c0, c1, c2, c3, rfl⟩ := len4 hl
  obtain ⟨y0, g0⟩ := hf 0 _ c0 rfl rfl
  obtain ⟨y1, g1⟩ := hf 1 _ c1 rfl rfl
  obtain ⟨y2, g2⟩ := hf 2 _ c2 rfl rfl
  obtain ⟨y3, g3⟩ := hf 3 _ c3 rfl rfl
  obtain ⟨k0, e0, _, w0⟩ := DataW.trod_int Tryz.underlying3 g0
  obtain ⟨k1, e1, _, w1⟩ := DataW.trod_int Tryz.underlying3 g1
  obtain ⟨k2, e2, _, w2⟩ := DataW.trod_int Tryz.underlying5 g2
  obtain ⟨k3, e3, _, w3⟩ := DataW.trod_int Tryz.underlying3 g3
  cases e0; cases e1; cases e2; cases e3
  have h2 := wf_u8 w2
  refine ⟨⟨k0, k1, k2.toNat, k3⟩, ?_, fun c hc => ?_, rfl⟩
  · show [AVal.int .i64 k0, .int .i64 k1, .int .u8 k2, .int .i64 k3] = [.int .i64 k0, .int .i64 k1, .int .u8 ((k2.toNat : Nat) : Int), .int .i64 k3]
    rw [show ((k2.toNat : Nat) : Int) = k2 by omega]
  · simp at hc
    rcases hc with rfl | rfl | rfl | rfl <;> rfl
theorem opnEnd : Opn Tryz.prog 87 2 (fun _ (a : EndS) l => l = endC a) := by
  refine ⟨ocEnd, fun {H enc w base held fuel cs x} h => ?_⟩
  obtain ⟨hl, n, hf⟩ := trod_fields Tryz.underlying87 ocEnd (fun i f hi => by
    match i, hi with
    | 0, hi => cases hi; exact ⟨rfl, ocInt⟩
    | 1, hi => cases hi; exact ⟨rfl, ocInt⟩
    | (i + 2), hi => simp at hi) h
  obtain ⟨c0, c1, rfl⟩ := len2 hl
  obtain ⟨y0, g0⟩ := hf 0 _ c0 rfl rfl
  obtain ⟨y1, g1⟩ := hf 1 _ c1 rfl rfl
  obtain ⟨k0, e0, _, w0⟩ := DataW.trod_int Tryz.underlying3 g0
  obtain ⟨k1, e1, _, w1⟩ := DataW.trod_int Tryz.underlying3 g1
  cases e0; cases e1
  exact ⟨⟨k0, k1⟩, rfl, fun c hc => by simp at hc; rcases hc with rfl | rfl <;> rfl, rfl⟩
theorem rows_enc {α : Type} {enc : α → List AVal} {xs : List α} {rows : List (List AVal)} (h : xs.length = rows.length) (h2 : ∀ (i : Nat) a r, xs[i]? = some a → rows[i]? = some r → r = enc a) : rows = xs.map enc := by
  apply List.ext_getElem?
  intro i
  rw [List.getElem?_map]
  cases hx : xs[i]? with
  | none =>
    have := List.getElem?_eq_none_iff.1 hx
    rw [List.getElem?_eq_none (by omega)]
    rfl
  | some a =>
    have hi := (List.getElem?_eq_some_iff.1 hx).1
    obtain ⟨r, hr⟩ : ∃ r, rows[i]? = some r := ⟨_, List.getElem?_eq_getElem (by omega)⟩
    rw [hr, h2 i a r hx hr]
    rfl
theorem opnArcs : Opn Tryz.prog 33 1 (fun w (xs : List ArcS) l => ∃ v, l = [v] ∧ ArcsA (absW w) v xs ∧ xs.length ≤ 9223372036854775807) := by
  have h0 := opn_slice opnArc (by omega) Tryz.underlying33 ocArcs
  refine ⟨h0.1, fun h => ?_⟩
  obtain ⟨xs, ⟨v, rows, e, hs, ⟨hl, h2⟩, hm⟩, hf, hlen⟩ := h0.2 h
  refine ⟨xs, ⟨v, e, ?_, Nat.le_trans hm maxLen_le⟩, hf, hlen⟩
  rw [rows_enc hl h2] at hs
  exact hs
theorem opnEnds : Opn Tryz.prog 34 1 (fun w (xs : List EndS) l => ∃ v, l = [v] ∧ EndsA (absW w) v xs ∧ xs.length ≤ 9223372036854775807) := by
  have h0 := opn_slice opnEnd (by omega) Tryz.underlying34 ocEnds
  refine ⟨h0.1, fun h => ?_⟩
  obtain ⟨xs, ⟨v, rows, e, hs, ⟨hl, h2⟩, hm⟩, hf, hlen⟩ := h0.2 h
  refine ⟨xs, ⟨v, e, ?_, Nat.le_trans hm maxLen_le⟩, hf, hlen⟩
  rw [rows_enc hl h2] at hs
  exact hs
set_option maxRecDepth 100000 in
theorem openAuto {W : World} {r : Reach} {b0 : Nat} {H : Type} {enc : TypeId × Value → H} {held : Bool} {v : Value} {d : DataW H} {ps : List MemPlace}
    (hval : Value.okWide Tryz.prog W r b0 36 v) (h : DataW.Trod enc Tryz.prog W 0 (fun _ => true) held 36 v d ps) : ∃ (a : AVal) (A : AutoS), V (idR W.heap.size) a v ∧ AutoA (absW W) a A := by
  obtain ⟨vs, rfl, hsz⟩ := okWide_struct Tryz.underlying36 hval
  obtain ⟨fuel, h⟩ := h
  obtain ⟨hl, n, hf⟩ := trod_fields Tryz.underlying36 ocAuto (fun i f hi => by
    match i, hi with
    | 0, hi => cases hi; exact ⟨rfl, ocInt⟩
    | 1, hi => cases hi; exact ⟨rfl, ocArcs⟩
    | 2, hi => cases hi; exact ⟨rfl, ocEnds⟩
    | (i + 3), hi => simp at hi) h
  obtain ⟨c0, c1, c2, hcs⟩ := len3 hl
  rw [hcs] at hf
  obtain ⟨y0, g0⟩ := hf 0 _ c0 rfl rfl
  obtain ⟨y1, g1⟩ := hf 1 _ c1 rfl rfl
  obtain ⟨y2, g2⟩ := hf 2 _ c2 rfl rfl
  obtain ⟨k0, e0, _, _⟩ := DataW.trod_int Tryz.underlying3 g0
  obtain ⟨arcs, ⟨va, e1, ha, la⟩, f1, _⟩ := opnArcs.2 g1
  obtain ⟨ends, ⟨ve, e2, he, le⟩, f2, _⟩ := opnEnds.2 g2
  cases e0
  have e1' : absV W.heap.size c1 = va := by simpa using e1
  have e2' : absV W.heap.size c2 = ve := by simpa using e2
  subst e1'; subst e2'
  have hvs : vs.toList = [.int .i64 k0, c1, c2] := hcs
  refine ⟨.agg [.int .i64 k0, absV W.heap.size c1, absV W.heap.size c2], ⟨k0, arcs, ends⟩, .agg (fun x hx => ?_) ?_, _, _, rfl, ha, he, la, le⟩
  · simp at hx
    rcases hx with rfl | rfl | rfl
    · rfl
    · exact f1 _ (by simp)
    · exact f2 _ (by simp)
  · rw [hvs]
    exact .cons (.int _ _) (.cons (absV_V (f1 _ (by simp))) (.cons (absV_V (f2 _ (by simp))) .nil))
end
end Go.AX

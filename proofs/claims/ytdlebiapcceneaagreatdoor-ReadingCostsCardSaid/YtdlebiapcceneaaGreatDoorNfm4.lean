/-
  Contracts of functions of this seat, for every input that each theorem names.
-/
import Derived.Test.YtdlebiapcceneaaGreatDoorNfm3
import Derived.Test.YtdlebiapcceneaaGreatDoorNfm2
import Derived.Test.YtdlebiapcceneaaGreatDoorNfw1
set_option linter.unusedVariables false
set_option linter.unusedSimpArgs false
set_option linter.unusedSectionVars false
namespace Go.AX
open Go Go.Proofs
noncomputable section
set_option linter.unusedSimpArgs false
set_option linter.unusedVariables false
attribute [local go_sem] b_seq wp_skip wp_exit wp_ret wp_region b_block wops_nil b_ops b_opsg b_cond condV_lite wo_mv b_bin wo_call callV_func wo_pick b_box wo_load1 wo_loadN wo_store wo_nilCheck wo_not wo_lenStr' wo_lenSl wo_ixStr' wo_ixSl wo_fAddr wo_part1 wo_partN wo_extract wo_cInt wo_cStr wo_mkMap wo_mkIface wo_mkFunc wo_lookup pickV_bool ifT_true ifT_false b_loadV b_loadNV b_storeV nilV_ptr nilV_func nilV_iface notV_bool lenStrV_str lenSlV_nil lenSlV_slice b_ixStrV ixSlV_slice fAddrV_ptr b_part1V partNV_agg b_extractV convV_int strV_str evC_tm evC_cn T.get_set putA_some putA_none onO_some evCs_nil evCs_cons appL_nil appL_cons guardOk_true guardOk_false cellsV_bool cellsV_int cellsV_str cellsV_nilptr cellsV_ptr cellsV_nilslice cellsV_slice cellsV_nilmap cellsV_map cellsV_func cellsV_nilfunc cellsV_iface cellsV_niliface cellsV_agg bin_lss bin_gtr bin_leq bin_geq bin_eql bin_neq bin_add bin_sub bin_eqlS bin_neqS mkFrame_nil mkFrame_cons resA_one resA_two resA_three over_0 over_1 over_2 over_3 over_4 over_5 over0_nil over0_cons Option.getD_some if_true if_false AHeap.next_push AVal.bool.injEq decide_eq_true_eq decide_eq_false_iff_not Bool.not_eq_true' Bool.not_eq_false' Bool.not_eq_true decide_true decide_false Bool.not_true Bool.not_false Int.toNat_natCast Int.natCast_nonneg true_and and_true wo_mapPut wp_drawn' wsts_nil b_pure b_read b_new b_wr wor_none b_org rer_nil rer_load1 rer_loadN wo_append AHeap.next_skip AHeap.next_put' AHeap.mk_push_t AHeap.mk_eta AHeap.mk_skip ldA_skip ldN_skip Nat.add_zero Nat.zero_add b_lite_true b_lite_false eq_self_iff_true not_true_eq_false not_false_eq_true bx_k bx_q bx_x bx_1 undefA_bool putAt_push List.length_cons List.length_nil Nat.le_refl ldA_push_new ldN_push_new List.getElem?_cons_zero List.getElem?_cons_succ List.drop_zero List.drop_succ_cons List.take_succ_cons List.take_zero b_build b_buildSlice evParts_nil evParts_cons b_fillA_nil b_fillA nbeq nble natadd natmul lenL_eq repL_1 repL_2 repL_3 wo_sliceData sdV_nil sdV_slice wo_unsafeStr usV_nil wo_slStr slStrV_str evCo_none evCo_some boundA_none Bool.and_true Bool.true_and wo_minmax2' mm2V_int
def Par (h : AHeap) (p : Nat) (s : List Nat) (i : Nat) : Prop := p < h.next ∧ h.get p = some (.cells [.str s, .int .i64 (i : Int)] 79)
theorem Par.mono {h h' : AHeap} {p : Nat} {s : List Nat} {i : Nat} (H : Par h p s i) (hle : Hle h h') : Par h' p s i := ⟨by have := hle.next; have := H.1; omega, (hle.get p H.1).trans H.2⟩
def Only (p : Nat) (h h' : AHeap) : Prop := h.next ≤ h'.next ∧ ∀ c, c < h.next → c ≠ p → h'.get c = h.get c
theorem Only.refl (p : Nat) (h : AHeap) : Only p h h := ⟨Nat.le_refl _, fun _ _ _ => rfl⟩
theorem Only.trans {p : Nat} {h h' h'' : AHeap} (H : Only p h h') (G : Only p h' h'') : Only p h h'' := ⟨Nat.le_trans H.1 G.1, fun c hc hp => (G.2 c (Nat.lt_of_lt_of_le hc H.1) hp).trans (H.2 c hc hp)⟩
theorem Hle.only {p : Nat} {h h' : AHeap} (H : Hle h h') : Only p h h' := ⟨H.next, fun c hc _ => H.get c hc⟩
theorem Par.put {h : AHeap} {p : Nat} {s : List Nat} {i : Nat} (H : Par h p s i) (j : Nat) (z : Int) (hz : z = (j : Int)) : ∃ h', putAt h p 1 1 [.int .i64 z] = some h' ∧ Par h' p s j ∧ Only p h h' := by
  subst hz
  refine ⟨h.put p (.cells [.str s, .int .i64 (j : Int)] 79), putAt_cells (o := 1) (n := 1) (vs := [.int .i64 (j : Int)]) H.2 rfl (by simp), ⟨by simp [AHeap.next_put]; exact H.1, AHeap.get_put_same _ _ _⟩, ⟨by simp [AHeap.next_put], fun c _ hp => AHeap.get_put_ne _ _ (Ne.symm hp)⟩⟩
end
end Go.AX
namespace Go.AX
open Go Go.Proofs
noncomputable section
set_option linter.unusedSimpArgs false
set_option linter.unusedVariables false
attribute [local go_sem] b_seq wp_skip wp_exit wp_ret wp_region b_block wops_nil b_ops b_opsg b_cond condV_lite wo_mv b_bin wo_call callV_func wo_pick b_box wo_load1 wo_loadN wo_store wo_nilCheck wo_not wo_lenStr' wo_lenSl wo_ixStr' wo_ixSl wo_fAddr wo_part1 wo_partN wo_extract wo_cInt wo_cStr wo_mkMap wo_mkIface wo_mkFunc wo_lookup pickV_bool ifT_true ifT_false b_loadV b_loadNV b_storeV nilV_ptr nilV_func nilV_iface notV_bool lenStrV_str lenSlV_nil lenSlV_slice b_ixStrV ixSlV_slice fAddrV_ptr b_part1V partNV_agg b_extractV convV_int strV_str evC_tm evC_cn T.get_set putA_some putA_none onO_some evCs_nil evCs_cons appL_nil appL_cons guardOk_true guardOk_false cellsV_bool cellsV_int cellsV_str cellsV_nilptr cellsV_ptr cellsV_nilslice cellsV_slice cellsV_nilmap cellsV_map cellsV_func cellsV_nilfunc cellsV_iface cellsV_niliface cellsV_agg bin_lss bin_gtr bin_leq bin_geq bin_eql bin_neq bin_add bin_sub bin_eqlS bin_neqS mkFrame_nil mkFrame_cons resA_one resA_two resA_three over_0 over_1 over_2 over_3 over_4 over_5 over0_nil over0_cons Option.getD_some if_true if_false AHeap.next_push AVal.bool.injEq decide_eq_true_eq decide_eq_false_iff_not Bool.not_eq_true' Bool.not_eq_false' Bool.not_eq_true decide_true decide_false Bool.not_true Bool.not_false Int.toNat_natCast Int.natCast_nonneg true_and and_true wo_mapPut wp_drawn' wsts_nil b_pure b_read b_new b_wr wor_none b_org rer_nil rer_load1 rer_loadN wo_append AHeap.next_skip AHeap.next_put' AHeap.mk_push_t AHeap.mk_eta AHeap.mk_skip ldA_skip ldN_skip Nat.add_zero Nat.zero_add b_lite_true b_lite_false eq_self_iff_true not_true_eq_false not_false_eq_true bx_k bx_q bx_x bx_1 undefA_bool putAt_push List.length_cons List.length_nil Nat.le_refl ldA_push_new ldN_push_new List.getElem?_cons_zero List.getElem?_cons_succ List.drop_zero List.drop_succ_cons List.take_succ_cons List.take_zero b_build b_buildSlice evParts_nil evParts_cons b_fillA_nil b_fillA nbeq nble natadd natmul lenL_eq repL_1 repL_2 repL_3 wo_sliceData sdV_nil sdV_slice wo_unsafeStr usV_nil wo_slStr slStrV_str evCo_none evCo_some boundA_none Bool.and_true Bool.true_and wo_minmax2' mm2V_int
theorem resultA_agg {E : Env} {h : AHeap} {fr : Fr} {a : Nat} {t : TypeId} {n b o : Nat} {l : List AVal} (hg : isAggT E t = some true) (hs : E.size t = some n) (ha : evC (.t a) fr = .ptr b o) (hl : ldN h b o n = some l) : resultA E h fr (.cell a t) = some (.agg l) := by
  show (ob (isAggT E t) fun g => ob (E.size t) fun n => onPtr (evC (.t a) fr) fun b o => onRow (h.get b) fun c _ own => ifT g (ifT (and (Nat.ble (Nat.add o n) (lenL c)) (okL own (takeL n (dropL o c)))) (some (.agg (takeL n (dropL o c)))) none) (ob (getL c o) fun v => ifT (okV own v) (some v) none)) = _
  rw [hg, hs, ha]
  show (onRow (h.get b) fun c _ own => ifT (and (Nat.ble (Nat.add o n) (lenL c)) (okL own (takeL n (dropL o c)))) (some (AVal.agg (takeL n (dropL o c)))) none) = _
  unfold ldN at hl
  cases hb : h.get b with
  | none => rw [hb] at hl; cases hl
  | some x =>
    rw [hb] at hl
    cases x <;> first | (cases hl; done) | skip
    all_goals
      rename_i c e
      first
        | (have hl' : ifT (and (Nat.ble (Nat.add o n) (lenL c)) (okL true (takeL n (dropL o c)))) (some (takeL n (dropL o c))) none = some l := hl
           show ifT (and (Nat.ble (Nat.add o n) (lenL c)) (okL true (takeL n (dropL o c)))) (some (AVal.agg (takeL n (dropL o c)))) none = _
           rw [ifT_eq] at hl' ⊢
           split at hl'
           · cases hl'; rename_i hp; rw [if_pos hp]
           · cases hl')
        | (have hl' : ifT (and (Nat.ble (Nat.add o n) (lenL c)) (okL false (takeL n (dropL o c)))) (some (takeL n (dropL o c))) none = some l := hl
           show ifT (and (Nat.ble (Nat.add o n) (lenL c)) (okL false (takeL n (dropL o c)))) (some (AVal.agg (takeL n (dropL o c)))) none = _
           rw [ifT_eq] at hl' ⊢
           split at hl'
           · cases hl'; rename_i hp; rw [if_pos hp]
           · cases hl')
theorem resA_c1 {E : Env} {h : AHeap} {fr : Fr} {r : ResultVar} {v : AVal} {k : AVal → Prop} (hr : resultA E h fr r = some v) (hk : k v) : onO (resultsA E h fr [r]) k := by
  show onO (ob (ob (resultA E h fr r) fun v => some [v]) fun vs => match vs with
    | [v] => some v
    | vs => some (.tup vs)) k
  rw [hr]; exact hk
end
end Go.AX
namespace Go.AX
open Go Go.Proofs
noncomputable section
set_option linter.unusedSimpArgs false
set_option linter.unusedVariables false
attribute [local go_sem] b_seq wp_skip wp_exit wp_ret wp_region b_block wops_nil b_ops b_opsg b_cond condV_lite wo_mv b_bin wo_call callV_func wo_pick b_box wo_load1 wo_loadN wo_store wo_nilCheck wo_not wo_lenStr' wo_lenSl wo_ixStr' wo_ixSl wo_fAddr wo_part1 wo_partN wo_extract wo_cInt wo_cStr wo_mkMap wo_mkIface wo_mkFunc wo_lookup pickV_bool ifT_true ifT_false b_loadV b_loadNV b_storeV nilV_ptr nilV_func nilV_iface notV_bool lenStrV_str lenSlV_nil lenSlV_slice b_ixStrV ixSlV_slice fAddrV_ptr b_part1V partNV_agg b_extractV convV_int strV_str evC_tm evC_cn T.get_set putA_some putA_none onO_some evCs_nil evCs_cons appL_nil appL_cons guardOk_true guardOk_false cellsV_bool cellsV_int cellsV_str cellsV_nilptr cellsV_ptr cellsV_nilslice cellsV_slice cellsV_nilmap cellsV_map cellsV_func cellsV_nilfunc cellsV_iface cellsV_niliface cellsV_agg bin_lss bin_gtr bin_leq bin_geq bin_eql bin_neq bin_add bin_sub bin_eqlS bin_neqS mkFrame_nil mkFrame_cons resA_one resA_two resA_three over_0 over_1 over_2 over_3 over_4 over_5 over0_nil over0_cons Option.getD_some if_true if_false AHeap.next_push AVal.bool.injEq decide_eq_true_eq decide_eq_false_iff_not Bool.not_eq_true' Bool.not_eq_false' Bool.not_eq_true decide_true decide_false Bool.not_true Bool.not_false Int.toNat_natCast Int.natCast_nonneg true_and and_true wo_mapPut wp_drawn' wsts_nil b_pure b_read b_new b_wr wor_none b_org rer_nil rer_load1 rer_loadN wo_append AHeap.next_skip AHeap.next_put' AHeap.mk_push_t AHeap.mk_eta AHeap.mk_skip ldA_skip ldN_skip Nat.add_zero Nat.zero_add b_lite_true b_lite_false eq_self_iff_true not_true_eq_false not_false_eq_true bx_k bx_q bx_x bx_1 undefA_bool putAt_push List.length_cons List.length_nil Nat.le_refl ldA_push_new ldN_push_new List.getElem?_cons_zero List.getElem?_cons_succ List.drop_zero List.drop_succ_cons List.take_succ_cons List.take_zero b_build b_buildSlice evParts_nil evParts_cons b_fillA_nil b_fillA nbeq nble natadd natmul lenL_eq repL_1 repL_2 repL_3 wo_sliceData sdV_nil sdV_slice wo_unsafeStr usV_nil wo_slStr slStrV_str evCo_none evCo_some boundA_none Bool.and_true Bool.true_and wo_minmax2' mm2V_int
attribute [local go_sem] wo_mkSlice AHeap.mk_put_t AHeap.mk_skip_t AHeap.mk_put_st AHeap.mk_put_st2 AHeap.mk_put_st3 putAt_put
def outA (A : AutoS) (i : Nat) : List ArcS := A.arcs.filter fun x => decide (x.fr = (i : Int))
def endOf (l : List EndS) (i : Nat) : Int := match l.find? fun x => decide (x.st = (i : Int)) with
  | some x => x.c
  | none => -1
def GraphA (h : AHeap) (v : AVal) (A : AutoS) : Prop := ∃ (vo vf : AVal) (rows : List AVal), v = .agg [vo, vf] ∧ SlA h 1 vo (rows.map fun x => [x]) ∧ rows.length = A.n.toNat ∧ (∀ (i : Nat) (x : AVal), rows[i]? = some x → ArcsA h x (outA A i)) ∧
  SlA h 1 vf ((List.range A.n.toNat).map fun i => [.int .i64 (endOf A.ends i)])
set_option maxHeartbeats 1000000 in
theorem open_l0 {Qn Qr : Fr → AHeap → Prop} {Qx : Nat → Fr → AHeap → Prop} (n b2 b3 : Nat) (vo va p1 p2 : AVal) (fr : Fr) (h : AHeap) (hb : b2 ≠ b3) (hn : n ≤ 400) (g3 : h.get b3 = some (.cells [vo, .slice b2 0 n n true] 93)) (g2 : h.get b2 = some (.cells (List.replicate n (.int .i64 0)) 3))
    (t1 : fr.get 1 = some p1) (t2 : fr.get 2 = some p2) (t3 : fr.get 3 = some (.ptr b3 0)) (t18 : fr.get 18 = some (.int .i64 (n : Int))) (t19 : fr.get 19 = some (.int .i64 0))
    (hq : ∀ fr h', fr.get 1 = some p1 → fr.get 2 = some p2 → fr.get 3 = some (.ptr b3 0) → h'.next = h.next → (∀ c, c ≠ b2 → h'.get c = h.get c) → h'.get b2 = some (.cells (List.replicate n (.int .i64 (-1))) 3) → Qx 0 fr h') : wp E2 (.loop copen_l0) fr h Qn Qx Qr := by
  refine b_loop (fun d fr h' => h'.next = h.next ∧ (∀ c, c ≠ b2 → h'.get c = h.get c) ∧ fr.get 1 = some p1 ∧ fr.get 2 = some p2 ∧ fr.get 3 = some (.ptr b3 0) ∧ fr.get 18 = some (.int .i64 (n : Int)) ∧ ∃ i : Nat, fr.get 19 = some (.int .i64 (i : Int)) ∧ d + i = n ∧ h'.get b2 = some (.cells (List.replicate i (.int .i64 (-1)) ++ List.replicate (n - i) (.int .i64 0)) 3)) n ?_ ?_
  · exact ⟨rfl, fun _ _ => rfl, t1, t2, t3, t18, 0, t19, by omega, by simpa using g2⟩
  clear t1 t2 t3 t18 t19
  rintro d fr h' ⟨hnx, hg, t1, t2, t3, t18, i, t19, hd, gb⟩
  have hl : ldA h' b3 1 = some (.slice b2 0 n n true) := by rw [ldA_cells ((hg b3 (Ne.symm hb)).trans g3)]; rfl
  unfold copen_l0
  by_cases hc : (i : Int) < (n : Int)
  · have hw : IntKind.i64.wrap ((i : Int) + 1) = ((i + 1 : Nat) : Int) := by rw [wrap_i64 (by omega) (by omega)]; push_cast; rfl
    have hput := putAt_cells (o := i) (n := 1) (vs := [.int .i64 (-1)]) gb rfl (by simp; omega)
    rw [over_one] at hput
    simp only [go_sem, Nat.reduceEqDiff, Int.reduceLT, Int.reduceLE, Int.reduceEq, Nat.reduceLT, Nat.reduceAdd, Nat.reduceMul, Int.reduceToNat, Nat.reduceLeDiff, reduceCtorEq, t1, t2, t3, t18, t19, hc, hl, ixSlV_at (n := n) (j := i) rfl (by omega), hput, hw, Nat.mul_one]
    refine ⟨d - 1, by omega, rfl.trans hnx, fun c hcb => by rw [AHeap.get_put_ne _ _ (Ne.symm hcb)]; exact hg c hcb, i + 1, rfl, by omega, ?_⟩
    rw [AHeap.get_put_same]
    congr 2
    rw [List.set_append_right _ _ (by simp), List.length_replicate, Nat.sub_self, List.replicate_succ']
    obtain ⟨m, hm⟩ : ∃ m, n - i = m + 1 := ⟨n - i - 1, by omega⟩
    rw [hm, List.replicate_succ, show n - (i + 1) = m by omega]
    simp
  · obtain rfl : i = n := by omega
    simp only [go_sem, Nat.reduceEqDiff, Int.reduceLT, Int.reduceLE, Int.reduceEq, Nat.reduceLT, Nat.reduceAdd, Nat.reduceMul, Int.reduceToNat, Nat.reduceLeDiff, reduceCtorEq, t1, t2, t3, t18, t19, hc]
    exact hq _ _ (by simp [T.get_set, t1]) (by simp [T.get_set, t2]) (by simp [T.get_set, t3]) hnx hg (by simpa using gb)
def rowsUpto (A : AutoS) (n k : Nat) : List (List ArcS) := (List.range n).map fun (i : Nat) => (A.arcs.take k).filter fun x => decide (x.fr = (i : Int))
set_option maxHeartbeats 1000000 in
theorem open_l1 {Qn Qr : Fr → AHeap → Prop} {Qx : Nat → Fr → AHeap → Prop} (A : AutoS) (n b1 b3 : Nat) (vf va p1 p2 : AVal) (fr : Fr) (h : AHeap) (hb : b1 ≠ b3) (hb1 : b1 < h.next) (hb3 : b3 < h.next) (hn : n ≤ 400) (hAn : A.n = (n : Int)) (hP : ArcsP A.n A.arcs) (hl4 : A.arcs.length ≤ 4000) {h0 : AHeap} (hle0 : Hle h0 h) (hv : ArcsA h0 va A.arcs) (hb0 : h0.next ≤ b1)
    (g3 : h.get b3 = some (.cells [.slice b1 0 n n true, vf] 93)) (g1 : h.get b1 = some (.cells (List.replicate n .nilslice) 33))
    (t1 : fr.get 1 = some p1) (t2 : fr.get 2 = some p2) (t3 : fr.get 3 = some (.ptr b3 0)) (t28 : fr.get 28 = some va) (t29 : fr.get 29 = some (.int .i64 (A.arcs.length : Int))) (t30 : fr.get 30 = some (.int .i64 0))
    (hq : ∀ fr h' vs, fr.get 1 = some p1 → fr.get 2 = some p2 → fr.get 3 = some (.ptr b3 0) → h.next ≤ h'.next → (∀ c, c < h.next → c ≠ b1 → h'.get c = h.get c) → h'.get b1 = some (.cells vs 33) → RowsL 4 84 arcC h.next h' vs (rowsUpto A n A.arcs.length) → Qx 2 fr h') : wp E2 (.loop copen_l1) fr h Qn Qx Qr := by
  refine b_loop (fun d fr h' => h.next ≤ h'.next ∧ (∀ c, c < h.next → c ≠ b1 → h'.get c = h.get c) ∧ fr.get 1 = some p1 ∧ fr.get 2 = some p2 ∧ fr.get 3 = some (.ptr b3 0) ∧ fr.get 28 = some va ∧ fr.get 29 = some (.int .i64 (A.arcs.length : Int)) ∧ ∃ (k : Nat) (vs : List AVal), fr.get 30 = some (.int .i64 (k : Int)) ∧ d + k = A.arcs.length ∧ h'.get b1 = some (.cells vs 33) ∧ RowsL 4 84 arcC h.next h' vs (rowsUpto A n k)) A.arcs.length ?_ ?_
  · refine ⟨Nat.le_refl _, fun _ _ _ => rfl, t1, t2, t3, t28, t29, 0, _, t30, by omega, g1, ?_⟩
    have : rowsUpto A n 0 = List.replicate n [] := by unfold rowsUpto; simp [List.map_const']
    rw [this]; exact RowsL.replicate n
  clear t1 t2 t3 t28 t29 t30
  rintro d fr h' ⟨hnx, hg, t1, t2, t3, t28, t29, k, vs, t30, hd, gb, hR⟩
  have hle' : Hle h0 h' := ⟨by have := hle0.next; omega, fun c hc => (hg c (by have := hle0.next; omega) (by omega)).trans (hle0.get c hc)⟩
  have hv' : ArcsA h' va A.arcs := hv.mono hle'
  have hl3 : ldA h' b3 0 = some (.slice b1 0 n n true) := by rw [ldA_cells ((hg b3 hb3 (Ne.symm hb)).trans g3)]; rfl
  unfold copen_l1
  by_cases hc : (k : Int) < (A.arcs.length : Int)
  · obtain ⟨x, hx⟩ : ∃ x, A.arcs[k]? = some x := ⟨_, List.getElem?_eq_getElem (by omega)⟩
    obtain ⟨b, o, hrow, hix⟩ := hv'.ix hx
    have hix := hix .i64 (k : Int) h'
    have hld : ldN h' b o 4 = some (arcC x) := by
      have := hrow.ldN (i := 0) (n := 4) (by simp [arcC])
      simpa [arcC] using this
    obtain ⟨o1, o2, o3, o4, o5, o6⟩ := (hP k x hx).1
    obtain ⟨j, hj⟩ : ∃ j : Nat, x.fr = (j : Int) := ⟨x.fr.toNat, by omega⟩
    have hjn : j < n := by omega
    have hvl : vs.length = n := by rw [hR.len]; simp [rowsUpto]
    obtain ⟨v, hvj⟩ : ∃ v, vs[j]? = some v := ⟨_, List.getElem?_eq_getElem (by omega)⟩
    have q0 : ldA (h'.push (.cells (arcC x) 84)) h'.next 0 = some (.int .i64 (j : Int)) := by rw [ldA_push_new, ← hj]; rfl
    have qn : ldN (h'.push (.cells (arcC x) 84)) h'.next 0 4 = some (arcC x) := by rw [ldN_push_new _ _ _ (by simp [arcC])]; rfl
    have r3 : ldA (h'.push (.cells (arcC x) 84)) b3 0 = some (.slice b1 0 n n true) := by rw [ldA_push_old (by omega)]; exact hl3
    have rv : ldA (h'.push (.cells (arcC x) 84)) b1 j = some v := by rw [ldA_push_old (by omega), ldA_cells gb]; exact hvj
    have hov : over [AVal.int .i64 0, .int .i64 0, .int .u8 0, .int .i64 0] 0 (arcC x) = arcC x := rfl
    have hln : (arcC x).length = 4 := rfl
    have hw : IntKind.i64.wrap ((k : Int) + 1) = ((k + 1 : Nat) : Int) := by rw [wrap_i64 (by omega) (by omega)]; push_cast; rfl
    simp only [go_sem, Nat.reduceEqDiff, Int.reduceLT, Int.reduceLE, Int.reduceEq, Nat.reduceLT, Nat.reduceAdd, Nat.reduceMul, Int.reduceToNat, Nat.reduceLeDiff, reduceCtorEq, t1, t2, t3, t28, t29, t30, hc, hix _ rfl, hld, hov, hln, q0, qn, r3, rv, ixSlV_at (n := n) (j := j) rfl hjn, Nat.mul_one]
    have hlow := fun c hc => hR.low j v c hvj hc
    have hov0 : over0 (arcC x) [AVal.int .i64 0, .int .i64 0, .int .u8 0, .int .i64 0] = arcC x := rfl
    rw [hov0]
    have hgl : ∀ c, c < h'.next + 1 → (AHeap.put ⟨h'.next + 1 + 15, ((h'.push (.cells (arcC x) 84)).skip 15).t⟩ (h'.next + 1 + 11) (.cells (arcC x) 84)).get c = (h'.push (.cells (arcC x) 84)).get c := fun c hcl => AHeap.get_put_ne _ _ (by omega)
    have hz : (AHeap.put ⟨h'.next + 1 + 15, ((h'.push (.cells (arcC x) 84)).skip 15).t⟩ (h'.next + 1 + 11) (.cells (arcC x) 84)).get (h'.next + 1 + 11) = some (.cells (arcC x) 84) := AHeap.get_put_same _ _ _
    have hzn : (AHeap.put ⟨h'.next + 1 + 15, ((h'.push (.cells (arcC x) 84)).skip 15).t⟩ (h'.next + 1 + 11) (.cells (arcC x) 84)).next = h'.next + 16 := rfl
    generalize AHeap.put ⟨h'.next + 1 + 15, ((h'.push (.cells (arcC x) 84)).skip 15).t⟩ (h'.next + 1 + 11) (.cells (arcC x) 84) = h2 at hgl hz hzn ⊢
    have hgo : ∀ c, c < h'.next → h2.get c = h'.get c := fun c hcl => (hgl c (by omega)).trans (AHeap.get_push_ne _ _ (by omega))
    have hR2 := hR.frame (h' := h2) (by omega) fun c _ hcl _ => hgo c hcl
    have hrow : ∃ l, (rowsUpto A n k)[j]? = some l ∧ l = (A.arcs.take k).filter fun x => decide (x.fr = (j : Int)) := ⟨_, by unfold rowsUpto; rw [List.getElem?_map, List.getElem?_range hjn]; rfl, rfl⟩
    obtain ⟨l, hlj, hleq⟩ := hrow
    have hll : l.length ≤ A.arcs.length := by rw [hleq]; exact Nat.le_trans (List.length_filter_le _ _) (by simp; omega)
    have hel : (encL arcC l).length = l.length * 4 := by
      have := flatten_len (xs := l.map arcC) (size := 4) (fun y hy => by obtain ⟨a, _, rfl⟩ := List.mem_map.1 hy; rfl)
      simpa [encL] using this
    have hone : SlA h2 4 (.slice (h'.next + 1 + 11) 0 1 1 true) [arcC x] := ⟨by simp [arcC], .inr ⟨_, _, _, _, rfl, .inr (by simpa using RowA.of_cells (e := 84) (by omega) hz (by simp [arcC, AVal.flat]))⟩⟩
    refine hR2.app (by omega) hvj hlj (a := x) (by have := srcCells_SlA hone (List.cons_ne_nil _ _); rw [List.flatten_cons, List.flatten_nil, List.append_nil] at this; exact this) rfl (by omega) (by omega) ?_
    intro v' h3 hR3 hfl hn3 hg3
    have s1 : ldA h3 h'.next 0 = some (.int .i64 (j : Int)) := by rw [ldA_get (hg3 _ (by omega) fun hb => by have := (hlow _ hb).2; omega), ldA_get (hgl _ (by omega))]; exact q0
    have s2 : ldA h3 b3 0 = some (.slice b1 0 n n true) := by rw [ldA_get (hg3 _ (by omega) fun hb => by have := (hlow _ hb).1; omega), ldA_get (hgl _ (by omega))]; exact r3
    have gb3 : h3.get b1 = some (.cells vs 33) := (hg3 _ (by omega) fun hb => by have := (hlow _ hb).1; omega).trans ((hgo b1 (by omega)).trans gb)
    have hput := putAt_cells (o := j) (n := 1) (vs := [v']) gb3 rfl (by show j + 1 ≤ vs.length; omega)
    rw [over_one] at hput
    simp only [go_sem, Nat.reduceEqDiff, Int.reduceLT, Int.reduceLE, Int.reduceEq, Nat.reduceLT, Nat.reduceAdd, Nat.reduceMul, Int.reduceToNat, Nat.reduceLeDiff, reduceCtorEq, t1, t2, t3, t28, t29, t30, s1, s2, sameA_int, sameA_slice, ixSlV_at (n := n) (j := j) rfl hjn, Nat.mul_one, cellsV_flat hfl, hput, hw]
    refine ⟨d - 1, by omega, by show h.next ≤ h3.next; omega, fun c hcl hcb => ?_, k + 1, vs.set j v', rfl, by omega, AHeap.get_put_same _ _ _, ?_⟩
    · rw [AHeap.get_put_ne _ _ (Ne.symm hcb), hg3 c (by omega) fun hb => by have := (hlow _ hb).1; omega]
      exact (hgo c (by omega)).trans (hg c hcl hcb)
    · have e : rowsUpto A n (k + 1) = (rowsUpto A n k).set j (l ++ [x]) := by
        apply List.ext_getElem?
        intro i
        rw [List.getElem?_set]
        unfold rowsUpto
        rw [List.getElem?_map, List.getElem?_map, List.length_map, List.length_range]
        by_cases hin : i < n
        · rw [List.getElem?_range hin]
          have ht : A.arcs.take (k + 1) = A.arcs.take k ++ [x] := by rw [List.take_add_one, hx]; rfl
          simp only [Option.map_some, ht, List.filter_append]
          by_cases hij : j = i
          · subst hij
            rw [if_pos rfl, if_pos hjn, hleq]
            simp [hj]
          · rw [if_neg hij]
            have : ¬ x.fr = (i : Int) := by omega
            simp [this]
        · rw [List.getElem?_eq_none (by simp; omega)]
          by_cases hij : j = i
          · omega
          · rw [if_neg hij]; rfl
      rw [e]
      exact hR3.frame (by simp [AHeap.next_put]) fun c hcl _ _ => AHeap.get_put_ne _ _ (by omega)
  · obtain rfl : k = A.arcs.length := by omega
    simp only [go_sem, Nat.reduceEqDiff, Int.reduceLT, Int.reduceLE, Int.reduceEq, Nat.reduceLT, Nat.reduceAdd, Nat.reduceMul, Int.reduceToNat, Nat.reduceLeDiff, reduceCtorEq, t1, t2, t3, t28, t29, t30, hc]
    exact hq _ _ vs (by simp [T.get_set, t1]) (by simp [T.get_set, t2]) (by simp [T.get_set, t3]) hnx hg gb hR
def finsUpto (A : AutoS) (n k : Nat) : List AVal := (List.range n).map fun (i : Nat) => .int .i64 (endOf (A.ends.take k) i)
theorem endOf_snoc {l : List EndS} {x : EndS} {j : Nat} (hx : x.st = (j : Int)) (hl : ∀ y, y ∈ l → y.st < x.st) (i : Nat) : endOf (l ++ [x]) i = if j = i then x.c else endOf l i := by
  unfold endOf
  by_cases e : j = i
  · subst e
    rw [if_pos rfl, List.find?_append]
    have : l.find? (fun y => decide (y.st = (j : Int))) = none := by
      rw [List.find?_eq_none]
      intro y hy
      have := hl y hy
      simp; omega
    rw [this]
    simp [hx]
  · rw [if_neg e, List.find?_append]
    have : [x].find? (fun y => decide (y.st = (i : Int))) = none := by
      rw [List.find?_eq_none]
      intro y hy
      simp at hy
      subst hy
      simp; omega
    rw [this]
    cases l.find? (fun y => decide (y.st = (i : Int))) <;> rfl
theorem EndsP.lt {n : Int} {l : List EndS} (H : EndsP n l) : ∀ (k j : Nat) (x y : EndS), l[k]? = some x → l[j]? = some y → j < k → y.st < x.st := by
  intro k
  induction k with
  | zero => intro j x y _ _ h; omega
  | succ k ih =>
    intro j x y hx hy hj
    have hk := (List.getElem?_eq_some_iff.1 hx).1
    obtain ⟨z, hz⟩ : ∃ z, l[k]? = some z := ⟨_, List.getElem?_eq_getElem (by omega)⟩
    have h1 := (H (k + 1) x hx).2 z (by omega) hz
    by_cases e : j = k
    · subst e; rw [hz] at hy; cases hy; exact h1
    · have := ih j z y hz hy (by omega)
      omega
set_option maxHeartbeats 1000000 in
theorem open_l2 {Qn Qr : Fr → AHeap → Prop} {Qx : Nat → Fr → AHeap → Prop} (A : AutoS) (n b2 b3 : Nat) (vo ve p1 p2 : AVal) (fr : Fr) (h : AHeap) (hb : b2 ≠ b3) (hb2 : b2 < h.next) (hb3 : b3 < h.next) (hn : n ≤ 400) (hAn : A.n = (n : Int)) (hP : EndsP A.n A.ends) (hl4 : A.ends.length ≤ 400) {h0 : AHeap} (hle0 : Hle h0 h) (hv : EndsA h0 ve A.ends) (hb0 : h0.next ≤ b2)
    (g3 : h.get b3 = some (.cells [vo, .slice b2 0 n n true] 93)) (g2 : h.get b2 = some (.cells (List.replicate n (.int .i64 (-1))) 3))
    (t1 : fr.get 1 = some p1) (t2 : fr.get 2 = some p2) (t3 : fr.get 3 = some (.ptr b3 0)) (t50 : fr.get 50 = some ve) (t51 : fr.get 51 = some (.int .i64 (A.ends.length : Int))) (t52 : fr.get 52 = some (.int .i64 0))
    (hq : ∀ fr h', fr.get 2 = some p2 → fr.get 3 = some (.ptr b3 0) → h.next ≤ h'.next → (∀ c, c < h.next → c ≠ b2 → h'.get c = h.get c) → h'.get b2 = some (.cells (finsUpto A n A.ends.length) 3) → Qx 4 fr h') : wp E2 (.loop copen_l2) fr h Qn Qx Qr := by
  refine b_loop (fun d fr h' => h.next ≤ h'.next ∧ (∀ c, c < h.next → c ≠ b2 → h'.get c = h.get c) ∧ fr.get 1 = some p1 ∧ fr.get 2 = some p2 ∧ fr.get 3 = some (.ptr b3 0) ∧ fr.get 50 = some ve ∧ fr.get 51 = some (.int .i64 (A.ends.length : Int)) ∧ ∃ (k : Nat), fr.get 52 = some (.int .i64 (k : Int)) ∧ d + k = A.ends.length ∧ h'.get b2 = some (.cells (finsUpto A n k) 3)) A.ends.length ?_ ?_
  · refine ⟨Nat.le_refl _, fun _ _ _ => rfl, t1, t2, t3, t50, t51, 0, t52, by omega, ?_⟩
    have : finsUpto A n 0 = List.replicate n (.int .i64 (-1)) := by unfold finsUpto endOf; simp [List.map_const']
    rw [this]; exact g2
  clear t1 t2 t3 t50 t51 t52
  rintro d fr h' ⟨hnx, hg, t1, t2, t3, t50, t51, k, t52, hd, gb⟩
  have hle' : Hle h0 h' := ⟨by have := hle0.next; omega, fun c hc => (hg c (by have := hle0.next; omega) (by omega)).trans (hle0.get c hc)⟩
  have hv' : EndsA h' ve A.ends := hv.mono hle'
  have hl3 : ldA h' b3 1 = some (.slice b2 0 n n true) := by rw [ldA_cells ((hg b3 hb3 (Ne.symm hb)).trans g3)]; rfl
  unfold copen_l2
  by_cases hc : (k : Int) < (A.ends.length : Int)
  · obtain ⟨x, hx⟩ : ∃ x, A.ends[k]? = some x := ⟨_, List.getElem?_eq_getElem (by omega)⟩
    obtain ⟨b, o, hrow, hix⟩ := hv'.ix hx
    have hix := hix .i64 (k : Int) h'
    have hld : ldN h' b o 2 = some (endC x) := by
      have := hrow.ldN (i := 0) (n := 2) (by simp [endC])
      simpa [endC] using this
    obtain ⟨o1, o2, o3, o4⟩ := (hP k x hx).1
    obtain ⟨j, hj⟩ : ∃ j : Nat, x.st = (j : Int) := ⟨x.st.toNat, by omega⟩
    have hjn : j < n := by omega
    have q0 : ldA (h'.push (.cells (endC x) 87)) h'.next 0 = some (.int .i64 (j : Int)) := by rw [ldA_push_new, ← hj]; rfl
    have q1 : ldA (h'.push (.cells (endC x) 87)) h'.next 1 = some (.int .i64 x.c) := by rw [ldA_push_new]; rfl
    have r3 : ldA (h'.push (.cells (endC x) 87)) b3 1 = some (.slice b2 0 n n true) := by rw [ldA_push_old (by omega)]; exact hl3
    have hov : over [AVal.int .i64 0, .int .i64 0] 0 (endC x) = endC x := rfl
    have hln : (endC x).length = 2 := rfl
    have gb3 : (h'.push (.cells (endC x) 87)).get b2 = some (.cells (finsUpto A n k) 3) := by rw [AHeap.get_push_ne _ _ (by omega)]; exact gb
    have hput := putAt_cells (o := j) (n := 1) (vs := [.int .i64 x.c]) gb3 rfl (by show j + 1 ≤ (finsUpto A n k).length; unfold finsUpto; rw [List.length_map, List.length_range]; omega)
    rw [over_one] at hput
    have hw : IntKind.i64.wrap ((k : Int) + 1) = ((k + 1 : Nat) : Int) := by rw [wrap_i64 (by omega) (by omega)]; push_cast; rfl
    simp only [go_sem, Nat.reduceEqDiff, Int.reduceLT, Int.reduceLE, Int.reduceEq, Nat.reduceLT, Nat.reduceAdd, Nat.reduceMul, Int.reduceToNat, Nat.reduceLeDiff, reduceCtorEq, t1, t2, t3, t50, t51, t52, hc, hix _ rfl, hld, hov, hln, q0, q1, r3, ixSlV_at (n := n) (j := j) rfl hjn, Nat.mul_one, hput, hw]
    refine ⟨d - 1, by omega, by show h.next ≤ h'.next + 1; omega, fun c hcl hcb => ?_, k + 1, rfl, by omega, ?_⟩
    · rw [AHeap.get_put_ne _ _ (Ne.symm hcb), AHeap.get_push_ne _ _ (by omega)]
      exact hg c hcl hcb
    · rw [AHeap.get_put_same]
      congr 2
      have ht : A.ends.take (k + 1) = A.ends.take k ++ [x] := by rw [List.take_add_one, hx]; rfl
      have hlt : ∀ y, y ∈ A.ends.take k → y.st < x.st := by
        intro y hy
        obtain ⟨i, hi⟩ := List.mem_iff_getElem?.1 hy
        rw [List.getElem?_take] at hi
        split at hi
        · exact hP.lt k i x y hx hi (by omega)
        · cases hi
      apply List.ext_getElem?
      intro i
      rw [List.getElem?_set]
      unfold finsUpto
      rw [List.getElem?_map, List.getElem?_map, List.length_map, List.length_range, ht]
      by_cases hin : i < n
      · rw [List.getElem?_range hin]
        simp only [Option.map_some]
        rw [endOf_snoc hj hlt i]
        by_cases hij : j = i
        · rw [if_pos hij, if_pos (by omega), if_pos hij]
        · rw [if_neg hij, if_neg hij]
      · rw [List.getElem?_eq_none (by simp; omega)]
        by_cases hij : j = i
        · omega
        · rw [if_neg hij]; rfl
  · obtain rfl : k = A.ends.length := by omega
    simp only [go_sem, Nat.reduceEqDiff, Int.reduceLT, Int.reduceLE, Int.reduceEq, Nat.reduceLT, Nat.reduceAdd, Nat.reduceMul, Int.reduceToNat, Nat.reduceLeDiff, reduceCtorEq, t1, t2, t3, t50, t51, t52, hc]
    exact hq _ _ (by simp [T.get_set, t2]) (by simp [T.get_set, t3]) hnx hg gb
theorem agg_graph : isAggT E2 93 = some true := by kernel_rfl
theorem size_graph : E2.size 93 = some 2 := by kernel_rfl
set_option maxHeartbeats 1000000 in
theorem open_c (A : AutoS) (v : AVal) (h : AHeap) (H : AutoA h v A) (hA : checkZ A = 0) : Ec E2 48 [v] h fun r h' => GraphA h' r A ∧ Hle h h' := by
  obtain ⟨va, ve, rfl, ha, he, hla, hlee⟩ := H
  refine Ec.of_wpb (prim2_none (by decide)) codeopen ?_
  unfold copen
  have hz : ¬ (400 < A.n ∨ 4000 < A.arcs.length ∨ 400 < A.ends.length) := fun hz => by unfold checkZ at hA; rw [if_pos hz] at hA; cases hA
  have hn1 : ¬ A.n < 1 := fun hc => by unfold checkZ at hA; rw [if_neg hz, if_pos hc] at hA; cases hA
  have hP : ArcsP A.n A.arcs ∧ EndsP A.n A.ends := by
    by_cases e : ArcsP A.n A.arcs ∧ EndsP A.n A.ends
    · exact e
    · unfold checkZ at hA; rw [if_neg hz, if_neg hn1, if_neg e] at hA; cases hA
  obtain ⟨n, hn⟩ : ∃ n : Nat, A.n = (n : Int) := ⟨A.n.toNat, by omega⟩
  simp only [go_sem, Nat.reduceEqDiff, Int.reduceLT, Int.reduceLE, Int.reduceEq, Nat.reduceLT, Nat.reduceAdd, Nat.reduceMul, Int.reduceToNat, Nat.reduceLeDiff, reduceCtorEq]
  have q0 : ldA ((h.push (.cells [.int .i64 A.n, va, ve] 36)).push (.cells [.nilslice, .nilslice] 93)) h.next 0 = some (.int .i64 A.n) := by rw [ldA_p2a]; rfl
  have g1 : ((h.push (.cells [.int .i64 A.n, va, ve] 36)).push (.cells [.nilslice, .nilslice] 93)).get h.next = some (.cells [.int .i64 A.n, va, ve] 36) := by rw [AHeap.get_push_ne _ _ (by simp [AHeap.next_push]), AHeap.get_push_same]
  have g2 : ((h.push (.cells [.int .i64 A.n, va, ve] 36)).push (.cells [.nilslice, .nilslice] 93)).get (h.next + 1) = some (.cells [.nilslice, .nilslice] 93) := AHeap.get_push_same _ _
  have hle1 : Hle h ((h.push (.cells [.int .i64 A.n, va, ve] 36)).push (.cells [.nilslice, .nilslice] 93)) := ((Hle.refl h).push _).push _
  have hnx : ((h.push (.cells [.int .i64 A.n, va, ve] 36)).push (.cells [.nilslice, .nilslice] 93)).next = h.next + 2 := rfl
  generalize (h.push (.cells [.int .i64 A.n, va, ve] 36)).push (.cells [.nilslice, .nilslice] 93) = h1 at q0 g1 g2 hle1 hnx ⊢
  simp only [go_sem, Nat.reduceEqDiff, Int.reduceLT, Int.reduceLE, Int.reduceEq, Nat.reduceLT, Nat.reduceAdd, Nat.reduceMul, Int.reduceToNat, Nat.reduceLeDiff, reduceCtorEq, q0, mkV_ok hn (show n * 24 ≤ 1073741824 by omega) (by omega), mkV_ok hn (show n * 8 ≤ 1073741824 by omega) (by omega), flat_rep1]
  generalize e1 : h.next + 1 + 1 + 2 = b1
  generalize e2 : h.next + 1 + 1 + 5 = b2
  generalize e3 : h.next + 1 + 1 + 7 = b3
  have G1 : ((((h1.skip 9).put b1 (.cells (List.replicate n .nilslice) 33)).put b2 (.cells (List.replicate n (.int .i64 0)) 3)).put b3 (.cells [.slice b1 0 n n true, .slice b2 0 n n true] 93)).get b1 = some (.cells (List.replicate n .nilslice) 33) := by
    rw [AHeap.get_put_ne _ _ (by omega), AHeap.get_put_ne _ _ (by omega), AHeap.get_put_same]
  have G2 : ((((h1.skip 9).put b1 (.cells (List.replicate n .nilslice) 33)).put b2 (.cells (List.replicate n (.int .i64 0)) 3)).put b3 (.cells [.slice b1 0 n n true, .slice b2 0 n n true] 93)).get b2 = some (.cells (List.replicate n (.int .i64 0)) 3) := by
    rw [AHeap.get_put_ne _ _ (by omega), AHeap.get_put_same]
  have G3 : ((((h1.skip 9).put b1 (.cells (List.replicate n .nilslice) 33)).put b2 (.cells (List.replicate n (.int .i64 0)) 3)).put b3 (.cells [.slice b1 0 n n true, .slice b2 0 n n true] 93)).get b3 = some (.cells [.slice b1 0 n n true, .slice b2 0 n n true] 93) := AHeap.get_put_same _ _ _
  have Gl : ∀ c, c < h.next + 2 → ((((h1.skip 9).put b1 (.cells (List.replicate n .nilslice) 33)).put b2 (.cells (List.replicate n (.int .i64 0)) 3)).put b3 (.cells [.slice b1 0 n n true, .slice b2 0 n n true] 93)).get c = h1.get c := fun c hc => by
    rw [AHeap.get_put_ne _ _ (by omega), AHeap.get_put_ne _ _ (by omega), AHeap.get_put_ne _ _ (by omega)]; rfl
  have Gn : ((((h1.skip 9).put b1 (.cells (List.replicate n .nilslice) 33)).put b2 (.cells (List.replicate n (.int .i64 0)) 3)).put b3 (.cells [.slice b1 0 n n true, .slice b2 0 n n true] 93)).next = h.next + 11 := by show h1.next + 9 = _; omega
  generalize (((h1.skip 9).put b1 (.cells (List.replicate n .nilslice) 33)).put b2 (.cells (List.replicate n (.int .i64 0)) 3)).put b3 (.cells [.slice b1 0 n n true, .slice b2 0 n n true] 93) = h2 at G1 G2 G3 Gl Gn ⊢
  have l2 : ldA h2 b3 1 = some (.slice b2 0 n n true) := by rw [ldA_cells G3]; rfl
  simp only [go_sem, Nat.reduceEqDiff, Int.reduceLT, Int.reduceLE, Int.reduceEq, Nat.reduceLT, Nat.reduceAdd, Nat.reduceMul, Int.reduceToNat, Nat.reduceLeDiff, reduceCtorEq, l2]
  refine open_l0 n b2 b3 (.slice b1 0 n n true) va (.ptr h.next 0) (.ptr (h.next + 1) 0) _ _ (by omega) (by omega) G3 G2 (by simp [T.get_set]) (by simp [T.get_set]) (by simp [T.get_set]) (by simp [T.get_set]) (by simp [T.get_set]) ?_
  intro fr h3 t1 t2 t3 hn3 hg3 gb3
  have l3 : ldA h3 h.next 1 = some va := by rw [ldA_get (hg3 _ (by omega)), ldA_get (Gl _ (by omega)), ldA_cells g1]; rfl
  have hx3 : ∀ c, c < h.next → h3.get c = h.get c := fun c hc => (hg3 c (by omega)).trans ((Gl c (by omega)).trans (hle1.get c hc))
  have ha3 : ArcsA h3 va A.arcs := SlA.keep ha (by omega) fun c _ hc => hx3 c hc
  have he3 : EndsA h3 ve A.ends := SlA.keep he (by omega) fun c _ hc => hx3 c hc
  simp only [go_sem, Nat.reduceEqDiff, Int.reduceLT, Int.reduceLE, Int.reduceEq, Nat.reduceLT, Nat.reduceAdd, Nat.reduceMul, Int.reduceToNat, Nat.reduceLeDiff, reduceCtorEq, t1, t2, t3, l3, ha3.len]
  have hle3 : Hle h h3 := ⟨by omega, hx3⟩
  have G33 : h3.get b3 = some (.cells [.slice b1 0 n n true, .slice b2 0 n n true] 93) := (hg3 b3 (by omega)).trans G3
  refine open_l1 A n b1 b3 (.slice b2 0 n n true) va (.ptr h.next 0) (.ptr (h.next + 1) 0) _ _ (by omega) (by omega) (by omega) (by omega) hn hP.1 (by omega) hle3 ha (by omega) G33 ((hg3 b1 (by omega)).trans G1) (by simp [T.get_set, t1]) (by simp [T.get_set, t2]) (by simp [T.get_set, t3]) (by simp [T.get_set]) (by simp [T.get_set]) (by simp [T.get_set]) ?_
  intro fr h4 vs u1 u2 u3 hn4 hg4 gb4 hR4
  have l4 : ldA h4 h.next 2 = some ve := by rw [ldA_get (hg4 _ (by omega) (by omega)), ldA_get (hg3 _ (by omega)), ldA_get (Gl _ (by omega)), ldA_cells g1]; rfl
  have hx4 : ∀ c, c < h.next → h4.get c = h.get c := fun c hc => (hg4 c (by omega) (by omega)).trans (hx3 c hc)
  have hle4 : Hle h h4 := ⟨by omega, hx4⟩
  simp only [go_sem, Nat.reduceEqDiff, Int.reduceLT, Int.reduceLE, Int.reduceEq, Nat.reduceLT, Nat.reduceAdd, Nat.reduceMul, Int.reduceToNat, Nat.reduceLeDiff, reduceCtorEq, u1, u2, u3, l4, (he.mono hle4).len]
  refine open_l2 A n b2 b3 (.slice b1 0 n n true) ve (.ptr h.next 0) (.ptr (h.next + 1) 0) _ _ (by omega) (by omega) (by omega) (by omega) hn hP.2 (by omega) hle4 he (by omega) ((hg4 b3 (by omega) (by omega)).trans G33) ((hg4 b2 (by omega) (by omega)).trans gb3) (by simp [T.get_set, u1]) (by simp [T.get_set, u2]) (by simp [T.get_set, u3]) (by simp [T.get_set]) (by simp [T.get_set]) (by simp [T.get_set]) ?_
  intro fr h5 w2 w3 hn5 hg5 gb5
  have G35 : h5.get b3 = some (.cells [.slice b1 0 n n true, .slice b2 0 n n true] 93) := (hg5 b3 (by omega) (by omega)).trans ((hg4 b3 (by omega) (by omega)).trans G33)
  have l5 : ldN h5 b3 0 2 = some [.slice b1 0 n n true, .slice b2 0 n n true] := ldN_cells G35 (by simp)
  have gp5 : h5.get (h.next + 1) = some (.cells [.nilslice, .nilslice] 93) := by
    rw [hg5 _ (by omega) (by omega), hg4 _ (by omega) (by omega), hg3 _ (by omega), Gl _ (by omega)]; exact g2
  have hput := putAt_cells (o := 0) (n := 2) (vs := [.slice b1 0 n n true, .slice b2 0 n n true]) gp5 rfl (by simp)
  have hvl : vs.length = n := by rw [hR4.len]; simp [rowsUpto]
  have gb15 : (h5.put (h.next + 1) (.cells [.slice b1 0 n n true, .slice b2 0 n n true] 93)).get b1 = some (.cells vs 33) := by
    rw [AHeap.get_put_ne _ _ (by omega), hg5 _ (by omega) (by omega)]; exact gb4
  have gb25 : (h5.put (h.next + 1) (.cells [.slice b1 0 n n true, .slice b2 0 n n true] 93)).get b2 = some (.cells (finsUpto A n A.ends.length) 3) := by
    rw [AHeap.get_put_ne _ _ (by omega)]; exact gb5
  have hR5 := hR4.frame (h' := h5.put (h.next + 1) (.cells [.slice b1 0 n n true, .slice b2 0 n n true] 93)) (by show h4.next ≤ h5.next; omega) fun c hc1 hc2 _ => by
    rw [AHeap.get_put_ne _ _ (by omega), hg5 c hc2 (by omega)]
  simp only [go_sem, Nat.reduceEqDiff, Int.reduceLT, Int.reduceLE, Int.reduceEq, Nat.reduceLT, Nat.reduceAdd, Nat.reduceMul, Int.reduceToNat, Nat.reduceLeDiff, reduceCtorEq, w2, w3, l5, hput]
  refine resA_c1 (resultA_agg agg_graph size_graph (b := h.next + 1) (o := 0) (by rw [evC_t]; simp [T.get_set, w2]) (ldN_cells (AHeap.get_put_same _ _ _) (by simp [over0]))) ⟨⟨.slice b1 0 n n true, .slice b2 0 n n true, vs, rfl, ?_, ?_, ?_, ?_⟩, ?_⟩
  · have := SlA.of1 (c := n) (ex := true) (by show b1 < h5.next; omega) gb15 hR5.flat
    rw [hvl] at this; exact this
  · omega
  · intro i y hy
    have hi := (List.getElem?_eq_some_iff.1 hy).1
    refine hR5.sl (l := outA A i) (fun _ => rfl) (by omega) (fun a y hy => by simp [arcC] at hy; rcases hy with rfl | rfl | rfl | rfl <;> rfl) hy ?_
    unfold rowsUpto
    rw [List.getElem?_map, List.getElem?_range (by omega), List.take_length]
    rfl
  · have := SlA.of1 (c := n) (ex := true) (by show b2 < h5.next; omega) gb25 (by intro y hy; unfold finsUpto at hy; obtain ⟨_, _, rfl⟩ := List.mem_map.1 hy; rfl)
    have hfl : (finsUpto A n A.ends.length).length = n := by unfold finsUpto; rw [List.length_map, List.length_range]
    rw [hfl] at this
    have e : (finsUpto A n A.ends.length).map (fun x => [x]) = (List.range A.n.toNat).map fun i => [.int .i64 (endOf A.ends i)] := by
      unfold finsUpto
      rw [List.map_map, List.take_length, show A.n.toNat = n by omega]
      rfl
    rw [← e]; exact this
  · refine ⟨by show h.next ≤ h5.next; omega, fun c hc => ?_⟩
    rw [AHeap.get_put_ne _ _ (by omega), hg5 c (by omega) (by omega)]
    exact hx4 c hc
end
end Go.AX
namespace Go.AX
open Go Go.RowKit
noncomputable section
def nextV (v : AVal) (h : AHeap) (Kp : AVal → AHeap → Prop) : Prop :=
  ∃ r m since seen last es clock, v = .ptr r 0 ∧ h.get r = some (.mapIter (some m) since seen last) ∧ h.get m = some (.map es clock) ∧
    (!seen.isEmpty && !es.isEmpty && es.all (fun e => Nat.ble last e.2.2)) = false ∧
    (∀ e, e ∈ es → seen.contains e.2.2 = false → e.2.2 < since) ∧
    ((∀ e, e ∈ es → seen.contains e.2.2 = true) → Kp (.tup [.bool false]) h) ∧
    (∀ e, e ∈ es → seen.contains e.2.2 = false → Kp (.tup [.bool true, e.1, e.2.1]) (h.put r (.mapIter (some m) since (seen ++ [e.2.2]) clock)))
def woN (E : Env) (o : COp) (fr : Fr) (h : AHeap) (Kp : AVal → AHeap → Prop) : Prop :=
  match o with
  | .next it => nextV (evC it fr) h Kp
  | o => wo E o fr h Kp
def worN (E : Env) (o : COper) (fr : Fr) (h : AHeap) (Kp : AVal → AHeap → Prop) : Prop :=
  match o.guard with
  | none => woN E o.op fr h Kp
  | some _ => wor E o fr h Kp
def wopsN (E : Env) : List COper → Fr → AHeap → (Fr → AHeap → Prop) → Prop
  | [], fr, h, Q => Q fr h
  | o :: l, fr, h, Q => worN E o fr h fun v h' => wopsN E l (putA o.dst fr v) h' Q
def wpN (E : Env) : CCode → Fr → AHeap → (Fr → AHeap → Prop) → (Nat → Fr → AHeap → Prop) → (Fr → AHeap → Prop) → Prop
  | .skip, fr, h, Qn, _, _ => Qn fr h
  | .region l, fr, h, Qn, _, _ => wopsN E l fr h Qn
  | .drawn n l, fr, h, Qn, _, _ => wsts E h.next l fr ⟨h.next + n, h.t⟩ Qn
  | .seq a b, fr, h, Qn, Qx, Qr => wpN E a fr h (fun fr h => wpN E b fr h Qn Qx Qr) Qx Qr
  | .cond c a b, fr, h, Qn, Qx, Qr => onB (evC c fr) (wpN E a fr h Qn Qx Qr) (wpN E b fr h Qn Qx Qr)
  | .block id a, fr, h, Qn, Qx, Qr => wpN E a fr h Qn (fun j fr h => if j = id then Qn fr h else Qx j fr h) Qr
  | .loop a, fr, h, _, Qx, Qr => ∃ (Inv : Nat → Fr → AHeap → Prop) (d : Nat), Inv d fr h ∧ ∀ d fr h, Inv d fr h → wpN E a fr h (fun fr' h' => ∃ d', d' < d ∧ Inv d' fr' h') Qx Qr
  | .exit id, fr, h, _, Qx, _ => Qx id fr h
  | .ret, fr, h, _, _, Qr => Qr fr h
structure NPost (P : Program) [Lay P] (K : Keep) (W0 : World) (nt : Nat) (ρ : Ren) (ds : List Deferred) (Qn : Fr → AHeap → Prop) (Qx : Nat → Fr → AHeap → Prop) (Qr : Fr → AHeap → Prop) (e : Exit) (a : Act) (w : World) : Prop where
  defers : a.defers = ds
  size : nt ≤ a.tmps.size
  rest : ∃ (o : Out) (ρ' : Ren), e = o.e.out ∧ Ends Qn Qx Qr o ∧ ρ.le ρ' ∧ FR ρ' o.fr a.tmps ∧ WR P K W0 ρ' o.h w
end
section
variable {E : Env} {P : Program} [Lay P] {K : Keep} {W0 : World} {ρ : Ren} {fr : Fr} {h : AHeap} {w : World} {a : Act}
theorem next_sound {it : Operand} {o : Oper} {cx : COpd} {Kp : AVal → AHeap → Prop} (ho : o.op = .next it false) (hcx : cO it = some cx) (hf : FR ρ fr a.tmps) (H : WR P K W0 ρ h w)
    (hw : nextV (evC cx fr) h Kp) : ∃ v h', Sound P (execOp a.eval o) K W0 ρ w v h' ∧ Kp v h' := by
  have hx2 : execOp a.eval o = (do pure (.value (← Instr.next (a.eval it) false o.type))) := by unfold execOp; rw [ho]
  rw [hx2]
  obtain ⟨b, m, since, seen, last, es, clock, hp, hb, hm, hcond, hold, hdone, hmore⟩ := hw
  have vx := ev_sound hf hcx
  rw [hp] at vx
  obtain ⟨r, hr, ex⟩ := vx.ptr_inv
  obtain ⟨hd, m', g1, g2⟩ := iter_at H hb hr
  rw [ex, show 0 + r.d = 0 by omega]
  have hget := run_getObj' (P := P) g1 (fun _ _ _ h => by cases h)
  rcases g2 with ⟨h, _⟩ | ⟨m1, s, h, hs1, rfl⟩
  case inl => cases h
  cases h
  obtain ⟨es', k1, k2, k3⟩ := map_at H hm hs1
  have hlen := k2.length
  have hempty : es'.isEmpty = es.isEmpty := by
    rw [Bool.eq_iff_iff]
    simp at hlen ⊢
    rw [← Array.size_eq_zero_iff, ← hlen, List.length_eq_zero_iff]
  have hall : (es'.all fun e => decide (e.born ≥ last)) = es.all fun e => Nat.ble last e.2.2 := by
    have := k2.all (p := fun n => Nat.ble last n)
    rw [← this]
    simp only [Array.all_toList]
    congr 1
    funext e
    rw [Bool.eq_iff_iff]
    simp
  have hcond' : (!seen.toArray.isEmpty && !es'.isEmpty && es'.all (fun e => decide (e.born ≥ last))) = false := by
    rw [hempty, hall, ← hcond]
    simp
  have hleft : EL ρ (es.filter fun e => !seen.contains e.2.2) (es'.filter fun e => !seen.toArray.contains e.born).toList := by
    have := k2.filter (p := fun n => !seen.contains n)
    rw [Array.toList_filter]
    simpa using this
  have hmem : ∀ e, e ∈ (es.filter fun e => !seen.contains e.2.2) ↔ e ∈ es ∧ seen.contains e.2.2 = false := by
    intro e; rw [List.mem_filter]; simp
  generalize hfl : (es.filter fun e => !seen.contains e.2.2) = fl at hleft hmem
  generalize hfl' : (es'.filter fun e => !seen.toArray.contains e.born) = fl' at hleft
  have hll := hleft.length
  by_cases hz : fl = []
  · subst hz
    have : fl' = #[] := by
      generalize hq : fl'.toList = q at hleft
      cases hleft
      exact Array.toList_eq_nil_iff.1 hq
    subst this
    refine ⟨.tup [.bool false], h, .valS (v' := .tuple #[.bool false]) ?_ (.tup (.cons (.bool _) .nil)) H, hdone fun e he => ?_⟩
    · unfold Instr.next
      simp only [Sem.run_bind, hget, Result.andThen_ok, run_getObj_map' k1]
      rw [hcond']
      simp only [Bool.false_eq_true, if_false, hfl', Sem.run_pure, Result.andThen_ok, Array.filter_empty, Array.isEmpty_empty, if_true, Sem.run_bind]
      simp [Question.forced]
    · cases hc : seen.contains e.2.2 with
      | true => rfl
      | false => have := (hmem e).2 ⟨he, hc⟩; simp at this
  · have hget2 : ∀ j : Nat, j < fl'.size → ∃ e e', fl[j]? = some e ∧ fl'[j]? = some e' ∧ V ρ e.1 e'.key ∧ V ρ e.2.1 e'.val ∧ e.2.2 = e'.born := by
      intro j hj
      have key : ∀ {l : List (AVal × AVal × Nat)} {l' : List MapEntry}, EL ρ l l' → ∀ j, j < l'.length → ∃ e e', l[j]? = some e ∧ l'[j]? = some e' ∧ V ρ e.1 e'.key ∧ V ρ e.2.1 e'.val ∧ e.2.2 = e'.born := by
        intro l l' hl
        induction hl with
        | nil => intro j hj; simp at hj
        | cons a b c _ ih =>
          intro j hj
          cases j with
          | zero => exact ⟨_, _, rfl, rfl, a, b, c⟩
          | succ j => exact ih j (by simpa using hj)
      obtain ⟨e, e', h1, h2, h3⟩ := key hleft j (by simpa using hj)
      exact ⟨e, e', h1, by simpa using h2, h3⟩
    have hne : fl'.isEmpty = false := by
      cases fl with
      | nil => exact absurd rfl hz
      | cons x l =>
        rw [Bool.eq_false_iff]
        intro hc
        rw [Array.isEmpty_iff_size_eq_zero] at hc
        simp at hll
        omega
    have hpos : 0 < fl'.size := by
      rw [Bool.eq_false_iff] at hne
      have : ¬ fl'.size = 0 := fun h => hne (by rw [Array.isEmpty_iff_size_eq_zero]; exact h)
      omega
    have hold' : fl'.filter (fun e => decide (e.born < since)) = fl' := by
      rw [Array.filter_eq_self]
      intro e' he'
      obtain ⟨j, hj, hje⟩ := Array.mem_iff_getElem.1 he'
      obtain ⟨e, e2, h1, h2, _, _, h5⟩ := hget2 j hj
      rw [Array.getElem?_eq_getElem hj, hje] at h2
      cases h2
      have := (hmem e).1 (List.mem_of_getElem? h1)
      have := hold e this.1 this.2
      simp; omega
    have hnew' : fl'.filter (fun e => decide (e.born ≥ since)) = #[] := by
      rw [Array.filter_eq_empty_iff]
      intro e' he'
      obtain ⟨j, hj, hje⟩ := Array.mem_iff_getElem.1 he'
      obtain ⟨e, e2, h1, h2, _, _, h5⟩ := hget2 j hj
      rw [Array.getElem?_eq_getElem hj, hje] at h2
      cases h2
      have := (hmem e).1 (List.mem_of_getElem? h1)
      have := hold e this.1 this.2
      simp; omega
    have hcand : ((if fl'.isEmpty = true then #[none] else #[]) ++ (fl' ++ (#[] : Array MapEntry)).map some : Array (Option MapEntry)) = fl'.map some := by
      rw [hne]; simp
    obtain ⟨j, w1, hj, hw1, hch⟩ : ∃ (j : Nat) (w1 : World), j < fl'.size ∧ (w1 = w ∨ w1 = { w with drawn := w.drawn + 1 }) ∧ (choose (.mapNext (fl'.map some).size) : Sem Nat).run P w = .ok j w1 := by
      have hsz : (fl'.map some).size = fl'.size := by simp
      rw [hsz]
      by_cases hq : fl'.size ≤ 1
      · refine ⟨0, w, hpos, .inl rfl, ?_⟩
        have : (Question.mapNext fl'.size).forced = true := by simpa [Question.forced] using hq
        show (if (Question.mapNext fl'.size).forced = true then _ else _) = _
        rw [if_pos this]; rfl
      · refine ⟨w.tape w.drawn (.mapNext fl'.size) % fl'.size, { w with drawn := w.drawn + 1 }, Nat.mod_lt _ hpos, .inr rfl, ?_⟩
        have : ¬ (Question.mapNext fl'.size).forced = true := by simpa [Question.forced] using hq
        show (if (Question.mapNext fl'.size).forced = true then _ else _) = _
        rw [if_neg this]; rfl
    obtain ⟨e, e', h1, h2, va, vb, ec⟩ := hget2 j hj
    have hin := (hmem e).1 (List.mem_of_getElem? h1)
    have hK := hmore e hin.1 hin.2
    have H1 : WR P K W0 ρ h w1 := by
      rcases hw1 with rfl | rfl
      · exact H
      · exact H.drawn _
    have g1' : w1.heap[r.b]? = some (.mapIter (some s.b) since seen.toArray last) := by
      rcases hw1 with rfl | rfl <;> exact g1
    have hcj : (fl'.map some)[j]? = some (some e') := by
      rw [Array.getElem?_map, h2]; rfl
    refine ⟨_, _, .val (v' := .tuple #[.bool true, e'.key, e'.val]) (w' := { w1 with heap := w1.heap.setIfInBounds r.b (.mapIter (some s.b) since (seen.toArray.push e'.born) clock) }) ?_ (Ren.le_refl _) (.tup (.cons (.bool _) (.cons va (.cons vb .nil)))) ?_, hK⟩
    · unfold Instr.next
      simp only [Sem.run_bind, hget, Result.andThen_ok, run_getObj_map' k1]
      rw [hcond']
      simp only [Bool.false_eq_true, if_false, hfl', Sem.run_pure, Result.andThen_ok, Sem.run_bind, hold', hnew', hcand, hch, hcj]
      simp [run_setObj (P := P) g1' (fun _ _ _ h => by cases h)]
    · have ht := set_turn w1 r.b (.mapIter (some s.b) since (seen.toArray.push e'.born) clock)
      refine H1.put hb trivial hr ht.os ht.tape ht.output ht.size ht.keep fun _ => ?_
      rw [set_at w1 g1']
      exact ⟨hd, some s.b, by rw [ec]; simp, .inr ⟨m, s, rfl, hs1, rfl⟩⟩
end
end Go.AX
namespace Go.AX
open Go Go.RowKit
section
variable {E : Env} {P : Program} [Lay P] {K : Keep} {W0 : World} {ρ : Ren} {fr : Fr} {h : AHeap} {w : World} {a : Act}
theorem opW_of_det (hE : EnvOK E P) (hcall : ∀ m n, CallS P (callN E m n)) {nt : Nat} {ops : Array Oper} {i : Nat} {o : Oper} {co : COper} (ho : ops[i]? = some o) (hc : cOper E nt ops o = some co)
    (hf : FR ρ fr a.tmps) (H : WR P K W0 ρ h w) {Kp : AVal → AHeap → Prop} (hw : wor E co fr h Kp) {next : Act → World → Prop} {Q : Exit → Act → World → Prop}
    (hn : ∀ v h' v' w' ρ', Kp v h' → ρ.le ρ' → V ρ' v v' → WR P K W0 ρ' h' w' → next (a.put o.dst v') w') : wpOp P ops Q i next a w := by
  obtain ⟨v, h', ⟨N, hN⟩, hk⟩ := wor_op hw
  exact runOp_sound hE (hcall N N) ho hc hf H (hN N N (Nat.le_refl _) (Nat.le_refl _)) fun v' w' ρ' h1 h2 h3 => hn v h' v' w' ρ' hk h1 h2 h3
theorem cOp_next_inv {op : Op} {it : COpd} (h : cOp E op = some (.next it)) : ∃ x, op = .next x false ∧ cO x = some it := by
  cases op
  case next x s =>
    cases s with
    | true => simp [cOp] at h
    | false =>
      simp only [cOp, Option.bind_eq_bind, Option.bind_eq_some_iff] at h
      obtain ⟨c, h1, h2⟩ := h
      cases h2
      exact ⟨x, rfl, h1⟩
  case call c =>
    cases hc : c.callee with
    | value x =>
      simp only [cOp, hc, Option.bind_eq_bind, Option.bind_eq_some_iff] at h
      obtain ⟨f', h1, as', h2, h3⟩ := h
      cases h3
    | invoke r n =>
      simp only [cOp, hc, Option.bind_eq_bind, Option.bind_eq_some_iff] at h
      obtain ⟨f', h1, as', h2, h3⟩ := h
      cases h3
    | builtin b =>
      simp only [cOp, hc] at h
      unfold cBuiltin at h
      exfalso
      revert h
      repeat' split
      all_goals (intro h)
      all_goals (try (unfold cLen at h))
      all_goals (try (unfold cAppend at h))
      all_goals (try (unfold cCopy at h))
      all_goals (try (unfold cUnsafeStr at h))
      all_goals repeat' (first | (cases h; done) | (obtain ⟨_, _, h⟩ := h) | (simp only [Option.bind_eq_bind, Option.bind_eq_some_iff, Option.map_eq_some_iff] at h) | split at h)
  all_goals exfalso
  all_goals (unfold cOp at h)
  all_goals repeat' (first | (cases h; done) | (cases ‹(_ : Op) = Op.call _›; done) | (cases ‹(_ : Op) = Op.next _ _›; done) | (obtain ⟨_, _, h⟩ := h) | (simp only [Option.bind_eq_bind, Option.bind_eq_some_iff, Option.map_eq_some_iff] at h) | split at h)
theorem opN_sound (hE : EnvOK E P) (hcall : ∀ m n, CallS P (callN E m n)) {nt : Nat} {ops : Array Oper} {i : Nat} {o : Oper} {co : COper} (ho : ops[i]? = some o) (hc : cOper E nt ops o = some co)
    (hf : FR ρ fr a.tmps) (H : WR P K W0 ρ h w) {Kp : AVal → AHeap → Prop} (hw : worN E co fr h Kp) {next : Act → World → Prop} {Q : Exit → Act → World → Prop}
    (hn : ∀ v h' v' w' ρ', Kp v h' → ρ.le ρ' → V ρ' v v' → WR P K W0 ρ' h' w' → next (a.put o.dst v') w') : wpOp P ops Q i next a w := by
  obtain ⟨d, g, op⟩ := co
  cases g with
  | some g => exact opW_of_det hE hcall ho hc hf H (co := ⟨d, some g, op⟩) hw hn
  | none =>
    by_cases hx : ∃ it, op = .next it
    · obtain ⟨it, rfl⟩ := hx
      have hw : nextV (evC it fr) h Kp := hw
      obtain ⟨hdst, hd, hop⟩ := cOper_inv hc
      have hgu := guard_eq hc hf
      have hop2 : cOp E o.op = some (.next it) := by
        cases hco : cOp E o.op with
        | none => rw [hco] at hop; cases hop
        | some c => rw [hco] at hop; rw [← show COp.next it = c from hop]
      obtain ⟨x, hox, hcx⟩ := cOp_next_inv hop2
      obtain ⟨v, h', hs, hk⟩ := next_sound hox hcx hf H hw
      unfold wpOp
      simp only [ho]
      rw [if_pos (by rw [← hgu]; rfl)]
      left
      exact hs.opW next Q fun v' w' ρ' h1 h2 h3 => hn v h' v' w' ρ' hk h1 h2 h3
    · have hw2 : wor E ⟨d, none, op⟩ fr h Kp := by
        have e : worN E ⟨d, none, op⟩ fr h Kp = woN E op fr h Kp := rfl
        rw [e] at hw
        show wo E op fr h Kp
        cases op <;> first | exact hw | exact absurd ⟨_, rfl⟩ hx
      exact opW_of_det hE hcall ho hc hf H hw2 hn
theorem opsN_sound (hE : EnvOK E P) (hcall : ∀ m n, CallS P (callN E m n)) {nt : Nat} {ops : Array Oper} : ∀ (l : List COper) (is : List Nat), is.mapM (fun i => (ops[i]?).bind (cOper E nt ops)) = some l →
    ∀ {ρ : Ren} {fr : Fr} {h : AHeap} {w : World} {a : Act} {ds : List Deferred} {Qn : Fr → AHeap → Prop} {Qx : Nat → Fr → AHeap → Prop} {Qr : Fr → AHeap → Prop}, nt ≤ a.tmps.size → FR ρ fr a.tmps → WR P K W0 ρ h w → a.defers = ds → wopsN E l fr h Qn → wpOps P ops (NPost P K W0 nt ρ ds Qn Qx Qr) is a w := by
  intro l
  induction l with
  | nil =>
    intro is his ρ fr h w a ds Qn Qx Qr hn hf H hd hs
    cases is with
    | nil => exact ⟨hd, hn, ⟨.normal, fr, h⟩, ρ, rfl, hs, Ren.le_refl _, hf, H⟩
    | cons i is =>
      simp only [List.mapM_cons, Option.bind_eq_bind, Option.bind_eq_some_iff] at his
      obtain ⟨_, _, _, _, h3⟩ := his
      cases h3
  | cons c l ih =>
    intro is his ρ fr h w a ds Qn Qx Qr hn hf H hd hs
    cases is with
    | nil => simp at his
    | cons i is =>
      simp only [List.mapM_cons, Option.bind_eq_bind, Option.bind_eq_some_iff] at his
      obtain ⟨co, ⟨o, ho, hc⟩, l', h2, h3⟩ := his
      cases h3
      obtain ⟨hdst, hdd, _⟩ := cOper_inv hc
      rw [wpOps_cons]
      refine opN_sound hE hcall ho hc hf H (show worN E c fr h _ from hs) fun v h' v' w' ρ' hk k1 k2 k3 => ?_
      have hf' : FR ρ' (putA c.dst fr v) (a.put o.dst v').tmps := by rw [hdst]; exact FR.put (hf.mono k1) hdd hn k2
      have := ih is h2 (a := a.put o.dst v') (ds := ds) (Qx := Qx) (Qr := Qr) (by rw [put_size]; exact hn) hf' k3 (by rw [put_defs]; exact hd) hk
      refine wpOps_monoQ ?_ is _ _ this
      rintro e a1 w1 ⟨e1, e2, o2, ρ2, e3, e4, e5, e6, e7⟩
      exact ⟨e1, e2, o2, ρ2, e3, e4, Ren.le_trans k1 e5, e6, e7⟩
theorem NPost.le {nt : Nat} {ρ' : Ren} {ds : List Deferred} {Qn : Fr → AHeap → Prop} {Qx : Nat → Fr → AHeap → Prop} {Qr : Fr → AHeap → Prop} {e : Exit} (hle : ρ.le ρ') (hq : NPost P K W0 nt ρ' ds Qn Qx Qr e a w) : NPost P K W0 nt ρ ds Qn Qx Qr e a w := by
  obtain ⟨e1, e2, o2, ρ2, e3, e4, e5, e6, e7⟩ := hq
  exact ⟨e1, e2, o2, ρ2, e3, e4, Ren.le_trans hle e5, e6, e7⟩
theorem NPost.ends {nt : Nat} {ds : List Deferred} {Qn Qn' : Fr → AHeap → Prop} {Qx Qx' : Nat → Fr → AHeap → Prop} {Qr Qr' : Fr → AHeap → Prop} {e e' : Exit} (hq : NPost P K W0 nt ρ ds Qn Qx Qr e a w)
    (he : ∀ o : Out, e = o.e.out → Ends Qn Qx Qr o → ∃ o' : Out, e' = o'.e.out ∧ Ends Qn' Qx' Qr' o' ∧ o'.fr = o.fr ∧ o'.h = o.h) : NPost P K W0 nt ρ ds Qn' Qx' Qr' e' a w := by
  obtain ⟨e1, e2, o2, ρ2, e3, e4, e5, e6, e7⟩ := hq
  obtain ⟨o', k1, k2, k3, k4⟩ := he o2 e3 e4
  exact ⟨e1, e2, o', ρ2, k1, k2, e5, by rw [k3]; exact e6, by rw [k4]; exact e7⟩
theorem NPost.of_XQ {nt : Nat} {ds : List Deferred} {Qn : Fr → AHeap → Prop} {Qx : Nat → Fr → AHeap → Prop} {Qr : Fr → AHeap → Prop} {e : Exit} {a0 : Act} {o : Out} (hd : a0.defers = ds) (hq : XQ P K W0 nt ρ a0 o e a w) (he : Ends Qn Qx Qr o) : NPost P K W0 nt ρ ds Qn Qx Qr e a w := by
  obtain ⟨ρ', k1, k2, k3⟩ := hq.rest
  exact ⟨hq.defers.trans hd, hq.size, o, ρ', hq.e, he, k1, k2, k3⟩
theorem loopN_sound {c : Code} {nt : Nat} {cx : CCode} {Qx : Nat → Fr → AHeap → Prop} {Qr : Fr → AHeap → Prop} {Inv : Nat → Fr → AHeap → Prop}
    (ih : ∀ {ρ : Ren} {fr : Fr} {h : AHeap} {w : World} {a : Act} {ds : List Deferred} {Qn : Fr → AHeap → Prop}, nt ≤ a.tmps.size → FR ρ fr a.tmps → WR P K W0 ρ h w → a.defers = ds → wpN E cx fr h Qn Qx Qr → c.wp P (NPost P K W0 nt ρ ds Qn Qx Qr) a w)
    (hs : ∀ d fr h, Inv d fr h → wpN E cx fr h (fun fr' h' => ∃ d', d' < d ∧ Inv d' fr' h') Qx Qr) :
    ∀ (n d : Nat) {ρ : Ren} {fr : Fr} {h : AHeap} {w : World} {a : Act} {ds : List Deferred} {Qn : Fr → AHeap → Prop}, d < n → Inv d fr h → nt ≤ a.tmps.size → FR ρ fr a.tmps → WR P K W0 ρ h w → a.defers = ds →
      ∀ (b : Frame) (k : List Item) (cs : List Frame), ∃ e a' w', NPost P K W0 nt ρ ds Qn Qx Qr e a' w' ∧ Arrives P (lone (b.at a (.code c :: .inLoop c :: k)) cs w) b k cs e a' w' := by
  intro n
  induction n with
  | zero => intro d _ _ _ _ _ _ _ hd; omega
  | succ n ihn =>
    intro d ρ fr h w a ds Qn hd hi hn hf H hds b k cs
    obtain ⟨e, a1, w1, hq, harr⟩ := ih hn hf H hds (hs d fr h hi) b (.inLoop c :: k) cs
    obtain ⟨q1, q2, o, ρ1, q3, q4, q5, q6, q7⟩ := hq
    obtain ⟨oe, ofr, oh⟩ := o
    cases oe with
    | normal =>
      have e1 : e = .normal := q3
      subst e1
      obtain ⟨d', hd', hi'⟩ := q4
      obtain ⟨e2, a2, w2, hq2, harr2⟩ := ihn d' (Qn := Qn) (by omega) hi' q2 q6 q7 q1 b k cs
      exact ⟨e2, a2, w2, hq2.le q5, .of_steps (Steps.trans harr (.one step_inLoop)) harr2⟩
    | exit id =>
      have e1 : e ≠ .normal := by rw [q3]; simp [AExit.out]
      exact ⟨e, a1, w1, ⟨q1, q2, ⟨.exit id, ofr, oh⟩, ρ1, q3, q4, q5, q6, q7⟩, .pass (x := .inLoop c) rfl (fun _ _ => .inl e1) harr⟩
    | ret =>
      have e1 : e ≠ .normal := by rw [q3]; simp [AExit.out]
      exact ⟨e, a1, w1, ⟨q1, q2, ⟨.ret, ofr, oh⟩, ρ1, q3, q4, q5, q6, q7⟩, .pass (x := .inLoop c) rfl (fun _ _ => .inl e1) harr⟩
theorem wpAny_monoQ {md : Region.Mode} {ops : Array Oper} {Q Q' : Exit → Act → World → Prop} (hq : ∀ e a w, Q e a w → Q' e a w) : ∀ (fuel : Nat) (l : Array Bool) (a : Act) (w : World), wpAny P md ops Q fuel l a w → wpAny P md ops Q' fuel l a w
  | 0, _, _, _, h => ⟨h.1, hq _ _ _ h.2⟩
  | fuel + 1, _, _, _, h => ⟨fun e => hq _ _ _ (h.1 e), fun i hi => wpOp_monoQ hq (wpAny_monoQ hq fuel _) (h.2 i hi)⟩
theorem wpN_sound (hE : EnvOK E P) (hcall : ∀ m n, CallS P (callN E m n)) (hdraw : ∀ m n, DrawnS E P (callN E m n)) {nt : Nat} {plans : List (Nat × List Nat)} :
    ∀ (c : Code) {cc : CCode}, cCode E nt plans c = some cc → ∀ {ρ : Ren} {fr : Fr} {h : AHeap} {w : World} {a : Act} {ds : List Deferred} {Qn : Fr → AHeap → Prop} {Qx : Nat → Fr → AHeap → Prop} {Qr : Fr → AHeap → Prop}, nt ≤ a.tmps.size → FR ρ fr a.tmps → WR P K W0 ρ h w → a.defers = ds → wpN E cc fr h Qn Qx Qr →
      c.wp P (NPost P K W0 nt ρ ds Qn Qx Qr) a w := by
  intro c
  have hbad : ∀ {fr h} {Qn : Fr → AHeap → Prop} {Qx : Nat → Fr → AHeap → Prop} {Qr : Fr → AHeap → Prop}, wpN E badCode fr h Qn Qx Qr → False := by
    intro fr h Qn Qx Qr hs
    have hs' : onO (stepOp .bad fr h) (fun r => Qn (putA none fr r.1) r.2) := hs
    exact hs'
  induction c with
  | skip =>
    intro cc hc ρ fr h w a ds Qn Qx Qr hn hf H hd hs
    cases hc
    exact Go.wp_skip ⟨hd, hn, ⟨.normal, fr, h⟩, ρ, rfl, hs, Ren.le_refl _, hf, H⟩
  | label l =>
    intro cc hc ρ fr h w a ds Qn Qx Qr hn hf H hd hs
    cases hc
    exact Go.wp_label ⟨hd, hn, ⟨.normal, fr, h⟩, ρ, rfl, hs, Ren.le_refl _, hf, H⟩
  | ret =>
    intro cc hc ρ fr h w a ds Qn Qx Qr hn hf H hd hs
    cases hc
    exact Go.wp_ret ⟨hd, hn, ⟨.ret, fr, h⟩, ρ, rfl, hs, Ren.le_refl _, hf, H⟩
  | exit id =>
    intro cc hc ρ fr h w a ds Qn Qx Qr hn hf H hd hs
    cases hc
    exact Go.wp_exit ⟨hd, hn, ⟨.exit id, fr, h⟩, ρ, rfl, hs, Ren.le_refl _, hf, H⟩
  | region id ops draw =>
    intro cc hc ρ fr h w a ds Qn Qx Qr hn hf H hd hs
    unfold cCode at hc
    cases draw with
    | true =>
      simp only [if_true] at hc
      split at hc
      · rename_i plan hp
        cases hdd : cDrawn E nt ops plan with
        | none =>
          rw [hdd] at hc
          cases hc
          exact (hbad hs).elim
        | some d =>
          rw [hdd] at hc
          cases hc
          have hd' := hdd
          simp only [cDrawn, Option.bind_eq_bind, Option.bind_eq_some_iff] at hd'
          obtain ⟨cops, hcops, hd'⟩ := hd'
          split at hd'
          case isFalse => cases hd'
          simp only [Option.bind_eq_some_iff] at hd'
          obtain ⟨l, hl, hd'⟩ := hd'
          cases hd'
          obtain ⟨fr', h', ⟨N, hN⟩, hq⟩ := wsts_run (show wsts E h.next l fr ⟨h.next + ops.size, h.t⟩ Qn from hs)
          refine wp_region_any hE.mixed ?_
          have hx := hdraw N N K W0 nt ops plan ops.size l ρ fr h _ a fr' h' hdd (hN N N (Nat.le_refl _) (Nat.le_refl _)) hn hf (H.drawn (w.drawn + 1))
          exact wpAny_monoQ (fun e a1 w1 hx => NPost.of_XQ (o := ⟨.normal, fr', h'⟩) hd hx hq) _ _ _ _ hx
      · cases hc
        exact (hbad hs).elim
    | false =>
      simp only [Bool.false_eq_true, if_false, Option.bind_eq_bind, Option.bind_eq_some_iff] at hc
      obtain ⟨l, hl, hc⟩ := hc
      cases hc
      exact Go.wp_region (opsN_sound hE hcall l _ (range_mapM _ ops hl) hn hf H hd hs)
  | seq x y ihx ihy =>
    intro cc hc ρ fr h w a ds Qn Qx Qr hn hf H hd hs
    simp only [cCode, Option.bind_eq_bind, Option.bind_eq_some_iff] at hc
    obtain ⟨cx, hx, cy, hy, hc⟩ := hc
    cases hc
    refine Go.wp_seq (Go.wp_mono (ihx hx hn hf H hd (show wpN E cx fr h (fun fr h => wpN E cy fr h Qn Qx Qr) Qx Qr from hs)) fun e a1 w1 hq => ?_)
    obtain ⟨q1, q2, o, ρ1, q3, q4, q5, q6, q7⟩ := hq
    obtain ⟨oe, ofr, oh⟩ := o
    cases oe with
    | normal =>
      have e1 : e = .normal := q3
      subst e1
      exact Go.wp_mono (ihy hy q2 q6 q7 q1 q4) fun e a2 w2 hq2 => hq2.le q5
    | exit id =>
      have e1 : e = .exit id := q3
      subst e1
      exact ⟨q1, q2, ⟨.exit id, ofr, oh⟩, ρ1, rfl, q4, q5, q6, q7⟩
    | ret =>
      have e1 : e = .ret := q3
      subst e1
      exact ⟨q1, q2, ⟨.ret, ofr, oh⟩, ρ1, rfl, q4, q5, q6, q7⟩
  | cond x y z ihy ihz =>
    intro cc hc ρ fr h w a ds Qn Qx Qr hn hf H hd hs
    simp only [cCode, Option.bind_eq_bind, Option.bind_eq_some_iff] at hc
    obtain ⟨cx, hx, cy, hy, cz, hz, hc⟩ := hc
    cases hc
    obtain ⟨b, hb, h1, h2⟩ := (show onB (evC cx fr) (wpN E cy fr h Qn Qx Qr) (wpN E cz fr h Qn Qx Qr) from hs)
    have vx := ev_sound hf hx
    rw [hb] at vx
    refine Go.wp_cond vx.bool_inv ?_
    cases b with
    | true => exact ihy hy hn hf H hd (h1 rfl)
    | false => exact ihz hz hn hf H hd (h2 rfl)
  | block id body ih =>
    intro cc hc ρ fr h w a ds Qn Qx Qr hn hf H hd hs
    simp only [cCode, Option.bind_eq_bind, Option.bind_eq_some_iff] at hc
    obtain ⟨cx, hx, hc⟩ := hc
    cases hc
    refine Go.wp_block (Go.wp_mono (ih hx hn hf H hd (show wpN E cx fr h Qn (fun j fr h => if j = id then Qn fr h else Qx j fr h) Qr from hs)) fun e a1 w1 hq => ?_)
    obtain ⟨q1, q2, o, ρ1, q3, q4, q5, q6, q7⟩ := hq
    obtain ⟨oe, ofr, oh⟩ := o
    cases oe with
    | normal =>
      have e1 : e = .normal := q3
      subst e1
      exact ⟨q1, q2, ⟨.normal, ofr, oh⟩, ρ1, rfl, q4, q5, q6, q7⟩
    | ret =>
      have e1 : e = .ret := q3
      subst e1
      exact ⟨q1, q2, ⟨.ret, ofr, oh⟩, ρ1, rfl, q4, q5, q6, q7⟩
    | exit j =>
      have e1 : e = .exit j := q3
      subst e1
      have q4 : if j = id then Qn ofr oh else Qx j ofr oh := q4
      show (if j = id then NPost P K W0 nt ρ ds Qn Qx Qr .normal a1 w1 else NPost P K W0 nt ρ ds Qn Qx Qr (.exit j) a1 w1)
      by_cases hj : j = id
      · rw [if_pos hj] at q4 ⊢
        exact ⟨q1, q2, ⟨.normal, ofr, oh⟩, ρ1, rfl, q4, q5, q6, q7⟩
      · rw [if_neg hj] at q4 ⊢
        exact ⟨q1, q2, ⟨.exit j, ofr, oh⟩, ρ1, rfl, q4, q5, q6, q7⟩
  | loop body ih =>
    intro cc hc ρ fr h w a ds Qn Qx Qr hn hf H hd hs
    simp only [cCode, Option.bind_eq_bind, Option.bind_eq_some_iff] at hc
    obtain ⟨cx, hx, hc⟩ := hc
    cases hc
    obtain ⟨Inv, d, h0, hstep⟩ := (show ∃ (Inv : Nat → Fr → AHeap → Prop) (d : Nat), Inv d fr h ∧ ∀ d fr h, Inv d fr h → wpN E cx fr h (fun fr' h' => ∃ d', d' < d ∧ Inv d' fr' h') Qx Qr from hs)
    intro b k cs
    obtain ⟨e, a1, w1, hq, harr⟩ := loopN_sound (Qn := Qn) (fun hn hf H hd hs => ih hx hn hf H hd hs) hstep (d + 1) d (by omega) h0 hn hf H hd b k cs
    exact ⟨e, a1, w1, hq, .of_steps (.one step_loop) harr⟩
  | scope body ih =>
    intro cc hc ρ fr h w a ds Qn Qx Qr hn hf H hd hs
    refine wp_scope (fun l a1 w1 hq => ?_) (ih hc hn hf H hd hs)
    obtain ⟨q1, q2, o, ρ1, q3, q4, q5, q6, q7⟩ := hq
    obtain ⟨oe, ofr, oh⟩ := o
    cases oe <;> cases q3
  | _ =>
    intro cc hc ρ fr h w a ds Qn Qx Qr hn hf H hd hs
    cases hc
    exact (hbad hs).elim
end
end Go.AX
namespace Go.AX
open Go Go.RowKit
noncomputable section
section
variable {E : Env} {fr fr' : Fr} {h h' : AHeap} {Kp : AVal → AHeap → Prop} {Q Qn Qr : Fr → AHeap → Prop} {Qx : Nat → Fr → AHeap → Prop}
theorem n_seq {a b : CCode} : wpN E (.seq a b) fr h Qn Qx Qr = wpN E a fr h (bx (fun fr h => wpN E b fr h Qn Qx Qr) .mk) Qx Qr := propext Iff.rfl
theorem n_skip : wpN E .skip fr h Qn Qx Qr = Qn fr h := propext Iff.rfl
theorem n_exit {id : Nat} : wpN E (.exit id) fr h Qn Qx Qr = Qx id fr h := propext Iff.rfl
theorem n_ret : wpN E .ret fr h Qn Qx Qr = Qr fr h := propext Iff.rfl
theorem n_region {l : List COper} : wpN E (.region l) fr h Qn Qx Qr = wopsN E l fr h Qn := propext Iff.rfl
theorem n_drawn {n : Nat} {l : List CStep} : wpN E (.drawn n l) fr h Qn Qx Qr = wsts E h.next l fr (h.skip n) Qn := propext Iff.rfl
theorem n_block {id : Nat} {a : CCode} : wpN E (.block id a) fr h Qn Qx Qr = wpN E a fr h Qn (bx (fun j fr h => if j = id then Qn fr h else Qx j fr h) .mk) Qr := propext Iff.rfl
theorem n_cond {c : COpd} {a b : CCode} : wpN E (.cond c a b) fr h Qn Qx Qr = condV (evC c fr) (bx (wpN E a fr h Qn Qx Qr) .mk) (bx (wpN E b fr h Qn Qx Qr) .mk) := by
  show onB (evC c fr) _ _ = condV (evC c fr) _ _
  cases evC c fr <;> simp [onB, condV, bx]
theorem n_loop {a : CCode} (Inv : Nat → Fr → AHeap → Prop) (d : Nat) (h0 : Inv d fr h) (hs : ∀ d fr h, Inv d fr h → wpN E a fr h (bx (fun fr' h' => ∃ d', d' < d ∧ Inv d' fr' h') .mk) Qx Qr) : wpN E (.loop a) fr h Qn Qx Qr := ⟨Inv, d, h0, hs⟩
theorem n_nil : wopsN E [] fr h Q = Q fr h := propext Iff.rfl
theorem n_opsg {o : COp} {d : Option Nat} {g : Nat × Bool} {l : List COper} : wopsN E (⟨d, some g, o⟩ :: l) fr h Q = lite (guardOk (some g) fr = true) (bx (wo E o fr h (bx (fun v h' => wopsN E l (putA d fr v) h' Q) .mk)) .mk) (bx (wopsN E l (putA d fr undefA) h Q) .mk) := by
  show wor E ⟨d, some g, o⟩ fr h (fun v h' => wopsN E l (putA d fr v) h' Q) = _
  rw [wor_guardL]; rfl
end
section
variable {P : Program} [Lay P]
def Nc (P : Program) [Lay P] (f : FuncId) (args : List AVal) (h : AHeap) (Q : AVal → AHeap → Prop) : Prop :=
  Enters P f ∧ ∀ (K : Keep) (W0 : World) (ρ : Ren) (w : World) (args' : Array Value), VL ρ args args'.toList → WR P K W0 ρ h w → Calls P f args' w fun e w' => ∃ v h', Q v h' ∧ CPost P K W0 ρ v h' e w'
theorem Nc.of_wpN {E : Env} (hE : EnvOK E P) (hcall : ∀ m n, CallS P (callN E m n)) (hdraw : ∀ m n, DrawnS E P (callN E m n)) {f : FuncId} {fn : Func} {cc : CCode} {rs : List ResultVar} {args : List AVal} {h : AHeap} {Q : AVal → AHeap → Prop}
    (hfn : E.fn.get f = some fn) (hname : (fn.name == "runtime.NumGoroutine") = false) (hcode : E.code f = some (cc, rs))
    (hw : wpN E cc (mkFrame args 0 .nil) h (bx (fun fr h => onO (resultsA E h fr rs) fun v => Q v h) .mk) (fun _ _ _ => False) (bx (fun fr h => onO (resultsA E h fr rs) fun v => Q v h) .mk)) : Nc P f args h Q := by
  simp only [Env.code, Option.bind_eq_bind, Option.bind_eq_some_iff] at hcode
  obtain ⟨fn', hfn', c, hc, cc', hcc, hcode⟩ := hcode
  cases hcode
  rw [hfn] at hfn'
  cases hfn'
  have hfun := hE.fn _ _ hfn
  refine ⟨⟨fn, hfun, hname, by rw [hc]; rfl⟩, fun K W0 ρ w args' hargs H => ?_⟩
  have hsize : fn.ntmps ≤ (args' ++ Array.replicate (fn.ntmps - args'.size) undef).size := by simp; omega
  have hwp := wpN_sound hE hcall hdraw c hcc (a := { tmps := args' ++ Array.replicate (fn.ntmps - args'.size) undef, defers := [] }) (ds := []) hsize (mkFrame_FR hargs _) H rfl hw
  refine calls_of_wp hfun hc (Go.wp_mono hwp fun e a1 w1 hq => ?_)
  obtain ⟨q1, q2, o, ρ1, q3, q4, q5, q6, q7⟩ := hq
  obtain ⟨oe, ofr, oh⟩ := o
  have hfin : ∀ (hr : onO (resultsA E oh ofr fn.results.toList) fun v => Q v oh), a1.defers = [] ∧ ∃ v, (results fn a1.tmps).run P w1 = .ok v w1 ∧ ∃ v2 h2, Q v2 h2 ∧ CPost P K W0 ρ v2 h2 (.returned v) w1 := by
    intro hr
    obtain ⟨v2, h1, h2⟩ := onO_iff.1 hr
    obtain ⟨v', r1, r2⟩ := results_sound hE q6 q7 h1
    exact ⟨q1, v', r1, v2, oh, h2, v', ρ1, rfl, q5, r2, q7⟩
  cases oe with
  | exit id => exact q4.elim
  | normal =>
    have e1 : e = .normal := q3
    subst e1
    exact hfin q4
  | ret =>
    have e1 : e = .ret := q3
    subst e1
    exact hfin q4
theorem Nc.mono {f : FuncId} {args : List AVal} {h : AHeap} {Q Q' : AVal → AHeap → Prop} (hc : Nc P f args h Q) (hq : ∀ v h', Q v h' → Q' v h') : Nc P f args h Q' :=
  ⟨hc.1, fun K W0 ρ w args' ha H => (hc.2 K W0 ρ w args' ha H).mono fun e w' ⟨v, h', h1, h2⟩ => ⟨v, h', hq _ _ h1, h2⟩⟩
end
def AObj.fz : AObj → AObj
  | .cells l e => .ro l e
  | .ro l e => .ro l e
  | _ => .dead
namespace T
def mapT {α β : Type} (f : α → β) : T α → T β
  | .nil => .nil
  | .node v l r => .node (v.map f) (mapT f l) (mapT f r)
theorem getP_mapT {α β : Type} (f : α → β) : ∀ (p : List Bool) (t : T α), (t.mapT f).getP p = (t.getP p).map f
  | [], .nil => rfl
  | [], .node v l r => rfl
  | b :: p, .nil => rfl
  | b :: p, .node v l r => by
    cases b
    · exact getP_mapT f p r
    · exact getP_mapT f p l
theorem get_mapT {α β : Type} (f : α → β) (t : T α) (k : Nat) : (t.mapT f).get k = (t.get k).map f := getP_mapT f _ t
end T
def AHeap.fz (h : AHeap) : AHeap := ⟨h.next, h.t.mapT AObj.fz⟩
theorem AHeap.get_fz (h : AHeap) (b : Nat) : h.fz.get b = (h.get b).map AObj.fz := T.get_mapT _ _ _
section
variable {P : Program} [Lay P] {K : Keep} {W0 : World} {ρ : Ren} {h : AHeap} {w : World}
def fzK (K : Keep) (ρ : Ren) (h : AHeap) : Keep := ⟨fun b => K b ∨ ∃ m o r, h.get m = some o ∧ o.live ∧ ρ m = some r ∧ b = r.b, h.next, ρ, K.g⟩
theorem WR.freeze (H : WR P K W0 ρ h w) : WR P (fzK K ρ h) w ρ h.fz w := by
  refine ⟨rfl, rfl, rfl, Nat.le_refl _, fun b hb => ?_, fun _ _ => rfl, fun n hn => ?_, fun n o hn hl => ?_, fun n m o p r s hn ho => ?_, Nat.le_refl _, fun _ _ => rfl, fun b hb => .inl (H.gk b hb), fun n o r hn hl hr => ?_, fun b hb => ⟨.inl (H.lay b hb).1, ?_⟩⟩
  · rcases hb with hb | ⟨m, o, r, h1, h2, h3, rfl⟩
    · exact Nat.lt_of_lt_of_le (H.klt b hb) H.size
    · exact H.lt h1 h2 h3
  · obtain ⟨h1, h2⟩ := H.fresh n hn
    exact ⟨h1, by rw [AHeap.get_fz, h2]; rfl⟩
  · rw [AHeap.get_fz, Option.map_eq_some_iff] at hn
    obtain ⟨o', hn, rfl⟩ := hn
    cases o' with
    | cells l e =>
      obtain ⟨r, h1, h2, h3⟩ := H.obj n _ hn trivial
      exact ⟨r, h1, fun hx => hx.elim, h3.1.hold⟩
    | ro l e =>
      obtain ⟨r, h1, h2, h3⟩ := H.obj n _ hn trivial
      exact ⟨r, h1, fun hx => hx.elim, h3⟩
    | map _ _ => exact hl.elim
    | mapIter _ _ _ _ => exact hl.elim
    | dead => exact hl.elim
  · rw [AHeap.get_fz, Option.map_eq_some_iff] at hn
    obtain ⟨o', hn, rfl⟩ := hn
    cases o' <;> exact ho.elim
  · rw [AHeap.get_fz, Option.map_eq_some_iff] at hn
    obtain ⟨o', hn, rfl⟩ := hn
    have : o'.live := by cases o' <;> first | trivial | exact hl.elim
    exact H.hid n o' r hn this hr
  · rw [H.keep b (H.lay b hb).1]; exact (H.lay b hb).2
theorem WR.thaw (H : WR P K W0 ρ h w) {ρ' : Ren} {h' : AHeap} {w' : World} (H' : WR P (fzK K ρ h) w ρ' h' w') : WR P K W0 ρ h w' := by
  refine ⟨H'.os.trans H.os, H'.tape.trans H.tape, H'.output.trans H.output, Nat.le_trans H.size H'.size, H.klt, fun b hb => (H'.keep b (.inl hb)).trans (H.keep b hb), H.fresh, fun n o hn hl => ?_, H.inj, H.nx, H.old, H.gk, H.hid, H.lay⟩
  obtain ⟨r, h1, h2, h3⟩ := H.obj n o hn hl
  exact ⟨r, h1, h2, by rw [H'.keep r.b (.inr ⟨n, o, r, hn, hl, h1, rfl⟩)]; exact h3⟩
def AVal.plain : AVal → Bool
  | .bool _ | .int _ _ | .str _ | .nilptr | .nilslice | .nilmap | .nilfunc | .niliface => true
  | _ => false
theorem V.plain {ρ ρ' : Ren} {v : AVal} {v' : Value} (hp : v.plain = true) (hv : V ρ v v') : V ρ' v v' := by
  cases hv <;> first | (cases hp; done) | exact .bool _ | exact .int _ _ | exact .str ‹_› | exact .nilptr | exact .nilslice | exact .nilmap | exact .nilfunc | exact .niliface
theorem WR.take (H : WR P K W0 ρ h w) {ρ' : Ren} {h' : AHeap} {w' : World} (H' : WR P (fzK K ρ h) w ρ' h' w') {b : Nat} {r : RB} {L : List AVal} {e : TypeId} (hr : ρ' b = some r) (hg : h'.get b = some (.cells L e)) (hL : ∀ v, v ∈ L → v.plain = true) :
    WR P K W0 (ρ.upd h.next r) (h.push (.cells L e)) w' := by
  have Ht := H.thaw H'
  obtain ⟨r', hr', hk, ho⟩ := H'.obj b _ hg trivial
  rw [hr] at hr'; cases hr'
  have hk : ¬ (fzK K ρ h) r.b := hk trivial
  refine Ht.adopt (H.fresh h.next (Nat.le_refl _)).1 (AHeap.get_push_same _ _) (fun m hm => AHeap.get_push_ne _ _ (Ne.symm hm)) (by simp [AHeap.next_push]) (by simp [AHeap.next_push]) H.nx (fun hx => hk (.inl hx)) (fun m p s hm hl hs e => hk (.inr ⟨m, p, s, hm, hl, hs, e.symm⟩)) ?_
  obtain ⟨⟨C, fz, h1, h3, h4, h5⟩, h6⟩ := ho
  exact ⟨⟨C, fz, h1, h3, fun i v hi => let ⟨a, v', b, c⟩ := h4 i v hi; ⟨a, v', b, c.plain (hL v (List.mem_of_getElem? hi))⟩, h5⟩, h6⟩
theorem Nc.still {f : FuncId} {args : List AVal} {h : AHeap} {v : AVal} (hv : ∀ (ρ ρ' : Ren) (v' : Value), V ρ v v' → V ρ' v v') (hc : Nc P f args h.fz fun u _ => u = v) :
    Enters P f ∧ ∀ (K : Keep) (W0 : World) (ρ : Ren) (w : World) (args' : Array Value), VL ρ args args'.toList → WR P K W0 ρ h w → Calls P f args' w (CPost P K W0 ρ v h) := by
  refine ⟨hc.1, fun K W0 ρ w args' ha H => (hc.2 (fzK K ρ h) w ρ w args' ha H.freeze).mono fun e w' hp => ?_⟩
  obtain ⟨u, h', rfl, v', ρ', rfl, hle, hV, H'⟩ := hp
  exact ⟨v', ρ, rfl, Ren.le_refl _, hv _ _ _ hV, H.thaw H'⟩
theorem Nc.slice {f : FuncId} {args : List AVal} {h : AHeap} {L : List AVal} {e : TypeId} {n : Nat} {mk : AVal → AVal} (hL : ∀ v, v ∈ L → v.plain = true)
    (hmk : ∀ (ρ ρ' : Ren) (b b' : Nat) (v' : Value), (∀ s', V ρ (.slice b 0 n n false) s' → V ρ' (.slice b' 0 n n false) s') → V ρ (mk (.slice b 0 n n false)) v' → V ρ' (mk (.slice b' 0 n n false)) v')
    (hinv : ∀ (ρ : Ren) (b : Nat) (v' : Value), V ρ (mk (.slice b 0 n n false)) v' → ∃ s', V ρ (.slice b 0 n n false) s')
    (hn : 0 < n) (hc : Nc P f args h.fz fun u h' => ∃ b, u = mk (.slice b 0 n n false) ∧ h'.get b = some (.cells L e)) :
    Enters P f ∧ ∀ (K : Keep) (W0 : World) (ρ : Ren) (w : World) (args' : Array Value), VL ρ args args'.toList → WR P K W0 ρ h w → Calls P f args' w (CPost P K W0 ρ (mk (.slice h.next 0 n n false)) (h.push (.cells L e))) := by
  refine ⟨hc.1, fun K W0 ρ w args' ha H => (hc.2 (fzK K ρ h) w ρ w args' ha H.freeze).mono fun e w' hp => ?_⟩
  obtain ⟨u, h', ⟨b, rfl, hg⟩, v', ρ', rfl, hle, hV, H'⟩ := hp
  have hρ := (H.fresh h.next (Nat.le_refl _)).1
  obtain ⟨r, hr, _, _⟩ := H'.obj b _ hg trivial
  refine ⟨v', ρ.upd h.next r, rfl, Ren.le_upd _ hρ, hmk _ _ _ _ _ (fun s' hs => ?_) hV, H.take H' hr hg hL⟩
  cases hs with
  | slice h1 h2 h3 h4 =>
    rw [hr] at h1; cases h1
    exact .slice (Ren.upd_same _ _ _) h2 h3 h4
  | slice0 => omega
end
end
end Go.AX
namespace Go.AX
open Go Go.RowKit
noncomputable section
section
variable {E : Env} {fr : Fr} {h : AHeap} {Kp : AVal → AHeap → Prop} {Q : Fr → AHeap → Prop}
theorem n_op {o : COp} {d : Option Nat} {l : List COper} : wopsN E (⟨d, none, o⟩ :: l) fr h Q = woN E o fr h (bx (fun v h' => wopsN E l (putA d fr v) h' Q) .mk) := propext Iff.rfl
theorem nw_next (it : COpd) : woN E (.next it) fr h Kp = nextV (evC it fr) h Kp := propext Iff.rfl
theorem nw_mv (x : COpd) : woN E (.mv x) fr h Kp = wo E (.mv x) fr h Kp := propext Iff.rfl
theorem nw_pick (c a b : COpd) : woN E (.pick c a b) fr h Kp = wo E (.pick c a b) fr h Kp := propext Iff.rfl
theorem nw_box (t : TypeId) (x : COpd) : woN E (.box t x) fr h Kp = wo E (.box t x) fr h Kp := propext Iff.rfl
theorem nw_build (zero : List AVal) (parts : List (Nat × Nat × COpd)) : woN E (.build zero parts) fr h Kp = wo E (.build zero parts) fr h Kp := propext Iff.rfl
theorem nw_buildSlice (elem : TypeId) (len : Nat) (zero : List AVal) (parts : List (Nat × Nat × COpd)) : woN E (.buildSlice elem len zero parts) fr h Kp = wo E (.buildSlice elem len zero parts) fr h Kp := propext Iff.rfl
theorem nw_load1 (x : COpd) : woN E (.load1 x) fr h Kp = wo E (.load1 x) fr h Kp := propext Iff.rfl
theorem nw_loadN (n : Nat) (x : COpd) : woN E (.loadN n x) fr h Kp = wo E (.loadN n x) fr h Kp := propext Iff.rfl
theorem nw_store (n : Nat) (a v : COpd) : woN E (.store n a v) fr h Kp = wo E (.store n a v) fr h Kp := propext Iff.rfl
theorem nw_nilCheck (x : COpd) : woN E (.nilCheck x) fr h Kp = wo E (.nilCheck x) fr h Kp := propext Iff.rfl
theorem nw_bin (op : BinOp) (q : EqK) (x y : COpd) : woN E (.bin op q x y) fr h Kp = wo E (.bin op q x y) fr h Kp := propext Iff.rfl
theorem nw_not (x : COpd) : woN E (.not x) fr h Kp = wo E (.not x) fr h Kp := propext Iff.rfl
theorem nw_neg (x : COpd) : woN E (.neg x) fr h Kp = wo E (.neg x) fr h Kp := propext Iff.rfl
theorem nw_cInt (k : IntKind) (x : COpd) : woN E (.cInt k x) fr h Kp = wo E (.cInt k x) fr h Kp := propext Iff.rfl
theorem nw_cStr (x : COpd) : woN E (.cStr x) fr h Kp = wo E (.cStr x) fr h Kp := propext Iff.rfl
theorem nw_cStrBytes (e : TypeId) (x : COpd) : woN E (.cStrBytes e x) fr h Kp = wo E (.cStrBytes e x) fr h Kp := propext Iff.rfl
theorem nw_cBytesStr (x : COpd) : woN E (.cBytesStr x) fr h Kp = wo E (.cBytesStr x) fr h Kp := propext Iff.rfl
theorem nw_mkIface (t : TypeId) (x : COpd) : woN E (.mkIface t x) fr h Kp = wo E (.mkIface t x) fr h Kp := propext Iff.rfl
theorem nw_mkFunc (f : FuncId) (first captured : List COpd) : woN E (.mkFunc f first captured) fr h Kp = wo E (.mkFunc f first captured) fr h Kp := propext Iff.rfl
theorem nw_mkMap : woN E (.mkMap ) fr h Kp = wo E (.mkMap ) fr h Kp := propext Iff.rfl
theorem nw_mkSlice (elem : TypeId) (zero : List AVal) (bytes : Nat) (l c : COpd) : woN E (.mkSlice elem zero bytes l c) fr h Kp = wo E (.mkSlice elem zero bytes l c) fr h Kp := propext Iff.rfl
theorem nw_slStr (x : COpd) (lo hi : Option COpd) : woN E (.slStr x lo hi) fr h Kp = wo E (.slStr x lo hi) fr h Kp := propext Iff.rfl
theorem nw_slSl (elem : TypeId) (size : Nat) (x : COpd) (lo hi mx : Option COpd) : woN E (.slSl elem size x lo hi mx) fr h Kp = wo E (.slSl elem size x lo hi mx) fr h Kp := propext Iff.rfl
theorem nw_slArr (n size : Nat) (x : COpd) (lo hi : Option COpd) : woN E (.slArr n size x lo hi) fr h Kp = wo E (.slArr n size x lo hi) fr h Kp := propext Iff.rfl
theorem nw_fAddr (off : Nat) (x : COpd) : woN E (.fAddr off x) fr h Kp = wo E (.fAddr off x) fr h Kp := propext Iff.rfl
theorem nw_part1 (off : Nat) (x : COpd) : woN E (.part1 off x) fr h Kp = wo E (.part1 off x) fr h Kp := propext Iff.rfl
theorem nw_partN (off n : Nat) (x : COpd) : woN E (.partN off n x) fr h Kp = wo E (.partN off n x) fr h Kp := propext Iff.rfl
theorem nw_ixArr (len size : Nat) (x i : COpd) : woN E (.ixArr len size x i) fr h Kp = wo E (.ixArr len size x i) fr h Kp := propext Iff.rfl
theorem nw_ixSl (size : Nat) (x i : COpd) : woN E (.ixSl size x i) fr h Kp = wo E (.ixSl size x i) fr h Kp := propext Iff.rfl
theorem nw_ixV1 (len size : Nat) (x i : COpd) : woN E (.ixV1 len size x i) fr h Kp = wo E (.ixV1 len size x i) fr h Kp := propext Iff.rfl
theorem nw_ixVN (len size : Nat) (x i : COpd) : woN E (.ixVN len size x i) fr h Kp = wo E (.ixVN len size x i) fr h Kp := propext Iff.rfl
theorem nw_ixStr (x i : COpd) : woN E (.ixStr x i) fr h Kp = wo E (.ixStr x i) fr h Kp := propext Iff.rfl
theorem nw_lookup (q : KeyK) (zero : AVal) (x k : COpd) (ok : Bool) : woN E (.lookup q zero x k ok) fr h Kp = wo E (.lookup q zero x k ok) fr h Kp := propext Iff.rfl
theorem nw_mapPut (q : KeyK) (m k v : COpd) : woN E (.mapPut q m k v) fr h Kp = wo E (.mapPut q m k v) fr h Kp := propext Iff.rfl
theorem nw_mapEntry (q : KeyK) (zero : AVal) (m k : COpd) : woN E (.mapEntry q zero m k) fr h Kp = wo E (.mapEntry q zero m k) fr h Kp := propext Iff.rfl
theorem nw_entryStore (m s v : COpd) : woN E (.entryStore m s v) fr h Kp = wo E (.entryStore m s v) fr h Kp := propext Iff.rfl
theorem nw_range (x : COpd) : woN E (.range x) fr h Kp = wo E (.range x) fr h Kp := propext Iff.rfl
theorem nw_entry (it : COpd) : woN E (.entry it) fr h Kp = wo E (.entry it) fr h Kp := propext Iff.rfl
theorem nw_assert (t : TypeId) (zero : AVal) (ok : Bool) (x : COpd) : woN E (.assert t zero ok x) fr h Kp = wo E (.assert t zero ok x) fr h Kp := propext Iff.rfl
theorem nw_extract (i : Nat) (x : COpd) : woN E (.extract i x) fr h Kp = wo E (.extract i x) fr h Kp := propext Iff.rfl
theorem nw_len (s : Src) (x : COpd) : woN E (.len s x) fr h Kp = wo E (.len s x) fr h Kp := propext Iff.rfl
theorem nw_append (elem : TypeId) (size : Nat) (s x : COpd) : woN E (.append elem size s x) fr h Kp = wo E (.append elem size s x) fr h Kp := propext Iff.rfl
theorem nw_copy (size : Nat) (s x : COpd) : woN E (.copy size s x) fr h Kp = wo E (.copy size s x) fr h Kp := propext Iff.rfl
theorem nw_minmax (isMax : Bool) (l : List COpd) : woN E (.minmax isMax l) fr h Kp = wo E (.minmax isMax l) fr h Kp := propext Iff.rfl
theorem nw_sliceData (x : COpd) : woN E (.sliceData x) fr h Kp = wo E (.sliceData x) fr h Kp := propext Iff.rfl
theorem nw_unsafeStr (u : TypeId) (x n : COpd) : woN E (.unsafeStr u x n) fr h Kp = wo E (.unsafeStr u x n) fr h Kp := propext Iff.rfl
theorem nw_call (f : COpd) (args : List COpd) : woN E (.call f args) fr h Kp = wo E (.call f args) fr h Kp := propext Iff.rfl
theorem nw_invoke (recv : COpd) (name : String) (args : List COpd) : woN E (.invoke recv name args) fr h Kp = wo E (.invoke recv name args) fr h Kp := propext Iff.rfl
end
end
end Go.AX

/-
  Contracts of functions of this seat, for every input that each theorem names.
-/
import Derived.Test.YtdlebiapcceneaaGreatDoorNem2
import Derived.Test.YtdlebiapcceneaaGreatDoorNeb1
import Derived.LoopN
import Derived.Recover
import Derived.Test.YtdlebiapcceneaaGreatDoorNes1
set_option linter.unusedVariables false
set_option linter.unusedSimpArgs false
set_option linter.unusedSectionVars false
namespace Go.AX
open Go Go.Proofs
noncomputable section
set_option linter.unusedSimpArgs false
set_option linter.unusedVariables false
attribute [local go_sem] b_seq wp_skip wp_exit wp_ret wp_region b_block wops_nil b_ops b_opsg b_cond condV_lite wo_mv b_bin wo_call callV_func wo_pick b_box wo_load1 wo_loadN wo_store wo_nilCheck wo_not wo_lenStr' wo_lenSl wo_ixStr' wo_ixSl wo_fAddr wo_part1 wo_partN wo_extract wo_cInt wo_cStr wo_mkMap wo_mkIface wo_mkFunc wo_lookup pickV_bool ifT_true ifT_false b_loadV b_loadNV b_storeV nilV_ptr nilV_func nilV_iface notV_bool lenStrV_str lenSlV_nil lenSlV_slice b_ixStrV ixSlV_slice fAddrV_ptr b_part1V partNV_agg b_extractV convV_int strV_str evC_tm evC_cn T.get_set putA_some putA_none onO_some evCs_nil evCs_cons appL_nil appL_cons guardOk_true guardOk_false cellsV_bool cellsV_int cellsV_str cellsV_nilptr cellsV_ptr cellsV_nilslice cellsV_slice cellsV_nilmap cellsV_map cellsV_func cellsV_nilfunc cellsV_iface cellsV_niliface cellsV_agg bin_lss bin_gtr bin_leq bin_geq bin_eql bin_neq bin_add bin_sub bin_eqlS bin_neqS mkFrame_nil mkFrame_cons resA_one resA_two resA_three over_0 over_1 over_2 over_3 over_4 over_5 over0_nil over0_cons Option.getD_some if_true if_false AHeap.next_push AVal.bool.injEq decide_eq_true_eq decide_eq_false_iff_not Bool.not_eq_true' Bool.not_eq_false' Bool.not_eq_true decide_true decide_false Bool.not_true Bool.not_false Int.toNat_natCast Int.natCast_nonneg true_and and_true wo_mapPut wp_drawn' wsts_nil b_pure b_read b_new b_wr wor_none b_org rer_nil rer_load1 rer_loadN wo_append AHeap.next_skip AHeap.next_put' AHeap.mk_push_t AHeap.mk_eta AHeap.mk_skip ldA_skip ldN_skip Nat.add_zero Nat.zero_add b_lite_true b_lite_false eq_self_iff_true not_true_eq_false not_false_eq_true bx_k bx_q bx_x bx_1 undefA_bool putAt_push List.length_cons List.length_nil Nat.le_refl ldA_push_new ldN_push_new List.getElem?_cons_zero List.getElem?_cons_succ List.drop_zero List.drop_succ_cons List.take_succ_cons List.take_zero b_build b_buildSlice evParts_nil evParts_cons b_fillA_nil b_fillA nbeq nble natadd natmul lenL_eq repL_1 repL_2 repL_3 wo_sliceData sdV_nil sdV_slice wo_unsafeStr usV_nil wo_slStr slStrV_str evCo_none evCo_some boundA_none Bool.and_true Bool.true_and wo_minmax2' mm2V_int
theorem resultA_agg {E : Env} {h : AHeap} {fr : Fr} {a : Nat} {t : TypeId} {n b o : Nat} {l : List AVal} (hg : isAggT E t = some true) (hs : E.size t = some n) (ha : evC (.t a) fr = .ptr b o) (hl : ldN h b o n = some l) : resultA E h fr (.cell a t) = some (.agg l) := by
  show (ob (isAggT E t) fun g => ob (E.size t) fun n => onPtr (evC (.t a) fr) fun b o => onRow (h.get b) fun c _ own => ifT g (ifT (and (Nat.ble (Nat.add o n) (lenL c)) (okL own (takeL n (dropL o c)))) (some (.agg (takeL n (dropL o c)))) none) (ob (getL c o) fun v => ifT (okV own v) (some v) none)) = _
  rw [hg, hs, ha]
  show (onRow (h.get b) fun c _ own => ifT (and (Nat.ble (Nat.add o n) (lenL c)) (okL own (takeL n (dropL o c)))) (some (AVal.agg (takeL n (dropL o c)))) none) = _
  unfold ldN at hl
  cases hb : h.get b with
  | none => rw [hb] at hl; cases hl
  | some x =>
    rw [hb] at hl
    cases x <;> first | (cases hl; done) | skip
    all_goals
      rename_i c e
      first
        | (have hl' : ifT (and (Nat.ble (Nat.add o n) (lenL c)) (okL true (takeL n (dropL o c)))) (some (takeL n (dropL o c))) none = some l := hl
           show ifT (and (Nat.ble (Nat.add o n) (lenL c)) (okL true (takeL n (dropL o c)))) (some (AVal.agg (takeL n (dropL o c)))) none = _
           rw [ifT_eq] at hl' ⊢
           split at hl'
           · cases hl'; rename_i hp; rw [if_pos hp]
           · cases hl')
        | (have hl' : ifT (and (Nat.ble (Nat.add o n) (lenL c)) (okL false (takeL n (dropL o c)))) (some (takeL n (dropL o c))) none = some l := hl
           show ifT (and (Nat.ble (Nat.add o n) (lenL c)) (okL false (takeL n (dropL o c)))) (some (AVal.agg (takeL n (dropL o c)))) none = _
           rw [ifT_eq] at hl' ⊢
           split at hl'
           · cases hl'; rename_i hp; rw [if_pos hp]
           · cases hl')
theorem resultA_one {E : Env} {h : AHeap} {fr : Fr} {a : Nat} {t : TypeId} {n b o : Nat} {v : AVal} (hg : isAggT E t = some false) (hs : E.size t = some n) (ha : evC (.t a) fr = .ptr b o) (hl : ldA h b o = some v) : resultA E h fr (.cell a t) = some v := by
  show (ob (isAggT E t) fun g => ob (E.size t) fun n => onPtr (evC (.t a) fr) fun b o => onRow (h.get b) fun c _ own => ifT g (ifT (and (Nat.ble (Nat.add o n) (lenL c)) (okL own (takeL n (dropL o c)))) (some (.agg (takeL n (dropL o c)))) none) (ob (getL c o) fun v => ifT (okV own v) (some v) none)) = _
  rw [hg, hs, ha]
  exact hl
theorem resA_c1 {E : Env} {h : AHeap} {fr : Fr} {r : ResultVar} {v : AVal} {k : AVal → Prop} (hr : resultA E h fr r = some v) (hk : k v) : onO (resultsA E h fr [r]) k := by
  show onO (ob (ob (resultA E h fr r) fun v => some [v]) fun vs => match vs with
    | [v] => some v
    | vs => some (.tup vs)) k
  rw [hr]; exact hk
theorem resA_c2 {E : Env} {h : AHeap} {fr : Fr} {r q : ResultVar} {v u : AVal} {k : AVal → Prop} (hr : resultA E h fr r = some v) (hu : resultA E h fr q = some u) (hk : k (.tup [v, u])) : onO (resultsA E h fr [r, q]) k := by
  show onO (ob (ob (resultA E h fr r) fun v => ob (ob (resultA E h fr q) fun v => some [v]) fun vs => some (v :: vs)) fun vs => match vs with
    | [v] => some v
    | vs => some (.tup vs)) k
  rw [hr, hu]; exact hk
theorem agg57 : isAggT E2 57 = some true := by kernel_rfl
theorem size57 : E2.size 57 = some 2 := by kernel_rfl
theorem agg55 : isAggT E2 55 = some true := by kernel_rfl
theorem size55 : E2.size 55 = some 1 := by kernel_rfl
theorem agg22 : isAggT E2 22 = some false := by kernel_rfl
theorem size22 : E2.size 22 = some 1 := by kernel_rfl
theorem agg23 : isAggT E2 23 = some false := by kernel_rfl
theorem size23 : E2.size 23 = some 1 := by kernel_rfl
def isDig (x : Nat) : Bool := decide (48 ≤ x) && decide (x ≤ 57)
def numD (d : List Nat) : Option Int := match Lib.atoiAll (d.map Nat.toUInt8) with
  | .ok v => if 1 ≤ v ∧ v ≤ 1000 ∧ itoaL v = d then some v else none
  | _ => none
theorem numD_some {d : List Nat} {n : Int} (h : numD d = some n) : Lib.atoiAll (d.map Nat.toUInt8) = .ok n ∧ 1 ≤ n ∧ n ≤ 1000 ∧ itoaL n = d := by
  unfold numD at h
  split at h
  · rename_i v hv
    split at h
    · rename_i h2
      cases h
      exact ⟨hv, h2⟩
    · cases h
  · cases h
def pAlt (s : List Nat) (i : Nat) : Option (Alt × Nat) :=
  if s[i + (runL isL s i).length]?.getD 0 = 58 then
    (numD (runL isDig s (i + (runL isL s i).length + 1))).map fun n => ((runL isL s i, n), i + (runL isL s i).length + 1 + (runL isDig s (i + (runL isL s i).length + 1)).length)
  else some ((runL isL s i, 0), i + (runL isL s i).length)
theorem isL_hf (x : Nat) (h : AHeap) : Ec E2 23 [.int .u8 (x : Int)] h fun r h' => r = .bool (isL x) ∧ Hle h h' := (isLetter_c x h).mono fun v h' ⟨e, e2⟩ => ⟨e, e2 ▸ Hle.refl _⟩
theorem isDig_hf (x : Nat) (h : AHeap) : Ec E2 72 [.int .u8 (x : Int)] h fun r h' => r = .bool (isDig x) ∧ Hle h h' := digit_c x h
set_option maxHeartbeats 1000000 in
theorem alt_c (p : Nat) (s : List Nat) (i : Nat) (h : AHeap) (H : Par h p s i) (hi : i ≤ s.length) (hs : s.length ≤ 1073741824) (a : Alt) (j : Nat) (ha : pAlt s i = some (a, j)) :
    Ec E2 58 [.ptr p 0] h fun r h' => r = .agg [.str a.1, .int .i64 a.2] ∧ Par h' p s j ∧ Only p h h' := by
  refine Ec.of_wpb (prim2_none (by decide)) code58 ?_
  unfold c58
  have hl := runL_len isL s i
  simp only [go_sem, Nat.reduceEqDiff, Int.reduceLT, Int.reduceLE, Int.reduceEq, Nat.reduceLT, Nat.reduceAdd, Nat.reduceMul, Int.reduceToNat, Nat.reduceLeDiff, reduceCtorEq]
  refine ⟨by decide, ?_⟩
  have hle0 : Hle h (h.push (.cells [.str [], .int .i64 0] 57)) := (Hle.refl h).push _
  have hn0 : (h.push (.cells [.str [], .int .i64 0] 57)).next = h.next + 1 := rfl
  have hg0 : (h.push (.cells [.str [], .int .i64 0] 57)).get h.next = some (.cells [.str [], .int .i64 0] 57) := AHeap.get_push_same _ _
  generalize h.push (.cells [.str [], .int .i64 0] 57) = h0 at hle0 hn0 hg0 ⊢
  have hp0 := H.1
  refine (take_c 23 isL (by decide) isL_hf p s i h0 (H.mono hle0) hi (by omega)).mono ?_
  rintro r h1 ⟨rfl, hP1, hon1⟩
  have hr0 : h1.get h.next = some (.cells [.str [], .int .i64 0] 57) := (hon1.2 _ (by omega) (by omega)).trans hg0
  have hn1 := hon1.1
  simp only [go_sem, Nat.reduceEqDiff, Int.reduceLT, Int.reduceLE, Int.reduceEq, Nat.reduceLT, Nat.reduceAdd, Nat.reduceMul, Int.reduceToNat, Nat.reduceLeDiff, reduceCtorEq, hr0]
  refine ⟨by decide, ?_⟩
  have hle2 : Hle h1 (h1.push (.cells [.str (runL isL s i), .int .i64 0] 57)) := (Hle.refl h1).push _
  have hn2 : (h1.push (.cells [.str (runL isL s i), .int .i64 0] 57)).next = h1.next + 1 := rfl
  have hg2 : (h1.push (.cells [.str (runL isL s i), .int .i64 0] 57)).get h1.next = some (.cells [.str (runL isL s i), .int .i64 0] 57) := AHeap.get_push_same _ _
  generalize h1.push (.cells [.str (runL isL s i), .int .i64 0] 57) = h2 at hle2 hn2 hg2 ⊢
  have hr2 : h2.get h.next = some (.cells [.str [], .int .i64 0] 57) := (hle2.get _ (by omega)).trans hr0
  refine (peek_c p s _ h2 (hP1.mono hle2)).mono ?_
  rintro r h3 ⟨rfl, hle3⟩
  have hP3 := (hP1.mono hle2).mono hle3
  have hn3 := hle3.next
  have hr3 : h3.get h.next = some (.cells [.str [], .int .i64 0] 57) := (hle3.get _ (by omega)).trans hr2
  have hg3 : h3.get h1.next = some (.cells [.str (runL isL s i), .int .i64 0] 57) := (hle3.get _ (by omega)).trans hg2
  have hon3 : Only p h h3 := (((hle0.only (p := p)).trans hon1).trans hle2.only).trans hle3.only
  have fin : ∀ (x : Int) (h9 : AHeap) (k : Nat), Par h9 p s k → Only p h h9 → h1.next < h9.next → h9.get h.next = some (.cells [.str [], .int .i64 0] 57) → h9.get h1.next = some (.cells [.str (runL isL s i), .int .i64 x] 57) →
      ldN h9 h1.next 0 2 = some [.str (runL isL s i), .int .i64 x] ∧ ∃ h10, putAt h9 h.next 0 2 [.str (runL isL s i), .int .i64 x] = some h10 ∧ ldN h10 h.next 0 2 = some [.str (runL isL s i), .int .i64 x] ∧ Par h10 p s k ∧ Only p h h10 := by
    intro x h9 k hP hon hn hg hg1
    have hfl : ∀ y, y ∈ [AVal.str (runL isL s i), .int .i64 x] → y.flat = true := by intro y hy; simp at hy; rcases hy with rfl | rfl <;> rfl
    have hr : RowA h9 h1.next 0 [.str (runL isL s i), .int .i64 x] := RowA.of_cells (by omega) hg1 hfl
    have hp : putAt h9 h.next 0 2 [.str (runL isL s i), .int .i64 x] = some (h9.put h.next (.cells [.str (runL isL s i), .int .i64 x] 57)) := putAt_cells (o := 0) (n := 2) (vs := [.str (runL isL s i), .int .i64 x]) hg rfl (by simp)
    have hr2 : RowA (h9.put h.next (.cells [.str (runL isL s i), .int .i64 x] 57)) h.next 0 [.str (runL isL s i), .int .i64 x] := RowA.of_cells (by simp [AHeap.next_put]; omega) (AHeap.get_put_same _ _ _) hfl
    refine ⟨hr.ldN (i := 0) (n := 2) (by simp), _, hp, hr2.ldN (i := 0) (n := 2) (by simp), ⟨by simp [AHeap.next_put]; exact hP.1, ?_⟩, ⟨by simp [AHeap.next_put]; exact hon.1, fun c hc hcp => ?_⟩⟩
    · rw [AHeap.get_put_ne _ _ (by omega)]; exact hP.2
    · rw [AHeap.get_put_ne _ _ (by omega)]; exact hon.2 c hc hcp
  unfold pAlt at ha
  by_cases hc : s[i + (runL isL s i).length]?.getD 0 = 58
  · rw [if_pos hc] at ha
    rw [Option.map_eq_some_iff] at ha
    obtain ⟨n, hn, ha⟩ := ha
    cases ha
    obtain ⟨hat, hn1', hn2', hit⟩ := numD_some hn
    have hj : i + (runL isL s i).length < s.length := by
      by_cases hj : i + (runL isL s i).length < s.length
      · exact hj
      · rw [List.getElem?_eq_none (by omega)] at hc
        simp at hc
    have hcc : ((s[i + (runL isL s i).length]?.getD 0 : Nat) : Int) = 58 := by omega
    obtain ⟨h4, hput, hP4, hon4⟩ := hP3.put (i + (runL isL s i).length + 1) ((IntKind.i64).wrap (((i + (runL isL s i).length : Nat) : Int) + 1)) (by rw [wrap_i64 (by omega) (by omega)]; push_cast; omega)
    simp only [go_sem, Nat.reduceEqDiff, Int.reduceLT, Int.reduceLE, Int.reduceEq, Nat.reduceLT, Nat.reduceAdd, Nat.reduceMul, Int.reduceToNat, Nat.reduceLeDiff, reduceCtorEq, hcc, hP3.ld0, hP3.ld1, hput]
    refine ⟨by decide, ?_⟩
    refine (take_c 72 isDig (by decide) isDig_hf p s _ h4 hP4 (by omega) (by omega)).mono ?_
    rintro r h5 ⟨rfl, hP5, hon5⟩
    have hl2 := runL_len isDig s (i + (runL isL s i).length + 1)
    simp only [go_sem, Nat.reduceEqDiff, Int.reduceLT, Int.reduceLE, Int.reduceEq, Nat.reduceLT, Nat.reduceAdd, Nat.reduceMul, Int.reduceToNat, Nat.reduceLeDiff, reduceCtorEq]
    refine ⟨by decide, ?_⟩
    refine (atoi_c _ n h5 (by omega) hat).mono ?_
    rintro r h6 ⟨rfl, rfl⟩
    have hneq : binA .neq (.iface true) .niliface .niliface = some (.bool false) := rfl
    have q1 : ¬ n < 1 := by omega
    have q2 : ¬ 1000 < n := by omega
    simp only [go_sem, Nat.reduceEqDiff, Int.reduceLT, Int.reduceLE, Int.reduceEq, Nat.reduceLT, Nat.reduceAdd, Nat.reduceMul, Int.reduceToNat, Nat.reduceLeDiff, reduceCtorEq, hneq, q1, q2]
    refine ⟨by decide, ?_⟩
    refine (itoa_c n h6 (by omega) (by omega)).mono ?_
    rintro r h7 ⟨rfl, rfl⟩
    have hn6 := hon5.1
    have hn4 := hon4.1
    have hon7 := (hon3.trans hon4).trans hon5
    have hr7 : h7.get h.next = some (.cells [.str [], .int .i64 0] 57) := (hon5.2 _ (by omega) (by omega)).trans ((hon4.2 _ (by omega) (by omega)).trans hr3)
    have hg7 : h7.get h1.next = some (.cells [.str (runL isL s i), .int .i64 0] 57) := (hon5.2 _ (by omega) (by omega)).trans ((hon4.2 _ (by omega) (by omega)).trans hg3)
    have hput2 : putAt h7 h1.next 1 1 [.int .i64 n] = some (h7.put h1.next (.cells [.str (runL isL s i), .int .i64 n] 57)) := putAt_cells (o := 1) (n := 1) (vs := [.int .i64 n]) hg7 rfl (by simp)
    obtain ⟨f1, h10, f2, f3, f4, f5⟩ := fin n (h7.put h1.next (.cells [.str (runL isL s i), .int .i64 n] 57)) _ ⟨by simp [AHeap.next_put]; exact hP5.1, by rw [AHeap.get_put_ne _ _ (by have := hon1.1; omega)]; exact hP5.2⟩ ⟨by simp [AHeap.next_put]; exact hon7.1, fun c hc hcp => by rw [AHeap.get_put_ne _ _ (by omega)]; exact hon7.2 c hc hcp⟩ (by simp [AHeap.next_put]; omega) (by rw [AHeap.get_put_ne _ _ (by omega)]; exact hr7) (AHeap.get_put_same _ _ _)
    simp only [go_sem, Nat.reduceEqDiff, Int.reduceLT, Int.reduceLE, Int.reduceEq, Nat.reduceLT, Nat.reduceAdd, Nat.reduceMul, Int.reduceToNat, Nat.reduceLeDiff, reduceCtorEq, hit, hput2, f1, f2]
    exact resA_c1 (resultA_agg agg57 size57 (by simp only [go_sem, Nat.reduceEqDiff, Int.reduceLT, Int.reduceLE, Int.reduceEq, Nat.reduceLT, Nat.reduceAdd, Nat.reduceMul, Int.reduceToNat, Nat.reduceLeDiff, reduceCtorEq]) f3) ⟨rfl, f4, f5⟩
  · rw [if_neg hc] at ha
    cases ha
    have hcc : ¬ ((s[i + (runL isL s i).length]?.getD 0 : Nat) : Int) = 58 := by omega
    obtain ⟨f1, h10, f2, f3, f4, f5⟩ := fin 0 h3 _ hP3 hon3 (by omega) hr3 hg3
    simp only [go_sem, Nat.reduceEqDiff, Int.reduceLT, Int.reduceLE, Int.reduceEq, Nat.reduceLT, Nat.reduceAdd, Nat.reduceMul, Int.reduceToNat, Nat.reduceLeDiff, reduceCtorEq, hcc, f1, f2, f3]
    exact resA_c1 (resultA_agg agg57 size57 (by simp only [go_sem, Nat.reduceEqDiff, Int.reduceLT, Int.reduceLE, Int.reduceEq, Nat.reduceLT, Nat.reduceAdd, Nat.reduceMul, Int.reduceToNat, Nat.reduceLeDiff, reduceCtorEq]) f3) ⟨rfl, f4, f5⟩
end
end Go.AX
namespace Go.AX
open Go Go.Proofs
noncomputable section
def cbV (v : AVal) (h : AHeap) (K : AVal → AHeap → Prop) : Prop := onO (I.cBytesStr (.c v) .nil h) fun r => K r.1 r.2
theorem wo_cBytesStr {E : Env} {fr : Fr} {h : AHeap} {K : AVal → AHeap → Prop} {x : COpd} : wo E (.cBytesStr x) fr h K = cbV (evC x fr) h K := propext Iff.rfl
theorem cbV_one {b c : Nat} {ex : Bool} {x : Nat} {e : TypeId} {h : AHeap} {K : AVal → AHeap → Prop} (hx : x < 256) (hg : h.get b = some (.cells [.int .u8 (x : Int)] e)) : cbV (.slice b 0 1 c ex) h K = K (.str [x]) h := by
  show onO (onRow (h.get b) fun c _ _ => ifT (Nat.ble (Nat.add 0 1) (lenL c)) (ob (bytesOfA (takeL 1 (dropL 0 c))) fun l => some (AVal.str l, h)) none) (fun r => K r.1 r.2) = _
  rw [hg]
  show onO (ob (ifT (Nat.blt x 256) (some [x]) none) fun l => some (AVal.str l, h)) (fun r => K r.1 r.2) = _
  rw [ifT_eq, if_pos (by simpa [Nat.blt_eq] using hx)]
  exact propext Iff.rfl
set_option linter.unusedSimpArgs false
set_option linter.unusedVariables false
attribute [local go_sem] b_seq wp_skip wp_exit wp_ret wp_region b_block wops_nil b_ops b_opsg b_cond condV_lite wo_mv b_bin wo_call callV_func wo_pick b_box wo_load1 wo_loadN wo_store wo_nilCheck wo_not wo_lenStr' wo_lenSl wo_ixStr' wo_ixSl wo_fAddr wo_part1 wo_partN wo_extract wo_cInt wo_cStr wo_mkMap wo_mkIface wo_mkFunc wo_lookup pickV_bool ifT_true ifT_false b_loadV b_loadNV b_storeV nilV_ptr nilV_func nilV_iface notV_bool lenStrV_str lenSlV_nil lenSlV_slice b_ixStrV ixSlV_slice fAddrV_ptr b_part1V partNV_agg b_extractV convV_int strV_str evC_tm evC_cn T.get_set putA_some putA_none onO_some evCs_nil evCs_cons appL_nil appL_cons guardOk_true guardOk_false cellsV_bool cellsV_int cellsV_str cellsV_nilptr cellsV_ptr cellsV_nilslice cellsV_slice cellsV_nilmap cellsV_map cellsV_func cellsV_nilfunc cellsV_iface cellsV_niliface cellsV_agg bin_lss bin_gtr bin_leq bin_geq bin_eql bin_neq bin_add bin_sub bin_eqlS bin_neqS mkFrame_nil mkFrame_cons resA_one resA_two resA_three over_0 over_1 over_2 over_3 over_4 over_5 over0_nil over0_cons Option.getD_some if_true if_false AHeap.next_push AVal.bool.injEq decide_eq_true_eq decide_eq_false_iff_not Bool.not_eq_true' Bool.not_eq_false' Bool.not_eq_true decide_true decide_false Bool.not_true Bool.not_false Int.toNat_natCast Int.natCast_nonneg true_and and_true wo_mapPut wp_drawn' wsts_nil b_pure b_read b_new b_wr wor_none b_org rer_nil rer_load1 rer_loadN wo_append AHeap.next_skip AHeap.next_put' AHeap.mk_push_t AHeap.mk_eta AHeap.mk_skip ldA_skip ldN_skip Nat.add_zero Nat.zero_add b_lite_true b_lite_false eq_self_iff_true not_true_eq_false not_false_eq_true bx_k bx_q bx_x bx_1 undefA_bool putAt_push List.length_cons List.length_nil Nat.le_refl ldA_push_new ldN_push_new List.getElem?_cons_zero List.getElem?_cons_succ List.drop_zero List.drop_succ_cons List.take_succ_cons List.take_zero b_build b_buildSlice evParts_nil evParts_cons b_fillA_nil b_fillA nbeq nble natadd natmul lenL_eq repL_1 repL_2 repL_3 wo_sliceData sdV_nil sdV_slice wo_unsafeStr usV_nil wo_slStr slStrV_str evCo_none evCo_some boundA_none Bool.and_true Bool.true_and wo_minmax2' mm2V_int
attribute [local go_sem] wo_cBytesStr
def pAlts : Nat → List Nat → Nat → List Alt → Option (List Alt × Nat)
  | 0, _, _, _ => none
  | n + 1, s, i, acc => match pAlt s (i + 1) with
    | none => none
    | some (a, j) => if s[j]?.getD 0 = 124 then pAlts n s j (acc ++ [a]) else if s[j]?.getD 0 = 41 then some (acc ++ [a], j + 1) else none
def pCell (s : List Nat) (i : Nat) : Option (List Alt × Nat) :=
  if isL (s[i]?.getD 0) = true then some ([([s[i]?.getD 0], 0)], i + 1) else if s[i]?.getD 0 = 40 then pAlts (s.length - i) s i [] else none
theorem pAlt_pos {s : List Nat} {i j : Nat} {a : Alt} (hi : i ≤ s.length) (h : pAlt s i = some (a, j)) : i ≤ j ∧ j ≤ s.length ∧ a.1.length ≤ s.length := by
  have hl := runL_len isL s i
  unfold pAlt at h
  split at h
  · rename_i hc
    rw [Option.map_eq_some_iff] at h
    obtain ⟨n, hn, h⟩ := h
    cases h
    have hj : i + (runL isL s i).length < s.length := by
      by_cases hj : i + (runL isL s i).length < s.length
      · exact hj
      · rw [List.getElem?_eq_none (by omega)] at hc
        simp at hc
    have hl2 := runL_len isDig s (i + (runL isL s i).length + 1)
    exact ⟨by omega, by omega, by show (runL isL s i).length ≤ _; omega⟩
  · cases h
    exact ⟨by omega, by omega, by show (runL isL s i).length ≤ _; omega⟩
def CellP (p : Nat) (s : List Nat) (h : AHeap) (c : List Alt) (j : Nat) (r : AVal) (h' : AHeap) : Prop := ∃ v, r = .agg [v] ∧ AltsA h' v c ∧ Par h' p s j ∧ Only p h h' ∧ ∀ b, blkOf v b → h.next ≤ b ∧ b < h'.next
theorem BoxL.only {A : Nat → Prop} {h h' : AHeap} {b p : Nat} {l : List Alt} (H : BoxL A h b l) (hp : A p) (hon : Only p h h') : BoxL A h' b l := by
  obtain ⟨h1, h2, v, h3, h5, h6⟩ := H
  exact ⟨by have := hon.1; omega, h2, v, by rw [hon.2 b h1 (fun e => h2 (e ▸ hp))]; exact h3, h5.frame hon.1 (fun c hc => hon.2 c (h5.blk hc) (fun e => (h6 c hc).2 (e ▸ hp))), h6⟩
theorem BoxL.app2 {A : Nat → Prop} {h : AHeap} {b z : Nat} {l : List Alt} (H : BoxL A h b l) (hA : ∀ c, A c → c < h.next) (s : List Nat) (n : Int) (hm : l.length ≤ 100000000) {v : AVal} (hv : ldA h b 0 = some v) (hz : z < h.next) (hzg : h.get z = some (.cells [.str s, .int .i64 n] 57)) {K : AVal → AHeap → Prop}
    (hK : ∀ v' h' h'', cellsV v' = some [v'] → putAt h' b 0 1 [v'] = some h'' → BoxL A h'' b (l ++ [(s, n)]) → h.next ≤ h''.next → (∀ c, A c → h''.get c = h.get c) → K v' h') : appV 57 2 v (.slice z 0 1 1 true) h K := by
  obtain ⟨h1, h2, _⟩ := id H
  obtain ⟨v2, h3, hv2, _, h5, h6⟩ := H.ld
  obtain rfl : v = v2 := Option.some.inj (hv.symm.trans hv2)
  have hone : SlA h 2 (.slice z 0 1 1 true) [[.str s, .int .i64 n]] := ⟨by simp, .inr ⟨_, _, _, _, rfl, .inr (RowA.of_cells (e := 57) hz hzg (by intro x hx; simp at hx; rcases hx with rfl | rfl <;> rfl))⟩⟩
  refine appV_own h5 (srcCells_SlA hone (by simp)) (by simp) (by simp) (by omega) (by rw [altC_len]; simp; omega) ?_
  intro v' h'' ho hn hf hb
  have hgb : h''.get b = some (.cells [v] 55) := by
    rw [hf b h1 (fun hc => (h6 b hc).1 rfl)]; exact h3
  have hp : putAt h'' b 0 1 [v'] = some (h''.put b (.cells [v'] 55)) := putAt_cells (o := 0) (n := 1) (vs := [v']) hgb rfl (by simp)
  have hblk : ∀ c, blkOf v' c → c = h.next := by
    rintro c ⟨o, n, c2, e, rfl⟩
    obtain ⟨_, _, _, _, he⟩ := hb
    cases he; rfl
  refine hK v' h'' _ (cellsV_flat ho.flatV) hp ⟨by simp [AHeap.next_put]; omega, h2, v', AHeap.get_put_same _ _ _, ?_, fun c hc => ?_⟩ (by simp [AHeap.next_put]; omega) fun c hc => ?_
  · have e : ((l ++ [(s, n)]).map altC).flatten = (l.map altC).flatten ++ [[AVal.str s, AVal.int .i64 n]].flatten := by simp [altC]
    rw [e]
    exact ho.frame (by simp [AHeap.next_put]) fun c hc => AHeap.get_put_ne _ _ (fun e => by have := hblk c hc; omega)
  · have := hblk c hc
    exact ⟨by omega, fun e => by have := hA c e; omega⟩
  · have hcb : c ≠ b := fun e => h2 (e ▸ hc)
    have hcl := hA c hc
    rw [AHeap.get_put_ne _ _ (Ne.symm hcb), hf c hcl (fun hk => (h6 c hk).2 hc)]
theorem sameA_sl {u : AVal} (h : u = .nilslice ∨ ∃ b o n c e, u = .slice b o n c e) : sameA 20 u u = true := by
  rcases h with rfl | ⟨b, o, n, c, e, rfl⟩
  · rfl
  · show (and (Nat.beq b b) (and (Nat.beq o o) (and (Nat.beq n n) (and (Nat.beq c c) _)))) = true
    simp
    try (cases e <;> rfl)
set_option maxHeartbeats 1000000 in
theorem cell_l0 {Qn Qr : Fr → AHeap → Prop} {Qx : Nat → Fr → AHeap → Prop} (p : Nat) (s : List Nat) (g h0 : AHeap) (q b : Nat) (hs : s.length ≤ 2000000) (n0 i0 : Nat) (fr0 : Fr) (c : List Alt) (j : Nat) (hpg : p < g.next) (hq : g.next ≤ q) (hni : i0 < s.length) (hn0 : n0 ≤ s.length) (hpa : pAlts n0 s i0 [] = some (c, j)) (hon : Only p g h0) (hP : Par h0 p s i0) (hq2 : q < h0.next) (hqg : h0.get q = some (.cells [.nilslice] 55)) (hb : BoxL (fun x => x < g.next ∨ x = q) h0 b [])
    (t0 : fr0.get 0 = some (.ptr p 0)) (t2 : fr0.get 2 = some (.ptr q 0)) (t4 : fr0.get 4 = some (.ptr b 0))
    (hQ : ∀ fr h' v, fr.get 2 = some (.ptr q 0) → h'.get q = some (.cells [v] 55) → q < h'.next → AltsA h' v c → Par h' p s j → Only p g h' → (∀ x, blkOf v x → g.next ≤ x ∧ x < h'.next) → Qr fr h') : wp E2 (.loop c43_l0) fr0 h0 Qn Qx Qr := by
  refine b_loop (fun n fr h1 => fr.get 0 = some (.ptr p 0) ∧ fr.get 2 = some (.ptr q 0) ∧ fr.get 4 = some (.ptr b 0) ∧ ∃ i acc, i < s.length ∧ acc.length + n ≤ s.length ∧ (∀ a : Alt, a ∈ acc → a.1.length ≤ s.length) ∧ pAlts n s i acc = some (c, j) ∧ Only p g h1 ∧ Par h1 p s i ∧ q < h1.next ∧ h1.get q = some (.cells [.nilslice] 55) ∧ BoxL (fun x => x < g.next ∨ x = q) h1 b acc) n0 ?_ ?_
  · exact ⟨t0, t2, t4, i0, [], hni, by simp; omega, by simp, hpa, hon, hP, hq2, hqg, hb⟩
  clear hni hpa hon hP hq2 hqg hb t0 t2 t4
  rintro n fr h1 ⟨t0, t2, t4, i, acc, hni, hacc, hal, hpa, hon, hP, hq2, hqg, hb⟩
  match n, hpa with
  | 0, hpa => cases hpa
  | n + 1, hpa =>
    unfold pAlts at hpa
    split at hpa
    · cases hpa
    rename_i a k hak
    have hpos := pAlt_pos (by omega) hak
    obtain ⟨h2, hput, hP2, hon2⟩ := hP.put (i + 1) ((IntKind.i64).wrap ((i : Int) + 1)) (by rw [wrap_i64 (by omega) (by omega)]; push_cast; omega)
    have hb2 := hb.only (.inl hpg) hon2
    obtain ⟨u, hu0, hu, _, huo, _⟩ := hb2.ld
    have hsame : sameA 20 u u = true := sameA_sl huo.form
    have hAp : (fun x => x < g.next ∨ x = q) p := .inl hpg
    unfold c43_l0
    simp only [go_sem, Nat.reduceEqDiff, Int.reduceLT, Int.reduceLE, Int.reduceEq, Nat.reduceLT, Nat.reduceAdd, Nat.reduceMul, Int.reduceToNat, Nat.reduceLeDiff, reduceCtorEq, t0, t2, t4, hP.ld0, hP.ld1, hput, hu]
    refine ⟨by decide, ?_⟩
    refine (alt_c p s (i + 1) _ (hP2.mono ((Hle.refl h2).skip 8)) (by omega) (by omega) a k hak).mono ?_
    rintro r h3 ⟨rfl, hP3, hon3⟩
    have hon23 : Only p h2 h3 := ((((Hle.refl h2).skip 8).only)).trans hon3
    have hn3 : h2.next + 8 ≤ h3.next := hon3.1
    have hu3 : ldA h3 b 0 = some u := by
      have : h3.get b = h2.get b := hon23.2 b hb2.1 (fun e => hb2.2.1 (e ▸ hAp))
      rw [ldA_get this]; exact hu
    have hz : (h3.put (h2.next + 4) (.cells [.str a.1, .int .i64 a.2] 57)).get (h2.next + 4) = some (.cells [.str a.1, .int .i64 a.2] 57) := AHeap.get_put_same _ _ _
    have hzn : (h3.put (h2.next + 4) (.cells [.str a.1, .int .i64 a.2] 57)).next = h3.next := rfl
    have hon24 : Only p h2 (h3.put (h2.next + 4) (.cells [.str a.1, .int .i64 a.2] 57)) := ⟨by rw [hzn]; omega, fun x hx hxp => by rw [AHeap.get_put_ne _ _ (by omega)]; exact hon23.2 x hx hxp⟩
    have hP4 : Par (h3.put (h2.next + 4) (.cells [.str a.1, .int .i64 a.2] 57)) p s k := ⟨by rw [hzn]; exact hP3.1, by rw [AHeap.get_put_ne _ _ (by have := hP2.1; omega)]; exact hP3.2⟩
    simp only [go_sem, Nat.reduceEqDiff, Int.reduceLT, Int.reduceLE, Int.reduceEq, Nat.reduceLT, Nat.reduceAdd, Nat.reduceMul, Int.reduceToNat, Nat.reduceLeDiff, reduceCtorEq, t0, t2, t4, hu3]
    refine ⟨hsame, ?_⟩
    generalize h3.put (h2.next + 4) (.cells [.str a.1, .int .i64 a.2] 57) = h4 at hz hzn hon24 hP4 ⊢
    have hb4 := hb2.only hAp hon24
    have hu4 : ldA h4 b 0 = some u := by
      have : h4.get b = h2.get b := hon24.2 b hb2.1 (fun e => hb2.2.1 (e ▸ hAp))
      rw [ldA_get this]; exact hu
    have hgq : p ≠ q := by omega
    have hqn2 := hon2.1
    have hq4 : h4.get q = some (.cells [.nilslice] 55) := (hon24.2 q (by omega) (Ne.symm hgq)).trans ((hon2.2 q hq2 (Ne.symm hgq)).trans hqg)
    have hgn := hon.1
    refine hb4.app2 (fun x hx => by rcases hx with hx | rfl <;> omega) a.1 a.2 (by omega) hu4 (by omega) hz ?_
    intro v' h5 h6 hcv hput6 hb6 hn6 hg6
    have hP6 : Par h6 p s k := ⟨by have := hP4.1; omega, (hg6 p (.inl hpg)).trans hP4.2⟩
    have hon6 : Only p g h6 := ⟨by omega, fun x hx hxp => by rw [hg6 x (.inl hx), hon24.2 x (by omega) hxp, hon2.2 x (by omega) hxp]; exact hon.2 x hx hxp⟩
    have hq6 : h6.get q = some (.cells [.nilslice] 55) := (hg6 q (.inr rfl)).trans hq4
    have hal2 : ∀ y : Alt, y ∈ acc ++ [a] → y.1.length ≤ s.length := fun y hy => by
      rcases List.mem_append.1 hy with hy | hy
      · exact hal y hy
      · simp at hy; subst hy; exact hpos.2.2
    simp only [go_sem, Nat.reduceEqDiff, Int.reduceLT, Int.reduceLE, Int.reduceEq, Nat.reduceLT, Nat.reduceAdd, Nat.reduceMul, Int.reduceToNat, Nat.reduceLeDiff, reduceCtorEq, t0, t2, t4, hcv, hput6]
    refine ⟨by decide, ?_⟩
    refine (peek_c p s k h6 hP6).mono ?_
    rintro r h7 ⟨rfl, hle7⟩
    have hP7 := hP6.mono hle7
    have hn7 := hle7.next
    have hq7 : h7.get q = some (.cells [.nilslice] 55) := (hle7.get q (by omega)).trans hq6
    have hon7 := hon6.trans hle7.only
    have hb7 := hb6.mono hle7
    split at hpa
    · rename_i hc
      have hcc : ((s[k]?.getD 0 : Nat) : Int) = 124 := by omega
      have hkl : k < s.length := by
        by_cases hj : k < s.length
        · exact hj
        · rw [List.getElem?_eq_none (by omega)] at hc
          simp at hc
      simp only [go_sem, Nat.reduceEqDiff, Int.reduceLT, Int.reduceLE, Int.reduceEq, Nat.reduceLT, Nat.reduceAdd, Nat.reduceMul, Int.reduceToNat, Nat.reduceLeDiff, reduceCtorEq, t0, t2, t4, hcc]
      refine ⟨n, by omega, k, acc ++ [a], hkl, by simp; omega, hal2, hpa, hon7, hP7, by omega, hq7, hb7⟩
    · rename_i hc
      split at hpa
      · rename_i hc2
        cases hpa
        have hcc : ¬ ((s[k]?.getD 0 : Nat) : Int) = 124 := by omega
        have hcc2 : ((s[k]?.getD 0 : Nat) : Int) = 41 := by omega
        have hkl : k < s.length := by
          by_cases hj : k < s.length
          · exact hj
          · rw [List.getElem?_eq_none (by omega)] at hc2
            simp at hc2
        obtain ⟨h8, hput8, hP8, hon8⟩ := hP7.put (k + 1) ((IntKind.i64).wrap ((k : Int) + 1)) (by rw [wrap_i64 (by omega) (by omega)]; push_cast; omega)
        have hb8 := hb7.only (.inl hpg) hon8
        obtain ⟨w, _, _, hwN, hwo, hwb⟩ := hb8.ld
        have hq8 : h8.get q = some (.cells [.nilslice] 55) := (hon8.2 q (by omega) (Ne.symm hgq)).trans hq7
        have hwa := hwo.alts (fun y hy => by have := hal2 y hy; omega)
        have hput9 : putAt h8 q 0 1 [w] = some (h8.put q (.cells [w] 55)) := putAt_cells (o := 0) (n := 1) (vs := [w]) hq8 rfl (by simp)
        have hn8 := hon8.1
        simp only [go_sem, Nat.reduceEqDiff, Int.reduceLT, Int.reduceLE, Int.reduceEq, Nat.reduceLT, Nat.reduceAdd, Nat.reduceMul, Int.reduceToNat, Nat.reduceLeDiff, reduceCtorEq, t0, t2, t4, hcc, hcc2, hP7.ld0, hP7.ld1, hput8, hwN, hput9, hwa.cells]
        refine hQ _ _ w (by simp [T.get_set, t2]) (AHeap.get_put_same _ _ _) (by simp [AHeap.next_put]; omega) (hwa.keep (by simp [AHeap.next_put]) fun x hx _ => AHeap.get_put_ne _ _ (fun e => (hwb x hx).2 (.inr e.symm))) ⟨by simp [AHeap.next_put]; exact hP8.1, by rw [AHeap.get_put_ne _ _ (Ne.symm hgq)]; exact hP8.2⟩ ⟨by have := hon7.1; simp [AHeap.next_put]; omega, fun x hx hxp => ?_⟩ fun x hx => ⟨?_, ?_⟩
        · rw [AHeap.get_put_ne _ _ (by omega), hon8.2 x (by omega) hxp]
          exact hon7.2 x hx hxp
        · have := (hwb x hx).2
          omega
        · exact hwo.blk hx
      · cases hpa
set_option maxHeartbeats 1000000 in
theorem cell_c (p : Nat) (s : List Nat) (i : Nat) (h : AHeap) (H : Par h p s i) (hi : i < s.length) (hs : s.length ≤ 2000000) (c : List Alt) (j : Nat) (hc : pCell s i = some (c, j)) :
    Ec E2 43 [.ptr p 0] h fun r h' => CellP p s h c j r h' := by
  refine Ec.of_wpb (prim2_none (by decide)) code43 ?_
  unfold c43
  simp only [go_sem, Nat.reduceEqDiff, Int.reduceLT, Int.reduceLE, Int.reduceEq, Nat.reduceLT, Nat.reduceAdd, Nat.reduceMul, Int.reduceToNat, Nat.reduceLeDiff, reduceCtorEq]
  refine ⟨by decide, ?_⟩
  have hle0 : Hle h (h.push (.cells [.nilslice] 55)) := (Hle.refl h).push _
  have hn0 : (h.push (.cells [.nilslice] 55)).next = h.next + 1 := rfl
  have hg0 : (h.push (.cells [.nilslice] 55)).get h.next = some (.cells [.nilslice] 55) := AHeap.get_push_same _ _
  generalize h.push (.cells [.nilslice] 55) = h0 at hle0 hn0 hg0 ⊢
  have hp0 := H.1
  refine (peek_c p s i h0 (H.mono hle0)).mono ?_
  rintro r h1 ⟨rfl, hle1⟩
  have hle01 := hle0.trans hle1
  have hP1 := H.mono hle01
  have hn1 := hle1.next
  have hg1 : h1.get h.next = some (.cells [.nilslice] 55) := (hle1.get _ (by omega)).trans hg0
  simp only [go_sem, Nat.reduceEqDiff, Int.reduceLT, Int.reduceLE, Int.reduceEq, Nat.reduceLT, Nat.reduceAdd, Nat.reduceMul, Int.reduceToNat, Nat.reduceLeDiff, reduceCtorEq]
  refine ⟨by decide, ?_⟩
  refine (isLetter_c (s[i]?.getD 0) h1).mono ?_
  rintro r h1 ⟨rfl, rfl⟩
  unfold pCell at hc
  by_cases hlt : isL (s[i]?.getD 0) = true
  · rw [if_pos hlt] at hc
    cases hc
    have hx : s[i]?.getD 0 < 256 := by
      unfold isL at hlt
      simp at hlt
      omega
    obtain ⟨h2, hput, hP2, hon2⟩ := hP1.put (i + 1) ((IntKind.i64).wrap ((i : Int) + 1)) (by rw [wrap_i64 (by omega) (by omega)]; push_cast; omega)
    have hcb : ∀ K, cbV (.slice h2.next 0 1 1 true) (h2.push (.cells [.int .u8 ((s[i]?.getD 0 : Nat) : Int)] 5)) K = K (.str [s[i]?.getD 0]) (h2.push (.cells [.int .u8 ((s[i]?.getD 0 : Nat) : Int)] 5)) := fun K => cbV_one hx (AHeap.get_push_same _ _)
    have hn2 := hon2.1
    have hle4 : Hle h2 ((h2.push (.cells [.int .u8 ((s[i]?.getD 0 : Nat) : Int)] 5)).push (.cells [.str [s[i]?.getD 0], .int .i64 0] 57)) := ((Hle.refl h2).push _).push _
    have hn4 : ((h2.push (.cells [.int .u8 ((s[i]?.getD 0 : Nat) : Int)] 5)).push (.cells [.str [s[i]?.getD 0], .int .i64 0] 57)).next = h2.next + 2 := rfl
    have hz4 : ((h2.push (.cells [.int .u8 ((s[i]?.getD 0 : Nat) : Int)] 5)).push (.cells [.str [s[i]?.getD 0], .int .i64 0] 57)).get (h2.next + 1) = some (.cells [.str [s[i]?.getD 0], .int .i64 0] 57) := AHeap.get_push_same _ _
    have hq4 : ((h2.push (.cells [.int .u8 ((s[i]?.getD 0 : Nat) : Int)] 5)).push (.cells [.str [s[i]?.getD 0], .int .i64 0] 57)).get h.next = some (.cells [.nilslice] 55) := (hle4.get _ (by omega)).trans ((hon2.2 _ (by omega) (by omega)).trans hg1)
    simp only [go_sem, Nat.reduceEqDiff, Int.reduceLT, Int.reduceLE, Int.reduceEq, Nat.reduceLT, Nat.reduceAdd, Nat.reduceMul, Int.reduceToNat, Nat.reduceLeDiff, reduceCtorEq, hlt, hP1.ld0, hP1.ld1, hput, hcb]
    generalize (h2.push (.cells [.int .u8 ((s[i]?.getD 0 : Nat) : Int)] 5)).push (.cells [.str [s[i]?.getD 0], .int .i64 0] 57) = h4 at hle4 hn4 hz4 hq4 ⊢
    have hput9 : putAt h4 h.next 0 1 [.slice (h2.next + 1) 0 1 1 true] = some (h4.put h.next (.cells [.slice (h2.next + 1) 0 1 1 true] 55)) := putAt_cells (o := 0) (n := 1) (vs := [.slice (h2.next + 1) 0 1 1 true]) hq4 rfl (by simp)
    have hP4 := hP2.mono hle4
    have hva : AltsA (h4.put h.next (.cells [.slice (h2.next + 1) 0 1 1 true] 55)) (.slice (h2.next + 1) 0 1 1 true) [([s[i]?.getD 0], 0)] := by
      refine ⟨⟨by simp [altC], .inr ⟨_, _, _, _, rfl, .inr (RowA.of_cells (e := 57) (by simp [AHeap.next_put]; omega) ?_ ?_)⟩⟩, by simp⟩
      · rw [AHeap.get_put_ne _ _ (by omega)]; exact hz4
      · intro x hx; simp [altC] at hx; rcases hx with rfl | rfl <;> rfl
    simp only [go_sem, Nat.reduceEqDiff, Int.reduceLT, Int.reduceLE, Int.reduceEq, Nat.reduceLT, Nat.reduceAdd, Nat.reduceMul, Int.reduceToNat, Nat.reduceLeDiff, reduceCtorEq, hput9]
    have hr : RowA (h4.put h.next (.cells [.slice (h2.next + 1) 0 1 1 true] 55)) h.next 0 [.slice (h2.next + 1) 0 1 1 true] := RowA.of_cells (by simp [AHeap.next_put]; omega) (AHeap.get_put_same _ _ _) (by intro x hx; simp at hx; subst hx; rfl)
    refine resA_c1 (resultA_agg agg55 size55 (by simp only [go_sem, Nat.reduceEqDiff, Int.reduceLT, Int.reduceLE, Int.reduceEq, Nat.reduceLT, Nat.reduceAdd, Nat.reduceMul, Int.reduceToNat, Nat.reduceLeDiff, reduceCtorEq]) (hr.ldN (i := 0) (n := 1) (by simp))) ⟨_, rfl, hva, ⟨by simp [AHeap.next_put]; exact hP4.1, by rw [AHeap.get_put_ne _ _ (by omega)]; exact hP4.2⟩, ⟨by simp [AHeap.next_put]; omega, fun x hx hxp => ?_⟩, fun x hx => ?_⟩
    · rw [AHeap.get_put_ne _ _ (by omega), hle4.get x (by omega), hon2.2 x (by omega) hxp]
      exact hle01.get x hx
    · obtain ⟨_, _, _, _, hx⟩ := hx
      cases hx
      refine ⟨by omega, ?_⟩
      simp [AHeap.next_put]; omega
  · rw [if_neg hlt] at hc
    split at hc
    · rename_i h40
      have hcc : ((s[i]?.getD 0 : Nat) : Int) = 40 := by omega
      simp only [go_sem, Nat.reduceEqDiff, Int.reduceLT, Int.reduceLE, Int.reduceEq, Nat.reduceLT, Nat.reduceAdd, Nat.reduceMul, Int.reduceToNat, Nat.reduceLeDiff, reduceCtorEq, hlt, hcc]
      have hbx : BoxL (fun x => x < h.next ∨ x = h.next) (h1.push (.cells [.nilslice] 55)) h1.next [] := BoxL.new (fun e => by omega)
      refine cell_l0 p s h _ h.next h1.next hs (s.length - i) i _ c j hp0 (Nat.le_refl _) hi (by omega) hc ((hle01.push _).only) (hP1.mono ((Hle.refl _).push _)) (by simp [AHeap.next_push]; omega) (by rw [AHeap.get_push_ne _ _ (by omega)]; exact hg1) hbx (by simp [T.get_set]) (by simp [T.get_set]) (by simp [T.get_set]) ?_
      intro fr h' v u2 hg' hn' hv hP' hon' hbl
      have hr : RowA h' h.next 0 [v] := RowA.of_cells hn' hg' (by intro x hx; simp at hx; subst hx; exact hv.flat)
      exact resA_c1 (resultA_agg agg55 size55 (by simp only [go_sem, Nat.reduceEqDiff, Int.reduceLT, Int.reduceLE, Int.reduceEq, Nat.reduceLT, Nat.reduceAdd, Nat.reduceMul, Int.reduceToNat, Nat.reduceLeDiff, reduceCtorEq, u2]) (hr.ldN (i := 0) (n := 1) (by simp))) ⟨v, rfl, hv, hP', hon', hbl⟩
    · cases hc
end
end Go.AX
namespace Go.AX
open Go Go.Proofs
noncomputable section
set_option linter.unusedSimpArgs false
set_option linter.unusedVariables false
attribute [local go_sem] b_seq wp_skip wp_exit wp_ret wp_region b_block wops_nil b_ops b_opsg b_cond condV_lite wo_mv b_bin wo_call callV_func wo_pick b_box wo_load1 wo_loadN wo_store wo_nilCheck wo_not wo_lenStr' wo_lenSl wo_ixStr' wo_ixSl wo_fAddr wo_part1 wo_partN wo_extract wo_cInt wo_cStr wo_mkMap wo_mkIface wo_mkFunc wo_lookup pickV_bool ifT_true ifT_false b_loadV b_loadNV b_storeV nilV_ptr nilV_func nilV_iface notV_bool lenStrV_str lenSlV_nil lenSlV_slice b_ixStrV ixSlV_slice fAddrV_ptr b_part1V partNV_agg b_extractV convV_int strV_str evC_tm evC_cn T.get_set putA_some putA_none onO_some evCs_nil evCs_cons appL_nil appL_cons guardOk_true guardOk_false cellsV_bool cellsV_int cellsV_str cellsV_nilptr cellsV_ptr cellsV_nilslice cellsV_slice cellsV_nilmap cellsV_map cellsV_func cellsV_nilfunc cellsV_iface cellsV_niliface cellsV_agg bin_lss bin_gtr bin_leq bin_geq bin_eql bin_neq bin_add bin_sub bin_eqlS bin_neqS mkFrame_nil mkFrame_cons resA_one resA_two resA_three over_0 over_1 over_2 over_3 over_4 over_5 over0_nil over0_cons Option.getD_some if_true if_false AHeap.next_push AVal.bool.injEq decide_eq_true_eq decide_eq_false_iff_not Bool.not_eq_true' Bool.not_eq_false' Bool.not_eq_true decide_true decide_false Bool.not_true Bool.not_false Int.toNat_natCast Int.natCast_nonneg true_and and_true wo_mapPut wp_drawn' wsts_nil b_pure b_read b_new b_wr wor_none b_org rer_nil rer_load1 rer_loadN wo_append AHeap.next_skip AHeap.next_put' AHeap.mk_push_t AHeap.mk_eta AHeap.mk_skip ldA_skip ldN_skip Nat.add_zero Nat.zero_add b_lite_true b_lite_false eq_self_iff_true not_true_eq_false not_false_eq_true bx_k bx_q bx_x bx_1 undefA_bool putAt_push List.length_cons List.length_nil Nat.le_refl ldA_push_new ldN_push_new List.getElem?_cons_zero List.getElem?_cons_succ List.drop_zero List.drop_succ_cons List.take_succ_cons List.take_zero b_build b_buildSlice evParts_nil evParts_cons b_fillA_nil b_fillA nbeq nble natadd natmul lenL_eq repL_1 repL_2 repL_3 wo_sliceData sdV_nil sdV_slice wo_unsafeStr usV_nil wo_slStr slStrV_str evCo_none evCo_some boundA_none Bool.and_true Bool.true_and wo_minmax2' mm2V_int
theorem CellsA.nil (h : AHeap) : CellsA h .nilslice [] := ⟨[], ⟨by simp, .inl ⟨rfl, rfl⟩⟩, rfl, fun i x y hx => by simp at hx⟩
end
end Go.AX
namespace Go.AX
open Go Go.Proofs
noncomputable section
set_option linter.unusedSimpArgs false
set_option linter.unusedVariables false
attribute [local go_sem] b_seq wp_skip wp_exit wp_ret wp_region b_block wops_nil b_ops b_opsg b_cond condV_lite wo_mv b_bin wo_call callV_func wo_pick b_box wo_load1 wo_loadN wo_store wo_nilCheck wo_not wo_lenStr' wo_lenSl wo_ixStr' wo_ixSl wo_fAddr wo_part1 wo_partN wo_extract wo_cInt wo_cStr wo_mkMap wo_mkIface wo_mkFunc wo_lookup pickV_bool ifT_true ifT_false b_loadV b_loadNV b_storeV nilV_ptr nilV_func nilV_iface notV_bool lenStrV_str lenSlV_nil lenSlV_slice b_ixStrV ixSlV_slice fAddrV_ptr b_part1V partNV_agg b_extractV convV_int strV_str evC_tm evC_cn T.get_set putA_some putA_none onO_some evCs_nil evCs_cons appL_nil appL_cons guardOk_true guardOk_false cellsV_bool cellsV_int cellsV_str cellsV_nilptr cellsV_ptr cellsV_nilslice cellsV_slice cellsV_nilmap cellsV_map cellsV_func cellsV_nilfunc cellsV_iface cellsV_niliface cellsV_agg bin_lss bin_gtr bin_leq bin_geq bin_eql bin_neq bin_add bin_sub bin_eqlS bin_neqS mkFrame_nil mkFrame_cons resA_one resA_two resA_three over_0 over_1 over_2 over_3 over_4 over_5 over0_nil over0_cons Option.getD_some if_true if_false AHeap.next_push AVal.bool.injEq decide_eq_true_eq decide_eq_false_iff_not Bool.not_eq_true' Bool.not_eq_false' Bool.not_eq_true decide_true decide_false Bool.not_true Bool.not_false Int.toNat_natCast Int.natCast_nonneg true_and and_true wo_mapPut wp_drawn' wsts_nil b_pure b_read b_new b_wr wor_none b_org rer_nil rer_load1 rer_loadN wo_append AHeap.next_skip AHeap.next_put' AHeap.mk_push_t AHeap.mk_eta AHeap.mk_skip ldA_skip ldN_skip Nat.add_zero Nat.zero_add b_lite_true b_lite_false eq_self_iff_true not_true_eq_false not_false_eq_true bx_k bx_q bx_x bx_1 undefA_bool putAt_push List.length_cons List.length_nil Nat.le_refl ldA_push_new ldN_push_new List.getElem?_cons_zero List.getElem?_cons_succ List.drop_zero List.drop_succ_cons List.take_succ_cons List.take_zero b_build b_buildSlice evParts_nil evParts_cons b_fillA_nil b_fillA nbeq nble natadd natmul lenL_eq repL_1 repL_2 repL_3 wo_sliceData sdV_nil sdV_slice wo_unsafeStr usV_nil wo_slStr slStrV_str evCo_none evCo_some boundA_none Bool.and_true Bool.true_and wo_minmax2' mm2V_int
attribute [local go_sem] wo_cBytesStr
def pCells : Nat → List Nat → Nat → List (List Alt) → Option (Option (List (List Alt)))
  | 0, _, _, _ => some none
  | n + 1, s, i, acc => if i < s.length then (if acc.length = 32 then some none else match pCell s i with
      | none => none
      | some (c, j) => pCells n s j (acc ++ [c])) else some (some acc)
theorem pAlts_pos : ∀ (n : Nat) {s : List Nat} {i j : Nat} {acc c : List Alt}, i < s.length → pAlts n s i acc = some (c, j) → i < j ∧ j ≤ s.length
  | 0, _, _, _, _, _, _, h => by cases h
  | n + 1, s, i, j, acc, c, hi, h => by
    unfold pAlts at h
    split at h
    · cases h
    rename_i a k hak
    have hp := pAlt_pos (by omega) hak
    have hkl : s[k]?.getD 0 ≠ 0 → k < s.length := fun h0 => by
      by_cases hj : k < s.length
      · exact hj
      · rw [List.getElem?_eq_none (by omega)] at h0
        simp at h0
    split at h
    · rename_i h1
      have := pAlts_pos n (hkl (by omega)) h
      omega
    · split at h
      · rename_i h2
        cases h
        have := hkl (by omega)
        omega
      · cases h
theorem pCell_pos {s : List Nat} {i j : Nat} {c : List Alt} (hi : i < s.length) (h : pCell s i = some (c, j)) : i < j ∧ j ≤ s.length := by
  unfold pCell at h
  split at h
  · cases h; omega
  · split at h
    · exact pAlts_pos _ hi h
    · cases h
def parseE (r : Option (List (List Alt))) (s : List Nat) : Int := match r with
  | some cells => if checkE cells = 0 ∧ printS cells = s then 0 else 4
  | none => 4
def parseL (r : Option (List (List Alt))) (s : List Nat) : List (List Alt) := match r with
  | some cells => if checkE cells = 0 ∧ printS cells = s then cells else []
  | none => []
theorem OutL.only {n0 : Nat} {h h' : AHeap} {out : AVal} {done : List (List Alt)} {p : Nat} (H : OutL n0 h out done) (hp : p < n0) (hon : Only p h h') : OutL n0 h' out done := by
  obtain ⟨vs, h1, h2, h3, h4⟩ := H
  exact ⟨vs, h1.frame hon.1 (fun c hc => hon.2 c (h1.blk hc) (by have := h4 c hc; omega)), ⟨h2.1, fun i x y hx hy => (h2.2 i x y hx hy).keep hon.1 fun c hc hcl => hon.2 c hcl (by have := (h3 x (List.mem_of_getElem? hx) c hc).1; omega)⟩, (fun x hx c hc => ⟨(h3 x hx c hc).1, by have := (h3 x hx c hc).2.1; have := hon.1; omega, (h3 x hx c hc).2.2⟩), h4⟩
theorem OutL.form {n0 : Nat} {h : AHeap} {out : AVal} {done : List (List Alt)} (H : OutL n0 h out done) : out = .nilslice ∨ ∃ b o n c e, out = .slice b o n c e := by
  obtain ⟨vs, h1, _⟩ := H
  exact h1.form
def c16a : CCode := (.region [⟨some 2, none, .box 22 (.c .nilslice)⟩, ⟨some 3, none, .box 23 (.c (.int .i64 0))⟩])
def c16b : CCode :=
   (.seq
    (.region [⟨some 8, none, .mv (.t 0)⟩, ⟨some 9, none, .build [(.str []), (.int .i64 0)] [(0, 1, (.t 8))]⟩, ⟨some 10, none, .box 79 (.t 9)⟩, ⟨some 4, none, .mv (.t 10)⟩])
    (.seq
     (.block 0
      (.loop c16b_l0))
     (.seq
      (.region [⟨some 27, none, .load1 (.t 2)⟩, ⟨some 28, none, .call (.c (.func 11 [] [])) [(.t 27)]⟩, ⟨some 26, none, .mv (.t 28)⟩, ⟨some 29, none, .extract 0 (.t 26)⟩, ⟨some 30, none, .extract 1 (.t 26)⟩, ⟨some 5, none, .mv (.t 29)⟩, ⟨some 6, none, .mv (.t 30)⟩])
      (.seq
       (.seq
        (.region [⟨some 31, none, .mv (.t 6)⟩, ⟨some 32, none, .bin .neq .none (.t 31) (.c (.int .i64 0))⟩, ⟨some 33, none, .mv (.t 32)⟩, ⟨some 34, some (33, false), .mv (.t 5)⟩, ⟨some 35, some (33, false), .mv (.t 0)⟩, ⟨some 36, some (33, false), .bin .neq .none (.t 34) (.t 35)⟩, ⟨some 37, none, .pick (.t 33) (.c (.bool true)) (.t 36)⟩])
        (.cond (.t 37)
         (.seq
          (.region [⟨none, none, .store 1 (.t 2) (.c .nilslice)⟩, ⟨none, none, .store 1 (.t 3) (.c (.int .i64 4))⟩])
          .ret)
         .skip))
       (.seq
        (.region [⟨some 38, none, .load1 (.t 2)⟩, ⟨none, none, .store 1 (.t 2) (.t 38)⟩, ⟨none, none, .store 1 (.t 3) (.c (.int .i64 0))⟩])
        .ret)))))
def ResP (h0 : AHeap) (cells : List (List Alt)) (e : Int) (fr : Fr) (h' : AHeap) : Prop := ∃ v, fr.get 2 = some (.ptr h0.next 0) ∧ fr.get 3 = some (.ptr (h0.next + 1) 0) ∧ ldA h' h0.next 0 = some v ∧ ldA h' (h0.next + 1) 0 = some (.int .i64 e) ∧ CellsA h' v cells ∧ Hle h0 h'
theorem res_fin {h0 h2 : AHeap} {x : AVal} {y : Int} (e2 : h2.get h0.next = some (.cells [x] 22)) (e3 : h2.get (h0.next + 1) = some (.cells [.int .i64 y] 23)) (hle : Hle h0 h2) (hn : h0.next + 3 ≤ h2.next) (v : AVal) (e : Int) :
    putAt h2 h0.next 0 1 [v] = some (h2.put h0.next (.cells [v] 22)) ∧ putAt (h2.put h0.next (.cells [v] 22)) (h0.next + 1) 0 1 [.int .i64 e] = some ((h2.put h0.next (.cells [v] 22)).put (h0.next + 1) (.cells [.int .i64 e] 23)) ∧
    ∀ (fr : Fr) (cells : List (List Alt)), fr.get 2 = some (.ptr h0.next 0) → fr.get 3 = some (.ptr (h0.next + 1) 0) → CellsA ((h2.put h0.next (.cells [v] 22)).put (h0.next + 1) (.cells [.int .i64 e] 23)) v cells → v.flat = true → ResP h0 cells e fr ((h2.put h0.next (.cells [v] 22)).put (h0.next + 1) (.cells [.int .i64 e] 23)) := by
  refine ⟨putAt_cells (o := 0) (n := 1) (vs := [v]) e2 rfl (by simp), putAt_cells (o := 0) (n := 1) (vs := [.int .i64 e]) (show (h2.put h0.next (.cells [v] 22)).get (h0.next + 1) = some (.cells [.int .i64 y] 23) by rw [AHeap.get_put_ne _ _ (by omega)]; exact e3) rfl (by simp), fun fr cells t2 t3 hc hv => ⟨v, t2, t3, ?_, ?_, hc, ?_⟩⟩
  · have : ((h2.put h0.next (.cells [v] 22)).put (h0.next + 1) (.cells [.int .i64 e] 23)).get h0.next = some (.cells [v] 22) := by rw [AHeap.get_put_ne _ _ (by omega), AHeap.get_put_same]
    rw [ldA_cells this]; rfl
  · have : ((h2.put h0.next (.cells [v] 22)).put (h0.next + 1) (.cells [.int .i64 e] 23)).get (h0.next + 1) = some (.cells [.int .i64 e] 23) := AHeap.get_put_same _ _ _
    rw [ldA_cells this]; rfl
  · exact ⟨by simp [AHeap.next_put]; omega, fun c hc => by rw [AHeap.get_put_ne _ _ (by omega), AHeap.get_put_ne _ _ (by omega)]; exact hle.get c hc⟩
set_option maxHeartbeats 1000000 in
theorem parse_wp (s : List Nat) (h0 h : AHeap) (fr : Fr) (r : Option (List (List Alt))) (hs : s.length ≤ 2000000) (hr : pCells (s.length + 1) s 0 [] = some r) (hle : Hle h0 h) (hn : h.next = h0.next + 2) (g2 : h.get h0.next = some (.cells [.nilslice] 22)) (g3 : h.get (h0.next + 1) = some (.cells [.int .i64 0] 23))
    (t0 : fr.get 0 = some (.str s)) (t2 : fr.get 2 = some (.ptr h0.next 0)) (t3 : fr.get 3 = some (.ptr (h0.next + 1) 0)) :
    wp E2 c16b fr h (bx (ResP h0 (parseL r s) (parseE r s)) .mk) (fun _ _ _ => False) (bx (ResP h0 (parseL r s) (parseE r s)) .mk) := by
  unfold c16b
  simp only [go_sem, Nat.reduceEqDiff, Int.reduceLT, Int.reduceLE, Int.reduceEq, Nat.reduceLT, Nat.reduceAdd, Nat.reduceMul, Int.reduceToNat, Nat.reduceLeDiff, reduceCtorEq, t0, t2, t3]
  have hle0 : Hle h0 (h.push (.cells [.str s, .int .i64 0] 79)) := hle.push _
  have hn0 : (h.push (.cells [.str s, .int .i64 0] 79)).next = h0.next + 3 := by show h.next + 1 = _; omega
  have e2 : (h.push (.cells [.str s, .int .i64 0] 79)).get h0.next = some (.cells [.nilslice] 22) := by rw [AHeap.get_push_ne _ _ (by omega)]; exact g2
  have e3 : (h.push (.cells [.str s, .int .i64 0] 79)).get (h0.next + 1) = some (.cells [.int .i64 0] 23) := by rw [AHeap.get_push_ne _ _ (by omega)]; exact g3
  have eP : Par (h.push (.cells [.str s, .int .i64 0] 79)) h.next s 0 := ⟨by omega, AHeap.get_push_same _ _⟩
  generalize h.push (.cells [.str s, .int .i64 0] 79) = h1 at hle0 hn0 e2 e3 eP ⊢
  refine b_loop (fun d fr h' => fr.get 0 = some (.str s) ∧ fr.get 2 = some (.ptr h0.next 0) ∧ fr.get 3 = some (.ptr (h0.next + 1) 0) ∧ fr.get 4 = some (.ptr h.next 0) ∧ Hle h0 h' ∧ h'.get (h0.next + 1) = some (.cells [.int .i64 0] 23) ∧
    ∃ i acc out, Par h' h.next s i ∧ i ≤ s.length ∧ acc.length ≤ 32 ∧ h'.get h0.next = some (.cells [out] 22) ∧ OutL (h0.next + 3) h' out acc ∧ d + i = s.length + 1 ∧ ∃ m, s.length < i + m ∧ pCells m s i acc = some r) (s.length + 1) ?_ ?_
  · refine ⟨by simp [T.get_set, t0], by simp [T.get_set, t2], by simp [T.get_set, t3], by simp [T.get_set], hle0, e3, 0, [], .nilslice, eP, by omega, by simp, e2, OutL.nil _ _, by omega, s.length + 1, by omega, hr⟩
  clear t0 t2 t3 hr hle0 hn0 e2 e3 eP
  rintro d fr h' ⟨t0, t2, t3, t4, hle0, e3, i, acc, out, hP, hi, hacc, e2, hout, hd, m, hm, hr⟩
  have hp1 := hP.1
  have l2 : ldA h' h0.next 0 = some out := by rw [ldA_cells e2]; rfl
  have l3 : ldA h' (h0.next + 1) 0 = some (.int .i64 0) := by rw [ldA_cells e3]; rfl
  have hp2 : ∀ v, putAt h' h0.next 0 1 [v] = some (h'.put h0.next (.cells [v] 22)) := fun v => putAt_cells (o := 0) (n := 1) (vs := [v]) e2 rfl (by simp)
  match m, hm, hr with
  | 0, hm, hr => omega
  | m + 1, hm, hr =>
  unfold pCells at hr
  unfold c16b_l0
  by_cases hc : (i : Int) < (s.length : Int)
  · rw [if_pos (by omega)] at hr
    split at hr
    · rename_i h32
      cases hr
      have hlen : (acc.length : Int) = 32 := by omega
      obtain ⟨f1, f2, f3⟩ := res_fin e2 e3 hle0 (by omega) .nilslice 4
      simp only [go_sem, Nat.reduceEqDiff, Int.reduceLT, Int.reduceLE, Int.reduceEq, Nat.reduceLT, Nat.reduceAdd, Nat.reduceMul, Int.reduceToNat, Nat.reduceLeDiff, reduceCtorEq, t0, t2, t3, t4, hP.ld0, hP.ld1, hc, l2, hout.cells.len, hlen, f1, f2]
      exact f3 _ _ (by simp [T.get_set, t2]) (by simp [T.get_set, t3]) (CellsA.nil _) rfl
    · rename_i h32
      split at hr
      · cases hr
      rename_i c j hcj
      have hpos := pCell_pos (by omega) hcj
      have hlen : ¬ (acc.length : Int) = 32 := by omega
      simp only [go_sem, Nat.reduceEqDiff, Int.reduceLT, Int.reduceLE, Int.reduceEq, Nat.reduceLT, Nat.reduceAdd, Nat.reduceMul, Int.reduceToNat, Nat.reduceLeDiff, reduceCtorEq, t0, t2, t3, t4, hP.ld0, hP.ld1, hc, l2, hout.cells.len, hlen]
      refine ⟨by decide, ?_⟩
      refine (cell_c h.next s i _ (hP.mono ((Hle.refl h').skip 6)) (by omega) hs c j hcj).mono ?_
      rintro r1 h2 ⟨v, rfl, hv, hP2, hon2, hbl⟩
      have hon2' : Only h.next h' h2 := ((((Hle.refl h').skip 6).only)).trans hon2
      have hn2 : h'.next + 6 ≤ h2.next := hon2.1
      have e22 : h2.get h0.next = some (.cells [out] 22) := (hon2'.2 _ (by omega) (by omega)).trans e2
      have l22 : ldA h2 h0.next 0 = some out := by rw [ldA_cells e22]; rfl
      have hsame : sameA 20 out out = true := sameA_sl hout.form
      have hon3 : Only h.next h' (h2.put (h'.next + 3) (.cells [v] 55)) := ⟨by simp [AHeap.next_put]; omega, fun x hx hxp => by rw [AHeap.get_put_ne _ _ (by omega)]; exact hon2'.2 x hx hxp⟩
      have hz : (h2.put (h'.next + 3) (.cells [v] 55)).get (h'.next + 3) = some (.cells [v] 55) := AHeap.get_put_same _ _ _
      have hzn : (h2.put (h'.next + 3) (.cells [v] 55)).next = h2.next := rfl
      have hbl' : ∀ x, blkOf v x → h'.next + 6 ≤ x ∧ x < h2.next := hbl
      have hv3 : AltsA (h2.put (h'.next + 3) (.cells [v] 55)) v c := hv.keep (by omega) fun x hx _ => AHeap.get_put_ne _ _ (by have := (hbl' x hx).1; omega)
      have hP3 : Par (h2.put (h'.next + 3) (.cells [v] 55)) h.next s j := ⟨by rw [hzn]; exact hP2.1, by rw [AHeap.get_put_ne _ _ (by omega)]; exact hP2.2⟩
      have e23 : (h2.put (h'.next + 3) (.cells [v] 55)).get h0.next = some (.cells [out] 22) := by rw [AHeap.get_put_ne _ _ (by omega)]; exact e22
      have e33 : (h2.put (h'.next + 3) (.cells [v] 55)).get (h0.next + 1) = some (.cells [.int .i64 0] 23) := by rw [AHeap.get_put_ne _ _ (by omega)]; exact (hon2'.2 _ (by omega) (by omega)).trans e3
      have hout3 := hout.only (p := h.next) (by omega) hon3
      have hln := hle0.next
      simp only [go_sem, Nat.reduceEqDiff, Int.reduceLT, Int.reduceLE, Int.reduceEq, Nat.reduceLT, Nat.reduceAdd, Nat.reduceMul, Int.reduceToNat, Nat.reduceLeDiff, reduceCtorEq, t0, t2, t3, t4, l22, hv.cells]
      refine ⟨hsame, ?_⟩
      generalize h2.put (h'.next + 3) (.cells [v] 55) = h3 at hon3 hz hzn hv3 hP3 e23 e33 hout3 ⊢
      refine hout3.app2 (by omega) hv3 (fun x hx => ⟨by have := (hbl' x hx).1; omega, by have := (hbl' x hx).2; omega, fun hx2 => by have := hout.blk hx2; have := (hbl' x hx).1; omega⟩) (by omega) (by omega) hz ?_
      intro v' h4 hout4 hvf hn4 hg4
      have e24 : h4.get h0.next = some (.cells [out] 22) := (hg4 _ (by omega)).trans e23
      have hput4 : putAt h4 h0.next 0 1 [v'] = some (h4.put h0.next (.cells [v'] 22)) := putAt_cells (o := 0) (n := 1) (vs := [v']) e24 rfl (by simp)
      have hgl : ∀ x, x < h0.next → h4.get x = h0.get x := fun x hx => by rw [hg4 x (by omega), hon3.2 x (by omega) (by omega)]; exact hle0.get x hx
      simp only [go_sem, Nat.reduceEqDiff, Int.reduceLT, Int.reduceLE, Int.reduceEq, Nat.reduceLT, Nat.reduceAdd, Nat.reduceMul, Int.reduceToNat, Nat.reduceLeDiff, reduceCtorEq, t0, t2, t3, t4, cellsV_flat hvf, hput4]
      refine ⟨d - (j - i), by omega, ⟨by simp [AHeap.next_put]; omega, fun x hx => by rw [AHeap.get_put_ne _ _ (by omega)]; exact hgl x hx⟩, ?_, j, acc ++ [c], v', ?_, hpos.2, by simp; omega, AHeap.get_put_same _ _ _, hout4.only (p := h0.next) (by omega) ⟨by simp [AHeap.next_put], fun x _ hx => AHeap.get_put_ne _ _ (Ne.symm hx)⟩, by omega, m, by omega, hr⟩
      · rw [AHeap.get_put_ne _ _ (by omega), hg4 _ (by omega)]; exact e33
      · exact ⟨by simp [AHeap.next_put]; have := hP3.1; omega, by rw [AHeap.get_put_ne _ _ (by omega), hg4 _ (by omega)]; exact hP3.2⟩
  · rw [if_neg (by omega)] at hr
    cases hr
    simp only [go_sem, Nat.reduceEqDiff, Int.reduceLT, Int.reduceLE, Int.reduceEq, Nat.reduceLT, Nat.reduceAdd, Nat.reduceMul, Int.reduceToNat, Nat.reduceLeDiff, reduceCtorEq, t0, t2, t3, t4, hP.ld0, hP.ld1, hc, l2]
    refine ⟨by decide, ?_⟩
    refine (print_c acc out h' hout.cells).mono ?_
    rintro r1 h2 ⟨rfl, hle2⟩
    have e22 : h2.get h0.next = some (.cells [out] 22) := (hle2.get _ (by omega)).trans e2
    have e32 : h2.get (h0.next + 1) = some (.cells [.int .i64 0] 23) := (hle2.get _ (by omega)).trans e3
    have l22 : ldA h2 h0.next 0 = some out := by rw [ldA_cells e22]; rfl
    have hn2 := hle2.next
    have hout2 := hout.keep hle2
    unfold printR
    have hofl : out.flat = true := by rcases hout.form with rfl | ⟨_, _, _, _, _, rfl⟩ <;> rfl
    by_cases hE : checkE acc = 0
    · by_cases hS : printS acc = s
      · have hl : parseL (some acc) s = acc := by unfold parseL; exact if_pos ⟨hE, hS⟩
        have he : parseE (some acc) s = 0 := by unfold parseE; exact if_pos ⟨hE, hS⟩
        rw [hl, he]
        obtain ⟨f1, f2, f3⟩ := res_fin e22 e32 (hle0.trans hle2) (by omega) out 0
        simp only [go_sem, Nat.reduceEqDiff, Int.reduceLT, Int.reduceLE, Int.reduceEq, Nat.reduceLT, Nat.reduceAdd, Nat.reduceMul, Int.reduceToNat, Nat.reduceLeDiff, reduceCtorEq, t0, t2, t3, t4, hE, hS, l22, cellsV_flat hofl, f1, f2]
        refine f3 _ _ (by simp [T.get_set, t2]) (by simp [T.get_set, t3]) ?_ hofl
        exact ((hout2.only (p := h0.next) (by omega) ⟨by simp [AHeap.next_put], fun x _ hx => AHeap.get_put_ne _ _ (Ne.symm hx)⟩).only (p := h0.next + 1) (by omega) ⟨by simp [AHeap.next_put], fun x _ hx => AHeap.get_put_ne _ _ (Ne.symm hx)⟩).cells
      · have hl : parseL (some acc) s = [] := by unfold parseL; exact if_neg fun h => hS h.2
        have he : parseE (some acc) s = 4 := by unfold parseE; exact if_neg fun h => hS h.2
        rw [hl, he]
        obtain ⟨f1, f2, f3⟩ := res_fin e22 e32 (hle0.trans hle2) (by omega) .nilslice 4
        simp only [go_sem, Nat.reduceEqDiff, Int.reduceLT, Int.reduceLE, Int.reduceEq, Nat.reduceLT, Nat.reduceAdd, Nat.reduceMul, Int.reduceToNat, Nat.reduceLeDiff, reduceCtorEq, t0, t2, t3, t4, hE, hS, l22, f1, f2]
        exact f3 _ _ (by simp [T.get_set, t2]) (by simp [T.get_set, t3]) (CellsA.nil _) rfl
    · have hl : parseL (some acc) s = [] := by unfold parseL; exact if_neg fun h => hE h.1
      have he : parseE (some acc) s = 4 := by unfold parseE; exact if_neg fun h => hE h.1
      rw [hl, he]
      obtain ⟨f1, f2, f3⟩ := res_fin e22 e32 (hle0.trans hle2) (by omega) .nilslice 4
      simp only [go_sem, Nat.reduceEqDiff, Int.reduceLT, Int.reduceLE, Int.reduceEq, Nat.reduceLT, Nat.reduceAdd, Nat.reduceMul, Int.reduceToNat, Nat.reduceLeDiff, reduceCtorEq, t0, t2, t3, t4, hE, l22, f1, f2]
      exact f3 _ _ (by simp [T.get_set, t2]) (by simp [T.get_set, t3]) (CellsA.nil _) rfl
end
end Go.AX
namespace Go.AX
open Go Go.Proofs
noncomputable section
set_option linter.unusedSimpArgs false
set_option linter.unusedVariables false
attribute [local go_sem] b_seq wp_skip wp_exit wp_ret wp_region b_block wops_nil b_ops b_opsg b_cond condV_lite wo_mv b_bin wo_call callV_func wo_pick b_box wo_load1 wo_loadN wo_store wo_nilCheck wo_not wo_lenStr' wo_lenSl wo_ixStr' wo_ixSl wo_fAddr wo_part1 wo_partN wo_extract wo_cInt wo_cStr wo_mkMap wo_mkIface wo_mkFunc wo_lookup pickV_bool ifT_true ifT_false b_loadV b_loadNV b_storeV nilV_ptr nilV_func nilV_iface notV_bool lenStrV_str lenSlV_nil lenSlV_slice b_ixStrV ixSlV_slice fAddrV_ptr b_part1V partNV_agg b_extractV convV_int strV_str evC_tm evC_cn T.get_set putA_some putA_none onO_some evCs_nil evCs_cons appL_nil appL_cons guardOk_true guardOk_false cellsV_bool cellsV_int cellsV_str cellsV_nilptr cellsV_ptr cellsV_nilslice cellsV_slice cellsV_nilmap cellsV_map cellsV_func cellsV_nilfunc cellsV_iface cellsV_niliface cellsV_agg bin_lss bin_gtr bin_leq bin_geq bin_eql bin_neq bin_add bin_sub bin_eqlS bin_neqS mkFrame_nil mkFrame_cons resA_one resA_two resA_three over_0 over_1 over_2 over_3 over_4 over_5 over0_nil over0_cons Option.getD_some if_true if_false AHeap.next_push AVal.bool.injEq decide_eq_true_eq decide_eq_false_iff_not Bool.not_eq_true' Bool.not_eq_false' Bool.not_eq_true decide_true decide_false Bool.not_true Bool.not_false Int.toNat_natCast Int.natCast_nonneg true_and and_true wo_mapPut wp_drawn' wsts_nil b_pure b_read b_new b_wr wor_none b_org rer_nil rer_load1 rer_loadN wo_append AHeap.next_skip AHeap.next_put' AHeap.mk_push_t AHeap.mk_eta AHeap.mk_skip ldA_skip ldN_skip Nat.add_zero Nat.zero_add b_lite_true b_lite_false eq_self_iff_true not_true_eq_false not_false_eq_true bx_k bx_q bx_x bx_1 undefA_bool putAt_push List.length_cons List.length_nil Nat.le_refl ldA_push_new ldN_push_new List.getElem?_cons_zero List.getElem?_cons_succ List.drop_zero List.drop_succ_cons List.take_succ_cons List.take_zero b_build b_buildSlice evParts_nil evParts_cons b_fillA_nil b_fillA nbeq nble natadd natmul lenL_eq repL_1 repL_2 repL_3 wo_sliceData sdV_nil sdV_slice wo_unsafeStr usV_nil wo_slStr slStrV_str evCo_none evCo_some boundA_none Bool.and_true Bool.true_and wo_minmax2' mm2V_int
theorem code16a : cCode E2 39 ((E2.plans.get 16).getD []) (seqA c16) = some c16a := by kernel_rfl
theorem code16b : cCode E2 39 ((E2.plans.get 16).getD []) (seqB (seqB c16)) = some c16b := by kernel_rfl
theorem res16 : Tryz.f16.results.toList = [.cell 2 22, .cell 3 23] := by kernel_rfl
def EvP (args : List AVal) (h : AHeap) (p : AVal × AHeap) : Prop := ∃ N, ∀ m n, N ≤ m → N ≤ n → parseR E2 (callN E2 m n) m args h = some p
theorem parse_ev (s : List Nat) (h : AHeap) (r : Option (List (List Alt))) (hs : s.length ≤ 2000000) (hr : pCells (s.length + 1) s 0 [] = some r) :
    ∃ v h', EvP [.str s] h (.tup [v, .int .i64 (parseE r s)], h') ∧ CellsA h' v (parseL r s) ∧ Hle h h' := by
  have w1 : wp E2 c16a (mkFrame [.str s] 0 .nil) h (bx (fun fr h1 => fr.get 0 = some (.str s) ∧ fr.get 2 = some (.ptr h.next 0) ∧ fr.get 3 = some (.ptr (h.next + 1) 0) ∧ Hle h h1 ∧ h1.next = h.next + 2 ∧ h1.get h.next = some (.cells [.nilslice] 22) ∧ h1.get (h.next + 1) = some (.cells [.int .i64 0] 23)) .mk) (fun _ _ _ => False) (fun _ _ => False) := by
    unfold c16a
    simp only [go_sem, Nat.reduceEqDiff, Int.reduceLT, Int.reduceLE, Int.reduceEq, Nat.reduceLT, Nat.reduceAdd, Nat.reduceMul, Int.reduceToNat, Nat.reduceLeDiff, reduceCtorEq]
    refine ⟨((Hle.refl h).push _).push _, ?_, AHeap.get_push_same _ _⟩
    rw [AHeap.get_push_ne _ _ (by simp [AHeap.next_push])]
    exact AHeap.get_push_same _ _
  obtain ⟨⟨e1, fr1, h1⟩, ⟨N1, hN1⟩, hq1⟩ := wp_W w1
  cases e1 with
  | exit id => exact hq1.elim
  | ret => exact hq1.elim
  | normal =>
  obtain ⟨t0, t2, t3, hle, hn, g2, g3⟩ := hq1
  have w2 := parse_wp s h h1 (fr1.set 7 (.func 42 [] [.ptr h.next 0, .ptr (h.next + 1) 0])) r hs hr hle hn g2 g3 (by simp [T.get_set, t0]) (by simp [T.get_set, t2]) (by simp [T.get_set, t3])
  obtain ⟨⟨e2, fr2, h2⟩, ⟨N2, hN2⟩, hq2⟩ := wp_W w2
  have hE : ∀ m n, N1 + N2 ≤ m → N1 + N2 ≤ n → parseR E2 (callN E2 m n) m [.str s] h = doRet E2 [.cell 2 22, .cell 3 23] ⟨e2, fr2, h2⟩ := by
    intro m n hm hn
    unfold parseR
    rw [code16a, code16b]
    show (ob (exec E2 (callN E2 m n) m c16a (mkFrame [.str s] 0 .nil) h) fun o0 => @AExit.rec (fun _ => R)
      (onPtr (evC (.t 2) o0.fr) fun b2 i2 => onPtr (evC (.t 3) o0.fr) fun b3 i3 =>
        ob (exec E2 (callN E2 m n) m c16b (o0.fr.set 7 (.func 42 [] [.ptr b2 i2, .ptr b3 i3])) o0.h) fun o2 => doRet E2 Tryz.f16.results.toList o2)
      (fun _ => none) none o0.e) = _
    rw [hN1 m n (by omega) (by omega), res16]
    show (onPtr (evC (.t 2) fr1) fun b2 i2 => onPtr (evC (.t 3) fr1) fun b3 i3 =>
        ob (exec E2 (callN E2 m n) m c16b (fr1.set 7 (.func 42 [] [.ptr b2 i2, .ptr b3 i3])) h1) fun o2 => doRet E2 [.cell 2 22, .cell 3 23] o2) = _
    have x2 : evC (.t 2) fr1 = .ptr h.next 0 := by rw [evC_t, t2]; rfl
    have x3 : evC (.t 3) fr1 = .ptr (h.next + 1) 0 := by rw [evC_t, t3]; rfl
    rw [x2, x3]
    show (ob (exec E2 (callN E2 m n) m c16b (fr1.set 7 (.func 42 [] [.ptr h.next 0, .ptr (h.next + 1) 0])) h1) fun o2 => doRet E2 [.cell 2 22, .cell 3 23] o2) = _
    rw [hN2 m n (by omega) (by omega)]
  have hres : ResP h (parseL r s) (parseE r s) fr2 h2 → ∃ v h', EvP [.str s] h (.tup [v, .int .i64 (parseE r s)], h') ∧ CellsA h' v (parseL r s) ∧ Hle h h' := by
    rintro ⟨v, t2, t3, l2, l3, hc, hle⟩
    have hd : e2 = .normal ∨ e2 = .ret → doRet E2 [.cell 2 22, .cell 3 23] ⟨e2, fr2, h2⟩ = some (.tup [v, .int .i64 (parseE r s)], h2) := by
      have a2 : resultA E2 h2 fr2 (.cell 2 22) = some v := resultA_one agg22 size22 (by rw [evC_t, t2]; rfl) l2
      have a3 : resultA E2 h2 fr2 (.cell 3 23) = some (.int .i64 (parseE r s)) := resultA_one agg23 size23 (by rw [evC_t, t3]; rfl) l3
      have hr : resultsA E2 h2 fr2 [.cell 2 22, .cell 3 23] = some (.tup [v, .int .i64 (parseE r s)]) := by
        show (ob (ob (resultA E2 h2 fr2 (.cell 2 22)) fun v => ob (ob (resultA E2 h2 fr2 (.cell 3 23)) fun v => some [v]) fun vs => some (v :: vs)) fun vs => match vs with
          | [v] => some v
          | vs => some (.tup vs)) = _
        rw [a2, a3]
      rintro (rfl | rfl)
      · show (ob (resultsA E2 h2 fr2 [.cell 2 22, .cell 3 23]) fun v => some (v, h2)) = _
        rw [hr]
      · show (ob (resultsA E2 h2 fr2 [.cell 2 22, .cell 3 23]) fun v => some (v, h2)) = _
        rw [hr]
    refine ⟨v, h2, ⟨N1 + N2, fun m n hm hn => ?_⟩, hc, hle⟩
    rw [hE m n hm hn, hd]
    cases e2 with
    | exit id => exact hq2.elim
    | ret => exact .inr rfl
    | normal => exact .inl rfl
  cases e2 with
  | exit id => exact hq2.elim
  | ret => exact hres hq2
  | normal => exact hres hq2
theorem EvP.inj {args : List AVal} {h : AHeap} {p q : AVal × AHeap} (hp : EvP args h p) (hq : EvP args h q) : p = q := by
  obtain ⟨N, hN⟩ := hp
  obtain ⟨M, hM⟩ := hq
  exact Option.some.inj ((hN (N + M) (N + M) (by omega) (by omega)).symm.trans (hM (N + M) (N + M) (by omega) (by omega)))
theorem Ev.inj {E : Env} {f : FuncId} {args : List AVal} {h : AHeap} {v w : AVal} {h1 h2 : AHeap} (hp : Ev E f args h v h1) (hq : Ev E f args h w h2) : v = w ∧ h1 = h2 := by
  obtain ⟨N, hN⟩ := hp
  obtain ⟨M, hM⟩ := hq
  have := Option.some.inj ((hN (N + M) (N + M) (by omega) (by omega)).symm.trans (hM (N + M) (N + M) (by omega) (by omega)))
  exact ⟨congrArg Prod.fst this, congrArg Prod.snd this⟩
def ecP (f : FuncId) (args : List AVal) (h : AHeap) : R := open Classical in if H : ∃ p : AVal × AHeap, Ev E2 f args h p.1 p.2 then some H.choose else none
theorem ecP_ok (f : FuncId) : PrimOK f (.fn (ecP f)) := by
  intro args h v h' hp
  have hp' : ecP f args h = some (v, h') := hp
  unfold ecP at hp'
  split at hp'
  · rename_i H
    have hv := H.choose_spec
    rw [Option.some.inj hp'] at hv
    obtain ⟨N, hN⟩ := hv
    exact call2 N N f args h v h' (hN N N (Nat.le_refl _) (Nat.le_refl _))
  · cases hp'
end
end Go.AX
namespace Go.AX
open Go Go.Proofs Go.RowKit
noncomputable section
def failV : Value := .iface 75 (.agg #[])
def chain1 : List PanicEntry := [{ v := failV, recovered := false }]
def PQ (Pf : Fr → Prop) (K : Keep) (W0 : World) (ρ : Ren) (ds : List Deferred) (h' : AHeap) (e : Exit) (a : Act) (w : World) : Prop :=
  e = .panic chain1 ∧ a.defers = ds ∧ ∃ ρ', ρ.le ρ' ∧ WR Tryz.prog K W0 ρ' h' w ∧ ∃ fr', Pf fr' ∧ FR ρ' fr' a.tmps
def PanC1 (f : FuncId) (args : List AVal) (h h' : AHeap) : Prop :=
  Enters Tryz.prog f ∧ ∀ (K : Keep) (W0 : World) (ρ : Ren) (w : World) (args' : Array Value), VL ρ args args'.toList → WR Tryz.prog K W0 ρ h w → Calls Tryz.prog f args' w fun e w' => e = .panicked chain1 ∧ ∃ ρ', ρ.le ρ' ∧ WR Tryz.prog K W0 ρ' h' w'
def PanC (f : FuncId) (args : List AVal) (h : AHeap) (Ph : AHeap → Prop) : Prop := ∃ h', Ph h' ∧ PanC1 f args h h'
def PanK1 (Pf : Fr → Prop) (nt : Nat) (c : Code) (fr : Fr) (h h' : AHeap) : Prop :=
  ∀ (K : Keep) (W0 : World) (ρ : Ren) (w : World) (a : Act), nt ≤ a.tmps.size → FR ρ fr a.tmps → WR Tryz.prog K W0 ρ h w → c.wp Tryz.prog (PQ Pf K W0 ρ a.defers h') a w
def PanK (nt : Nat) (c : Code) (fr : Fr) (h : AHeap) (Ph : AHeap → Prop) (Pf : Fr → Prop := fun _ => True) : Prop := ∃ h', Ph h' ∧ PanK1 Pf nt c fr h h'
section
variable {nt : Nat} {pl : List (Nat × List Nat)} {x y : Code} {cx : CCode} {fr : Fr} {h : AHeap} {Ph : AHeap → Prop} {Pf : Fr → Prop}
theorem PanC.mono {f : FuncId} {args : List AVal} {Ph' : AHeap → Prop} (H : PanC f args h Ph) (hp : ∀ h', Ph h' → Ph' h') : PanC f args h Ph' := by
  obtain ⟨h', h1, h2⟩ := H
  exact ⟨h', hp h' h1, h2⟩
theorem PQ.le {K : Keep} {W0 : World} {ρ ρ' : Ren} {ds ds' : List Deferred} {h' : AHeap} {e : Exit} {a : Act} {w : World} (hle : ρ.le ρ') (hd : ds' = ds) (H : PQ Pf K W0 ρ' ds' h' e a w) : PQ Pf K W0 ρ ds h' e a w := by
  obtain ⟨h1, h2, ρ2, h4, h5⟩ := H
  exact ⟨h1, h2.trans hd, ρ2, Ren.le_trans hle h4, h5⟩
theorem PanK.seq1 (H : PanK nt x fr h Ph Pf) : PanK nt (.seq x y) fr h Ph Pf := by
  obtain ⟨h', hp, H⟩ := H
  refine ⟨h', hp, fun K W0 ρ w a hn hf hw => ?_⟩
  refine Go.wp_seq (Go.wp_mono (H K W0 ρ w a hn hf hw) fun e a' w' hq => ?_)
  obtain ⟨rfl, _⟩ := id hq
  exact hq
theorem PanK.seq2 (hc : cCode E2 nt pl x = some cx) (hw : wp E2 cx fr h (fun fr h => PanK nt y fr h Ph Pf) (fun _ _ _ => False) (fun _ _ => False)) : PanK nt (.seq x y) fr h Ph Pf := by
  obtain ⟨⟨e, fr1, h1⟩, ⟨N, hN⟩, hq⟩ := wp_W hw
  cases e with
  | exit id => exact hq.elim
  | ret => exact hq.elim
  | normal =>
    obtain ⟨h', hp, hq⟩ := hq
    refine ⟨h', hp, fun K W0 ρ w a hn hf hW => ?_⟩
    refine Go.wp_seq (Go.wp_mono (exec_sound env2 (call2 N N) (drawnS env2 (call2 N N)) N x hc hn hf hW (hN N N (Nat.le_refl _) (Nat.le_refl _))) fun e a' w' hx => ?_)
    obtain ⟨ρ1, k1, k2, k3⟩ := hx.rest
    have he : e = .normal := hx.e
    subst he
    exact Go.wp_mono (hq K W0 ρ1 w' a' hx.size k2 k3) fun e a2 w2 hp => hp.le k1 hx.defers
theorem PanK.block {id : Nat} (H : PanK nt x fr h Ph Pf) : PanK nt (.block id x) fr h Ph Pf := by
  obtain ⟨h', hp, H⟩ := H
  refine ⟨h', hp, fun K W0 ρ w a hn hf hw => ?_⟩
  refine Go.wp_block (Go.wp_mono (H K W0 ρ w a hn hf hw) fun e a' w' hq => ?_)
  obtain ⟨rfl, _⟩ := _root_.id hq
  exact hq
theorem PanK.cond {c : Operand} {cc : COpd} {b : Bool} (hc : cO c = some cc) (hb : evC cc fr = .bool b) (H : PanK nt (if b = true then x else y) fr h Ph Pf) : PanK nt (.cond c x y) fr h Ph Pf := by
  obtain ⟨h', hp, H⟩ := H
  refine ⟨h', hp, fun K W0 ρ w a hn hf hw => ?_⟩
  have hv := ev_sound hf hc
  rw [hb] at hv
  exact Go.wp_cond hv.bool_inv (H K W0 ρ w a hn hf hw)
theorem PanK.loop (hc : cCode E2 nt pl x = some cx) (Inv : Nat → Fr → AHeap → Prop) (hs : ∀ n fr h, Inv n fr h → PanK nt x fr h Ph Pf ∨ wp E2 cx fr h (fun fr h => ∃ m, m < n ∧ Inv m fr h) (fun _ _ _ => False) (fun _ _ => False))
    (n : Nat) (h0 : Inv n fr h) : PanK nt (.loop x) fr h Ph Pf := by
  have key : ∀ (N n : Nat) (fr : Fr) (h : AHeap), n < N → Inv n fr h → ∃ h', Ph h' ∧ ∀ (K : Keep) (W0 : World) (ρ0 ρ1 : Ren) (ds : List Deferred) (w1 : World) (a1 : Act), nt ≤ a1.tmps.size → FR ρ1 fr a1.tmps → WR Tryz.prog K W0 ρ1 h w1 → ρ0.le ρ1 → a1.defers = ds → Code.rounds Tryz.prog x (PQ Pf K W0 ρ0 ds h') N a1 w1 := by
    intro N
    induction N with
    | zero => intro n fr h hlt; omega
    | succ N ih =>
      intro n fr h hlt hi
      rcases hs n fr h hi with ⟨h', hp, H⟩ | hp
      · refine ⟨h', hp, fun K W0 ρ0 ρ1 ds w1 a1 hn1 hf1 hw1 hle1 hd1 => ?_⟩
        rw [rounds_succ]
        refine Go.wp_mono (H K W0 ρ1 w1 a1 hn1 hf1 hw1) fun e a' w' hq => ?_
        have hq2 := hq.le hle1 hd1
        obtain ⟨rfl, _⟩ := id hq2
        exact hq2
      · obtain ⟨⟨e, fr1, h1⟩, ⟨M, hM⟩, hq⟩ := wp_W hp
        cases e with
        | exit id => exact hq.elim
        | ret => exact hq.elim
        | normal =>
          obtain ⟨m, hm, him⟩ := hq
          obtain ⟨h', hp', H⟩ := ih m fr1 h1 (by omega) him
          refine ⟨h', hp', fun K W0 ρ0 ρ1 ds w1 a1 hn1 hf1 hw1 hle1 hd1 => ?_⟩
          rw [rounds_succ]
          refine Go.wp_mono (exec_sound env2 (call2 M M) (drawnS env2 (call2 M M)) M x hc hn1 hf1 hw1 (hM M M (Nat.le_refl _) (Nat.le_refl _))) fun e a' w' hx => ?_
          obtain ⟨ρ2, k1, k2, k3⟩ := hx.rest
          have he : e = .normal := hx.e
          subst he
          exact H K W0 ρ0 ρ2 ds w' a' hx.size k2 k3 (Ren.le_trans hle1 k1) (hx.defers.trans hd1)
  obtain ⟨h', hp, H⟩ := key (n + 1) n fr h (by omega) h0
  exact ⟨h', hp, fun K W0 ρ w a hn hf hw => wp_loop_rounds (n + 1) (H K W0 ρ ρ a.defers w a hn hf hw (Ren.le_refl _) rfl)⟩
theorem PanC.of_code {f : FuncId} {fn : Func} {c : Code} {args : List AVal} (hf : Tryz.prog.funcs[f]? = some fn) (hb : fn.body = some c) (he : Enters Tryz.prog f) (hk : PanK fn.ntmps c (mkFrame args 0 .nil) h Ph Pf) : PanC f args h Ph := by
  obtain ⟨h', hp, hk⟩ := hk
  refine ⟨h', hp, he, fun K W0 ρ w args' hargs hw => ?_⟩
  refine calls_of_wp hf hb (Go.wp_mono (hk K W0 ρ w _ (by simp; omega) (mkFrame_FR hargs _) hw) fun e a w' hq => ?_)
  obtain ⟨rfl, hd, ρ', h2, h3, _⟩ := hq
  exact ⟨hd, rfl, ρ', h2, h3⟩
end
end
end Go.AX
namespace Go.AX
open Go Go.Proofs Go.RowKit
noncomputable section
theorem runOps_then {callf : CallF} (hcall : CallS Tryz.prog callf) {nt : Nat} {ops : Array Oper} {K : Keep} {W0 : World} {Q : Exit → Act → World → Prop} {rest : List Nat} : ∀ (l : List COper) (is : List Nat), is.mapM (fun i => (ops[i]?).bind (cOper E2 nt ops)) = some l →
    ∀ {ρ : Ren} {fr : Fr} {h : AHeap} {w : World} {a : Act} {fr' : Fr} {h' : AHeap}, nt ≤ a.tmps.size → FR ρ fr a.tmps → WR Tryz.prog K W0 ρ h w → runOps E2 callf l fr h = some (fr', h') →
      (∀ (a' : Act) (w' : World) (ρ' : Ren), nt ≤ a'.tmps.size → a'.defers = a.defers → ρ.le ρ' → FR ρ' fr' a'.tmps → WR Tryz.prog K W0 ρ' h' w' → wpOps Tryz.prog ops Q rest a' w') → wpOps Tryz.prog ops Q (is ++ rest) a w := by
  intro l
  induction l with
  | nil =>
    intro is his ρ fr h w a fr' h' hn hf H hs hk
    cases is with
    | nil =>
      simp only [runOps, Option.some.injEq, Prod.mk.injEq] at hs
      obtain ⟨rfl, rfl⟩ := hs
      exact hk a w ρ hn rfl (Ren.le_refl _) hf H
    | cons i is =>
      simp only [List.mapM_cons, Option.bind_eq_bind, Option.bind_eq_some_iff] at his
      obtain ⟨_, _, _, _, h3⟩ := his
      cases h3
  | cons c l ih =>
    intro is his ρ fr h w a fr' h' hn hf H hs hk
    cases is with
    | nil => simp at his
    | cons i is =>
      simp only [List.mapM_cons, Option.bind_eq_bind, Option.bind_eq_some_iff] at his
      obtain ⟨co, ⟨o, ho, hc⟩, l', h2, h3⟩ := his
      cases h3
      have hs' : (ob (runOp E2 callf c fr h) fun r => runOps E2 callf l (putA c.dst fr r.1) r.2) = some (fr', h') := hs
      rw [ob_some] at hs'
      obtain ⟨⟨v, h1⟩, hr, hs'⟩ := hs'
      obtain ⟨hdst, hd, _⟩ := cOper_inv hc
      rw [List.cons_append, wpOps_cons]
      refine runOp_sound env2 hcall ho hc hf H hr fun v' w' ρ' k1 k2 k3 => ?_
      have hf' : FR ρ' (putA c.dst fr v) (a.put o.dst v').tmps := by rw [hdst]; exact FR.put (hf.mono k1) hd hn k2
      refine ih is h2 (a := a.put o.dst v') (by rw [put_size]; exact hn) hf' k3 hs' fun a' w2 ρ2 m1 m2 m3 m4 m5 => ?_
      exact hk a' w2 ρ2 m1 (m2.trans (by cases o.dst <;> rfl)) (Ren.le_trans k1 m3) m4 m5
theorem nilA {ρ : Ren} (l : Array Value) (h : VL ρ [] l.toList) : l = #[] := by
  obtain ⟨l'⟩ := l
  have h' : VL ρ [] l' := h
  cases h'
  rfl
theorem PanK.region {nt id n : Nat} {ops : Array Oper} {l : List COper} {o : Oper} {x : Operand} {cx : COpd} {fr : Fr} {h : AHeap} {Ph : AHeap → Prop} (hsz : ops.size = n + 1) (hl : (List.range n).mapM (fun i => (ops[i]?).bind (cOper E2 nt ops)) = some l)
    (ho : ops[n]? = some o) (hp : o.op = .panic x) (hg : o.guard = none) (hx : cO x = some cx) (hw : wops E2 l fr h fun fr h => evC cx fr = .iface 75 (.agg []) ∧ Ph h) : PanK nt (.region id ops false) fr h Ph := by
  obtain ⟨fr', h', ⟨N, hN⟩, hv, hph⟩ := (wops_WO hw).ops
  refine ⟨h', hph, fun K W0 ρ w a hn hf hW => ?_⟩
  refine Go.wp_region ?_
  rw [hsz, List.range_succ]
  refine runOps_then (call2 N N) l (List.range n) hl hn hf hW (hN N N (Nat.le_refl _) (Nat.le_refl _)) fun a' w' ρ' m1 m2 m3 m4 m5 => ?_
  have v := ev_sound m4 hx
  rw [hv] at v
  have hv2 : a'.eval x = failV := by
    generalize a'.eval x = y at v ⊢
    cases v with
    | iface hx => cases hx with
      | agg h1 h2 => first | (rw [nilA _ h1]; rfl) | (rw [nilA _ h2]; rfl)
  unfold wpOps
  rw [ho]
  simp only
  rw [if_pos (by unfold Region.wanted; rw [hg])]
  left
  unfold Oper.wp
  have : (execOp a'.eval o).run Tryz.prog w' = .halt (.panic failV) w' := by
    unfold execOp
    simp only [hp]
    generalize a'.eval x = y at hv2 ⊢
    subst hv2
    simp [failV, go_sem]
  rw [this]
  exact ⟨rfl, m2, ρ', m3, m5, fr', trivial, m4⟩
end
end Go.AX
namespace Go.AX
open Go Go.Proofs Go.RowKit
noncomputable section
noncomputable def b42 : Code := Tryz.f42.body.getD .skip
def saved : FrameMode := .panicking [{ v := failV, recovered := true }]
theorem parse1_saves (p q : Addr) (w : World) (R : Ending → FrameMode → World → Prop)
    (h : (seqB b42).wp Tryz.prog (fun e a w' => (e = .normal ∨ e = .ret) ∧ a.defers = [] ∧ R (.returned (.tuple #[])) saved w') { tmps := #[Value.pointer (some p), Value.pointer (some q)] ++ ((Array.replicate 14 undef).setIfInBounds 3 failV).setIfInBounds 0 failV, defers := [] } w) :
    CallsD Tryz.prog 42 #[.pointer (some p), .pointer (some q)] (.panicking chain1) w R := by
  refine callsD_of_wpS Tryz.func42 rfl fun c₀ cs hu => ?_
  apply wpS_seq
  apply wpS_region
  simp [wpOpsS, go_sem, recoverD, hu, chain1, Tryz.ntmps42, Exit.thenS]
  refine wpS_of_wp (c := seqB b42) (Go.wp_mono h fun e a w' hq => ?_)
  obtain ⟨he, hd, hR⟩ := hq
  have hres : (results Tryz.f42 a.tmps).run Tryz.prog w' = .ok (.tuple #[]) w' := by
    simp [results, Tryz.results42]
  rcases he with rfl | rfl
  · exact ⟨hd, saved, rfl, .tuple #[], hres, hR⟩
  · exact ⟨hd, saved, rfl, .tuple #[], hres, hR⟩
end
end Go.AX
namespace Go.AX
open Go Go.Proofs
def c42x : CCode :=
 (.seq
  (.region [⟨some 5, none, .bad⟩, ⟨some 2, none, .mv (.t 5)⟩])
  (.seq
   (.region [⟨some 6, none, .mv (.t 2)⟩, ⟨some 7, none, .bin .neq (.iface true) (.t 6) (.c .niliface)⟩])
   (.cond (.t 7)
    (.seq
     (.seq
      (.region [⟨some 9, none, .mv (.t 2)⟩, ⟨some 10, none, .assert 75 (.agg []) true (.t 9)⟩, ⟨some 8, none, .mv (.t 10)⟩, ⟨some 11, none, .extract 0 (.t 8)⟩, ⟨some 12, none, .extract 1 (.t 8)⟩, ⟨some 3, none, .box 75 (.c (.agg []))⟩, ⟨none, none, .store 0 (.t 3) (.t 11)⟩, ⟨some 4, none, .mv (.t 12)⟩])
      (.seq
       (.region [⟨some 13, none, .mv (.t 4)⟩, ⟨some 14, none, .not (.t 13)⟩])
       (.cond (.t 14)
        (.region [⟨some 15, none, .mv (.t 2)⟩, ⟨none, none, .bad⟩])
        .skip)))
     (.region [⟨none, none, .store 1 (.t 0) (.c .nilslice)⟩, ⟨none, none, .store 1 (.t 1) (.c (.int .i64 4))⟩]))
    .skip)))
end Go.AX
namespace Go.AX
open Go Go.Proofs
noncomputable section
def asV (t : TypeId) (z : AVal) (ok : Bool) (v : AVal) (h : AHeap) (K : AVal → AHeap → Prop) : Prop := onO (I.assert t z ok (.c v) .nil h) fun r => K r.1 r.2
theorem wo_assert {E : Env} {fr : Fr} {h : AHeap} {K : AVal → AHeap → Prop} {t : TypeId} {z : AVal} {ok : Bool} {x : COpd} : wo E (.assert t z ok x) fr h K = asV t z ok (evC x fr) h K := propext Iff.rfl
theorem asV_same {h : AHeap} {K : AVal → AHeap → Prop} {t : TypeId} {z v : AVal} : asV t z true (.iface t v) h K = K (.tup [v, .bool true]) h := by
  show onO (ifT (Nat.beq t t) (some (AVal.tup [v, .bool true], h)) _) (fun r => K r.1 r.2) = _
  rw [ifT_eq, if_pos (by simp)]
  exact propext Iff.rfl
set_option linter.unusedSimpArgs false
set_option linter.unusedVariables false
attribute [local go_sem] b_seq wp_skip wp_exit wp_ret wp_region b_block wops_nil b_ops b_opsg b_cond condV_lite wo_mv b_bin wo_call callV_func wo_pick b_box wo_load1 wo_loadN wo_store wo_nilCheck wo_not wo_lenStr' wo_lenSl wo_ixStr' wo_ixSl wo_fAddr wo_part1 wo_partN wo_extract wo_cInt wo_cStr wo_mkMap wo_mkIface wo_mkFunc wo_lookup pickV_bool ifT_true ifT_false b_loadV b_loadNV b_storeV nilV_ptr nilV_func nilV_iface notV_bool lenStrV_str lenSlV_nil lenSlV_slice b_ixStrV ixSlV_slice fAddrV_ptr b_part1V partNV_agg b_extractV convV_int strV_str evC_tm evC_cn T.get_set putA_some putA_none onO_some evCs_nil evCs_cons appL_nil appL_cons guardOk_true guardOk_false cellsV_bool cellsV_int cellsV_str cellsV_nilptr cellsV_ptr cellsV_nilslice cellsV_slice cellsV_nilmap cellsV_map cellsV_func cellsV_nilfunc cellsV_iface cellsV_niliface cellsV_agg bin_lss bin_gtr bin_leq bin_geq bin_eql bin_neq bin_add bin_sub bin_eqlS bin_neqS mkFrame_nil mkFrame_cons resA_one resA_two resA_three over_0 over_1 over_2 over_3 over_4 over_5 over0_nil over0_cons Option.getD_some if_true if_false AHeap.next_push AVal.bool.injEq decide_eq_true_eq decide_eq_false_iff_not Bool.not_eq_true' Bool.not_eq_false' Bool.not_eq_true decide_true decide_false Bool.not_true Bool.not_false Int.toNat_natCast Int.natCast_nonneg true_and and_true wo_mapPut wp_drawn' wsts_nil b_pure b_read b_new b_wr wor_none b_org rer_nil rer_load1 rer_loadN wo_append AHeap.next_skip AHeap.next_put' AHeap.mk_push_t AHeap.mk_eta AHeap.mk_skip ldA_skip ldN_skip Nat.add_zero Nat.zero_add b_lite_true b_lite_false eq_self_iff_true not_true_eq_false not_false_eq_true bx_k bx_q bx_x bx_1 undefA_bool putAt_push List.length_cons List.length_nil Nat.le_refl ldA_push_new ldN_push_new List.getElem?_cons_zero List.getElem?_cons_succ List.drop_zero List.drop_succ_cons List.take_succ_cons List.take_zero b_build b_buildSlice evParts_nil evParts_cons b_fillA_nil b_fillA nbeq nble natadd natmul lenL_eq repL_1 repL_2 repL_3 wo_sliceData sdV_nil sdV_slice wo_unsafeStr usV_nil wo_slStr slStrV_str evCo_none evCo_some boundA_none Bool.and_true Bool.true_and wo_minmax2' mm2V_int
attribute [local go_sem] wo_assert asV_same
def cB2 : CCode → CCode | .seq _ b => b | c => c
theorem k42b : cCode E2 16 ((E2.plans.get 42).getD []) (seqB b42) = some (cB2 c42x) := by kernel_rfl
theorem close_wp (h0 h : AHeap) (x : AVal) (y : Int) (fr : Fr) (hle : Hle h0 h) (hn : h0.next + 3 ≤ h.next) (e2 : h.get h0.next = some (.cells [x] 22)) (e3 : h.get (h0.next + 1) = some (.cells [.int .i64 y] 23))
    (t0 : fr.get 0 = some (.ptr h0.next 0)) (t1 : fr.get 1 = some (.ptr (h0.next + 1) 0)) (t2 : fr.get 2 = some (.iface 75 (.agg []))) :
    wp E2 (cB2 c42x) fr h (fun _ h' => ldA h' h0.next 0 = some .nilslice ∧ ldA h' (h0.next + 1) 0 = some (.int .i64 4) ∧ Hle h0 h') (fun _ _ _ => False) (fun _ _ => False) := by
  unfold c42x
  simp only [cB2]
  have hneq : binA .neq (.iface true) (.iface 75 (.agg [])) .niliface = some (.bool true) := rfl
  simp only [go_sem, Nat.reduceEqDiff, Int.reduceLT, Int.reduceLE, Int.reduceEq, Nat.reduceLT, Nat.reduceAdd, Nat.reduceMul, Int.reduceToNat, Nat.reduceLeDiff, reduceCtorEq, t0, t1, t2, hneq]
  have hn1 : (h.push (.cells [] 75)).next = h.next + 1 := rfl
  have hle1 : Hle h0 (h.push (.cells [] 75)) := hle.push _
  have e21 : (h.push (.cells [] 75)).get h0.next = some (.cells [x] 22) := by rw [AHeap.get_push_ne _ _ (by omega)]; exact e2
  have e31 : (h.push (.cells [] 75)).get (h0.next + 1) = some (.cells [.int .i64 y] 23) := by rw [AHeap.get_push_ne _ _ (by omega)]; exact e3
  generalize h.push (.cells [] 75) = h1 at hn1 hle1 e21 e31 ⊢
  obtain ⟨f1, f2, _⟩ := res_fin e21 e31 hle1 (by omega) .nilslice 4
  simp only [go_sem, Nat.reduceEqDiff, Int.reduceLT, Int.reduceLE, Int.reduceEq, Nat.reduceLT, Nat.reduceAdd, Nat.reduceMul, Int.reduceToNat, Nat.reduceLeDiff, reduceCtorEq, t0, t1, t2, f1, f2]
  refine ⟨?_, ?_, ⟨by simp [AHeap.next_put]; omega, fun c hc => ?_⟩⟩
  · have : ((h1.put h0.next (.cells [.nilslice] 22)).put (h0.next + 1) (.cells [.int .i64 4] 23)).get h0.next = some (.cells [.nilslice] 22) := by rw [AHeap.get_put_ne _ _ (by omega), AHeap.get_put_same]
    rw [ldA_cells this]; rfl
  · have : ((h1.put h0.next (.cells [.nilslice] 22)).put (h0.next + 1) (.cells [.int .i64 4] 23)).get (h0.next + 1) = some (.cells [.int .i64 4] 23) := AHeap.get_put_same _ _ _
    rw [ldA_cells this]; rfl
  · rw [AHeap.get_put_ne _ _ (by omega), AHeap.get_put_ne _ _ (by omega)]; exact hle1.get c hc
end
end Go.AX
namespace Go.AX
open Go Go.Proofs Go.RowKit
noncomputable section
theorem op_wp {nt : Nat} {ops : Array Oper} {i : Nat} {co : COper} {K : Keep} {W0 : World} {ρ : Ren} {fr : Fr} {h : AHeap} {w : World} {a : Act} {Q : Exit → Act → World → Prop} {next : Act → World → Prop} {R : Fr → AHeap → Prop}
    (hc : (ops[i]?).bind (cOper E2 nt ops) = some co) (hn : nt ≤ a.tmps.size) (hf : FR ρ fr a.tmps) (H : WR Tryz.prog K W0 ρ h w) (hw : wops E2 [co] fr h R)
    (hk : ∀ (fr' : Fr) (h' : AHeap) (a' : Act) (w' : World) (ρ' : Ren), R fr' h' → ρ.le ρ' → nt ≤ a'.tmps.size → a'.defers = a.defers → FR ρ' fr' a'.tmps → WR Tryz.prog K W0 ρ' h' w' → next a' w') : wpOp Tryz.prog ops Q i next a w := by
  rw [Option.bind_eq_some_iff] at hc
  obtain ⟨o, ho, hc⟩ := hc
  obtain ⟨fr', h', ⟨N, hN⟩, hr⟩ := (wops_WO hw).ops
  have hs : (ob (runOp E2 (callN E2 N N) co fr h) fun r => runOps E2 (callN E2 N N) [] (putA co.dst fr r.1) r.2) = some (fr', h') := hN N N (Nat.le_refl _) (Nat.le_refl _)
  rw [ob_some] at hs
  obtain ⟨⟨v, h1⟩, hrun, hs⟩ := hs
  simp only [runOps, Option.some.injEq, Prod.mk.injEq] at hs
  obtain ⟨rfl, rfl⟩ := hs
  obtain ⟨hdst, hd, _⟩ := cOper_inv hc
  refine runOp_sound env2 (call2 N N) ho hc hf H hrun fun v' w' ρ' k1 k2 k3 => ?_
  exact hk _ _ _ w' ρ' hr k1 (by rw [put_size]; exact hn) (by cases o.dst <;> rfl) (by rw [hdst]; exact FR.put (hf.mono k1) hd hn k2) k3
theorem call_pan {nt : Nat} {ops : Array Oper} {i : Nat} {d : Option Nat} {g : FuncId} {xs : List COpd} {K : Keep} {W0 : World} {ρ ρ0 : Ren} {fr : Fr} {h : AHeap} {w : World} {a : Act} {ds : List Deferred} {h' : AHeap} {Pf : Fr → Prop} {next : Act → World → Prop}
    (hc : (ops[i]?).bind (cOper E2 nt ops) = some ⟨d, none, .call (.c (.func g [] [])) xs⟩) (hg : g < 1000000000) (hf : FR ρ fr a.tmps) (H : WR Tryz.prog K W0 ρ h w) (hle : ρ0.le ρ) (hds : a.defers = ds) (hp : PanC1 g (evCs xs fr) h h') (hPf : Pf fr) : wpOp Tryz.prog ops (PQ Pf K W0 ρ0 ds h') i next a w := by
  rw [Option.bind_eq_some_iff] at hc
  obtain ⟨o, ho, hc⟩ := hc
  obtain ⟨hdst, hd, hop⟩ := cOper_inv hc
  have hgu := guard_eq hc hf
  have hop2 : cOp E2 o.op = some (.call (.c (.func g [] [])) xs) := by
    cases hco : cOp E2 o.op with
    | none => rw [hco] at hop; cases hop
    | some c => rw [hco] at hop; rw [← show COp.call (.c (.func g [] [])) xs = c from hop]
  obtain ⟨c, x, hoc, hcal, hcx, hcs⟩ := cOp_call_inv hop2
  have vx := ev_sound hf hcx
  have va := evs_sound hf hcs
  rw [show evC (.c (.func g [] [])) fr = .func g [] [] from rfl] at vx
  obtain ⟨first', cap', ex, v1, v2⟩ := vx.func_inv (by simpa [Nat.blt_eq] using hg)
  obtain ⟨hent, hcalls⟩ := hp
  unfold wpOp
  simp only [ho]
  rw [if_pos (by rw [← hgu]; rfl)]
  left
  unfold Oper.wp
  have hx : (execOp a.eval o).run Tryz.prog w = .ok (.enter g (first' ++ c.args.map a.eval ++ cap')) w := by
    unfold execOp
    rw [hoc]
    simp only [resolve, hcal, ex, Deferred.ofValue, Sem.run_bind, Sem.run_pure, Result.andThen_ok, invoke]
    exact run_callFunc hent _
  rw [hx, Oper.upon_enter]
  refine Calls.mono (hcalls K W0 ρ w _ (by simp only [Array.toList_append, List.append_assoc]; simpa using v1.append (va.append v2)) H) fun e w' he => ?_
  obtain ⟨rfl, ρ', h2, h3⟩ := he
  exact ⟨rfl, hds, ρ', Ren.le_trans hle h2, h3, fr, hPf, hf.mono h2⟩
end
end Go.AX

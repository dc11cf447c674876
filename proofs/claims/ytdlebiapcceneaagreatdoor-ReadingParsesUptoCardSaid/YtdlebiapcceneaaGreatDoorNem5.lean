/-
  Contracts of functions of this seat, for every input that each theorem names.
-/
import Derived.Test.YtdlebiapcceneaaGreatDoorNem4
import Derived.Test.YtdlebiapcceneaaGreatDoorNem2
set_option linter.unusedVariables false
set_option linter.unusedSimpArgs false
set_option linter.unusedSectionVars false
namespace Go.AX
open Go Go.Proofs
noncomputable section
set_option linter.unusedSimpArgs false
set_option linter.unusedVariables false
attribute [local go_sem] b_seq wp_skip wp_exit wp_ret wp_region b_block wops_nil b_ops b_opsg b_cond condV_lite wo_mv b_bin wo_call callV_func wo_pick b_box wo_load1 wo_loadN wo_store wo_nilCheck wo_not wo_lenStr' wo_lenSl wo_ixStr' wo_ixSl wo_fAddr wo_part1 wo_partN wo_extract wo_cInt wo_cStr wo_mkMap wo_mkIface wo_mkFunc wo_lookup pickV_bool ifT_true ifT_false b_loadV b_loadNV b_storeV nilV_ptr nilV_func nilV_iface notV_bool lenStrV_str lenSlV_nil lenSlV_slice b_ixStrV ixSlV_slice fAddrV_ptr b_part1V partNV_agg b_extractV convV_int strV_str evC_tm evC_cn T.get_set putA_some putA_none onO_some evCs_nil evCs_cons appL_nil appL_cons guardOk_true guardOk_false cellsV_bool cellsV_int cellsV_str cellsV_nilptr cellsV_ptr cellsV_nilslice cellsV_slice cellsV_nilmap cellsV_map cellsV_func cellsV_nilfunc cellsV_iface cellsV_niliface cellsV_agg bin_lss bin_gtr bin_leq bin_geq bin_eql bin_neq bin_add bin_sub bin_eqlS bin_neqS mkFrame_nil mkFrame_cons resA_one resA_two resA_three over_0 over_1 over_2 over_3 over_4 over_5 over0_nil over0_cons Option.getD_some if_true if_false AHeap.next_push AVal.bool.injEq decide_eq_true_eq decide_eq_false_iff_not Bool.not_eq_true' Bool.not_eq_false' Bool.not_eq_true decide_true decide_false Bool.not_true Bool.not_false Int.toNat_natCast Int.natCast_nonneg true_and and_true wo_mapPut wp_drawn' wsts_nil b_pure b_read b_new b_wr wor_none b_org rer_nil rer_load1 rer_loadN wo_append AHeap.next_skip AHeap.next_put' AHeap.mk_push_t AHeap.mk_eta AHeap.mk_skip ldA_skip ldN_skip Nat.add_zero Nat.zero_add b_lite_true b_lite_false eq_self_iff_true not_true_eq_false not_false_eq_true bx_k bx_q bx_x bx_1 undefA_bool putAt_push List.length_cons List.length_nil Nat.le_refl ldA_push_new ldN_push_new List.getElem?_cons_zero List.getElem?_cons_succ List.drop_zero List.drop_succ_cons List.take_succ_cons List.take_zero b_build b_buildSlice evParts_nil evParts_cons b_fillA_nil b_fillA nbeq nble natadd natmul lenL_eq repL_1 repL_2 repL_3 wo_sliceData sdV_nil sdV_slice wo_unsafeStr usV_nil wo_slStr slStrV_str evCo_none evCo_some boundA_none Bool.and_true Bool.true_and wo_minmax2' mm2V_int
theorem bin_mul {q : EqK} {k : IntKind} {a b : Int} : binA .mul q (.int k a) (.int k b) = some (.int k (k.wrap (a * b))) := by
  cases k <;> (show some (AVal.int _ (wrapI _ (Int.mul a b))) = _; rw [wrapI_eq]; rfl)
attribute [local go_sem] bin_mul
def valR (s : List Nat) : Nat → Int
  | 0 => 0
  | k + 1 => valR s k * 10 + ((s[k]?.getD 0 : Nat) - 48 : Int)
def numR (s : List Nat) : Int := if s.length < 1 ∨ 4 < s.length ∨ s[0]?.getD 0 = 48 then -1 else if s.all isDig = true then valR s s.length else -1
theorem isDig_at {s : List Nat} {k x : Nat} (hx : s[k]? = some x) (h : isDig x = true) : 48 ≤ x ∧ x ≤ 57 := by unfold isDig at h; simpa using h
theorem valR_bound {s : List Nat} : ∀ {k : Nat}, k ≤ 4 → k ≤ s.length → (s.take k).all isDig = true → 0 ≤ valR s k ∧ valR s k ≤ (if k = 0 then 0 else if k = 1 then 9 else if k = 2 then 99 else if k = 3 then 999 else 9999)
  | 0, _, _, _ => by simp [valR]
  | k + 1, hk, hl, hd => by
    obtain ⟨x, hx⟩ : ∃ x, s[k]? = some x := ⟨_, List.getElem?_eq_getElem (by omega)⟩
    rw [List.take_add_one, hx, List.all_append, Bool.and_eq_true] at hd
    have ih := valR_bound (by omega) (by omega) hd.1
    have h2 : isDig x = true := by simpa using hd.2
    have h3 := isDig_at hx h2
    unfold valR
    rw [hx]
    simp only [Option.getD_some]
    have hk2 : k = 0 ∨ k = 1 ∨ k = 2 ∨ k = 3 := by omega
    rcases hk2 with rfl | rfl | rfl | rfl <;> simp at ih ⊢ <;> omega
set_option maxHeartbeats 1000000 in
theorem number_c (s : List Nat) (h : AHeap) (hs : s.length ≤ 2000000) : Ec E2 74 [.str s] h fun r h' => r = .int .i64 (numR s) ∧ Hle h h' := by
  refine Ec.of_wpb (prim2_none (by decide)) code74 ?_
  unfold c74
  by_cases h1 : (s.length : Int) < 1
  · have : numR s = -1 := if_pos (.inl (by omega))
    rw [this]
    simp only [go_sem, Nat.reduceEqDiff, Int.reduceLT, Int.reduceLE, Int.reduceEq, Nat.reduceLT, Nat.reduceAdd, Nat.reduceMul, Int.reduceToNat, Nat.reduceLeDiff, reduceCtorEq, h1]
    exact Hle.refl h
  by_cases h2 : (4 : Int) < (s.length : Int)
  · have : numR s = -1 := if_pos (.inr (.inl (by omega)))
    rw [this]
    simp only [go_sem, Nat.reduceEqDiff, Int.reduceLT, Int.reduceLE, Int.reduceEq, Nat.reduceLT, Nat.reduceAdd, Nat.reduceMul, Int.reduceToNat, Nat.reduceLeDiff, reduceCtorEq, h1, h2]
    exact Hle.refl h
  obtain ⟨y, hy⟩ : ∃ x, s[0]? = some x := ⟨_, List.getElem?_eq_getElem (by omega)⟩
  have hy0 : s[Int.toNat 0]? = some y := hy
  by_cases h3 : (y : Int) = 48
  · have : numR s = -1 := if_pos (.inr (.inr (by rw [hy]; simp; omega)))
    rw [this]
    simp only [go_sem, Nat.reduceEqDiff, Int.reduceLT, Int.reduceLE, Int.reduceEq, Nat.reduceLT, Nat.reduceAdd, Nat.reduceMul, Int.reduceToNat, Nat.reduceLeDiff, reduceCtorEq, h1, h2, hy0, hy, h3]
    exact Hle.refl h
  have hno : ¬ (s.length < 1 ∨ 4 < s.length ∨ s[0]?.getD 0 = 48) := by
    intro h
    rcases h with h | h | h
    · omega
    · omega
    · rw [hy] at h; simp at h; omega
  simp only [go_sem, Nat.reduceEqDiff, Int.reduceLT, Int.reduceLE, Int.reduceEq, Nat.reduceLT, Nat.reduceAdd, Nat.reduceMul, Int.reduceToNat, Nat.reduceLeDiff, reduceCtorEq, h1, h2, hy0, hy, h3]
  refine b_loop (fun d fr h' => Hle h h' ∧ fr.get 0 = some (.str s) ∧ ∃ k : Nat, fr.get 4 = some (.int .i64 (k : Int)) ∧ d + k = s.length ∧ (s.take k).all isDig = true ∧ fr.get 3 = some (.int .i64 (valR s k))) s.length ?_ ?_
  · exact ⟨Hle.refl h, by simp [T.get_set], 0, by simp [T.get_set], by omega, by simp, by simp [T.get_set, valR]⟩
  rintro d fr h' ⟨hle, t0, k, t4, hd, hall, t3⟩
  unfold c74_l0
  by_cases hc : (k : Int) < (s.length : Int)
  · obtain ⟨x, hx⟩ : ∃ x, s[k]? = some x := ⟨_, List.getElem?_eq_getElem (by omega)⟩
    have hdig : s.all isDig = true → isDig x = true := fun h => List.all_eq_true.1 h x (List.mem_of_getElem? hx)
    by_cases q1 : (x : Int) < 48
    · have : numR s = -1 := by
        unfold numR
        rw [if_neg hno, if_neg]
        intro h4
        have := isDig_at hx (hdig h4)
        omega
      rw [this]
      simp only [go_sem, Nat.reduceEqDiff, Int.reduceLT, Int.reduceLE, Int.reduceEq, Nat.reduceLT, Nat.reduceAdd, Nat.reduceMul, Int.reduceToNat, Nat.reduceLeDiff, reduceCtorEq, t0, t3, t4, hc, hx, q1]
      exact hle
    by_cases q2 : (57 : Int) < (x : Int)
    · have : numR s = -1 := by
        unfold numR
        rw [if_neg hno, if_neg]
        intro h4
        have := isDig_at hx (hdig h4)
        omega
      rw [this]
      simp only [go_sem, Nat.reduceEqDiff, Int.reduceLT, Int.reduceLE, Int.reduceEq, Nat.reduceLT, Nat.reduceAdd, Nat.reduceMul, Int.reduceToNat, Nat.reduceLeDiff, reduceCtorEq, t0, t3, t4, hc, hx, q1, q2]
      exact hle
    have hb := valR_bound (by omega) (by omega) hall
    have hb2 : valR s k ≤ 9999 := by
      have := hb.2
      split at this
      · omega
      · split at this
        · omega
        · split at this
          · omega
          · split at this <;> omega
    have hw1 : IntKind.u8.wrap ((x : Int) - 48) = (x : Int) - 48 := by
      unfold IntKind.wrap
      simp [IntKind.signed, IntKind.bits]
      omega
    have hw2 : IntKind.i64.wrap ((x : Int) - 48) = (x : Int) - 48 := wrap_i64 (by omega) (by omega)
    have hw3 : IntKind.i64.wrap (valR s k * 10) = valR s k * 10 := wrap_i64 (by omega) (by omega)
    have hw4 : IntKind.i64.wrap (valR s k * 10 + ((x : Int) - 48)) = valR s (k + 1) := by
      rw [wrap_i64 (by omega) (by omega)]
      show _ = valR s k * 10 + _
      rw [hx]; rfl
    have hw5 : IntKind.i64.wrap ((k : Int) + 1) = ((k + 1 : Nat) : Int) := by rw [wrap_i64 (by omega) (by omega)]; push_cast; rfl
    simp only [go_sem, Nat.reduceEqDiff, Int.reduceLT, Int.reduceLE, Int.reduceEq, Nat.reduceLT, Nat.reduceAdd, Nat.reduceMul, Int.reduceToNat, Nat.reduceLeDiff, reduceCtorEq, t0, t3, t4, hc, hx, q1, q2, hw1, hw2, hw3, hw4, hw5]
    refine ⟨d - 1, by omega, hle, k + 1, rfl, by omega, ?_, rfl⟩
    rw [List.take_add_one, hx, List.all_append, hall]
    have e1 : 48 ≤ x := by omega
    have e2 : x ≤ 57 := by omega
    simp [isDig, e1, e2]
  · simp only [go_sem, Nat.reduceEqDiff, Int.reduceLT, Int.reduceLE, Int.reduceEq, Nat.reduceLT, Nat.reduceAdd, Nat.reduceMul, Int.reduceToNat, Nat.reduceLeDiff, reduceCtorEq, t0, t3, t4, hc]
    have hk : k = s.length := by omega
    subst hk
    rw [List.take_length] at hall
    refine ⟨?_, hle⟩
    unfold numR
    rw [if_neg hno, if_pos hall]
end
end Go.AX
namespace Go.AX
open Go Go.Proofs
noncomputable section
set_option linter.unusedSimpArgs false
set_option linter.unusedVariables false
attribute [local go_sem] b_seq wp_skip wp_exit wp_ret wp_region b_block wops_nil b_ops b_opsg b_cond condV_lite wo_mv b_bin wo_call callV_func wo_pick b_box wo_load1 wo_loadN wo_store wo_nilCheck wo_not wo_lenStr' wo_lenSl wo_ixStr' wo_ixSl wo_fAddr wo_part1 wo_partN wo_extract wo_cInt wo_cStr wo_mkMap wo_mkIface wo_mkFunc wo_lookup pickV_bool ifT_true ifT_false b_loadV b_loadNV b_storeV nilV_ptr nilV_func nilV_iface notV_bool lenStrV_str lenSlV_nil lenSlV_slice b_ixStrV ixSlV_slice fAddrV_ptr b_part1V partNV_agg b_extractV convV_int strV_str evC_tm evC_cn T.get_set putA_some putA_none onO_some evCs_nil evCs_cons appL_nil appL_cons guardOk_true guardOk_false cellsV_bool cellsV_int cellsV_str cellsV_nilptr cellsV_ptr cellsV_nilslice cellsV_slice cellsV_nilmap cellsV_map cellsV_func cellsV_nilfunc cellsV_iface cellsV_niliface cellsV_agg bin_lss bin_gtr bin_leq bin_geq bin_eql bin_neq bin_add bin_sub bin_eqlS bin_neqS mkFrame_nil mkFrame_cons resA_one resA_two resA_three over_0 over_1 over_2 over_3 over_4 over_5 over0_nil over0_cons Option.getD_some if_true if_false AHeap.next_push AVal.bool.injEq decide_eq_true_eq decide_eq_false_iff_not Bool.not_eq_true' Bool.not_eq_false' Bool.not_eq_true decide_true decide_false Bool.not_true Bool.not_false Int.toNat_natCast Int.natCast_nonneg true_and and_true wo_mapPut wp_drawn' wsts_nil b_pure b_read b_new b_wr wor_none b_org rer_nil rer_load1 rer_loadN wo_append AHeap.next_skip AHeap.next_put' AHeap.mk_push_t AHeap.mk_eta AHeap.mk_skip ldA_skip ldN_skip Nat.add_zero Nat.zero_add b_lite_true b_lite_false eq_self_iff_true not_true_eq_false not_false_eq_true bx_k bx_q bx_x bx_1 undefA_bool putAt_push List.length_cons List.length_nil Nat.le_refl ldA_push_new ldN_push_new List.getElem?_cons_zero List.getElem?_cons_succ List.drop_zero List.drop_succ_cons List.take_succ_cons List.take_zero b_build b_buildSlice evParts_nil evParts_cons b_fillA_nil b_fillA nbeq nble natadd natmul lenL_eq repL_1 repL_2 repL_3 wo_sliceData sdV_nil sdV_slice wo_unsafeStr usV_nil wo_slStr slStrV_str evCo_none evCo_some boundA_none Bool.and_true Bool.true_and wo_minmax2' mm2V_int
def noCol (x : Nat) : Bool := !decide (x = 58)
def altR (s : List Nat) : Alt × Bool :=
  if (runL noCol s 0).length < s.length then ((s.take (runL noCol s 0).length, numR (s.drop ((runL noCol s 0).length + 1))), decide (1 ≤ numR (s.drop ((runL noCol s 0).length + 1)))) else ((s, 0), true)
set_option maxHeartbeats 1000000 in
theorem altR_c (s : List Nat) (h : AHeap) (hs : s.length ≤ 2000000) : Ec E2 59 [.str s] h fun r h' => r = .tup [.agg [.str (altR s).1.1, .int .i64 (altR s).1.2], .bool (altR s).2] ∧ Hle h h' := by
  refine Ec.of_wpb (prim2_none (by decide)) code59 ?_
  unfold c59
  simp only [go_sem, Nat.reduceEqDiff, Int.reduceLT, Int.reduceLE, Int.reduceEq, Nat.reduceLT, Nat.reduceAdd, Nat.reduceMul, Int.reduceToNat, Nat.reduceLeDiff, reduceCtorEq]
  have hle0 : Hle h (h.push (.cells [.str [], .int .i64 0] 57)) := (Hle.refl h).push _
  have hn0 : (h.push (.cells [.str [], .int .i64 0] 57)).next = h.next + 1 := rfl
  have hg0 : (h.push (.cells [.str [], .int .i64 0] 57)).get h.next = some (.cells [.str [], .int .i64 0] 57) := AHeap.get_push_same _ _
  generalize h.push (.cells [.str [], .int .i64 0] 57) = h0 at hle0 hn0 hg0 ⊢
  have fin : ∀ (h2 : AHeap) (t : List Nat) (n : Int), Hle h0 h2 → ∃ h3, putAt h2 h.next 0 2 [.str t, .int .i64 n] = some h3 ∧ ldN h3 h.next 0 2 = some [.str t, .int .i64 n] ∧ Hle h h3 := by
    intro h2 t n hle2
    have hg2 : h2.get h.next = some (.cells [.str [], .int .i64 0] 57) := (hle2.get _ (by omega)).trans hg0
    have hfl : ∀ y, y ∈ [AVal.str t, .int .i64 n] → y.flat = true := by intro y hy; simp at hy; rcases hy with rfl | rfl <;> rfl
    have hn2 := hle2.next
    have hr2 : RowA (h2.put h.next (.cells [.str t, .int .i64 n] 57)) h.next 0 [.str t, .int .i64 n] := RowA.of_cells (by simp [AHeap.next_put]; omega) (AHeap.get_put_same _ _ _) hfl
    refine ⟨_, putAt_cells (o := 0) (n := 2) (vs := [.str t, .int .i64 n]) hg2 rfl (by simp), hr2.ldN (i := 0) (n := 2) (by simp), ⟨by simp [AHeap.next_put]; omega, fun c hc => ?_⟩⟩
    show (h2.put h.next (.cells [.str t, .int .i64 n] 57)).get c = _
    rw [AHeap.get_put_ne _ _ (by omega)]; exact (hle0.trans hle2).get c hc
  refine b_loop (fun d fr h' => Hle h0 h' ∧ fr.get 0 = some (.str s) ∧ fr.get 2 = some (.ptr h.next 0) ∧ ∃ k : Nat, fr.get 4 = some (.int .i64 (k : Int)) ∧ d + k = s.length ∧ (runL noCol s 0).length = k + (runL noCol s k).length) s.length ?_ ?_
  · exact ⟨Hle.refl _, by simp [T.get_set], by simp [T.get_set], 0, by simp [T.get_set], by omega, by simp⟩
  rintro d fr h' ⟨hle, t0, t2, k, t4, hd, hrun⟩
  unfold c59_l0
  by_cases hc : (k : Int) < (s.length : Int)
  · obtain ⟨x, hx⟩ : ∃ x, s[k]? = some x := ⟨_, List.getElem?_eq_getElem (by omega)⟩
    by_cases q : (x : Int) = 58
    · have hz := runL_stop (test := noCol) hx (by simp [noCol]; omega)
      rw [hz] at hrun
      have hk : (runL noCol s 0).length = k := by simpa using hrun
      have ha : altR s = ((s.take k, numR (s.drop (k + 1))), decide (1 ≤ numR (s.drop (k + 1)))) := by
        unfold altR
        rw [hk, if_pos (by omega)]
      have hw : IntKind.i64.wrap ((k : Int) + 1) = ((k + 1 : Nat) : Int) := by rw [wrap_i64 (by omega) (by omega)]; push_cast; rfl
      have b1 : boundA (some (.int .i64 ((k + 1 : Nat) : Int))) 0 s.length = some (k + 1) := boundA_at (by omega)
      have b2 : boundA (some (.int .i64 (k : Int))) s.length s.length = some k := boundA_at (by omega)
      rw [ha]
      simp only [go_sem, Nat.reduceEqDiff, Int.reduceLT, Int.reduceLE, Int.reduceEq, Nat.reduceLT, Nat.reduceAdd, Nat.reduceMul, Int.reduceToNat, Nat.reduceLeDiff, reduceCtorEq, t0, t2, t4, hc, hx, q, hw, b1, List.take_length]
      refine ⟨by decide, ?_⟩
      refine (number_c (s.drop (k + 1)) h' (by simp; omega)).mono ?_
      rintro r h2 ⟨rfl, hle2⟩
      obtain ⟨h3, f1, f2, f3⟩ := fin h2 (s.take k) (numR (s.drop (k + 1))) (hle.trans hle2)
      by_cases q2 : numR (s.drop (k + 1)) < 1
      all_goals
        simp only [go_sem, Nat.reduceEqDiff, Int.reduceLT, Int.reduceLE, Int.reduceEq, Nat.reduceLT, Nat.reduceAdd, Nat.reduceMul, Int.reduceToNat, Nat.reduceLeDiff, reduceCtorEq, t0, t2, t4, b2, f1, q2]
        refine resA_c2 (resultA_agg agg57 size57 (by simp only [go_sem, Nat.reduceEqDiff, Int.reduceLT, Int.reduceLE, Int.reduceEq, Nat.reduceLT, Nat.reduceAdd, Nat.reduceMul, Int.reduceToNat, Nat.reduceLeDiff, reduceCtorEq, t2]) f2) rfl ⟨?_, f3⟩
        simp only [go_sem, Nat.reduceEqDiff, Int.reduceLT, Int.reduceLE, Int.reduceEq, Nat.reduceLT, Nat.reduceAdd, Nat.reduceMul, Int.reduceToNat, Nat.reduceLeDiff, reduceCtorEq]
        simp [q2]
        try omega
    · have hz := runL_step (test := noCol) hx (by simp [noCol]; omega)
      simp only [go_sem, Nat.reduceEqDiff, Int.reduceLT, Int.reduceLE, Int.reduceEq, Nat.reduceLT, Nat.reduceAdd, Nat.reduceMul, Int.reduceToNat, Nat.reduceLeDiff, reduceCtorEq, t0, t2, t4, hc, hx, q]
      refine ⟨d - 1, by omega, hle, k + 1, ?_, by omega, ?_⟩
      · rw [wrap_i64 (by omega) (by omega)]; rfl
      · rw [hrun, hz]; simp; omega
  · have hz := runL_end (test := noCol) (s := s) (i := k) (by omega)
    rw [hz] at hrun
    have hk : (runL noCol s 0).length = k := by simpa using hrun
    have ha : altR s = ((s, 0), true) := by
      unfold altR
      rw [hk, if_neg (by omega)]
    rw [ha]
    obtain ⟨h3, f1, f2, f3⟩ := fin h' s 0 hle
    simp only [go_sem, Nat.reduceEqDiff, Int.reduceLT, Int.reduceLE, Int.reduceEq, Nat.reduceLT, Nat.reduceAdd, Nat.reduceMul, Int.reduceToNat, Nat.reduceLeDiff, reduceCtorEq, t0, t2, t4, hc, f1]
    refine resA_c2 (resultA_agg agg57 size57 (by simp only [go_sem, Nat.reduceEqDiff, Int.reduceLT, Int.reduceLE, Int.reduceEq, Nat.reduceLT, Nat.reduceAdd, Nat.reduceMul, Int.reduceToNat, Nat.reduceLeDiff, reduceCtorEq, t2]) f2) rfl ⟨?_, f3⟩
    simp only [go_sem, Nat.reduceEqDiff, Int.reduceLT, Int.reduceLE, Int.reduceEq, Nat.reduceLT, Nat.reduceAdd, Nat.reduceMul, Int.reduceToNat, Nat.reduceLeDiff, reduceCtorEq]
end
end Go.AX
namespace Go.AX
open Go Go.Proofs
noncomputable section
set_option linter.unusedSimpArgs false
set_option linter.unusedVariables false
attribute [local go_sem] b_seq wp_skip wp_exit wp_ret wp_region b_block wops_nil b_ops b_opsg b_cond condV_lite wo_mv b_bin wo_call callV_func wo_pick b_box wo_load1 wo_loadN wo_store wo_nilCheck wo_not wo_lenStr' wo_lenSl wo_ixStr' wo_ixSl wo_fAddr wo_part1 wo_partN wo_extract wo_cInt wo_cStr wo_mkMap wo_mkIface wo_mkFunc wo_lookup pickV_bool ifT_true ifT_false b_loadV b_loadNV b_storeV nilV_ptr nilV_func nilV_iface notV_bool lenStrV_str lenSlV_nil lenSlV_slice b_ixStrV ixSlV_slice fAddrV_ptr b_part1V partNV_agg b_extractV convV_int strV_str evC_tm evC_cn T.get_set putA_some putA_none onO_some evCs_nil evCs_cons appL_nil appL_cons guardOk_true guardOk_false cellsV_bool cellsV_int cellsV_str cellsV_nilptr cellsV_ptr cellsV_nilslice cellsV_slice cellsV_nilmap cellsV_map cellsV_func cellsV_nilfunc cellsV_iface cellsV_niliface cellsV_agg bin_lss bin_gtr bin_leq bin_geq bin_eql bin_neq bin_add bin_sub bin_eqlS bin_neqS mkFrame_nil mkFrame_cons resA_one resA_two resA_three over_0 over_1 over_2 over_3 over_4 over_5 over0_nil over0_cons Option.getD_some if_true if_false AHeap.next_push AVal.bool.injEq decide_eq_true_eq decide_eq_false_iff_not Bool.not_eq_true' Bool.not_eq_false' Bool.not_eq_true decide_true decide_false Bool.not_true Bool.not_false Int.toNat_natCast Int.natCast_nonneg true_and and_true wo_mapPut wp_drawn' wsts_nil b_pure b_read b_new b_wr wor_none b_org rer_nil rer_load1 rer_loadN wo_append AHeap.next_skip AHeap.next_put' AHeap.mk_push_t AHeap.mk_eta AHeap.mk_skip ldA_skip ldN_skip Nat.add_zero Nat.zero_add b_lite_true b_lite_false eq_self_iff_true not_true_eq_false not_false_eq_true bx_k bx_q bx_x bx_1 undefA_bool putAt_push List.length_cons List.length_nil Nat.le_refl ldA_push_new ldN_push_new List.getElem?_cons_zero List.getElem?_cons_succ List.drop_zero List.drop_succ_cons List.take_succ_cons List.take_zero b_build b_buildSlice evParts_nil evParts_cons b_fillA_nil b_fillA nbeq nble natadd natmul lenL_eq repL_1 repL_2 repL_3 wo_sliceData sdV_nil sdV_slice wo_unsafeStr usV_nil wo_slStr slStrV_str evCo_none evCo_some boundA_none Bool.and_true Bool.true_and wo_minmax2' mm2V_int
def gR : Nat → List Nat → Nat → Nat → List Alt → Option (List Alt)
  | 0, _, _, _, acc => some acc
  | n + 1, s, i, f, acc => if i < s.length ∧ s[i]?.getD 0 ≠ 124 then gR n s (i + 1) f acc else
    if (altR ((s.take i).drop f)).2 = true then gR n s (i + 1) (i + 1) (acc ++ [(altR ((s.take i).drop f)).1]) else none
def groupR (s : List Nat) : Option (List Alt) := gR (s.length + 1) s 0 0 []
def GroupP (h : AHeap) (c : Option (List Alt)) (r : AVal) (h' : AHeap) : Prop := Hle h h' ∧ match c with
  | none => r = .tup [.agg [.nilslice], .bool false]
  | some c => ∃ v, r = .tup [.agg [v], .bool true] ∧ AltsA h' v c ∧ ∀ x, blkOf v x → h.next ≤ x ∧ x < h'.next
theorem altR_len (s : List Nat) : (altR s).1.1.length ≤ s.length := by
  unfold altR
  split
  · simp; omega
  · exact Nat.le_refl _
set_option maxHeartbeats 1000000 in
theorem group_c (s : List Nat) (h : AHeap) (hs : s.length ≤ 2000000) : Ec E2 44 [.str s] h fun r h' => GroupP h (groupR s) r h' := by
  refine Ec.of_wpb (prim2_none (by decide)) code44 ?_
  unfold c44
  simp only [go_sem, Nat.reduceEqDiff, Int.reduceLT, Int.reduceLE, Int.reduceEq, Nat.reduceLT, Nat.reduceAdd, Nat.reduceMul, Int.reduceToNat, Nat.reduceLeDiff, reduceCtorEq]
  have hn0 : ((h.push (.cells [.nilslice] 55)).push (.cells [.nilslice] 55)).next = h.next + 2 := rfl
  have hg0 : ((h.push (.cells [.nilslice] 55)).push (.cells [.nilslice] 55)).get h.next = some (.cells [.nilslice] 55) := by rw [AHeap.get_push_ne _ _ (by simp [AHeap.next_push])]; exact AHeap.get_push_same _ _
  have hb0 : BoxL (fun x => x < h.next ∨ x = h.next) ((h.push (.cells [.nilslice] 55)).push (.cells [.nilslice] 55)) (h.next + 1) [] := BoxL.new (by simp [AHeap.next_push])
  have hle0 : Hle h ((h.push (.cells [.nilslice] 55)).push (.cells [.nilslice] 55)) := ((Hle.refl h).push _).push _
  generalize (h.push (.cells [.nilslice] 55)).push (.cells [.nilslice] 55) = h0 at hn0 hg0 hb0 hle0 ⊢
  have fin : ∀ (h2 : AHeap) (v : AVal), v.flat = true → h.next + 2 ≤ h2.next → h2.get h.next = some (.cells [.nilslice] 55) → putAt h2 h.next 0 1 [v] = some (h2.put h.next (.cells [v] 55)) ∧ ldN (h2.put h.next (.cells [v] 55)) h.next 0 1 = some [v] := by
    intro h2 v hv hn hg
    refine ⟨putAt_cells (o := 0) (n := 1) (vs := [v]) hg rfl (by simp), ?_⟩
    have hr : RowA (h2.put h.next (.cells [v] 55)) h.next 0 [v] := RowA.of_cells (by simp [AHeap.next_put]; omega) (AHeap.get_put_same _ _ _) (by intro x hx; simp at hx; subst hx; exact hv)
    exact hr.ldN (i := 0) (n := 1) (by simp)
  refine b_loop (fun d fr h' => Hle h h' ∧ h.next + 2 ≤ h'.next ∧ h'.get h.next = some (.cells [.nilslice] 55) ∧ fr.get 0 = some (.str s) ∧ fr.get 2 = some (.ptr h.next 0) ∧ fr.get 4 = some (.ptr (h.next + 1) 0) ∧ ∃ i f acc, fr.get 5 = some (.int .i64 ((f : Nat) : Int)) ∧ fr.get 6 = some (.int .i64 ((i : Nat) : Int)) ∧ d + i = s.length + 1 ∧ f ≤ i ∧ acc.length ≤ i ∧ (∀ a : Alt, a ∈ acc → a.1.length ≤ s.length) ∧ BoxL (fun x => x < h.next ∨ x = h.next) h' (h.next + 1) acc ∧ gR d s i f acc = groupR s) (s.length + 1) ?_ ?_
  · exact ⟨hle0, by omega, hg0, by simp [T.get_set], by simp [T.get_set], by simp [T.get_set], 0, 0, [], by simp [T.get_set], by simp [T.get_set], by omega, by omega, by simp, by simp, hb0, rfl⟩
  clear hn0 hg0 hb0 hle0
  rintro d fr h' ⟨hle, hn, hg, t0, t2, t4, i, f, acc, t5, t6, hd, hf, hacc, hal, hb, hgr⟩
  unfold c44_l0
  match d, hgr, hd with
  | 0, hgr, hd =>
    have hc : (s.length : Int) < (i : Int) := by omega
    obtain ⟨u, _, hu, huN, huo, hub⟩ := hb.ld
    have hua := huo.alts (fun y hy => by have := hal y hy; omega)
    obtain ⟨f1, f2⟩ := fin h' u hua.flat (by omega) hg
    have hgr' : groupR s = some acc := hgr.symm
    rw [hgr']
    simp only [go_sem, Nat.reduceEqDiff, Int.reduceLT, Int.reduceLE, Int.reduceEq, Nat.reduceLT, Nat.reduceAdd, Nat.reduceMul, Int.reduceToNat, Nat.reduceLeDiff, reduceCtorEq, t0, t2, t4, t5, t6, hc, huN, f1, hua.cells]
    refine resA_c2 (resultA_agg agg55 size55 (by simp only [go_sem, Nat.reduceEqDiff, Int.reduceLT, Int.reduceLE, Int.reduceEq, Nat.reduceLT, Nat.reduceAdd, Nat.reduceMul, Int.reduceToNat, Nat.reduceLeDiff, reduceCtorEq, t2]) f2) rfl ⟨⟨by simp [AHeap.next_put]; have := hle.next; omega, fun c hc => by rw [AHeap.get_put_ne _ _ (by omega)]; exact hle.get c hc⟩, u, by simp only [go_sem, Nat.reduceEqDiff, Int.reduceLT, Int.reduceLE, Int.reduceEq, Nat.reduceLT, Nat.reduceAdd, Nat.reduceMul, Int.reduceToNat, Nat.reduceLeDiff, reduceCtorEq], hua.keep (by simp [AHeap.next_put]) fun x hx _ => AHeap.get_put_ne _ _ (fun e => (hub x hx).2 (.inr e.symm)), fun x hx => ⟨?_, huo.blk hx⟩⟩
    have := (hub x hx).2
    omega
  | d + 1, hgr, hd =>
    have hc : ¬ (s.length : Int) < (i : Int) := by omega
    have hw : IntKind.i64.wrap ((i : Int) + 1) = ((i + 1 : Nat) : Int) := by rw [wrap_i64 (by omega) (by omega)]; push_cast; rfl
    unfold gR at hgr
    have hgo : ∀ (hnb : ¬ (i < s.length ∧ s[i]?.getD 0 ≠ 124)) (fr : Fr), True := fun _ _ => trivial
    by_cases q1 : (i : Int) < (s.length : Int)
    · obtain ⟨x, hx⟩ : ∃ x, s[i]? = some x := ⟨_, List.getElem?_eq_getElem (by omega)⟩
      by_cases q2 : (x : Int) = 124
      · have hnb : ¬ (i < s.length ∧ s[i]?.getD 0 ≠ 124) := by rw [hx]; simp; omega
        rw [if_neg hnb] at hgr
        have b1 : boundA (some (.int .i64 (i : Int))) s.length s.length = some i := boundA_at (by omega)
        have b2 : boundA (some (.int .i64 (f : Int))) 0 i = some f := boundA_at (by omega)
        simp only [go_sem, Nat.reduceEqDiff, Int.reduceLT, Int.reduceLE, Int.reduceEq, Nat.reduceLT, Nat.reduceAdd, Nat.reduceMul, Int.reduceToNat, Nat.reduceLeDiff, reduceCtorEq, t0, t2, t4, t5, t6, hc, q1, hx, q2, hw, b1, b2]
        refine ⟨by decide, ?_⟩
        refine (altR_c ((s.take i).drop f) h' (by simp; omega)).mono ?_
        rintro r h2 ⟨rfl, hle2⟩
        have hal0 : (altR ((s.take i).drop f)).1.1.length ≤ s.length := Nat.le_trans (altR_len _) (by simp; omega)
        generalize altR ((s.take i).drop f) = A at hgr hal0 ⊢
        obtain ⟨⟨At, An⟩, ok⟩ := A
        have hb3 := (hb.mono hle2).mono ((Hle.refl h2).push (.cells [.str At, .int .i64 An] 57))
        have hn2 := hle2.next
        have hg3 : (h2.push (.cells [.str At, .int .i64 An] 57)).get h.next = some (.cells [.nilslice] 55) := by rw [AHeap.get_push_ne _ _ (by omega)]; exact (hle2.get _ (by omega)).trans hg
        have hle3 : Hle h (h2.push (.cells [.str At, .int .i64 An] 57)) := (hle.trans hle2).push _
        have hn3 : (h2.push (.cells [.str At, .int .i64 An] 57)).next = h2.next + 1 := rfl
        have hrA : ldN (h2.push (.cells [.str At, .int .i64 An] 57)) h2.next 0 2 = some [.str At, .int .i64 An] := (RowA.of_cells (e := 57) (by omega) (AHeap.get_push_same _ _) (by intro x hx; simp at hx; rcases hx with rfl | rfl <;> rfl)).ldN (i := 0) (n := 2) (by simp)
        obtain ⟨u, _, hu, _⟩ := hb3.ld
        cases ok with
        | true =>
          simp only [go_sem, Nat.reduceEqDiff, Int.reduceLT, Int.reduceLE, Int.reduceEq, Nat.reduceLT, Nat.reduceAdd, Nat.reduceMul, Int.reduceToNat, Nat.reduceLeDiff, reduceCtorEq, t0, t2, t4, t5, t6]
          generalize h2.push (.cells [.str At, .int .i64 An] 57) = h3 at hb3 hg3 hle3 hn3 hrA hu ⊢
          simp only [go_sem, Nat.reduceEqDiff, Int.reduceLT, Int.reduceLE, Int.reduceEq, Nat.reduceLT, Nat.reduceAdd, Nat.reduceMul, Int.reduceToNat, Nat.reduceLeDiff, reduceCtorEq, t0, t2, t4, t5, t6, hu, hrA]
          refine hb3.app (fun x hx => by rcases hx with hx | rfl <;> omega) At An (by omega) hu ?_
          intro v' h5 h6 hcv hput hb6 hn6 hg6
          simp only [go_sem, Nat.reduceEqDiff, Int.reduceLT, Int.reduceLE, Int.reduceEq, Nat.reduceLT, Nat.reduceAdd, Nat.reduceMul, Int.reduceToNat, Nat.reduceLeDiff, reduceCtorEq, t0, t2, t4, t5, t6, hcv, hput, hw]
          refine ⟨d, by omega, ⟨by have := hle3.next; omega, fun c hc => by rw [hg6 c (.inl hc)]; exact hle3.get c hc⟩, by omega, (hg6 _ (.inr rfl)).trans hg3, i + 1, i + 1, acc ++ [(At, An)], rfl, rfl, by omega, Nat.le_refl _, by simp; omega, fun a ha => ?_, hb6, hgr⟩
          rcases List.mem_append.1 ha with ha | ha
          · exact hal a ha
          · simp at ha; subst ha; exact hal0
        | false =>
          have hgn : groupR s = none := hgr.symm
          rw [hgn]
          simp only [go_sem, Nat.reduceEqDiff, Int.reduceLT, Int.reduceLE, Int.reduceEq, Nat.reduceLT, Nat.reduceAdd, Nat.reduceMul, Int.reduceToNat, Nat.reduceLeDiff, reduceCtorEq, t0, t2, t4, t5, t6]
          generalize h2.push (.cells [.str At, .int .i64 An] 57) = h3 at hb3 hg3 hle3 hn3 hrA hu ⊢
          obtain ⟨f1, f2⟩ := fin h3 .nilslice rfl (by omega) hg3
          simp only [go_sem, Nat.reduceEqDiff, Int.reduceLT, Int.reduceLE, Int.reduceEq, Nat.reduceLT, Nat.reduceAdd, Nat.reduceMul, Int.reduceToNat, Nat.reduceLeDiff, reduceCtorEq, t0, t2, t4, t5, t6, f1]
          refine resA_c2 (resultA_agg agg55 size55 (by simp only [go_sem, Nat.reduceEqDiff, Int.reduceLT, Int.reduceLE, Int.reduceEq, Nat.reduceLT, Nat.reduceAdd, Nat.reduceMul, Int.reduceToNat, Nat.reduceLeDiff, reduceCtorEq, t2]) f2) rfl ⟨⟨by simp [AHeap.next_put]; omega, fun c hc => by rw [AHeap.get_put_ne _ _ (by omega)]; exact hle3.get c hc⟩, by simp only [go_sem, Nat.reduceEqDiff, Int.reduceLT, Int.reduceLE, Int.reduceEq, Nat.reduceLT, Nat.reduceAdd, Nat.reduceMul, Int.reduceToNat, Nat.reduceLeDiff, reduceCtorEq]⟩
      · have hnb : i < s.length ∧ s[i]?.getD 0 ≠ 124 := ⟨by omega, by rw [hx]; simp; omega⟩
        rw [if_pos hnb] at hgr
        simp only [go_sem, Nat.reduceEqDiff, Int.reduceLT, Int.reduceLE, Int.reduceEq, Nat.reduceLT, Nat.reduceAdd, Nat.reduceMul, Int.reduceToNat, Nat.reduceLeDiff, reduceCtorEq, t0, t2, t4, t5, t6, hc, q1, hx, q2, hw]
        exact ⟨d, by omega, hle, hn, hg, i + 1, f, acc, rfl, rfl, by omega, by omega, by omega, hal, hb, hgr⟩
    · have hnb : ¬ (i < s.length ∧ s[i]?.getD 0 ≠ 124) := fun h => q1 (by omega)
      rw [if_neg hnb] at hgr
      have b1 : boundA (some (.int .i64 (i : Int))) s.length s.length = some i := boundA_at (by omega)
      have b2 : boundA (some (.int .i64 (f : Int))) 0 i = some f := boundA_at (by omega)
      simp only [go_sem, Nat.reduceEqDiff, Int.reduceLT, Int.reduceLE, Int.reduceEq, Nat.reduceLT, Nat.reduceAdd, Nat.reduceMul, Int.reduceToNat, Nat.reduceLeDiff, reduceCtorEq, t0, t2, t4, t5, t6, hc, q1, hw, b1, b2]
      refine ⟨by decide, ?_⟩
      refine (altR_c ((s.take i).drop f) h' (by simp; omega)).mono ?_
      rintro r h2 ⟨rfl, hle2⟩
      have hal0 : (altR ((s.take i).drop f)).1.1.length ≤ s.length := Nat.le_trans (altR_len _) (by simp; omega)
      generalize altR ((s.take i).drop f) = A at hgr hal0 ⊢
      obtain ⟨⟨At, An⟩, ok⟩ := A
      have hb3 := (hb.mono hle2).mono ((Hle.refl h2).push (.cells [.str At, .int .i64 An] 57))
      have hn2 := hle2.next
      have hg3 : (h2.push (.cells [.str At, .int .i64 An] 57)).get h.next = some (.cells [.nilslice] 55) := by rw [AHeap.get_push_ne _ _ (by omega)]; exact (hle2.get _ (by omega)).trans hg
      have hle3 : Hle h (h2.push (.cells [.str At, .int .i64 An] 57)) := (hle.trans hle2).push _
      have hn3 : (h2.push (.cells [.str At, .int .i64 An] 57)).next = h2.next + 1 := rfl
      have hrA : ldN (h2.push (.cells [.str At, .int .i64 An] 57)) h2.next 0 2 = some [.str At, .int .i64 An] := (RowA.of_cells (e := 57) (by omega) (AHeap.get_push_same _ _) (by intro x hx; simp at hx; rcases hx with rfl | rfl <;> rfl)).ldN (i := 0) (n := 2) (by simp)
      obtain ⟨u, _, hu, _⟩ := hb3.ld
      cases ok with
      | true =>
        simp only [go_sem, Nat.reduceEqDiff, Int.reduceLT, Int.reduceLE, Int.reduceEq, Nat.reduceLT, Nat.reduceAdd, Nat.reduceMul, Int.reduceToNat, Nat.reduceLeDiff, reduceCtorEq, t0, t2, t4, t5, t6]
        generalize h2.push (.cells [.str At, .int .i64 An] 57) = h3 at hb3 hg3 hle3 hn3 hrA hu ⊢
        simp only [go_sem, Nat.reduceEqDiff, Int.reduceLT, Int.reduceLE, Int.reduceEq, Nat.reduceLT, Nat.reduceAdd, Nat.reduceMul, Int.reduceToNat, Nat.reduceLeDiff, reduceCtorEq, t0, t2, t4, t5, t6, hu, hrA]
        refine hb3.app (fun x hx => by rcases hx with hx | rfl <;> omega) At An (by omega) hu ?_
        intro v' h5 h6 hcv hput hb6 hn6 hg6
        simp only [go_sem, Nat.reduceEqDiff, Int.reduceLT, Int.reduceLE, Int.reduceEq, Nat.reduceLT, Nat.reduceAdd, Nat.reduceMul, Int.reduceToNat, Nat.reduceLeDiff, reduceCtorEq, t0, t2, t4, t5, t6, hcv, hput, hw]
        refine ⟨d, by omega, ⟨by have := hle3.next; omega, fun c hc => by rw [hg6 c (.inl hc)]; exact hle3.get c hc⟩, by omega, (hg6 _ (.inr rfl)).trans hg3, i + 1, i + 1, acc ++ [(At, An)], rfl, rfl, by omega, Nat.le_refl _, by simp; omega, fun a ha => ?_, hb6, hgr⟩
        rcases List.mem_append.1 ha with ha | ha
        · exact hal a ha
        · simp at ha; subst ha; exact hal0
      | false =>
        have hgn : groupR s = none := hgr.symm
        rw [hgn]
        simp only [go_sem, Nat.reduceEqDiff, Int.reduceLT, Int.reduceLE, Int.reduceEq, Nat.reduceLT, Nat.reduceAdd, Nat.reduceMul, Int.reduceToNat, Nat.reduceLeDiff, reduceCtorEq, t0, t2, t4, t5, t6]
        generalize h2.push (.cells [.str At, .int .i64 An] 57) = h3 at hb3 hg3 hle3 hn3 hrA hu ⊢
        obtain ⟨f1, f2⟩ := fin h3 .nilslice rfl (by omega) hg3
        simp only [go_sem, Nat.reduceEqDiff, Int.reduceLT, Int.reduceLE, Int.reduceEq, Nat.reduceLT, Nat.reduceAdd, Nat.reduceMul, Int.reduceToNat, Nat.reduceLeDiff, reduceCtorEq, t0, t2, t4, t5, t6, f1]
        refine resA_c2 (resultA_agg agg55 size55 (by simp only [go_sem, Nat.reduceEqDiff, Int.reduceLT, Int.reduceLE, Int.reduceEq, Nat.reduceLT, Nat.reduceAdd, Nat.reduceMul, Int.reduceToNat, Nat.reduceLeDiff, reduceCtorEq, t2]) f2) rfl ⟨⟨by simp [AHeap.next_put]; omega, fun c hc => by rw [AHeap.get_put_ne _ _ (by omega)]; exact hle3.get c hc⟩, by simp only [go_sem, Nat.reduceEqDiff, Int.reduceLT, Int.reduceLE, Int.reduceEq, Nat.reduceLT, Nat.reduceAdd, Nat.reduceMul, Int.reduceToNat, Nat.reduceLeDiff, reduceCtorEq]⟩
end
end Go.AX
namespace Go.AX
open Go Go.Proofs
noncomputable section
set_option linter.unusedSimpArgs false
set_option linter.unusedVariables false
attribute [local go_sem] b_seq wp_skip wp_exit wp_ret wp_region b_block wops_nil b_ops b_opsg b_cond condV_lite wo_mv b_bin wo_call callV_func wo_pick b_box wo_load1 wo_loadN wo_store wo_nilCheck wo_not wo_lenStr' wo_lenSl wo_ixStr' wo_ixSl wo_fAddr wo_part1 wo_partN wo_extract wo_cInt wo_cStr wo_mkMap wo_mkIface wo_mkFunc wo_lookup pickV_bool ifT_true ifT_false b_loadV b_loadNV b_storeV nilV_ptr nilV_func nilV_iface notV_bool lenStrV_str lenSlV_nil lenSlV_slice b_ixStrV ixSlV_slice fAddrV_ptr b_part1V partNV_agg b_extractV convV_int strV_str evC_tm evC_cn T.get_set putA_some putA_none onO_some evCs_nil evCs_cons appL_nil appL_cons guardOk_true guardOk_false cellsV_bool cellsV_int cellsV_str cellsV_nilptr cellsV_ptr cellsV_nilslice cellsV_slice cellsV_nilmap cellsV_map cellsV_func cellsV_nilfunc cellsV_iface cellsV_niliface cellsV_agg bin_lss bin_gtr bin_leq bin_geq bin_eql bin_neq bin_add bin_sub bin_eqlS bin_neqS mkFrame_nil mkFrame_cons resA_one resA_two resA_three over_0 over_1 over_2 over_3 over_4 over_5 over0_nil over0_cons Option.getD_some if_true if_false AHeap.next_push AVal.bool.injEq decide_eq_true_eq decide_eq_false_iff_not Bool.not_eq_true' Bool.not_eq_false' Bool.not_eq_true decide_true decide_false Bool.not_true Bool.not_false Int.toNat_natCast Int.natCast_nonneg true_and and_true wo_mapPut wp_drawn' wsts_nil b_pure b_read b_new b_wr wor_none b_org rer_nil rer_load1 rer_loadN wo_append AHeap.next_skip AHeap.next_put' AHeap.mk_push_t AHeap.mk_eta AHeap.mk_skip ldA_skip ldN_skip Nat.add_zero Nat.zero_add b_lite_true b_lite_false eq_self_iff_true not_true_eq_false not_false_eq_true bx_k bx_q bx_x bx_1 undefA_bool putAt_push List.length_cons List.length_nil Nat.le_refl ldA_push_new ldN_push_new List.getElem?_cons_zero List.getElem?_cons_succ List.drop_zero List.drop_succ_cons List.take_succ_cons List.take_zero b_build b_buildSlice evParts_nil evParts_cons b_fillA_nil b_fillA nbeq nble natadd natmul lenL_eq repL_1 repL_2 repL_3 wo_sliceData sdV_nil sdV_slice wo_unsafeStr usV_nil wo_slStr slStrV_str evCo_none evCo_some boundA_none Bool.and_true Bool.true_and wo_minmax2' mm2V_int
def noBr (x : Nat) : Bool := !decide (x = 41)
def rC : Nat → List Nat → Nat → List (List Alt) → Option (List (List Alt))
  | 0, _, _, acc => some acc
  | n + 1, s, i, acc => if i < s.length then
      (if s[i]?.getD 0 ≠ 40 then rC n s (i + 1) (acc ++ [[([s[i]?.getD 0], 0)]]) else
        if i + (runL noBr s i).length = s.length then none else match groupR ((s.take (i + (runL noBr s i).length)).drop (i + 1)) with
          | none => none
          | some c => rC n s (i + (runL noBr s i).length + 1) (acc ++ [c]))
      else some acc
set_option maxHeartbeats 1000000 in
theorem refParse_l0 {Qn Qr : Fr → AHeap → Prop} {Qx : Nat → Fr → AHeap → Prop} (s : List Nat) (i : Nat) (out : AVal) (fr : Fr) (h : AHeap) (hi : i ≤ s.length) (hs : s.length ≤ 2000000)
    (t0 : fr.get 0 = some (.str s)) (t4 : fr.get 4 = some out) (t5 : fr.get 5 = some (.int .i64 (i : Int))) (t6 : fr.get 6 = some (.int .i64 (i : Int)))
    (hq : ∀ fr, fr.get 0 = some (.str s) → fr.get 4 = some out → fr.get 5 = some (.int .i64 (i : Int)) → fr.get 6 = some (.int .i64 ((i + (runL noBr s i).length : Nat) : Int)) → Qx 2 fr h) : wp E2 (.loop c17_l0) fr h Qn Qx Qr := by
  refine b_loop (fun d fr h' => h' = h ∧ fr.get 0 = some (.str s) ∧ fr.get 4 = some out ∧ fr.get 5 = some (.int .i64 (i : Int)) ∧ ∃ k : Nat, fr.get 6 = some (.int .i64 ((i + k : Nat) : Int)) ∧ d + (i + k) = s.length ∧ (runL noBr s i).length = k + (runL noBr s (i + k)).length) (s.length - i) ?_ ?_
  · exact ⟨rfl, t0, t4, t5, 0, t6, by omega, by simp⟩
  clear t0 t4 t5 t6
  rintro d fr h' ⟨rfl, t0, t4, t5, k, t6, hd, hrun⟩
  unfold c17_l0
  by_cases hc : ((i + k : Nat) : Int) < (s.length : Int)
  · obtain ⟨x, hx⟩ : ∃ x, s[i + k]? = some x := ⟨_, List.getElem?_eq_getElem (by omega)⟩
    by_cases q : (x : Int) = 41
    · have hz := runL_stop (test := noBr) hx (by simp [noBr]; omega)
      rw [hz] at hrun
      have hk : (runL noBr s i).length = k := by simpa using hrun
      simp only [go_sem, Nat.reduceEqDiff, Int.reduceLT, Int.reduceLE, Int.reduceEq, Nat.reduceLT, Nat.reduceAdd, Nat.reduceMul, Int.reduceToNat, Nat.reduceLeDiff, reduceCtorEq, t0, t4, t5, t6, hc, hx, q]
      exact hq _ (by simp [T.get_set, t0]) (by simp [T.get_set, t4]) (by simp [T.get_set, t5]) (by simp [T.get_set, t6, hk])
    · have hz := runL_step (test := noBr) hx (by simp [noBr]; omega)
      have hw : IntKind.i64.wrap (((i + k : Nat) : Int) + 1) = ((i + (k + 1) : Nat) : Int) := by rw [wrap_i64 (by omega) (by omega)]; push_cast; omega
      simp only [go_sem, Nat.reduceEqDiff, Int.reduceLT, Int.reduceLE, Int.reduceEq, Nat.reduceLT, Nat.reduceAdd, Nat.reduceMul, Int.reduceToNat, Nat.reduceLeDiff, reduceCtorEq, t0, t4, t5, t6, hc, hx, q, hw]
      refine ⟨d - 1, by omega, k + 1, rfl, by omega, ?_⟩
      rw [hrun, hz]
      simp [Nat.add_assoc]; omega
  · have hz := runL_end (test := noBr) (s := s) (i := i + k) (by omega)
    rw [hz] at hrun
    have hk : (runL noBr s i).length = k := by simpa using hrun
    simp only [go_sem, Nat.reduceEqDiff, Int.reduceLT, Int.reduceLE, Int.reduceEq, Nat.reduceLT, Nat.reduceAdd, Nat.reduceMul, Int.reduceToNat, Nat.reduceLeDiff, reduceCtorEq, t0, t4, t5, t6, hc]
    exact hq _ (by simp [T.get_set, t0]) (by simp [T.get_set, t4]) (by simp [T.get_set, t5]) (by simp [T.get_set, t6, hk])
set_option maxHeartbeats 1000000 in
theorem refParse_c (s : List Nat) (h : AHeap) (hs : s.length ≤ 2000000) (R : Option (List (List Alt))) (hR : rC (s.length + 1) s 0 [] = R) : Ec E2 17 [.str s] h fun r h' => ∃ v, r = .tup [v, .int .i64 (parseE R s)] ∧ CellsA h' v (parseL R s) ∧ Hle h h' := by
  refine Ec.of_wpb (prim2_none (by decide)) code17 ?_
  unfold c17
  simp only [go_sem, Nat.reduceEqDiff, Int.reduceLT, Int.reduceLE, Int.reduceEq, Nat.reduceLT, Nat.reduceAdd, Nat.reduceMul, Int.reduceToNat, Nat.reduceLeDiff, reduceCtorEq]
  refine b_loop (fun d fr h' => Hle h h' ∧ fr.get 0 = some (.str s) ∧ ∃ i acc out, fr.get 4 = some out ∧ fr.get 5 = some (.int .i64 ((i : Nat) : Int)) ∧ d + i = s.length + 1 ∧ i ≤ s.length ∧ acc.length ≤ i ∧ OutL h.next h' out acc ∧ ∃ m, s.length < i + m ∧ rC m s i acc = R) (s.length + 1) ?_ ?_
  · exact ⟨Hle.refl h, by simp [T.get_set], 0, [], .nilslice, by simp [T.get_set], by simp [T.get_set], by omega, by omega, by simp, OutL.nil _ _, s.length + 1, by omega, hR⟩
  rintro d fr h' ⟨hle, t0, i, acc, out, t4, t5, hd, hi, hacc, hout, m, hm, hr⟩
  have hln := hle.next
  match m, hm, hr with
  | 0, hm, hr => omega
  | m + 1, hm, hr =>
  unfold rC at hr
  unfold c17_l1
  by_cases hc : (i : Int) < (s.length : Int)
  · rw [if_pos (by omega)] at hr
    obtain ⟨x, hx⟩ : ∃ x, s[i]? = some x := ⟨_, List.getElem?_eq_getElem (by omega)⟩
    rw [hx] at hr
    simp only [Option.getD_some] at hr
    have hw : IntKind.i64.wrap ((i : Int) + 1) = ((i + 1 : Nat) : Int) := by rw [wrap_i64 (by omega) (by omega)]; push_cast; rfl
    by_cases q : (x : Int) = 40
    · rw [if_neg (by omega)] at hr
      simp only [go_sem, Nat.reduceEqDiff, Int.reduceLT, Int.reduceLE, Int.reduceEq, Nat.reduceLT, Nat.reduceAdd, Nat.reduceMul, Int.reduceToNat, Nat.reduceLeDiff, reduceCtorEq, t0, t4, t5, hc, hx, q]
      refine refParse_l0 s i out _ _ (by omega) hs (by simp [T.get_set, t0]) (by simp [T.get_set, t4]) (by simp [T.get_set, t5]) (by simp [T.get_set]) ?_
      intro fr2 u0 u4 u5 u6
      have hrl := runL_len noBr s i
      by_cases q2 : i + (runL noBr s i).length = s.length
      · rw [if_pos q2] at hr
        subst hr
        have q3 : ((i + (runL noBr s i).length : Nat) : Int) = (s.length : Int) := by omega
        simp only [go_sem, Nat.reduceEqDiff, Int.reduceLT, Int.reduceLE, Int.reduceEq, Nat.reduceLT, Nat.reduceAdd, Nat.reduceMul, Int.reduceToNat, Nat.reduceLeDiff, reduceCtorEq, u0, u4, u5, u6, q3]
        exact ⟨.nilslice, rfl, CellsA.nil _, hle⟩
      · rw [if_neg q2] at hr
        have hrl1 : 0 < (runL noBr s i).length := by
          rw [runL_step hx (by simp [noBr]; omega)]; simp
        have q3 : ¬ ((i + (runL noBr s i).length : Nat) : Int) = (s.length : Int) := by omega
        have b1 : boundA (some (.int .i64 ((i + (runL noBr s i).length : Nat) : Int))) s.length s.length = some (i + (runL noBr s i).length) := boundA_at (by omega)
        have b2 : boundA (some (.int .i64 ((i + 1 : Nat) : Int))) 0 (i + (runL noBr s i).length) = some (i + 1) := boundA_at (by omega)
        simp only [go_sem, Nat.reduceEqDiff, Int.reduceLT, Int.reduceLE, Int.reduceEq, Nat.reduceLT, Nat.reduceAdd, Nat.reduceMul, Int.reduceToNat, Nat.reduceLeDiff, reduceCtorEq, u0, u4, u5, u6, q3, hw, b1, b2]
        refine ⟨by decide, ?_⟩
        refine (group_c ((s.take (i + (runL noBr s i).length)).drop (i + 1)) h' (by simp; omega)).mono ?_
        intro r h2 ⟨hle2, hgp⟩
        have hle02 := hle.trans hle2
        generalize groupR ((s.take (i + (runL noBr s i).length)).drop (i + 1)) = g at hr hgp
        cases g with
        | none =>
          have hr2 : none = R := hr
          have hgp2 : r = .tup [.agg [.nilslice], .bool false] := hgp
          subst hr2
          subst hgp2
          simp only [go_sem, Nat.reduceEqDiff, Int.reduceLT, Int.reduceLE, Int.reduceEq, Nat.reduceLT, Nat.reduceAdd, Nat.reduceMul, Int.reduceToNat, Nat.reduceLeDiff, reduceCtorEq, u0, u4, u5, u6]
          exact ⟨.nilslice, rfl, CellsA.nil _, hle02.push _⟩
        | some c =>
          obtain ⟨v, rfl, hv, hbl⟩ := hgp
          have hout2 := hout.keep hle2
          have hn2 := hle2.next
          have hrA : ldN (h2.push (.cells [v] 55)) h2.next 0 1 = some [v] := (RowA.of_cells (e := 55) (by simp [AHeap.next_push]) (AHeap.get_push_same _ _) (by intro x hx; simp at hx; subst hx; exact hv.flat)).ldN (i := 0) (n := 1) (by simp)
          have hw2 : IntKind.i64.wrap (((i + (runL noBr s i).length : Nat) : Int) + 1) = ((i + (runL noBr s i).length + 1 : Nat) : Int) := by rw [wrap_i64 (by omega) (by omega)]; push_cast; omega
          simp only [go_sem, Nat.reduceEqDiff, Int.reduceLT, Int.reduceLE, Int.reduceEq, Nat.reduceLT, Nat.reduceAdd, Nat.reduceMul, Int.reduceToNat, Nat.reduceLeDiff, reduceCtorEq, u0, u4, u5, u6, hv.cells]
          have hle3 : Hle h2 (h2.push (.cells [v] 55)) := (Hle.refl h2).push _
          have hn3 : (h2.push (.cells [v] 55)).next = h2.next + 1 := rfl
          generalize h2.push (.cells [v] 55) = h3 at hrA hle3 hn3 ⊢
          rw [← hn3]
          refine (hout2.keep hle3).app (by omega) (hv.mono hle3) (fun x hx hx2 => by have := hout.blk hx2; have := (hbl x hx).1; omega) (fun x hx => by have := hbl x hx; omega) (by omega) ?_
          intro v' h4 ho4 hn4 hg4
          simp only [go_sem, Nat.reduceEqDiff, Int.reduceLT, Int.reduceLE, Int.reduceEq, Nat.reduceLT, Nat.reduceAdd, Nat.reduceMul, Int.reduceToNat, Nat.reduceLeDiff, reduceCtorEq, u0, u4, u5, u6, hw2]
          refine ⟨d - ((runL noBr s i).length + 1), by omega, ⟨by have := (hle02.trans hle3).next; omega, fun c hc => by rw [hg4 c hc]; exact (hle02.trans hle3).get c hc⟩, i + (runL noBr s i).length + 1, acc ++ [c], v', rfl, rfl, by omega, by omega, by simp; omega, ho4, m, by omega, hr⟩
    · rw [if_pos (by omega)] at hr
      have b1 : boundA (some (.int .i64 ((i + 1 : Nat) : Int))) s.length s.length = some (i + 1) := boundA_at (by omega)
      have b2 : boundA (some (.int .i64 (i : Int))) 0 (i + 1) = some i := boundA_at (by omega)
      have hsl : (s.take (i + 1)).drop i = [x] := by
        rw [List.take_add_one, hx, List.drop_append_of_le_length (by simp; omega)]
        simp
      simp only [go_sem, Nat.reduceEqDiff, Int.reduceLT, Int.reduceLE, Int.reduceEq, Nat.reduceLT, Nat.reduceAdd, Nat.reduceMul, Int.reduceToNat, Nat.reduceLeDiff, reduceCtorEq, t0, t4, t5, hc, hx, q, hw, b1, b2, hsl]
      have hle3 : Hle h' (h'.push (.cells [.str [x], .int .i64 0] 57)) := (Hle.refl h').push _
      have hn3 : (h'.push (.cells [.str [x], .int .i64 0] 57)).next = h'.next + 1 := rfl
      have hva : AltsA (h'.push (.cells [.str [x], .int .i64 0] 57)) (.slice h'.next 0 1 1 true) [([x], 0)] :=
        ⟨⟨by simp [altC], .inr ⟨_, _, _, _, rfl, .inr (RowA.of_cells (e := 57) (by omega) (AHeap.get_push_same _ _) (by intro y hy; simp [altC] at hy; rcases hy with rfl | rfl <;> rfl))⟩⟩, by simp⟩
      generalize h'.push (.cells [.str [x], .int .i64 0] 57) = h3 at hle3 hn3 hva ⊢
      have hblk : ∀ y, blkOf (.slice h'.next 0 1 1 true) y → y = h'.next := by
        rintro y ⟨_, _, _, _, e⟩; cases e; rfl
      rw [← hn3]
      refine (hout.keep hle3).app (by omega) hva (fun y hy hy2 => by have := hout.blk hy2; have := hblk y hy; omega) (fun y hy => by have := hblk y hy; omega) (by omega) ?_
      intro v' h4 ho4 hn4 hg4
      simp only [go_sem, Nat.reduceEqDiff, Int.reduceLT, Int.reduceLE, Int.reduceEq, Nat.reduceLT, Nat.reduceAdd, Nat.reduceMul, Int.reduceToNat, Nat.reduceLeDiff, reduceCtorEq, t0, t4, t5, hw]
      refine ⟨d - 1, by omega, ⟨by have := (hle.trans hle3).next; omega, fun c hc => by rw [hg4 c hc]; exact (hle.trans hle3).get c hc⟩, i + 1, acc ++ [[([x], 0)]], v', rfl, rfl, by omega, by omega, by simp; omega, ho4, m, by omega, hr⟩
  · rw [if_neg (by omega)] at hr
    subst hr
    simp only [go_sem, Nat.reduceEqDiff, Int.reduceLT, Int.reduceLE, Int.reduceEq, Nat.reduceLT, Nat.reduceAdd, Nat.reduceMul, Int.reduceToNat, Nat.reduceLeDiff, reduceCtorEq, t0, t4, t5, hc]
    refine ⟨by decide, ?_⟩
    refine (printRef_c acc out h' hout.cells).mono ?_
    rintro r1 h2 ⟨rfl, hle2⟩
    have hout2 := hout.keep hle2
    have hle02 := hle.trans hle2
    unfold printR
    by_cases hE : checkE acc = 0
    · by_cases hS : printS acc = s
      · have hl : parseL (some acc) s = acc := if_pos ⟨hE, hS⟩
        have he : parseE (some acc) s = 0 := if_pos ⟨hE, hS⟩
        rw [hl, he]
        simp only [go_sem, Nat.reduceEqDiff, Int.reduceLT, Int.reduceLE, Int.reduceEq, Nat.reduceLT, Nat.reduceAdd, Nat.reduceMul, Int.reduceToNat, Nat.reduceLeDiff, reduceCtorEq, t0, t4, t5, hE, hS]
        exact ⟨out, rfl, hout2.cells, hle02⟩
      · have hl : parseL (some acc) s = [] := if_neg fun h => hS h.2
        have he : parseE (some acc) s = 4 := if_neg fun h => hS h.2
        rw [hl, he]
        simp only [go_sem, Nat.reduceEqDiff, Int.reduceLT, Int.reduceLE, Int.reduceEq, Nat.reduceLT, Nat.reduceAdd, Nat.reduceMul, Int.reduceToNat, Nat.reduceLeDiff, reduceCtorEq, t0, t4, t5, hE, hS]
        exact ⟨.nilslice, rfl, CellsA.nil _, hle02⟩
    · have hl : parseL (some acc) s = [] := if_neg fun h => hE h.1
      have he : parseE (some acc) s = 4 := if_neg fun h => hE h.1
      rw [hl, he]
      simp only [go_sem, Nat.reduceEqDiff, Int.reduceLT, Int.reduceLE, Int.reduceEq, Nat.reduceLT, Nat.reduceAdd, Nat.reduceMul, Int.reduceToNat, Nat.reduceLeDiff, reduceCtorEq, t0, t4, t5, hE]
      exact ⟨.nilslice, rfl, CellsA.nil _, hle02⟩
end
end Go.AX
namespace Go.AX
open Go Go.Proofs
noncomputable section
def chkR (n : Nat) : Bool := decide (numR (itoaL ((n : Int) + 1)) = (n : Int) + 1)
theorem chkR_all : (List.range 1000).all chkR = true := by kernel_rfl
theorem numR_itoa {n : Int} (h1 : 1 ≤ n) (h2 : n ≤ 1000) : numR (itoaL n) = n := by
  obtain ⟨k, rfl⟩ : ∃ k : Nat, n = (k : Int) + 1 := ⟨(n - 1).toNat, by omega⟩
  have hk := List.all_eq_true.1 chkR_all k (List.mem_range.2 (by omega))
  unfold chkR at hk
  simpa using hk
theorem altT_mem {a : Alt} (ha : altOk a) {x : Nat} (hx : x ∈ altT a) : isL x = true ∨ x = 58 ∨ isDig x = true := by
  obtain ⟨l, n⟩ := a
  have hll : ∀ x, x ∈ l → isL x = true := by
    have := ha.2.1
    unfold lettered at this
    exact List.all_eq_true.1 this
  have h3 : 0 ≤ n := ha.2.2.1
  have h4 : n ≤ 1000 := ha.2.2.2
  unfold altT at hx
  split at hx
  · exact .inl (hll x hx)
  · rename_i hn
    have hn : ¬ n = 0 := hn
    rcases List.mem_append.1 hx with hx | hx
    · exact .inl (hll x hx)
    · rcases List.mem_cons.1 hx with hx | hx
      · exact .inr (.inl hx)
      · exact .inr (.inr ((numD_itoa (n := n) (by omega) h4).1 x hx))
theorem alt_byte {x : Nat} (h : isL x = true ∨ x = 58 ∨ isDig x = true) : x ≠ 124 ∧ x ≠ 41 ∧ x ≠ 40 := by
  rcases h with h | h | h
  · unfold isL at h; simp at h; omega
  · omega
  · unfold isDig at h; simp at h; omega
theorem altR_print {a : Alt} (ha : altOk a) : altR (altT a) = (a, true) := by
  obtain ⟨l, n⟩ := a
  have hll : ∀ x, x ∈ l → noCol x = true := by
    have := ha.2.1
    unfold lettered at this
    intro x hx
    have := List.all_eq_true.1 this x hx
    unfold isL at this; simp at this
    simp [noCol]; omega
  have h3 : 0 ≤ n := ha.2.2.1
  have h4 : n ≤ 1000 := ha.2.2.2
  unfold altR
  by_cases hn : n = 0
  · subst hn
    have e : altT (l, 0) = l := if_pos rfl
    rw [e]
    have hr : runL noCol l 0 = l := runL_app (rest := []) (by simp) hll (fun y hy => by cases hy)
    rw [hr, if_neg (by omega)]
  · have e : altT (l, n) = l ++ 58 :: itoaL n := if_neg hn
    rw [e]
    have hr : runL noCol (l ++ 58 :: itoaL n) 0 = l := runL_app (rest := 58 :: itoaL n) (by simp) hll (fun y hy => by cases hy; rfl)
    have h1 : (l ++ 58 :: itoaL n).take l.length = l := by simp
    have h2 : (l ++ 58 :: itoaL n).drop (l.length + 1) = itoaL n := by
      rw [← List.drop_drop]; simp
    rw [hr, if_pos (by simp), h1, h2, numR_itoa (by omega) h4]
    have : (1 : Int) ≤ n := by omega
    simp [this]
theorem gR_skip : ∀ (w : List Nat) {s rest : List Nat} {n i f : Nat} {acc : List Alt}, (∀ x, x ∈ w → x ≠ 124) → s.drop i = w ++ rest → gR (n + w.length) s i f acc = gR n s (i + w.length) f acc
  | [], s, rest, n, i, f, acc, hw, hd => rfl
  | x :: w, s, rest, n, i, f, acc, hw, hd => by
    have h0 := drop_head (rest := w ++ rest) hd
    have hd2 : s.drop (i + 1) = w ++ rest := drop_at (l := [x]) hd
    have hi : i < s.length := (List.getElem?_eq_some_iff.1 h0).1
    have ih := gR_skip w (n := n) (f := f) (acc := acc) (fun y hy => hw y (by simp [hy])) hd2
    have e : n + (x :: w).length = n + w.length + 1 := by simp; omega
    rw [e]
    have e3 : gR (n + w.length + 1) s i f acc = gR (n + w.length) s (i + 1) f acc := by
      rw [gR, if_pos ⟨hi, by rw [h0]; simpa using hw x (by simp)⟩]
    have e4 : i + (x :: w).length = i + 1 + w.length := by simp; omega
    rw [e3, ih, e4]
theorem take_drop_mid {s w rest : List Nat} {i : Nat} (hd : s.drop i = w ++ rest) : (s.take (i + w.length)).drop i = w := by
  rw [List.drop_take, hd]; simp
theorem gR_print : ∀ (l : List Alt) (a : Alt) {s : List Nat} {i n : Nat} {acc : List Alt}, (∀ y, y ∈ a :: l → altOk y) → i ≤ s.length → n = s.length + 1 - i → s.drop i = altT a ++ (l.flatMap fun b => 124 :: altT b) → gR n s i i acc = some (acc ++ a :: l)
  | l, a, s, i, n, acc, ho, hi, hn, hd => by
    have hlen := congrArg List.length hd
    rw [List.length_drop, List.length_append] at hlen
    obtain ⟨m, hm⟩ : ∃ m, n = m + (altT a).length := ⟨n - (altT a).length, by omega⟩
    have hsk := gR_skip (altT a) (n := m) (f := i) (acc := acc) (fun x hx => (alt_byte (altT_mem (ho a (by simp)) hx)).1) hd
    rw [hm, hsk]
    have hal := altR_print (ho a (by simp))
    have hmid := take_drop_mid hd
    match l, ho, hd, hlen with
    | [], ho, hd, hlen =>
      have hi2 : i + (altT a).length = s.length := by simp at hlen; omega
      obtain ⟨k, hk⟩ : ∃ k, m = k + 1 := ⟨m - 1, by omega⟩
      have hk0 : k = 0 := by omega
      subst hk0
      subst hk
      unfold gR
      rw [if_neg (by omega), hmid, hal, if_pos rfl]
      rfl
    | b :: l, ho, hd, hlen =>
      have hd2 := drop_at hd
      have h0 : s[i + (altT a).length]? = some 124 := drop_head (rest := altT b ++ l.flatMap fun b => 124 :: altT b) (by rw [hd2]; simp)
      have hi2 := (List.getElem?_eq_some_iff.1 h0).1
      obtain ⟨k, hk⟩ : ∃ k, m = k + 1 := ⟨m - 1, by omega⟩
      subst hk
      have hd3 : s.drop (i + (altT a).length + 1) = altT b ++ l.flatMap fun b => 124 :: altT b := by rw [← List.drop_drop, hd2]; simp
      have ih := gR_print l b (n := k) (acc := acc ++ [a]) (fun y hy => ho y (List.mem_cons_of_mem _ hy)) (by omega) (by omega) hd3
      unfold gR
      rw [if_neg (by rw [h0]; simp), hmid, hal, if_pos rfl]
      show gR k s _ _ (acc ++ [a]) = _
      rw [ih]; simp
theorem groupR_print {c : List Alt} (hv : validP c) : groupR (joinA c) = some c := by
  match c, hv with
  | [], hv => have := hv.1; simp at this
  | a :: l, hv =>
    unfold groupR
    have := gR_print l a (s := joinA (a :: l)) (i := 0) (n := (joinA (a :: l)).length + 1) (acc := []) hv.2.2.1 (by omega) (by omega) (by simp [joinA])
    simpa using this
theorem joinA_mem {c : List Alt} (hv : validP c) {x : Nat} (hx : x ∈ joinA c) : x ≠ 41 := by
  match c, hv with
  | [], hv => simp [joinA] at hx
  | a :: l, hv =>
    unfold joinA at hx
    rcases List.mem_append.1 hx with hx | hx
    · exact (alt_byte (altT_mem (hv.2.2.1 a (by simp)) hx)).2.1
    · obtain ⟨b, hb, hxb⟩ := List.mem_flatMap.1 hx
      rcases List.mem_cons.1 hxb with hxb | hxb
      · omega
      · exact (alt_byte (altT_mem (hv.2.2.1 b (by simp [hb])) hxb)).2.1
theorem rC_print : ∀ (cs : List (List Alt)) {s : List Nat} {i n : Nat} {acc : List (List Alt)}, allV cs → s.length < i + n → s.drop i = printS cs → rC n s i acc = some (acc ++ cs)
  | [], s, i, 0, acc, hv, hn, hd => by simp [rC]
  | [], s, i, n + 1, acc, hv, hn, hd => by
    have h0 : s.length ≤ i := by
      have : s.drop i = [] := hd
      exact List.drop_eq_nil_iff.1 this
    unfold rC
    rw [if_neg (by omega)]; simp
  | c :: cs, s, i, 0, acc, hv, hn, hd => by
    have hd' : s.drop i = printC c ++ printS cs := hd
    have h1 := printC_ne c (hv c (by simp))
    have := congrArg List.length hd'
    simp at this
    omega
  | c :: cs, s, i, n + 1, acc, hv, hn, hd => by
    have hd' : s.drop i = printC c ++ printS cs := hd
    have h1 := printC_ne c (hv c (by simp))
    have hvc := hv c (by simp)
    have hi : i < s.length := by
      have := congrArg List.length hd'
      simp at this
      omega
    by_cases ho : isOne c = true
    · obtain ⟨⟨l, m⟩, rfl, hl, hm⟩ := isOne_inv ho
      have hm : m = 0 := hm
      subst hm
      have hl : l.length = 1 := hl
      obtain ⟨x, rfl⟩ : ∃ x, l = [x] := by
        match l, hl with
        | [x], _ => exact ⟨x, rfl⟩
      have e : printC [([x], 0)] = [x] := by unfold printC; rw [if_pos ho]; rfl
      rw [e] at hd'
      have h0 := drop_head hd'
      have hx : isL x = true := by
        have := (hvc.2.2.1 ([x], 0) (by simp)).2.1
        unfold lettered at this
        simpa using this
      have ih := rC_print cs (n := n) (acc := acc ++ [[([x], 0)]]) (fun y hy => hv y (by simp [hy])) (by omega) (drop_at (l := [x]) hd')
      unfold rC
      rw [if_pos hi, if_pos (by rw [h0]; simpa using (alt_byte (.inl hx)).2.2), h0]
      show rC n s (i + 1) (acc ++ [[([x], 0)]]) = _
      rw [show i + [x].length = i + 1 from rfl] at ih
      rw [ih]; simp
    · have e : printC c = 40 :: (joinA c ++ [41]) := by unfold printC; rw [if_neg ho]
      rw [e] at hd'
      have h0 := drop_head (rest := joinA c ++ [41] ++ printS cs) hd'
      have hd2 : s.drop i = (40 :: joinA c) ++ (41 :: printS cs) := by rw [hd']; simp
      have hr : runL noBr s i = 40 :: joinA c := runL_app hd2 (fun x hx => by
        rcases List.mem_cons.1 hx with hx | hx
        · subst hx; rfl
        · have := joinA_mem hvc hx
          simp [noBr, this]) (fun y hy => by cases hy; rfl)
      have hd3 := drop_at hd2
      have h41 := drop_head hd3
      have hlt := (List.getElem?_eq_some_iff.1 h41).1
      have hd4 : s.drop (i + 1) = joinA c ++ (41 :: printS cs) := by rw [← List.drop_drop, hd2]; simp
      have hmid : (s.take (i + (40 :: joinA c).length)).drop (i + 1) = joinA c := by
        have := take_drop_mid hd4
        have e2 : i + (40 :: joinA c).length = i + 1 + (joinA c).length := by simp; omega
        rw [e2]; exact this
      have hd5 : s.drop (i + (40 :: joinA c).length + 1) = printS cs := drop_at (l := [41]) hd3
      have ih := rC_print cs (n := n) (acc := acc ++ [c]) (fun y hy => hv y (by simp [hy])) (by omega) hd5
      unfold rC
      rw [if_pos hi, if_neg (by rw [h0]; simp), hr, if_neg (by omega), hmid, groupR_print hvc]
      show rC n s _ (acc ++ [c]) = _
      rw [ih]; simp
theorem parse_agree (s : List Nat) (R : Option (List (List Alt))) (hR : rC (s.length + 1) s 0 [] = R) : match pCells (s.length + 1) s 0 [] with
    | some r => parseE r s = parseE R s ∧ parseL r s = parseL R s
    | none => parseE R s = 4 ∧ parseL R s = [] := by
  by_cases hP : ∃ cells, checkE cells = 0 ∧ printS cells = s
  · obtain ⟨cells, hE, rfl⟩ := hP
    obtain ⟨hl, hv⟩ := checkE_ok hE
    have h1 := parse_print hE
    have h2 := rC_print cells (s := printS cells) (i := 0) (n := (printS cells).length + 1) (acc := []) hv (by omega) (by simp)
    rw [h1]
    subst hR
    rw [h2]
    exact ⟨rfl, rfl⟩
  · have hno : ∀ r : Option (List (List Alt)), parseE r s = 4 ∧ parseL r s = [] := by
      intro r
      cases r with
      | none => exact ⟨rfl, rfl⟩
      | some c => exact ⟨if_neg fun h => hP ⟨c, h⟩, if_neg fun h => hP ⟨c, h⟩⟩
    split
    · rename_i r _
      rw [(hno r).1, (hno r).2, (hno R).1, (hno R).2]
      exact ⟨rfl, rfl⟩
    · exact hno R
end
end Go.AX
namespace Go.AX
open Go Go.Proofs Go.RowKit
noncomputable section
set_option linter.unusedSimpArgs false
set_option linter.unusedVariables false
attribute [local go_sem] b_seq wp_skip wp_exit wp_ret wp_region b_block wops_nil b_ops b_opsg b_cond condV_lite wo_mv b_bin wo_call callV_func wo_pick b_box wo_load1 wo_loadN wo_store wo_nilCheck wo_not wo_lenStr' wo_lenSl wo_ixStr' wo_ixSl wo_fAddr wo_part1 wo_partN wo_extract wo_cInt wo_cStr wo_mkMap wo_mkIface wo_mkFunc wo_lookup pickV_bool ifT_true ifT_false b_loadV b_loadNV b_storeV nilV_ptr nilV_func nilV_iface notV_bool lenStrV_str lenSlV_nil lenSlV_slice b_ixStrV ixSlV_slice fAddrV_ptr b_part1V partNV_agg b_extractV convV_int strV_str evC_tm evC_cn T.get_set putA_some putA_none onO_some evCs_nil evCs_cons appL_nil appL_cons guardOk_true guardOk_false cellsV_bool cellsV_int cellsV_str cellsV_nilptr cellsV_ptr cellsV_nilslice cellsV_slice cellsV_nilmap cellsV_map cellsV_func cellsV_nilfunc cellsV_iface cellsV_niliface cellsV_agg bin_lss bin_gtr bin_leq bin_geq bin_eql bin_neq bin_add bin_sub bin_eqlS bin_neqS mkFrame_nil mkFrame_cons resA_one resA_two resA_three over_0 over_1 over_2 over_3 over_4 over_5 over0_nil over0_cons Option.getD_some if_true if_false AHeap.next_push AVal.bool.injEq decide_eq_true_eq decide_eq_false_iff_not Bool.not_eq_true' Bool.not_eq_false' Bool.not_eq_true decide_true decide_false Bool.not_true Bool.not_false Int.toNat_natCast Int.natCast_nonneg true_and and_true wo_mapPut wp_drawn' wsts_nil b_pure b_read b_new b_wr wor_none b_org rer_nil rer_load1 rer_loadN wo_append AHeap.next_skip AHeap.next_put' AHeap.mk_push_t AHeap.mk_eta AHeap.mk_skip ldA_skip ldN_skip Nat.add_zero Nat.zero_add b_lite_true b_lite_false eq_self_iff_true not_true_eq_false not_false_eq_true bx_k bx_q bx_x bx_1 undefA_bool putAt_push List.length_cons List.length_nil Nat.le_refl ldA_push_new ldN_push_new List.getElem?_cons_zero List.getElem?_cons_succ List.drop_zero List.drop_succ_cons List.take_succ_cons List.take_zero b_build b_buildSlice evParts_nil evParts_cons b_fillA_nil b_fillA nbeq nble natadd natmul lenL_eq repL_1 repL_2 repL_3 wo_sliceData sdV_nil sdV_slice wo_unsafeStr usV_nil wo_slStr slStrV_str evCo_none evCo_some boundA_none Bool.and_true Bool.true_and wo_minmax2' mm2V_int
def c4 : CCode :=
 (.seq
  (.region [⟨some 2, none, .mv (.c (.bool false))⟩])
  (.seq
   (.region [⟨some 10, none, .mv (.t 0)⟩, ⟨some 11, none, .call (.c (.func 16 [] [])) [(.t 10)]⟩, ⟨some 9, none, .mv (.t 11)⟩, ⟨some 12, none, .extract 0 (.t 9)⟩, ⟨some 13, none, .extract 1 (.t 9)⟩, ⟨some 3, none, .mv (.t 12)⟩, ⟨some 4, none, .mv (.t 13)⟩])
   (.seq
    (.region [⟨some 15, none, .mv (.t 0)⟩, ⟨some 16, none, .call (.c (.func 17 [] [])) [(.t 15)]⟩, ⟨some 14, none, .mv (.t 16)⟩, ⟨some 17, none, .extract 0 (.t 14)⟩, ⟨some 18, none, .extract 1 (.t 14)⟩, ⟨some 5, none, .mv (.t 17)⟩, ⟨some 6, none, .mv (.t 18)⟩])
    (.seq
     (.seq
      (.region [⟨some 19, none, .mv (.t 4)⟩, ⟨some 20, none, .mv (.t 6)⟩, ⟨some 21, none, .bin .neq .none (.t 19) (.t 20)⟩, ⟨some 22, none, .mv (.t 21)⟩, ⟨some 23, some (22, false), .mv (.t 3)⟩, ⟨some 24, some (22, false), .mv (.t 5)⟩, ⟨some 25, some (22, false), .call (.c (.func 18 [] [])) [(.t 23), (.t 24)]⟩, ⟨some 26, some (22, false), .not (.t 25)⟩, ⟨some 27, none, .pick (.t 22) (.c (.bool true)) (.t 26)⟩])
      (.cond (.t 27)
       (.seq
        (.region [⟨some 2, none, .mv (.c (.bool false))⟩])
        .ret)
       .skip))
     (.seq
      (.region [⟨some 29, none, .mv (.t 3)⟩, ⟨some 30, none, .call (.c (.func 11 [] [])) [(.t 29)]⟩, ⟨some 28, none, .mv (.t 30)⟩, ⟨some 31, none, .extract 0 (.t 28)⟩, ⟨some 32, none, .extract 1 (.t 28)⟩, ⟨some 7, none, .mv (.t 31)⟩, ⟨some 8, none, .mv (.t 32)⟩])
      (.seq
       (.region [⟨some 33, none, .call (.c (.func 13 [] [])) []⟩, ⟨some 34, none, .mv (.t 33)⟩, ⟨some 35, some (34, true), .mv (.t 4)⟩, ⟨some 36, some (34, true), .bin .neq .none (.t 35) (.c (.int .i64 0))⟩, ⟨some 37, some (34, true), .mv (.t 36)⟩, ⟨some 38, some (37, false), .mv (.t 7)⟩, ⟨some 39, some (37, false), .mv (.t 0)⟩, ⟨some 40, some (37, false), .bin .eql .none (.t 38) (.t 39)⟩, ⟨some 41, some (37, false), .mv (.t 40)⟩, ⟨some 42, some (41, true), .mv (.t 8)⟩, ⟨some 43, some (41, true), .bin .eql .none (.t 42) (.c (.int .i64 0))⟩, ⟨some 44, some (37, false), .pick (.t 41) (.t 43) (.c (.bool false))⟩, ⟨some 45, some (34, true), .pick (.t 37) (.c (.bool true)) (.t 44)⟩, ⟨some 46, none, .pick (.t 34) (.t 45) (.c (.bool false))⟩, ⟨some 2, none, .mv (.t 46)⟩])
       .ret))))))
def Ev4 (s : List Nat) (h h' : AHeap) : Prop :=
  Enters Tryz.prog 16 ∧ ∀ (K : Keep) (W0 : World) (ρ : Ren) (w : World) (args' : Array Value), VL ρ [.str s] args'.toList → WR Tryz.prog K W0 ρ h w → Calls Tryz.prog 16 args' w (CPost Tryz.prog K W0 ρ (.tup [.nilslice, .int .i64 4]) h')
def strOf : List AVal → List Nat
  | [.str s] => s
  | _ => []
def parseP4 (args : List AVal) (h : AHeap) : R := open Classical in
  if (pCells ((strOf args).length + 1) (strOf args) 0 []).isSome then (if H : ∃ p : AVal × AHeap, EvP args h p then some H.choose else none)
  else if H : args = [.str (strOf args)] ∧ ∃ h', Hle h h' ∧ Ev4 (strOf args) h h' then some (.tup [.nilslice, .int .i64 4], H.2.choose) else none
theorem parse_ok4 : PrimOK 16 (.fn parseP4) := by
  intro args h v h' hp
  have hp' : parseP4 args h = some (v, h') := hp
  unfold parseP4 at hp'
  split at hp'
  · split at hp'
    · rename_i H
      have hv := H.choose_spec
      rw [Option.some.inj hp'] at hv
      obtain ⟨N, hN⟩ := hv
      exact parse_sound env2 (call2 N N) N (hN N N (Nat.le_refl _) (Nat.le_refl _))
    · cases hp'
  · split at hp'
    · rename_i H
      have hv := H.2.choose_spec
      have he := H.1
      clear hp
      generalize H.2.choose = z at hv hp'
      obtain ⟨rfl, rfl⟩ := Prod.mk.inj (Option.some.inj hp')
      obtain ⟨h1, h2⟩ := hv.2
      exact ⟨h1, fun K W0 ρ w args' hv hw => h2 K W0 ρ w args' (by rw [← he]; exact hv) hw⟩
    · cases hp'
def prL4 : List (Nat × Prim) := [(11, .fn (ecP 11)), (12, .fn (ecP 12)), (13, .fn (ecP 13)), (14, .fn (ecP 14)), (16, .fn parseP4), (17, .fn (ecP 17)), (18, .fn (ecP 18))]
def E4 : Env := ⟨prL4.foldl (fun t p => t.set p.1 p.2) .nil, tiT, fnT, eqT, plT⟩
theorem env4 : EnvOK E4 Tryz.prog := envOK rfl rfl rfl
theorem primS4 : PrimS E4 Tryz.prog := by
  refine primS_of (L := prL4) rfl fun f p hfp => ?_
  simp only [prL4, List.mem_cons, List.not_mem_nil, or_false, Prod.mk.injEq] at hfp
  rcases hfp with ⟨rfl, rfl⟩ | ⟨rfl, rfl⟩ | ⟨rfl, rfl⟩ | ⟨rfl, rfl⟩ | ⟨rfl, rfl⟩ | ⟨rfl, rfl⟩ | ⟨rfl, rfl⟩
  · exact ecP_ok 11
  · exact ecP_ok 12
  · exact ecP_ok 13
  · exact ecP_ok 14
  · exact parse_ok4
  · exact ecP_ok 17
  · exact ecP_ok 18
theorem call4 (lf n : Nat) : CallS Tryz.prog (callN E4 lf n) := callN_sound' env4 (names_of rfl) primS4 lf n
theorem ec4 {f : FuncId} {args : List AVal} {h : AHeap} {Q : AVal → AHeap → Prop} (hf : E4.prim.get f = some (.fn (ecP f))) (hc : Ec E2 f args h Q) : Ec E4 f args h Q := by
  obtain ⟨v, h', hv, hq⟩ := hc
  refine Ec.of_prim (p := .fn (ecP f)) (v := v) (h' := h') hf ?_ hq
  show ecP f args h = _
  unfold ecP
  have H : ∃ p : AVal × AHeap, Ev E2 f args h p.1 p.2 := ⟨(v, h'), hv⟩
  rw [dif_pos H]
  obtain ⟨e1, e2⟩ := Ev.inj H.choose_spec hv
  congr 1
  exact Prod.ext e1 e2
theorem p4_11 : E4.prim.get 11 = some (.fn (ecP 11)) := by kernel_rfl
theorem p4_13 : E4.prim.get 13 = some (.fn (ecP 13)) := by kernel_rfl
theorem p4_16 : E4.prim.get 16 = some (.fn parseP4) := by kernel_rfl
theorem p4_17 : E4.prim.get 17 = some (.fn (ecP 17)) := by kernel_rfl
theorem p4_18 : E4.prim.get 18 = some (.fn (ecP 18)) := by kernel_rfl
theorem p4_4 : E4.prim.get 4 = none := by kernel_rfl
theorem code4 : E4.code 4 = some (c4, [.tmp 2]) := by kernel_rfl
theorem parse_c4 (s : List Nat) (h : AHeap) (R : Option (List (List Alt))) (hs : s.length ≤ 2000000) (hR : rC (s.length + 1) s 0 [] = R) :
    Ec E4 16 [.str s] h fun u h' => ∃ v, u = .tup [v, .int .i64 (parseE R s)] ∧ CellsA h' v (parseL R s) ∧ Hle h h' := by
  have hag := parse_agree s R hR
  cases hr : pCells (s.length + 1) s 0 [] with
  | some r =>
    rw [hr] at hag
    rw [← hag.1, ← hag.2]
    obtain ⟨v, h', hv, hc, hle⟩ := parse_ev s h r hs hr
    refine Ec.of_prim (p := .fn parseP4) (v := .tup [v, .int .i64 (parseE r s)]) (h' := h') p4_16 ?_ ⟨v, rfl, hc, hle⟩
    show parseP4 [.str s] h = _
    unfold parseP4
    have hr' : (pCells ((strOf [.str s]).length + 1) (strOf [.str s]) 0 []).isSome = true := by show (pCells (s.length + 1) s 0 []).isSome = true; rw [hr]; rfl
    rw [if_pos hr']
    have H : ∃ p : AVal × AHeap, EvP [.str s] h p := ⟨_, hv⟩
    rw [dif_pos H]
    congr 1
    exact EvP.inj H.choose_spec hv
  | none =>
    rw [hr] at hag
    have hag' : parseE R s = 4 ∧ parseL R s = [] := hag
    rw [hag'.1, hag'.2]
    obtain ⟨h', hle, hE⟩ := parse_fail s h hs hr
    have H : [AVal.str s] = [.str (strOf [.str s])] ∧ ∃ h', Hle h h' ∧ Ev4 (strOf [.str s]) h h' := ⟨rfl, h', hle, hE⟩
    refine Ec.of_prim (p := .fn parseP4) (v := .tup [.nilslice, .int .i64 4]) (h' := H.2.choose) p4_16 ?_ ⟨.nilslice, rfl, CellsA.nil _, H.2.choose_spec.1⟩
    show parseP4 [.str s] h = _
    unfold parseP4
    have hr' : ¬ (pCells ((strOf [.str s]).length + 1) (strOf [.str s]) 0 []).isSome = true := by show ¬ (pCells (s.length + 1) s 0 []).isSome = true; rw [hr]; simp
    rw [if_neg hr', dif_pos H]
theorem parses_law (s : List Nat) (h : AHeap) (hs : s.length ≤ 2000000) : Ec E4 4 [.str s] h fun r _ => r = .bool true := by
  obtain ⟨R, hR⟩ : ∃ R, rC (s.length + 1) s 0 [] = R := ⟨_, rfl⟩
  refine Ec.of_wpb p4_4 code4 ?_
  unfold c4
  simp only [go_sem, Nat.reduceEqDiff, Int.reduceLT, Int.reduceLE, Int.reduceEq, Nat.reduceLT, Nat.reduceAdd, Nat.reduceMul, Int.reduceToNat, Nat.reduceLeDiff, reduceCtorEq]
  refine ⟨by decide, ?_⟩
  refine (parse_c4 s h R hs hR).mono ?_
  rintro r h1 ⟨v, rfl, hv, hle1⟩
  simp only [go_sem, Nat.reduceEqDiff, Int.reduceLT, Int.reduceLE, Int.reduceEq, Nat.reduceLT, Nat.reduceAdd, Nat.reduceMul, Int.reduceToNat, Nat.reduceLeDiff, reduceCtorEq]
  refine ⟨by decide, ?_⟩
  refine (ec4 p4_17 (refParse_c s h1 hs R hR)).mono ?_
  rintro r h2 ⟨u, rfl, hu, hle2⟩
  have hlens : (parseL R s).length ≤ 32 ∧ ∀ c ∈ parseL R s, c.length ≤ 8 := by
    unfold parseL
    split
    · split
      · rename_i hc
        obtain ⟨hl32, hvv⟩ := checkE_ok hc.1
        exact ⟨hl32, fun c hc => (hvv c hc).2.1⟩
      · exact ⟨by simp, by simp⟩
    · exact ⟨by simp, by simp⟩
  simp only [go_sem, Nat.reduceEqDiff, Int.reduceLT, Int.reduceLE, Int.reduceEq, Nat.reduceLT, Nat.reduceAdd, Nat.reduceMul, Int.reduceToNat, Nat.reduceLeDiff, reduceCtorEq]
  refine ⟨by decide, ?_⟩
  refine (ec4 p4_18 (sameCells_c (parseL R s) v u h2 (hv.mono hle2) hu (by omega) (fun c hc => by have := hlens.2 c hc; omega))).mono ?_
  rintro r h3 ⟨rfl, hle3⟩
  simp only [go_sem, Nat.reduceEqDiff, Int.reduceLT, Int.reduceLE, Int.reduceEq, Nat.reduceLT, Nat.reduceAdd, Nat.reduceMul, Int.reduceToNat, Nat.reduceLeDiff, reduceCtorEq]
  refine ⟨by decide, ?_⟩
  refine (ec4 p4_11 (print_c (parseL R s) v h3 (hv.mono (hle2.trans hle3)))).mono ?_
  rintro r h4 ⟨rfl, hle4⟩
  unfold printR
  by_cases hE : parseE R s = 0
  · obtain ⟨cells, rfl, hc, hp⟩ : ∃ cells, R = some cells ∧ checkE cells = 0 ∧ printS cells = s := by
      unfold parseE at hE
      split at hE
      · split at hE
        · rename_i hc; exact ⟨_, rfl, hc⟩
        · cases hE
      · cases hE
    have hl : parseL (some cells) s = cells := if_pos ⟨hc, hp⟩
    rw [hl]
    simp only [go_sem, Nat.reduceEqDiff, Int.reduceLT, Int.reduceLE, Int.reduceEq, Nat.reduceLT, Nat.reduceAdd, Nat.reduceMul, Int.reduceToNat, Nat.reduceLeDiff, reduceCtorEq, hE, hc, hp]
    refine ⟨by decide, ?_⟩
    refine (ec4 p4_13 (alive_c h4)).mono ?_
    rintro r h5 ⟨rfl, rfl⟩
    simp only [go_sem, Nat.reduceEqDiff, Int.reduceLT, Int.reduceLE, Int.reduceEq, Nat.reduceLT, Nat.reduceAdd, Nat.reduceMul, Int.reduceToNat, Nat.reduceLeDiff, reduceCtorEq, hE, hc, hp]
  · simp only [go_sem, Nat.reduceEqDiff, Int.reduceLT, Int.reduceLE, Int.reduceEq, Nat.reduceLT, Nat.reduceAdd, Nat.reduceMul, Int.reduceToNat, Nat.reduceLeDiff, reduceCtorEq, hE]
    refine ⟨by decide, ?_⟩
    refine (ec4 p4_13 (alive_c h4)).mono ?_
    rintro r h5 ⟨rfl, rfl⟩
    simp only [go_sem, Nat.reduceEqDiff, Int.reduceLT, Int.reduceLE, Int.reduceEq, Nat.reduceLT, Nat.reduceAdd, Nat.reduceMul, Int.reduceToNat, Nat.reduceLeDiff, reduceCtorEq, hE]
end
end Go.AX

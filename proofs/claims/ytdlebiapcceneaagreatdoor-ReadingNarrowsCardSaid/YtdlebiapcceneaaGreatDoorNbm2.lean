/-
  Contracts of functions of this seat, for every input that each theorem names.
-/
import Derived.Test.YtdlebiapcceneaaGreatDoorNbm1
set_option linter.unusedVariables false
set_option linter.unusedSimpArgs false
set_option linter.unusedSectionVars false
namespace Go.AX
open Go Go.Proofs
noncomputable section
set_option linter.unusedSimpArgs false
set_option linter.unusedVariables false
attribute [local go_sem] b_seq wp_skip wp_exit wp_ret wp_region b_block wops_nil b_ops b_opsg b_cond condV_lite wo_mv b_bin wo_call callV_func wo_pick b_box wo_load1 wo_loadN wo_store wo_nilCheck wo_not wo_lenStr' wo_lenSl wo_ixStr' wo_ixSl wo_fAddr wo_part1 wo_partN wo_extract wo_cInt wo_cStr wo_mkMap wo_mkIface wo_mkFunc wo_lookup pickV_bool ifT_true ifT_false b_loadV b_loadNV b_storeV nilV_ptr nilV_func nilV_iface notV_bool lenStrV_str lenSlV_nil lenSlV_slice b_ixStrV ixSlV_slice fAddrV_ptr b_part1V partNV_agg b_extractV convV_int strV_str evC_tm evC_cn T.get_set putA_some putA_none onO_some evCs_nil evCs_cons appL_nil appL_cons guardOk_true guardOk_false cellsV_bool cellsV_int cellsV_str cellsV_nilptr cellsV_ptr cellsV_nilslice cellsV_slice cellsV_nilmap cellsV_map cellsV_func cellsV_nilfunc cellsV_iface cellsV_niliface cellsV_agg bin_lss bin_gtr bin_leq bin_geq bin_eql bin_neq bin_add bin_sub bin_eqlS bin_neqS mkFrame_nil mkFrame_cons resA_one resA_two resA_three over_0 over_1 over_2 over_3 over_4 over_5 over0_nil over0_cons Option.getD_some if_true if_false AHeap.next_push AVal.bool.injEq decide_eq_true_eq decide_eq_false_iff_not Bool.not_eq_true' Bool.not_eq_false' Bool.not_eq_true decide_true decide_false Bool.not_true Bool.not_false Int.toNat_natCast Int.natCast_nonneg true_and and_true wo_mapPut wp_drawn' wsts_nil b_pure b_read b_new b_wr wor_none b_org rer_nil rer_load1 rer_loadN wo_append AHeap.next_skip AHeap.next_put' AHeap.mk_push_t AHeap.mk_eta AHeap.mk_skip ldA_skip ldN_skip Nat.add_zero Nat.zero_add b_lite_true b_lite_false eq_self_iff_true not_true_eq_false not_false_eq_true bx_k bx_q bx_x bx_1 undefA_bool putAt_push List.length_cons List.length_nil Nat.le_refl ldA_push_new ldN_push_new List.getElem?_cons_zero List.getElem?_cons_succ List.drop_zero List.drop_succ_cons List.take_succ_cons List.take_zero b_build b_buildSlice evParts_nil evParts_cons b_fillA_nil b_fillA nbeq nble natadd natmul lenL_eq repL_1 repL_2 repL_3 wo_sliceData sdV_nil sdV_slice wo_unsafeStr usV_nil wo_slStr slStrV_str evCo_none evCo_some boundA_none Bool.and_true Bool.true_and wo_minmax2' mm2V_int
theorem valid_c (alts : List Alt) (v : AVal) (h : AHeap) (H : AltsA h v alts) : Ec E2 40 [.agg [v]] h fun r h' => r = .bool (decide (validP alts)) ∧ Hle h h' := by
  refine Ec.of_wpb (prim2_none (by decide)) code40 ?_
  unfold c40
  by_cases g1 : (alts.length : Int) < 1
  · simp only [go_sem, Nat.reduceEqDiff, Int.reduceLT, Int.reduceLE, Int.reduceEq, Nat.reduceLT, Nat.reduceAdd, Nat.reduceMul, Int.reduceToNat, Nat.reduceLeDiff, reduceCtorEq, H.cells, H.len, g1]
    have : ¬ validP alts := fun hv => by have := hv.1; omega
    simp only [this, decide_false, true_and]
    exact (Hle.refl h).push _
  by_cases g2 : (8 : Int) < (alts.length : Int)
  · simp only [go_sem, Nat.reduceEqDiff, Int.reduceLT, Int.reduceLE, Int.reduceEq, Nat.reduceLT, Nat.reduceAdd, Nat.reduceMul, Int.reduceToNat, Nat.reduceLeDiff, reduceCtorEq, H.cells, H.len, g1, g2]
    have : ¬ validP alts := fun hv => by have := hv.2.1; omega
    simp only [this, decide_false, true_and]
    exact (Hle.refl h).push _
  have hld : ∀ o, ldA ((h.push (.cells [v] 55)).push o) h.next 0 = some v := fun o => by rw [ldA_push_old (by simp [AHeap.next_push]), ldA_push_new]; rfl
  simp only [go_sem, Nat.reduceEqDiff, Int.reduceLT, Int.reduceLE, Int.reduceEq, Nat.reduceLT, Nat.reduceAdd, Nat.reduceMul, Int.reduceToNat, Nat.reduceLeDiff, reduceCtorEq, H.cells, H.len, g1, g2, hld]
  refine b_loop (fun d fr h' => Hle h h' ∧ fr.get 18 = some v ∧ fr.get 19 = some (.int .i64 (alts.length : Int)) ∧ ∃ r es c, fr.get 3 = some (.map r) ∧ h.next ≤ r ∧ r < h'.next ∧ h'.get r = some (.map es c) ∧
    ∃ i : Nat, fr.get 20 = some (.int .i64 (i : Int)) ∧ d + i = alts.length ∧ goodP (alts.take i) ∧ SeenIs es ((alts.take i).map Prod.fst)) alts.length ?_ ?_
  · refine ⟨((Hle.refl h).push _).push _, by simp [T.get_set], by simp [T.get_set], h.next + 1, [], 0, by simp [T.get_set], by omega, by simp [AHeap.next_push], ?_, 0, by simp [T.get_set], by omega, ?_, ?_⟩
    · exact AHeap.get_push_same (h.push _) _
    · exact ⟨by simp, by simp⟩
    · exact SeenIs.nil
  rintro d fr h' ⟨hle, h18, h19, r, es, c, h3, hr1, hr2, hgr, i, h20, hd, hgood, hseen⟩
  unfold c40_l0
  simp only [go_sem, Nat.reduceEqDiff, Int.reduceLT, Int.reduceLE, Int.reduceEq, Nat.reduceLT, Nat.reduceAdd, Nat.reduceMul, Int.reduceToNat, Nat.reduceLeDiff, reduceCtorEq, h18, h19, h20, h3]
  refine b_lite (fun hc => ?_) (fun hc => ?_)
  · obtain ⟨⟨s, n⟩, ha⟩ : ∃ a, alts[i]? = some a := ⟨_, List.getElem?_eq_getElem (by omega)⟩
    have H' := H.mono hle
    obtain ⟨b, o, hb, hix, hl0, hl1, hlN⟩ := H'.at ha
    have hslen : s.length ≤ 9223372036854775807 := H.2 _ (List.mem_of_getElem? ha)
    have hms : ∀ x, mapAt (h'.push x) (.map r) = some es := fun x => mapAt_map (c := c) (by rw [AHeap.get_push_ne _ _ (by omega)]; exact hgr)
    have hbad : (¬ altOk (s, n) ∨ s ∈ (alts.take i).map Prod.fst) → ¬ validP alts := by
      intro hb hv
      obtain ⟨k1, k2⟩ := hv.2.2.at ha
      rcases hb with hb | hb
      · exact hb k1
      · exact k2 hb
    have hpush : ∀ x, Hle h (h'.push x) := fun x => hle.push x
    by_cases p1 : (3 : Int) < (s.length : Int)
    · simp only [go_sem, Nat.reduceEqDiff, Int.reduceLT, Int.reduceLE, Int.reduceEq, Nat.reduceLT, Nat.reduceAdd, Nat.reduceMul, Int.reduceToNat, Nat.reduceLeDiff, reduceCtorEq, h18, h19, h20, h3, hix, hlN, p1]
      have : ¬ validP alts := hbad (.inl fun hk => by have := hk.1; simp at this; omega)
      simp only [this, decide_false, true_and]
      exact hpush _
    simp only [go_sem, Nat.reduceEqDiff, Int.reduceLT, Int.reduceLE, Int.reduceEq, Nat.reduceLT, Nat.reduceAdd, Nat.reduceMul, Int.reduceToNat, Nat.reduceLeDiff, reduceCtorEq, h18, h19, h20, h3, hix, hlN, p1]
    refine ⟨by decide, ?_⟩
    refine (letters_c s _ hslen).mono ?_
    rintro u h1 ⟨rfl, rfl⟩
    by_cases p2' : lettered s = false
    · simp only [go_sem, Nat.reduceEqDiff, Int.reduceLT, Int.reduceLE, Int.reduceEq, Nat.reduceLT, Nat.reduceAdd, Nat.reduceMul, Int.reduceToNat, Nat.reduceLeDiff, reduceCtorEq, h18, h19, h20, h3, hix, hlN, p1, p2']
      have : ¬ validP alts := hbad (.inl fun hk => by have := hk.2.1; simp [p2'] at this)
      simp only [this, decide_false, true_and]
      exact hpush _
    have p2 : lettered s = true := by simpa using p2'
    by_cases p3 : n < 0
    · simp only [go_sem, Nat.reduceEqDiff, Int.reduceLT, Int.reduceLE, Int.reduceEq, Nat.reduceLT, Nat.reduceAdd, Nat.reduceMul, Int.reduceToNat, Nat.reduceLeDiff, reduceCtorEq, h18, h19, h20, h3, hix, hlN, p1, p2, p3]
      have : ¬ validP alts := hbad (.inl fun hk => by have := hk.2.2.1; simp at this; omega)
      simp only [this, decide_false, true_and]
      exact hpush _
    by_cases p4 : (1000 : Int) < n
    · simp only [go_sem, Nat.reduceEqDiff, Int.reduceLT, Int.reduceLE, Int.reduceEq, Nat.reduceLT, Nat.reduceAdd, Nat.reduceMul, Int.reduceToNat, Nat.reduceLeDiff, reduceCtorEq, h18, h19, h20, h3, hix, hlN, p1, p2, p3, p4]
      have : ¬ validP alts := hbad (.inl fun hk => by have := hk.2.2.2; simp at this; omega)
      simp only [this, decide_false, true_and]
      exact hpush _
    by_cases p5 : s ∈ (alts.take i).map Prod.fst
    · obtain ⟨j, hj⟩ := (hseen s).1 p5
      simp only [go_sem, Nat.reduceEqDiff, Int.reduceLT, Int.reduceLE, Int.reduceEq, Nat.reduceLT, Nat.reduceAdd, Nat.reduceMul, Int.reduceToNat, Nat.reduceLeDiff, reduceCtorEq, h18, h19, h20, h3, hix, hlN, p1, p2, p3, p4, lookV_some (hms _) (keyOk_one _ _) hj]
      have : ¬ validP alts := hbad (.inr p5)
      simp only [this, decide_false, true_and]
      exact hpush _
    have hf := (hseen s).2 p5
    have hgr' : ∀ x, (h'.push x).get r = some (.map es c) := fun x => by rw [AHeap.get_push_ne _ _ (by omega)]; exact hgr
    simp only [go_sem, Nat.reduceEqDiff, Int.reduceLT, Int.reduceLE, Int.reduceEq, Nat.reduceLT, Nat.reduceAdd, Nat.reduceMul, Int.reduceToNat, Nat.reduceLeDiff, reduceCtorEq, h18, h19, h20, h3, hix, hlN, p1, p2, p3, p4, lookV_none (hms _) (keyOk_one _ _) hf, putV_new (hgr' _) (keyOk_one _ _) hf]
    refine ⟨d - 1, by omega, (hpush _).put hr1 _, r, _, c + 1, rfl, hr1, by omega, AHeap.get_put_same _ _ _, i + 1, ?_, by omega, ?_, ?_⟩
    · rw [wrap_i64 (by omega) (by omega)]; rfl
    · exact hgood.snoc ha ⟨by simp; omega, p2, by simp; omega, by simp; omega⟩ p5
    · rw [List.take_add_one, ha]
      simp only [Option.toList_some, List.map_append, List.map_cons, List.map_nil]
      exact hseen.snoc s c p5
  · simp only [go_sem, Nat.reduceEqDiff, Int.reduceLT, Int.reduceLE, Int.reduceEq, Nat.reduceLT, Nat.reduceAdd, Nat.reduceMul, Int.reduceToNat, Nat.reduceLeDiff, reduceCtorEq, h18, h19, h20, h3]
    have hi : i = alts.length := by omega
    rw [hi, List.take_length] at hgood
    have : validP alts := ⟨by omega, by omega, hgood⟩
    simp only [this, decide_true, true_and]
    exact hle
theorem validCell_c (alts : List Alt) (v : AVal) (h : AHeap) (H : AltsA h v alts) : Ec E2 41 [.agg [v]] h fun r h' => r = .bool (decide (validP alts)) ∧ Hle h h' := by
  refine Ec.of_wpb (prim2_none (by decide)) code41 ?_
  unfold c41
  by_cases g1 : (alts.length : Int) < 1
  · simp only [go_sem, Nat.reduceEqDiff, Int.reduceLT, Int.reduceLE, Int.reduceEq, Nat.reduceLT, Nat.reduceAdd, Nat.reduceMul, Int.reduceToNat, Nat.reduceLeDiff, reduceCtorEq, H.cells, H.len, g1]
    have : ¬ validP alts := fun hv => by have := hv.1; omega
    simp only [this, decide_false, true_and]
    exact (Hle.refl h).push _
  by_cases g2 : (8 : Int) < (alts.length : Int)
  · simp only [go_sem, Nat.reduceEqDiff, Int.reduceLT, Int.reduceLE, Int.reduceEq, Nat.reduceLT, Nat.reduceAdd, Nat.reduceMul, Int.reduceToNat, Nat.reduceLeDiff, reduceCtorEq, H.cells, H.len, g1, g2]
    have : ¬ validP alts := fun hv => by have := hv.2.1; omega
    simp only [this, decide_false, true_and]
    exact (Hle.refl h).push _
  simp only [go_sem, Nat.reduceEqDiff, Int.reduceLT, Int.reduceLE, Int.reduceEq, Nat.reduceLT, Nat.reduceAdd, Nat.reduceMul, Int.reduceToNat, Nat.reduceLeDiff, reduceCtorEq, H.cells, H.len, g1, g2]
  have h1n : (h.push (.cells [v] 55)).next = h.next + 1 := rfl
  have h1l : ldA (h.push (.cells [v] 55)) h.next 0 = some v := by rw [ldA_push_new]; rfl
  have h1le : Hle h (h.push (.cells [v] 55)) := (Hle.refl h).push _
  generalize h.push (.cells [v] 55) = h1 at h1n h1l h1le ⊢
  have H1 := H.mono h1le
  refine b_loop (fun d fr h' => Hle h1 h' ∧ fr.get 1 = some (.ptr h.next 0) ∧ ∃ i : Nat, fr.get 3 = some (.int .i64 (i : Int)) ∧ d + i = alts.length ∧ goodP (alts.take i)) alts.length ?_ ?_
  · exact ⟨Hle.refl _, by simp [T.get_set], 0, by simp [T.get_set], by omega, by simp, by simp⟩
  rintro d fr h' ⟨hle, t1, i, t3, hd, hgood⟩
  have hbox : ldA h' h.next 0 = some v := (hle.ldA (by omega) 0).trans h1l
  unfold c41_l1
  simp only [go_sem, Nat.reduceEqDiff, Int.reduceLT, Int.reduceLE, Int.reduceEq, Nat.reduceLT, Nat.reduceAdd, Nat.reduceMul, Int.reduceToNat, Nat.reduceLeDiff, reduceCtorEq, t1, t3, hbox, H.len]
  refine b_lite (fun hc => ?_) (fun hc => ?_)
  · obtain ⟨⟨s, n⟩, ha⟩ : ∃ a, alts[i]? = some a := ⟨_, List.getElem?_eq_getElem (by omega)⟩
    have H' := H1.mono hle
    obtain ⟨b, o, hb, hix, hl0, hl1, hlN⟩ := H'.at ha
    have hslen : s.length ≤ 9223372036854775807 := H.2 _ (List.mem_of_getElem? ha)
    have hbad : (¬ altOk (s, n) ∨ s ∈ (alts.take i).map Prod.fst) → ¬ validP alts := by
      intro hb hv
      obtain ⟨k1, k2⟩ := hv.2.2.at ha
      rcases hb with hb | hb
      · exact hb k1
      · exact k2 hb
    have hout : Hle h h' := h1le.trans hle
    simp only [go_sem, Nat.reduceEqDiff, Int.reduceLT, Int.reduceLE, Int.reduceEq, Nat.reduceLT, Nat.reduceAdd, Nat.reduceMul, Int.reduceToNat, Nat.reduceLeDiff, reduceCtorEq, t1, t3, hbox, hix, hl0, hl1]
    refine ⟨by decide, ?_⟩
    refine (lettered_c s _ hslen).mono ?_
    rintro u h2 ⟨rfl, rfl⟩
    by_cases p2' : lettered s = false
    · simp only [go_sem, Nat.reduceEqDiff, Int.reduceLT, Int.reduceLE, Int.reduceEq, Nat.reduceLT, Nat.reduceAdd, Nat.reduceMul, Int.reduceToNat, Nat.reduceLeDiff, reduceCtorEq, t1, t3, hbox, hix, hl0, hl1, p2']
      have : ¬ validP alts := hbad (.inl fun hk => by have := hk.2.1; simp [p2'] at this)
      simp only [this, decide_false, true_and]
      exact hout
    have p2 : lettered s = true := by simpa using p2'
    by_cases p1 : (3 : Int) < (s.length : Int)
    · simp only [go_sem, Nat.reduceEqDiff, Int.reduceLT, Int.reduceLE, Int.reduceEq, Nat.reduceLT, Nat.reduceAdd, Nat.reduceMul, Int.reduceToNat, Nat.reduceLeDiff, reduceCtorEq, t1, t3, hbox, hix, hl0, hl1, p2, p1]
      have : ¬ validP alts := hbad (.inl fun hk => by have := hk.1; simp at this; omega)
      simp only [this, decide_false, true_and]
      exact hout
    by_cases p3 : n < 0
    · simp only [go_sem, Nat.reduceEqDiff, Int.reduceLT, Int.reduceLE, Int.reduceEq, Nat.reduceLT, Nat.reduceAdd, Nat.reduceMul, Int.reduceToNat, Nat.reduceLeDiff, reduceCtorEq, t1, t3, hbox, hix, hl0, hl1, p2, p1, p3]
      have : ¬ validP alts := hbad (.inl fun hk => by have := hk.2.2.1; simp at this; omega)
      simp only [this, decide_false, true_and]
      exact hout
    by_cases p4 : (1000 : Int) < n
    · simp only [go_sem, Nat.reduceEqDiff, Int.reduceLT, Int.reduceLE, Int.reduceEq, Nat.reduceLT, Nat.reduceAdd, Nat.reduceMul, Int.reduceToNat, Nat.reduceLeDiff, reduceCtorEq, t1, t3, hbox, hix, hl0, hl1, p2, p1, p3, p4]
      have : ¬ validP alts := hbad (.inl fun hk => by have := hk.2.2.2; simp at this; omega)
      simp only [this, decide_false, true_and]
      exact hout
    simp only [go_sem, Nat.reduceEqDiff, Int.reduceLT, Int.reduceLE, Int.reduceEq, Nat.reduceLT, Nat.reduceAdd, Nat.reduceMul, Int.reduceToNat, Nat.reduceLeDiff, reduceCtorEq, t1, t3, hbox, hix, hl0, hl1, p2, p1, p3, p4]
    refine b_loop (fun e fr h'' => Hle h1 h'' ∧ fr.get 1 = some (.ptr h.next 0) ∧ fr.get 3 = some (.int .i64 (i : Int)) ∧ ∃ k : Nat, fr.get 5 = some (.int .i64 (k : Int)) ∧ e + k = i ∧ s ∉ (alts.take k).map Prod.fst) i ?_ ?_
    · exact ⟨hle, by simp [T.get_set, t1], by simp [T.get_set, t3], 0, by simp [T.get_set], by omega, by simp⟩
    rintro e fr2 h'' ⟨hle2, u1, u3, k, u5, he, hk⟩
    have hbox2 : ldA h'' h.next 0 = some v := (hle2.ldA (by omega) 0).trans h1l
    unfold c41_l0
    simp only [go_sem, Nat.reduceEqDiff, Int.reduceLT, Int.reduceLE, Int.reduceEq, Nat.reduceLT, Nat.reduceAdd, Nat.reduceMul, Int.reduceToNat, Nat.reduceLeDiff, reduceCtorEq, u1, u3, u5]
    refine b_lite (fun hc2 => ?_) (fun hc2 => ?_)
    · obtain ⟨⟨s', n'⟩, ha'⟩ : ∃ a, alts[k]? = some a := ⟨_, List.getElem?_eq_getElem (by omega)⟩
      have H'' := H1.mono hle2
      obtain ⟨b1, o1, _, hix1, hm0, _, _⟩ := H''.at ha'
      obtain ⟨b2, o2, _, hix2, hm2, _, _⟩ := H''.at ha
      by_cases hss : s' = s
      · simp only [go_sem, Nat.reduceEqDiff, Int.reduceLT, Int.reduceLE, Int.reduceEq, Nat.reduceLT, Nat.reduceAdd, Nat.reduceMul, Int.reduceToNat, Nat.reduceLeDiff, reduceCtorEq, u1, u3, u5, hbox2, hix1, hix2, hm0, hm2, hss]
        have : ¬ validP alts := by
          refine hbad (.inr (List.mem_map.2 ⟨(s', n'), List.mem_iff_getElem?.2 ⟨k, ?_⟩, hss⟩))
          rw [List.getElem?_take, if_pos (by omega)]
          exact ha'
        simp only [this, decide_false, true_and]
        exact (h1le.trans hle2).skip _
      · simp only [go_sem, Nat.reduceEqDiff, Int.reduceLT, Int.reduceLE, Int.reduceEq, Nat.reduceLT, Nat.reduceAdd, Nat.reduceMul, Int.reduceToNat, Nat.reduceLeDiff, reduceCtorEq, u1, u3, u5, hbox2, hix1, hix2, hm0, hm2, hss]
        refine ⟨e - 1, by omega, hle2.skip _, k + 1, ?_, by omega, ?_⟩
        · rw [wrap_i64 (by omega) (by omega)]; rfl
        · rw [List.take_add_one, ha']
          simp only [Option.toList_some, List.map_append, List.map_cons, List.map_nil, List.mem_append, List.mem_cons, List.not_mem_nil, or_false, not_or]
          exact ⟨hk, fun e => hss e.symm⟩
    · simp only [go_sem, Nat.reduceEqDiff, Int.reduceLT, Int.reduceLE, Int.reduceEq, Nat.reduceLT, Nat.reduceAdd, Nat.reduceMul, Int.reduceToNat, Nat.reduceLeDiff, reduceCtorEq, u1, u3, u5]
      have hki : k = i := by omega
      subst hki
      refine ⟨d - 1, by omega, hle2, k + 1, ?_, by omega, ?_⟩
      · rw [wrap_i64 (by omega) (by omega)]; rfl
      · exact hgood.snoc ha ⟨by simp; omega, p2, by simp; omega, by simp; omega⟩ hk
  · simp only [go_sem, Nat.reduceEqDiff, Int.reduceLT, Int.reduceLE, Int.reduceEq, Nat.reduceLT, Nat.reduceAdd, Nat.reduceMul, Int.reduceToNat, Nat.reduceLeDiff, reduceCtorEq, t1, t3]
    have hi : i = alts.length := by omega
    rw [hi, List.take_length] at hgood
    have : validP alts := ⟨by omega, by omega, hgood⟩
    simp only [this, decide_true, true_and]
    exact h1le.trans hle
end
end Go.AX
namespace Go.AX
open Go Go.Proofs
noncomputable section
set_option linter.unusedSimpArgs false
set_option linter.unusedVariables false
attribute [local go_sem] b_seq wp_skip wp_exit wp_ret wp_region b_block wops_nil b_ops b_opsg b_cond condV_lite wo_mv b_bin wo_call callV_func wo_pick b_box wo_load1 wo_loadN wo_store wo_nilCheck wo_not wo_lenStr' wo_lenSl wo_ixStr' wo_ixSl wo_fAddr wo_part1 wo_partN wo_extract wo_cInt wo_cStr wo_mkMap wo_mkIface wo_mkFunc wo_lookup pickV_bool ifT_true ifT_false b_loadV b_loadNV b_storeV nilV_ptr nilV_func nilV_iface notV_bool lenStrV_str lenSlV_nil lenSlV_slice b_ixStrV ixSlV_slice fAddrV_ptr b_part1V partNV_agg b_extractV convV_int strV_str evC_tm evC_cn T.get_set putA_some putA_none onO_some evCs_nil evCs_cons appL_nil appL_cons guardOk_true guardOk_false cellsV_bool cellsV_int cellsV_str cellsV_nilptr cellsV_ptr cellsV_nilslice cellsV_slice cellsV_nilmap cellsV_map cellsV_func cellsV_nilfunc cellsV_iface cellsV_niliface cellsV_agg bin_lss bin_gtr bin_leq bin_geq bin_eql bin_neq bin_add bin_sub bin_eqlS bin_neqS mkFrame_nil mkFrame_cons resA_one resA_two resA_three over_0 over_1 over_2 over_3 over_4 over_5 over0_nil over0_cons Option.getD_some if_true if_false AHeap.next_push AVal.bool.injEq decide_eq_true_eq decide_eq_false_iff_not Bool.not_eq_true' Bool.not_eq_false' Bool.not_eq_true decide_true decide_false Bool.not_true Bool.not_false Int.toNat_natCast Int.natCast_nonneg true_and and_true wo_mapPut wp_drawn' wsts_nil b_pure b_read b_new b_wr wor_none b_org rer_nil rer_load1 rer_loadN wo_append AHeap.next_skip AHeap.next_put' AHeap.mk_push_t AHeap.mk_eta AHeap.mk_skip ldA_skip ldN_skip Nat.add_zero Nat.zero_add b_lite_true b_lite_false eq_self_iff_true not_true_eq_false not_false_eq_true bx_k bx_q bx_x bx_1 undefA_bool putAt_push List.length_cons List.length_nil Nat.le_refl ldA_push_new ldN_push_new List.getElem?_cons_zero List.getElem?_cons_succ List.drop_zero List.drop_succ_cons List.take_succ_cons List.take_zero b_build b_buildSlice evParts_nil evParts_cons b_fillA_nil b_fillA nbeq nble natadd natmul lenL_eq repL_1 repL_2 repL_3 wo_sliceData sdV_nil sdV_slice wo_unsafeStr usV_nil wo_slStr slStrV_str evCo_none evCo_some boundA_none Bool.and_true Bool.true_and wo_minmax2' mm2V_int
def Bld (A : Nat → Prop) (h : AHeap) (b : Nat) (bs : List Nat) : Prop := b < h.next ∧ ¬ A b ∧ ∃ x buf, h.get b = some (.cells [x, buf] 52) ∧ (x = .nilptr ∨ x = .ptr b 0) ∧ OwnL h 1 5 buf (ofBytes bs) ∧ (∀ c, blkOf buf c → c ≠ b ∧ ¬ A c) ∧ (bs = [] → buf = .nilslice)
theorem Bld.push {A : Nat → Prop} {h : AHeap} {b : Nat} {bs : List Nat} (H : Bld A h b bs) (o : AObj) : Bld (fun c => A c ∨ c = h.next) (h.push o) b bs := by
  obtain ⟨h1, h2, x, buf, h3, h4, h5, h6, h7⟩ := H
  refine ⟨by simp [AHeap.next_push]; omega, fun e => e.elim h2 (fun e => by omega), x, buf, by rw [AHeap.get_push_ne _ _ (by omega)]; exact h3, h4, h5.frame (by simp [AHeap.next_push]) (fun c hc => AHeap.get_push_ne _ _ (by have := h5.blk hc; omega)), fun c hc => ⟨(h6 c hc).1, fun e => e.elim (h6 c hc).2 (fun e => by have := h5.blk hc; omega)⟩, h7⟩
theorem Bld.sub {A A' : Nat → Prop} {h : AHeap} {b : Nat} {bs : List Nat} (H : Bld A h b bs) (hA : ∀ c, A' c → A c) : Bld A' h b bs := by
  obtain ⟨h1, h2, x, buf, h3, h4, h5, h6, h7⟩ := H
  exact ⟨h1, fun e => h2 (hA _ e), x, buf, h3, h4, h5, fun c hc => ⟨(h6 c hc).1, fun e => (h6 c hc).2 (hA _ e)⟩, h7⟩
theorem Bld.new {A : Nat → Prop} {h : AHeap} (hA : ¬ A h.next) : Bld A (h.push (.cells [.nilptr, .nilslice] 52)) h.next [] :=
  ⟨by simp [AHeap.next_push], hA, _, _, AHeap.get_push_same _ _, .inl rfl, .inl ⟨rfl, rfl⟩, (fun c ⟨_, _, _, _, hc⟩ => by cases hc), fun _ => rfl⟩
end
end Go.AX

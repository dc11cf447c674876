/-
  Contracts of functions of this seat, for every input that each theorem names.
-/
import Derived.Test.YtdlebiapcceneaaGreatDoorNdm1
set_option linter.unusedVariables false
set_option linter.unusedSimpArgs false
set_option linter.unusedSectionVars false
namespace Go.AX
open Go Go.Proofs
noncomputable section
set_option linter.unusedSimpArgs false
set_option linter.unusedVariables false
attribute [local go_sem] b_seq wp_skip wp_exit wp_ret wp_region b_block wops_nil b_ops b_opsg b_cond condV_lite wo_mv b_bin wo_call callV_func wo_pick b_box wo_load1 wo_loadN wo_store wo_nilCheck wo_not wo_lenStr' wo_lenSl wo_ixStr' wo_ixSl wo_fAddr wo_part1 wo_partN wo_extract wo_cInt wo_cStr wo_mkMap wo_mkIface wo_mkFunc wo_lookup pickV_bool ifT_true ifT_false b_loadV b_loadNV b_storeV nilV_ptr nilV_func nilV_iface notV_bool lenStrV_str lenSlV_nil lenSlV_slice b_ixStrV ixSlV_slice fAddrV_ptr b_part1V partNV_agg b_extractV convV_int strV_str evC_tm evC_cn T.get_set putA_some putA_none onO_some evCs_nil evCs_cons appL_nil appL_cons guardOk_true guardOk_false cellsV_bool cellsV_int cellsV_str cellsV_nilptr cellsV_ptr cellsV_nilslice cellsV_slice cellsV_nilmap cellsV_map cellsV_func cellsV_nilfunc cellsV_iface cellsV_niliface cellsV_agg bin_lss bin_gtr bin_leq bin_geq bin_eql bin_neq bin_add bin_sub bin_eqlS bin_neqS mkFrame_nil mkFrame_cons resA_one resA_two resA_three over_0 over_1 over_2 over_3 over_4 over_5 over0_nil over0_cons Option.getD_some if_true if_false AHeap.next_push AVal.bool.injEq decide_eq_true_eq decide_eq_false_iff_not Bool.not_eq_true' Bool.not_eq_false' Bool.not_eq_true decide_true decide_false Bool.not_true Bool.not_false Int.toNat_natCast Int.natCast_nonneg true_and and_true wo_mapPut wp_drawn' wsts_nil b_pure b_read b_new b_wr wor_none b_org rer_nil rer_load1 rer_loadN wo_append AHeap.next_skip AHeap.next_put' AHeap.mk_push_t AHeap.mk_eta AHeap.mk_skip ldA_skip ldN_skip Nat.add_zero Nat.zero_add b_lite_true b_lite_false eq_self_iff_true not_true_eq_false not_false_eq_true bx_k bx_q bx_x bx_1 undefA_bool putAt_push List.length_cons List.length_nil Nat.le_refl ldA_push_new ldN_push_new List.getElem?_cons_zero List.getElem?_cons_succ List.drop_zero List.drop_succ_cons List.take_succ_cons List.take_zero b_build b_buildSlice evParts_nil evParts_cons b_fillA_nil b_fillA nbeq nble natadd natmul lenL_eq repL_1 repL_2 repL_3 wo_sliceData sdV_nil sdV_slice wo_unsafeStr usV_nil wo_slStr slStrV_str evCo_none evCo_some boundA_none Bool.and_true Bool.true_and wo_minmax2' mm2V_int
theorem valid_c (alts : List Alt) (v : AVal) (h : AHeap) (H : AltsA h v alts) : Ec E2 40 [.agg [v]] h fun r h' => r = .bool (decide (validP alts)) ∧ Hle h h' := by
  refine Ec.of_wpb (prim2_none (by decide)) code40 ?_
  unfold c40
  by_cases g1 : (alts.length : Int) < 1
  · simp only [go_sem, Nat.reduceEqDiff, Int.reduceLT, Int.reduceLE, Int.reduceEq, Nat.reduceLT, Nat.reduceAdd, Nat.reduceMul, Int.reduceToNat, Nat.reduceLeDiff, reduceCtorEq, H.cells, H.len, g1]
    have : ¬ validP alts := fun hv => by have := hv.1; omega
    simp only [this, decide_false, true_and]
    exact (Hle.refl h).push _
  by_cases g2 : (8 : Int) < (alts.length : Int)
  · simp only [go_sem, Nat.reduceEqDiff, Int.reduceLT, Int.reduceLE, Int.reduceEq, Nat.reduceLT, Nat.reduceAdd, Nat.reduceMul, Int.reduceToNat, Nat.reduceLeDiff, reduceCtorEq, H.cells, H.len, g1, g2]
    have : ¬ validP alts := fun hv => by have := hv.2.1; omega
    simp only [this, decide_false, true_and]
    exact (Hle.refl h).push _
  have hld : ∀ o, ldA ((h.push (.cells [v] 55)).push o) h.next 0 = some v := fun o => by rw [ldA_push_old (by simp [AHeap.next_push]), ldA_push_new]; rfl
  simp only [go_sem, Nat.reduceEqDiff, Int.reduceLT, Int.reduceLE, Int.reduceEq, Nat.reduceLT, Nat.reduceAdd, Nat.reduceMul, Int.reduceToNat, Nat.reduceLeDiff, reduceCtorEq, H.cells, H.len, g1, g2, hld]
  refine b_loop (fun d fr h' => Hle h h' ∧ fr.get 18 = some v ∧ fr.get 19 = some (.int .i64 (alts.length : Int)) ∧ ∃ r es c, fr.get 3 = some (.map r) ∧ h.next ≤ r ∧ r < h'.next ∧ h'.get r = some (.map es c) ∧
    ∃ i : Nat, fr.get 20 = some (.int .i64 (i : Int)) ∧ d + i = alts.length ∧ goodP (alts.take i) ∧ SeenIs es ((alts.take i).map Prod.fst)) alts.length ?_ ?_
  · refine ⟨((Hle.refl h).push _).push _, by simp [T.get_set], by simp [T.get_set], h.next + 1, [], 0, by simp [T.get_set], by omega, by simp [AHeap.next_push], ?_, 0, by simp [T.get_set], by omega, ?_, ?_⟩
    · exact AHeap.get_push_same (h.push _) _
    · exact ⟨by simp, by simp⟩
    · exact SeenIs.nil
  rintro d fr h' ⟨hle, h18, h19, r, es, c, h3, hr1, hr2, hgr, i, h20, hd, hgood, hseen⟩
  unfold c40_l0
  simp only [go_sem, Nat.reduceEqDiff, Int.reduceLT, Int.reduceLE, Int.reduceEq, Nat.reduceLT, Nat.reduceAdd, Nat.reduceMul, Int.reduceToNat, Nat.reduceLeDiff, reduceCtorEq, h18, h19, h20, h3]
  refine b_lite (fun hc => ?_) (fun hc => ?_)
  · obtain ⟨⟨s, n⟩, ha⟩ : ∃ a, alts[i]? = some a := ⟨_, List.getElem?_eq_getElem (by omega)⟩
    have H' := H.mono hle
    obtain ⟨b, o, hb, hix, hl0, hl1, hlN⟩ := H'.at ha
    have hslen : s.length ≤ 9223372036854775807 := H.2 _ (List.mem_of_getElem? ha)
    have hms : ∀ x, mapAt (h'.push x) (.map r) = some es := fun x => mapAt_map (c := c) (by rw [AHeap.get_push_ne _ _ (by omega)]; exact hgr)
    have hbad : (¬ altOk (s, n) ∨ s ∈ (alts.take i).map Prod.fst) → ¬ validP alts := by
      intro hb hv
      obtain ⟨k1, k2⟩ := hv.2.2.at ha
      rcases hb with hb | hb
      · exact hb k1
      · exact k2 hb
    have hpush : ∀ x, Hle h (h'.push x) := fun x => hle.push x
    by_cases p1 : (3 : Int) < (s.length : Int)
    · simp only [go_sem, Nat.reduceEqDiff, Int.reduceLT, Int.reduceLE, Int.reduceEq, Nat.reduceLT, Nat.reduceAdd, Nat.reduceMul, Int.reduceToNat, Nat.reduceLeDiff, reduceCtorEq, h18, h19, h20, h3, hix, hlN, p1]
      have : ¬ validP alts := hbad (.inl fun hk => by have := hk.1; simp at this; omega)
      simp only [this, decide_false, true_and]
      exact hpush _
    simp only [go_sem, Nat.reduceEqDiff, Int.reduceLT, Int.reduceLE, Int.reduceEq, Nat.reduceLT, Nat.reduceAdd, Nat.reduceMul, Int.reduceToNat, Nat.reduceLeDiff, reduceCtorEq, h18, h19, h20, h3, hix, hlN, p1]
    refine ⟨by decide, ?_⟩
    refine (letters_c s _ hslen).mono ?_
    rintro u h1 ⟨rfl, rfl⟩
    by_cases p2' : lettered s = false
    · simp only [go_sem, Nat.reduceEqDiff, Int.reduceLT, Int.reduceLE, Int.reduceEq, Nat.reduceLT, Nat.reduceAdd, Nat.reduceMul, Int.reduceToNat, Nat.reduceLeDiff, reduceCtorEq, h18, h19, h20, h3, hix, hlN, p1, p2']
      have : ¬ validP alts := hbad (.inl fun hk => by have := hk.2.1; simp [p2'] at this)
      simp only [this, decide_false, true_and]
      exact hpush _
    have p2 : lettered s = true := by simpa using p2'
    by_cases p3 : n < 0
    · simp only [go_sem, Nat.reduceEqDiff, Int.reduceLT, Int.reduceLE, Int.reduceEq, Nat.reduceLT, Nat.reduceAdd, Nat.reduceMul, Int.reduceToNat, Nat.reduceLeDiff, reduceCtorEq, h18, h19, h20, h3, hix, hlN, p1, p2, p3]
      have : ¬ validP alts := hbad (.inl fun hk => by have := hk.2.2.1; simp at this; omega)
      simp only [this, decide_false, true_and]
      exact hpush _
    by_cases p4 : (1000 : Int) < n
    · simp only [go_sem, Nat.reduceEqDiff, Int.reduceLT, Int.reduceLE, Int.reduceEq, Nat.reduceLT, Nat.reduceAdd, Nat.reduceMul, Int.reduceToNat, Nat.reduceLeDiff, reduceCtorEq, h18, h19, h20, h3, hix, hlN, p1, p2, p3, p4]
      have : ¬ validP alts := hbad (.inl fun hk => by have := hk.2.2.2; simp at this; omega)
      simp only [this, decide_false, true_and]
      exact hpush _
    by_cases p5 : s ∈ (alts.take i).map Prod.fst
    · obtain ⟨j, hj⟩ := (hseen s).1 p5
      simp only [go_sem, Nat.reduceEqDiff, Int.reduceLT, Int.reduceLE, Int.reduceEq, Nat.reduceLT, Nat.reduceAdd, Nat.reduceMul, Int.reduceToNat, Nat.reduceLeDiff, reduceCtorEq, h18, h19, h20, h3, hix, hlN, p1, p2, p3, p4, lookV_some (hms _) (keyOk_one _ _) hj]
      have : ¬ validP alts := hbad (.inr p5)
      simp only [this, decide_false, true_and]
      exact hpush _
    have hf := (hseen s).2 p5
    have hgr' : ∀ x, (h'.push x).get r = some (.map es c) := fun x => by rw [AHeap.get_push_ne _ _ (by omega)]; exact hgr
    simp only [go_sem, Nat.reduceEqDiff, Int.reduceLT, Int.reduceLE, Int.reduceEq, Nat.reduceLT, Nat.reduceAdd, Nat.reduceMul, Int.reduceToNat, Nat.reduceLeDiff, reduceCtorEq, h18, h19, h20, h3, hix, hlN, p1, p2, p3, p4, lookV_none (hms _) (keyOk_one _ _) hf, putV_new (hgr' _) (keyOk_one _ _) hf]
    refine ⟨d - 1, by omega, (hpush _).put hr1 _, r, _, c + 1, rfl, hr1, by omega, AHeap.get_put_same _ _ _, i + 1, ?_, by omega, ?_, ?_⟩
    · rw [wrap_i64 (by omega) (by omega)]; rfl
    · exact hgood.snoc ha ⟨by simp; omega, p2, by simp; omega, by simp; omega⟩ p5
    · rw [List.take_add_one, ha]
      simp only [Option.toList_some, List.map_append, List.map_cons, List.map_nil]
      exact hseen.snoc s c p5
  · simp only [go_sem, Nat.reduceEqDiff, Int.reduceLT, Int.reduceLE, Int.reduceEq, Nat.reduceLT, Nat.reduceAdd, Nat.reduceMul, Int.reduceToNat, Nat.reduceLeDiff, reduceCtorEq, h18, h19, h20, h3]
    have hi : i = alts.length := by omega
    rw [hi, List.take_length] at hgood
    have : validP alts := ⟨by omega, by omega, hgood⟩
    simp only [this, decide_true, true_and]
    exact hle
end
end Go.AX
namespace Go.AX
open Go Go.Proofs
noncomputable section
set_option linter.unusedSimpArgs false
set_option linter.unusedVariables false
attribute [local go_sem] b_seq wp_skip wp_exit wp_ret wp_region b_block wops_nil b_ops b_opsg b_cond condV_lite wo_mv b_bin wo_call callV_func wo_pick b_box wo_load1 wo_loadN wo_store wo_nilCheck wo_not wo_lenStr' wo_lenSl wo_ixStr' wo_ixSl wo_fAddr wo_part1 wo_partN wo_extract wo_cInt wo_cStr wo_mkMap wo_mkIface wo_mkFunc wo_lookup pickV_bool ifT_true ifT_false b_loadV b_loadNV b_storeV nilV_ptr nilV_func nilV_iface notV_bool lenStrV_str lenSlV_nil lenSlV_slice b_ixStrV ixSlV_slice fAddrV_ptr b_part1V partNV_agg b_extractV convV_int strV_str evC_tm evC_cn T.get_set putA_some putA_none onO_some evCs_nil evCs_cons appL_nil appL_cons guardOk_true guardOk_false cellsV_bool cellsV_int cellsV_str cellsV_nilptr cellsV_ptr cellsV_nilslice cellsV_slice cellsV_nilmap cellsV_map cellsV_func cellsV_nilfunc cellsV_iface cellsV_niliface cellsV_agg bin_lss bin_gtr bin_leq bin_geq bin_eql bin_neq bin_add bin_sub bin_eqlS bin_neqS mkFrame_nil mkFrame_cons resA_one resA_two resA_three over_0 over_1 over_2 over_3 over_4 over_5 over0_nil over0_cons Option.getD_some if_true if_false AHeap.next_push AVal.bool.injEq decide_eq_true_eq decide_eq_false_iff_not Bool.not_eq_true' Bool.not_eq_false' Bool.not_eq_true decide_true decide_false Bool.not_true Bool.not_false Int.toNat_natCast Int.natCast_nonneg true_and and_true wo_mapPut wp_drawn' wsts_nil b_pure b_read b_new b_wr wor_none b_org rer_nil rer_load1 rer_loadN wo_append AHeap.next_skip AHeap.next_put' AHeap.mk_push_t AHeap.mk_eta AHeap.mk_skip ldA_skip ldN_skip Nat.add_zero Nat.zero_add b_lite_true b_lite_false eq_self_iff_true not_true_eq_false not_false_eq_true bx_k bx_q bx_x bx_1 undefA_bool putAt_push List.length_cons List.length_nil Nat.le_refl ldA_push_new ldN_push_new List.getElem?_cons_zero List.getElem?_cons_succ List.drop_zero List.drop_succ_cons List.take_succ_cons List.take_zero b_build b_buildSlice evParts_nil evParts_cons b_fillA_nil b_fillA nbeq nble natadd natmul lenL_eq repL_1 repL_2 repL_3 wo_sliceData sdV_nil sdV_slice wo_unsafeStr usV_nil wo_slStr slStrV_str evCo_none evCo_some boundA_none Bool.and_true Bool.true_and wo_minmax2' mm2V_int
def Bld (A : Nat → Prop) (h : AHeap) (b : Nat) (bs : List Nat) : Prop := b < h.next ∧ ¬ A b ∧ ∃ x buf, h.get b = some (.cells [x, buf] 52) ∧ (x = .nilptr ∨ x = .ptr b 0) ∧ OwnL h 1 5 buf (ofBytes bs) ∧ (∀ c, blkOf buf c → c ≠ b ∧ ¬ A c) ∧ (bs = [] → buf = .nilslice)
theorem Bld.push {A : Nat → Prop} {h : AHeap} {b : Nat} {bs : List Nat} (H : Bld A h b bs) (o : AObj) : Bld (fun c => A c ∨ c = h.next) (h.push o) b bs := by
  obtain ⟨h1, h2, x, buf, h3, h4, h5, h6, h7⟩ := H
  refine ⟨by simp [AHeap.next_push]; omega, fun e => e.elim h2 (fun e => by omega), x, buf, by rw [AHeap.get_push_ne _ _ (by omega)]; exact h3, h4, h5.frame (by simp [AHeap.next_push]) (fun c hc => AHeap.get_push_ne _ _ (by have := h5.blk hc; omega)), fun c hc => ⟨(h6 c hc).1, fun e => e.elim (h6 c hc).2 (fun e => by have := h5.blk hc; omega)⟩, h7⟩
theorem Bld.sub {A A' : Nat → Prop} {h : AHeap} {b : Nat} {bs : List Nat} (H : Bld A h b bs) (hA : ∀ c, A' c → A c) : Bld A' h b bs := by
  obtain ⟨h1, h2, x, buf, h3, h4, h5, h6, h7⟩ := H
  exact ⟨h1, fun e => h2 (hA _ e), x, buf, h3, h4, h5, fun c hc => ⟨(h6 c hc).1, fun e => (h6 c hc).2 (hA _ e)⟩, h7⟩
theorem Bld.new {A : Nat → Prop} {h : AHeap} (hA : ¬ A h.next) : Bld A (h.push (.cells [.nilptr, .nilslice] 52)) h.next [] :=
  ⟨by simp [AHeap.next_push], hA, _, _, AHeap.get_push_same _ _, .inl rfl, .inl ⟨rfl, rfl⟩, (fun c ⟨_, _, _, _, hc⟩ => by cases hc), fun _ => rfl⟩
theorem copy_c {h : AHeap} {b : Nat} {x buf : AVal} (hg : h.get b = some (.cells [x, buf] 52)) (hx : x = .nilptr ∨ x = .ptr b 0) : Ec E2 52 [.ptr b 0] h fun v h' => v = .tup [] ∧ h'.get b = some (.cells [.ptr b 0, buf] 52) ∧ h'.next = h.next ∧ ∀ c, c ≠ b → h'.get c = h.get c := by
  have hp : ∀ v h', primA (.copyCheck 52) [.ptr b 0] h = some (v, h') → Ec E2 52 [.ptr b 0] h fun u h2 => u = v ∧ h2 = h' := fun v h' e => Ec.of_prim prim2_52 e ⟨rfl, rfl⟩
  rcases hx with rfl | rfl
  · refine (hp (.tup []) (h.put b (.cells [.ptr b 0, buf] 52)) ?_).mono ?_
    · show onCells (h.get b) _ = _
      rw [hg]; rfl
    · rintro v h' ⟨rfl, rfl⟩
      exact ⟨rfl, AHeap.get_put_same _ _ _, rfl, fun c hc => AHeap.get_put_ne _ _ (Ne.symm hc)⟩
  · refine (hp (.tup []) h ?_).mono ?_
    · show onCells (h.get b) _ = _
      rw [hg]
      show ifT (and (Nat.beq b b) (Nat.beq 0 0)) (some (AVal.tup [], h)) none = _
      simp [ifT]
    · rintro v h' ⟨rfl, rfl⟩
      exact ⟨rfl, hg, rfl, fun c hc => rfl⟩
def BldP (A : Nat → Prop) (h h' : AHeap) (b : Nat) (bs : List Nat) : Prop := Bld A h' b bs ∧ h.next ≤ h'.next ∧ ∀ c, A c → h'.get c = h.get c
theorem writeString_c (A : Nat → Prop) (h : AHeap) (b : Nat) (bs s : List Nat) (H : Bld A h b bs) (hA : ∀ c, A c → c < h.next) (hm : bs.length + s.length ≤ 1073741824) : Ec E2 32 [.ptr b 0, .str s] h fun _ h' => BldP A h h' b (bs ++ s) := by
  refine Ec.of_wpb (prim2_none (by decide)) code32 ?_
  unfold c32
  obtain ⟨h1, h2, x, buf, h3, h4, h5, h6, h7⟩ := H
  simp only [go_sem, Nat.reduceEqDiff, Int.reduceLT, Int.reduceLE, Int.reduceEq, Nat.reduceLT, Nat.reduceAdd, Nat.reduceMul, Int.reduceToNat, Nat.reduceLeDiff, reduceCtorEq]
  refine ⟨by decide, ?_⟩
  refine (copy_c h3 h4).mono ?_
  rintro v h' ⟨rfl, g1, g2, g3⟩
  have hl : ldA h' b (0 + 1) = some buf := by rw [ldA_cells g1]; rfl
  have hl2 : ldA h' b 1 = some buf := hl
  have own : OwnL h' 1 5 buf (ofBytes bs) := h5.frame (by omega) fun c hc => g3 c (h6 c hc).1
  simp only [go_sem, Nat.reduceEqDiff, Int.reduceLT, Int.reduceLE, Int.reduceEq, Nat.reduceLT, Nat.reduceAdd, Nat.reduceMul, Int.reduceToNat, Nat.reduceLeDiff, reduceCtorEq, hl, hl2]
  by_cases hs : s = []
  · subst hs
    refine appV_zero (srcCells_str _ _) own.form ?_
    have hp : putAt h' b 1 1 [buf] = some (h'.put b (.cells [.ptr b 0, buf] 52)) := putAt_cells (o := 1) (n := 1) (vs := [buf]) g1 rfl (by simp)
    simp only [go_sem, Nat.reduceEqDiff, Int.reduceLT, Int.reduceLE, Int.reduceEq, Nat.reduceLT, Nat.reduceAdd, Nat.reduceMul, Int.reduceToNat, Nat.reduceLeDiff, reduceCtorEq, cellsV_flat (v := buf) (by rcases own.form with rfl | ⟨_, _, _, _, _, rfl⟩ <;> rfl), hp]
    refine ⟨⟨by simp [AHeap.next_put]; omega, h2, _, buf, AHeap.get_put_same _ _ _, .inr rfl, ?_, h6, by simpa using h7⟩, by simp [AHeap.next_put]; omega, fun c hc => ?_⟩
    · rw [List.append_nil]
      exact own.frame (by simp [AHeap.next_put]) fun c hc => AHeap.get_put_ne _ _ (fun e => (h6 c hc).1 e.symm)
    · have : c ≠ b := fun e => h2 (e ▸ hc)
      rw [AHeap.get_put_ne _ _ (Ne.symm this), g3 c this]
  · refine appV_own own (srcCells_str _ _) (fun e => hs (List.eq_nil_of_length_eq_zero e)) (by rw [ofBytes_len]; omega) (by omega) (by rw [ofBytes_len]; omega) ?_
    intro v' h'' ho hn hf hb
    have hgb : h''.get b = some (.cells [.ptr b 0, buf] 52) := by rw [hf b (by omega) (fun hc => (h6 b hc).1 rfl)]; exact g1
    have hp : putAt h'' b 1 1 [v'] = some (h''.put b (.cells [.ptr b 0, v'] 52)) := putAt_cells (o := 1) (n := 1) (vs := [v']) hgb rfl (by simp)
    have hfl : v'.flat = true := by rcases ho.form with rfl | ⟨_, _, _, _, _, rfl⟩ <;> rfl
    have hblk : ∀ c, blkOf v' c → c = h'.next := by
      rintro c ⟨o, n, c2, e, rfl⟩
      obtain ⟨_, _, _, _, he⟩ := hb
      cases he; rfl
    simp only [go_sem, Nat.reduceEqDiff, Int.reduceLT, Int.reduceLE, Int.reduceEq, Nat.reduceLT, Nat.reduceAdd, Nat.reduceMul, Int.reduceToNat, Nat.reduceLeDiff, reduceCtorEq, cellsV_flat hfl, hp]
    refine ⟨⟨by simp [AHeap.next_put]; omega, h2, _, v', AHeap.get_put_same _ _ _, .inr rfl, ?_, fun c hc => ?_, fun e => absurd (List.append_eq_nil_iff.1 e).2 hs⟩, by simp [AHeap.next_put]; omega, fun c hc => ?_⟩
    · rw [ofBytes_app]
      exact ho.frame (by simp [AHeap.next_put]) fun c hc => AHeap.get_put_ne _ _ (fun e => by have := hblk c hc; omega)
    · have := hblk c hc
      exact ⟨by omega, fun e => by have := hA c e; omega⟩
    · have hcb : c ≠ b := fun e => h2 (e ▸ hc)
      have hcl := hA c hc
      rw [AHeap.get_put_ne _ _ (Ne.symm hcb), hf c (by omega) (fun hk => (h6 c hk).2 hc), g3 c hcb]
theorem writeByte_c (A : Nat → Prop) (h : AHeap) (b : Nat) (bs : List Nat) (x : Nat) (H : Bld A h b bs) (hA : ∀ c, A c → c < h.next) (hm : bs.length + 1 ≤ 1073741824) : Ec E2 33 [.ptr b 0, .int .u8 (x : Int)] h fun _ h' => BldP A h h' b (bs ++ [x]) := by
  refine Ec.of_wpb (prim2_none (by decide)) code33 ?_
  unfold c33
  obtain ⟨h1, h2, y, buf, h3, h4, h5, h6, h7⟩ := H
  simp only [go_sem, Nat.reduceEqDiff, Int.reduceLT, Int.reduceLE, Int.reduceEq, Nat.reduceLT, Nat.reduceAdd, Nat.reduceMul, Int.reduceToNat, Nat.reduceLeDiff, reduceCtorEq]
  refine ⟨by decide, ?_⟩
  refine (copy_c h3 h4).mono ?_
  rintro v h' ⟨rfl, g1, g2, g3⟩
  have hl2 : ldA h' b 1 = some buf := by rw [ldA_cells g1]; rfl
  have own : OwnL h' 1 5 buf (ofBytes bs) := h5.frame (by omega) fun c hc => g3 c (h6 c hc).1
  simp only [go_sem, Nat.reduceEqDiff, Int.reduceLT, Int.reduceLE, Int.reduceEq, Nat.reduceLT, Nat.reduceAdd, Nat.reduceMul, Int.reduceToNat, Nat.reduceLeDiff, reduceCtorEq, hl2]
  have hone : ∀ (z : AHeap), SlA (z.push (.cells [.int .u8 (x : Int)] 5)) 1 (.slice z.next 0 1 1 true) [[.int .u8 (x : Int)]] := fun z => ⟨by simp, .inr ⟨_, _, _, _, rfl, .inr (RowA.of_cells (e := 5) (by simp [AHeap.next_push]) (AHeap.get_push_same _ _) (by simp; rfl))⟩⟩
  have own' := own.frame (h' := h'.push (.cells [.int .u8 (x : Int)] 5)) (by simp [AHeap.next_push]) (fun c hc => AHeap.get_push_ne _ _ (by have := own.blk hc; omega))
  refine appV_own own' (srcCells_SlA (hone h') (by simp)) (by simp) (by simp) (by omega) (by rw [ofBytes_len]; simp; omega) ?_
  intro v' h'' ho hn hf hb
  have hn' : h''.next = h'.next + 1 + 1 := hn
  have hgb : h''.get b = some (.cells [.ptr b 0, buf] 52) := by
    rw [hf b (by simp [AHeap.next_push]; omega) (fun hc => (h6 b hc).1 rfl), AHeap.get_push_ne _ _ (by omega)]; exact g1
  have hp : putAt h'' b 1 1 [v'] = some (h''.put b (.cells [.ptr b 0, v'] 52)) := putAt_cells (o := 1) (n := 1) (vs := [v']) hgb rfl (by simp)
  have hfl : v'.flat = true := by rcases ho.form with rfl | ⟨_, _, _, _, _, rfl⟩ <;> rfl
  have hblk : ∀ c, blkOf v' c → c = h'.next + 1 := by
    rintro c ⟨o, n, c2, e, rfl⟩
    obtain ⟨_, _, _, _, he⟩ := hb
    cases he; rfl
  simp only [go_sem, Nat.reduceEqDiff, Int.reduceLT, Int.reduceLE, Int.reduceEq, Nat.reduceLT, Nat.reduceAdd, Nat.reduceMul, Int.reduceToNat, Nat.reduceLeDiff, reduceCtorEq, cellsV_flat hfl, hp]
  refine ⟨⟨by simp [AHeap.next_put]; omega, h2, _, v', AHeap.get_put_same _ _ _, .inr rfl, ?_, fun c hc => ?_, fun e => by simp at e⟩, by simp [AHeap.next_put]; omega, fun c hc => ?_⟩
  · rw [ofBytes_app]
    exact ho.frame (by simp [AHeap.next_put]) fun c hc => AHeap.get_put_ne _ _ (fun e => by have := hblk c hc; omega)
  · have := hblk c hc
    exact ⟨by omega, fun e => by have := hA c e; omega⟩
  · have hcb : c ≠ b := fun e => h2 (e ▸ hc)
    have hcl := hA c hc
    rw [AHeap.get_put_ne _ _ (Ne.symm hcb), hf c (by simp [AHeap.next_push]; omega) (fun hk => (h6 c hk).2 hc), AHeap.get_push_ne _ _ (by omega), g3 c hcb]
theorem string_c (A : Nat → Prop) (h : AHeap) (b : Nat) (bs : List Nat) (H : Bld A h b bs) (hb : ∀ x, x ∈ bs → x < 256) (hm : bs.length < 1073741824) : Ec E2 35 [.ptr b 0] h fun v h' => v = .str bs ∧ h.next ≤ h'.next ∧ ∀ c, A c → h'.get c = h.get c := by
  refine Ec.of_wpb (prim2_none (by decide)) code35 ?_
  unfold c35
  obtain ⟨h1, h2, y, buf, h3, h4, h5, h6, h7⟩ := H
  have hl2 : ldA h b 1 = some buf := by rw [ldA_cells h3]; rfl
  rcases h5 with ⟨rfl, e⟩ | ⟨c, n, rfl, hc, hg, hlen⟩
  · have e0 : bs = [] := by
      have := congrArg List.length e
      rw [ofBytes_len] at this
      exact List.eq_nil_of_length_eq_zero (by simpa using this)
    subst e0
    simp only [go_sem, Nat.reduceEqDiff, Int.reduceLT, Int.reduceLE, Int.reduceEq, Nat.reduceLT, Nat.reduceAdd, Nat.reduceMul, Int.reduceToNat, Nat.reduceLeDiff, reduceCtorEq, hl2]
    refine ⟨by simp [AHeap.skip], fun c _ => rfl⟩
  · rw [ofBytes_len] at hlen
    by_cases hbs : bs.length = 0
    · have := h7 (List.eq_nil_of_length_eq_zero hbs)
      cases this
    · simp only [go_sem, Nat.reduceEqDiff, Int.reduceLT, Int.reduceLE, Int.reduceEq, Nat.reduceLT, Nat.reduceAdd, Nat.reduceMul, Int.reduceToNat, Nat.reduceLeDiff, reduceCtorEq, hl2, usV_own (h := h.skip 12) (k := .i64) (n := (n : Int)) (by omega) hg hb (by omega) hm]
      refine ⟨by omega, ?_⟩
      refine ⟨by simp [AHeap.skip, AHeap.next_put], fun d hd => ?_⟩
      have : d ≠ c := fun e => (h6 c ⟨_, _, _, _, rfl⟩).2 (e ▸ hd)
      rw [AHeap.get_put_ne _ _ (Ne.symm this)]
      rfl
end
end Go.AX

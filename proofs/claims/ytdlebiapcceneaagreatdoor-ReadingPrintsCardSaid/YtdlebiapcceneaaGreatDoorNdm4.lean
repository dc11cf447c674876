/-
  Contracts of functions of this seat, for every input that each theorem names.
-/
import Derived.Test.YtdlebiapcceneaaGreatDoorNdm3
import Derived.Test.YtdlebiapcceneaaGreatDoorNdm1
set_option linter.unusedVariables false
set_option linter.unusedSimpArgs false
set_option linter.unusedSectionVars false
namespace Go.AX
open Go Go.Proofs
noncomputable section
set_option linter.unusedSimpArgs false
set_option linter.unusedVariables false
attribute [local go_sem] b_seq wp_skip wp_exit wp_ret wp_region b_block wops_nil b_ops b_opsg b_cond condV_lite wo_mv b_bin wo_call callV_func wo_pick b_box wo_load1 wo_loadN wo_store wo_nilCheck wo_not wo_lenStr' wo_lenSl wo_ixStr' wo_ixSl wo_fAddr wo_part1 wo_partN wo_extract wo_cInt wo_cStr wo_mkMap wo_mkIface wo_mkFunc wo_lookup pickV_bool ifT_true ifT_false b_loadV b_loadNV b_storeV nilV_ptr nilV_func nilV_iface notV_bool lenStrV_str lenSlV_nil lenSlV_slice b_ixStrV ixSlV_slice fAddrV_ptr b_part1V partNV_agg b_extractV convV_int strV_str evC_tm evC_cn T.get_set putA_some putA_none onO_some evCs_nil evCs_cons appL_nil appL_cons guardOk_true guardOk_false cellsV_bool cellsV_int cellsV_str cellsV_nilptr cellsV_ptr cellsV_nilslice cellsV_slice cellsV_nilmap cellsV_map cellsV_func cellsV_nilfunc cellsV_iface cellsV_niliface cellsV_agg bin_lss bin_gtr bin_leq bin_geq bin_eql bin_neq bin_add bin_sub bin_eqlS bin_neqS mkFrame_nil mkFrame_cons resA_one resA_two resA_three over_0 over_1 over_2 over_3 over_4 over_5 over0_nil over0_cons Option.getD_some if_true if_false AHeap.next_push AVal.bool.injEq decide_eq_true_eq decide_eq_false_iff_not Bool.not_eq_true' Bool.not_eq_false' Bool.not_eq_true decide_true decide_false Bool.not_true Bool.not_false Int.toNat_natCast Int.natCast_nonneg true_and and_true wo_mapPut wp_drawn' wsts_nil b_pure b_read b_new b_wr wor_none b_org rer_nil rer_load1 rer_loadN wo_append AHeap.next_skip AHeap.next_put' AHeap.mk_push_t AHeap.mk_eta AHeap.mk_skip ldA_skip ldN_skip Nat.add_zero Nat.zero_add b_lite_true b_lite_false eq_self_iff_true not_true_eq_false not_false_eq_true bx_k bx_q bx_x bx_1 undefA_bool putAt_push List.length_cons List.length_nil Nat.le_refl ldA_push_new ldN_push_new List.getElem?_cons_zero List.getElem?_cons_succ List.drop_zero List.drop_succ_cons List.take_succ_cons List.take_zero b_build b_buildSlice evParts_nil evParts_cons b_fillA_nil b_fillA nbeq nble natadd natmul lenL_eq repL_1 repL_2 repL_3 wo_sliceData sdV_nil sdV_slice wo_unsafeStr usV_nil wo_slStr slStrV_str evCo_none evCo_some boundA_none Bool.and_true Bool.true_and wo_minmax2' mm2V_int
theorem neqAlt_same (s : List Nat) (n : Int) : binA .neq (.agg [(0, .s), (1, .i)]) (.agg [.str s, .int .i64 n]) (.agg [.str s, .int .i64 n]) = some (.bool false) := by
  show (eqNil (.agg [(0, .s), (1, .i)]) (.agg [.str s, .int .i64 n]) (.agg [.str s, .int .i64 n])).map (fun t => AVal.bool (!t)) = _
  have : eqNil (.agg [(0, .s), (1, .i)]) (.agg [.str s, .int .i64 n]) (.agg [.str s, .int .i64 n]) = some true := by
    show (ob (some (eqStr s s)) fun t => ifT t (ob (some (eqI n n)) fun t => ifT t (some true) (some false)) (some false)) = _
    rw [eqStr_eq, eqI_eq]
    simp [ob, ifT]
  rw [this]; rfl
set_option maxHeartbeats 1000000 in
theorem sameCells_c (cells : List (List Alt)) (v w : AVal) (h : AHeap) (H : CellsA h v cells) (G : CellsA h w cells) (hl : cells.length ≤ 9223372036854775807) (hll : ∀ c, c ∈ cells → c.length ≤ 9223372036854775807) : Ec E2 18 [v, w] h fun r h' => r = .bool true ∧ Hle h h' := by
  refine Ec.of_wpb (prim2_none (by decide)) code18 ?_
  unfold c18
  simp only [go_sem, Nat.reduceEqDiff, Int.reduceLT, Int.reduceLE, Int.reduceEq, Nat.reduceLT, Nat.reduceAdd, Nat.reduceMul, Int.reduceToNat, Nat.reduceLeDiff, reduceCtorEq, H.len, G.len]
  refine b_loop (fun d fr h' => Hle h h' ∧ fr.get 0 = some v ∧ fr.get 1 = some w ∧ ∃ i : Nat, fr.get 5 = some (.int .i64 (i : Int)) ∧ d + i = cells.length) cells.length ?_ ?_
  · exact ⟨Hle.refl h, by simp [T.get_set], by simp [T.get_set], 0, by simp [T.get_set], by omega⟩
  rintro d fr h' ⟨hle, t0, t1, i, t5, hd⟩
  unfold c18_l1
  simp only [go_sem, Nat.reduceEqDiff, Int.reduceLT, Int.reduceLE, Int.reduceEq, Nat.reduceLT, Nat.reduceAdd, Nat.reduceMul, Int.reduceToNat, Nat.reduceLeDiff, reduceCtorEq, t0, t1, t5, H.len]
  refine b_lite (fun hc => ?_) (fun hc => ?_)
  · obtain ⟨c, hci⟩ : ∃ c, cells[i]? = some c := ⟨_, List.getElem?_eq_getElem (by omega)⟩
    obtain ⟨b, o, x, hb, hix, hl0, _, hx, _⟩ := H.at hci
    obtain ⟨b2, o2, y, hb2, hiy, hm0, _, hy, _⟩ := G.at hci
    have hl0' : ldA h' b o = some x := (hle.ldA hb o).trans hl0
    have hm0' : ldA h' b2 o2 = some y := (hle.ldA hb2 o2).trans hm0
    simp only [go_sem, Nat.reduceEqDiff, Int.reduceLT, Int.reduceLE, Int.reduceEq, Nat.reduceLT, Nat.reduceAdd, Nat.reduceMul, Int.reduceToNat, Nat.reduceLeDiff, reduceCtorEq, t0, t1, t5, hix, hiy, hl0', hm0', hx.len, hy.len]
    refine b_loop (fun e fr h'' => Hle h h'' ∧ fr.get 0 = some v ∧ fr.get 1 = some w ∧ fr.get 5 = some (.int .i64 (i : Int)) ∧ ∃ k : Nat, fr.get 6 = some (.int .i64 (k : Int)) ∧ e + k = c.length) c.length ?_ ?_
    · exact ⟨hle.skip _, by simp [T.get_set, t0], by simp [T.get_set, t1], by simp [T.get_set, t5], 0, by simp [T.get_set], by omega⟩
    rintro e fr2 h'' ⟨hle2, u0, u1, u5, k, u6, he⟩
    have hl0'' : ldA h'' b o = some x := (hle2.ldA hb o).trans hl0
    have hm0'' : ldA h'' b2 o2 = some y := (hle2.ldA hb2 o2).trans hm0
    unfold c18_l0
    simp only [go_sem, Nat.reduceEqDiff, Int.reduceLT, Int.reduceLE, Int.reduceEq, Nat.reduceLT, Nat.reduceAdd, Nat.reduceMul, Int.reduceToNat, Nat.reduceLeDiff, reduceCtorEq, u0, u1, u5, u6, hix, hiy, hl0'', hm0'', hx.len]
    refine b_lite (fun hc2 => ?_) (fun hc2 => ?_)
    · obtain ⟨⟨s, n⟩, ha⟩ : ∃ a, c[k]? = some a := ⟨_, List.getElem?_eq_getElem (by omega)⟩
      obtain ⟨p, q, _, hip, _, _, hpN⟩ := (hx.mono hle2).at ha
      obtain ⟨p2, q2, _, hiq, _, _, hqN⟩ := (hy.mono hle2).at ha
      have hlen : c.length ≤ 9223372036854775807 := hll c (List.mem_of_getElem? hci)
      simp only [go_sem, Nat.reduceEqDiff, Int.reduceLT, Int.reduceLE, Int.reduceEq, Nat.reduceLT, Nat.reduceAdd, Nat.reduceMul, Int.reduceToNat, Nat.reduceLeDiff, reduceCtorEq, u0, u1, u5, u6, hix, hiy, hl0'', hm0'', hip, hiq, hpN, hqN, neqAlt_same]
      refine ⟨e - 1, by omega, hle2.skip _, k + 1, ?_, by omega⟩
      rw [wrap_i64 (by omega) (by omega)]; rfl
    · simp only [go_sem, Nat.reduceEqDiff, Int.reduceLT, Int.reduceLE, Int.reduceEq, Nat.reduceLT, Nat.reduceAdd, Nat.reduceMul, Int.reduceToNat, Nat.reduceLeDiff, reduceCtorEq, u0, u1, u5, u6]
      refine ⟨d - 1, by omega, hle2, i + 1, ?_, by omega⟩
      rw [wrap_i64 (by omega) (by omega)]; rfl
  · simp only [go_sem, Nat.reduceEqDiff, Int.reduceLT, Int.reduceLE, Int.reduceEq, Nat.reduceLT, Nat.reduceAdd, Nat.reduceMul, Int.reduceToNat, Nat.reduceLeDiff, reduceCtorEq, t0, t1, t5]
    exact hle
end
end Go.AX
namespace Go.AX
open Go Go.Proofs
noncomputable section
set_option linter.unusedSimpArgs false
set_option linter.unusedVariables false
attribute [local go_sem] b_seq wp_skip wp_exit wp_ret wp_region b_block wops_nil b_ops b_opsg b_cond condV_lite wo_mv b_bin wo_call callV_func wo_pick b_box wo_load1 wo_loadN wo_store wo_nilCheck wo_not wo_lenStr' wo_lenSl wo_ixStr' wo_ixSl wo_fAddr wo_part1 wo_partN wo_extract wo_cInt wo_cStr wo_mkMap wo_mkIface wo_mkFunc wo_lookup pickV_bool ifT_true ifT_false b_loadV b_loadNV b_storeV nilV_ptr nilV_func nilV_iface notV_bool lenStrV_str lenSlV_nil lenSlV_slice b_ixStrV ixSlV_slice fAddrV_ptr b_part1V partNV_agg b_extractV convV_int strV_str evC_tm evC_cn T.get_set putA_some putA_none onO_some evCs_nil evCs_cons appL_nil appL_cons guardOk_true guardOk_false cellsV_bool cellsV_int cellsV_str cellsV_nilptr cellsV_ptr cellsV_nilslice cellsV_slice cellsV_nilmap cellsV_map cellsV_func cellsV_nilfunc cellsV_iface cellsV_niliface cellsV_agg bin_lss bin_gtr bin_leq bin_geq bin_eql bin_neq bin_add bin_sub bin_eqlS bin_neqS mkFrame_nil mkFrame_cons resA_one resA_two resA_three over_0 over_1 over_2 over_3 over_4 over_5 over0_nil over0_cons Option.getD_some if_true if_false AHeap.next_push AVal.bool.injEq decide_eq_true_eq decide_eq_false_iff_not Bool.not_eq_true' Bool.not_eq_false' Bool.not_eq_true decide_true decide_false Bool.not_true Bool.not_false Int.toNat_natCast Int.natCast_nonneg true_and and_true wo_mapPut wp_drawn' wsts_nil b_pure b_read b_new b_wr wor_none b_org rer_nil rer_load1 rer_loadN wo_append AHeap.next_skip AHeap.next_put' AHeap.mk_push_t AHeap.mk_eta AHeap.mk_skip ldA_skip ldN_skip Nat.add_zero Nat.zero_add b_lite_true b_lite_false eq_self_iff_true not_true_eq_false not_false_eq_true bx_k bx_q bx_x bx_1 undefA_bool putAt_push List.length_cons List.length_nil Nat.le_refl ldA_push_new ldN_push_new List.getElem?_cons_zero List.getElem?_cons_succ List.drop_zero List.drop_succ_cons List.take_succ_cons List.take_zero b_build b_buildSlice evParts_nil evParts_cons b_fillA_nil b_fillA nbeq nble natadd natmul lenL_eq repL_1 repL_2 repL_3 wo_sliceData sdV_nil sdV_slice wo_unsafeStr usV_nil wo_slStr slStrV_str evCo_none evCo_some boundA_none Bool.and_true Bool.true_and wo_minmax2' mm2V_int
theorem RowA.keep {h h' : AHeap} {b o : Nat} {l : List AVal} (H : RowA h b o l) (hn : h.next ≤ h'.next) (hg : h'.get b = h.get b) : RowA h' b o l := H.get (Nat.lt_of_lt_of_le H.1 hn) hg
theorem SlA.keep {h h' : AHeap} {size : Nat} {v : AVal} {xs : List (List AVal)} (H : SlA h size v xs) (hn : h.next ≤ h'.next) (hg : ∀ c, blkOf v c → c < h.next → h'.get c = h.get c) : SlA h' size v xs := by
  obtain ⟨h1, h2⟩ := H
  refine ⟨h1, h2.imp id fun ⟨b, o, c, ex, e, hr⟩ => ⟨b, o, c, ex, e, hr.imp id fun hr => hr.keep hn (hg b ⟨_, _, _, _, e⟩ hr.1)⟩⟩
theorem AltsA.keep {h h' : AHeap} {v : AVal} {alts : List Alt} (H : AltsA h v alts) (hn : h.next ≤ h'.next) (hg : ∀ c, blkOf v c → c < h.next → h'.get c = h.get c) : AltsA h' v alts := ⟨H.1.keep hn hg, H.2⟩
def BoxL (A : Nat → Prop) (h : AHeap) (b : Nat) (l : List Alt) : Prop := b < h.next ∧ ¬ A b ∧ ∃ v, h.get b = some (.cells [v] 55) ∧ OwnL h 2 57 v (l.map altC).flatten ∧ (∀ c, blkOf v c → c ≠ b ∧ ¬ A c)
theorem BoxL.push {A : Nat → Prop} {h : AHeap} {b : Nat} {l : List Alt} (H : BoxL A h b l) (o : AObj) : BoxL (fun c => A c ∨ c = h.next) (h.push o) b l := by
  obtain ⟨h1, h2, v, h3, h5, h6⟩ := H
  exact ⟨by simp [AHeap.next_push]; omega, fun e => e.elim h2 (fun e => by omega), v, by rw [AHeap.get_push_ne _ _ (by omega)]; exact h3, h5.frame (by simp [AHeap.next_push]) (fun c hc => AHeap.get_push_ne _ _ (by have := h5.blk hc; omega)), fun c hc => ⟨(h6 c hc).1, fun e => e.elim (h6 c hc).2 (fun e => by have := h5.blk hc; omega)⟩⟩
theorem BoxL.mono {A : Nat → Prop} {h h' : AHeap} {b : Nat} {l : List Alt} (H : BoxL A h b l) (hle : Hle h h') : BoxL A h' b l := by
  obtain ⟨h1, h2, v, h3, h5, h6⟩ := H
  exact ⟨by have := hle.next; omega, h2, v, by rw [hle.get b h1]; exact h3, h5.frame hle.next (fun c hc => hle.get c (h5.blk hc)), h6⟩
theorem BoxL.sub {A A' : Nat → Prop} {h : AHeap} {b : Nat} {l : List Alt} (H : BoxL A h b l) (hA : ∀ c, A' c → A c) : BoxL A' h b l := by
  obtain ⟨h1, h2, v, h3, h5, h6⟩ := H
  exact ⟨h1, fun e => h2 (hA _ e), v, h3, h5, fun c hc => ⟨(h6 c hc).1, fun e => (h6 c hc).2 (hA _ e)⟩⟩
theorem BoxL.new {A : Nat → Prop} {h : AHeap} (hA : ¬ A h.next) : BoxL A (h.push (.cells [.nilslice] 55)) h.next [] :=
  ⟨by simp [AHeap.next_push], hA, _, AHeap.get_push_same _ _, .inl ⟨rfl, rfl⟩, fun c ⟨_, _, _, _, hc⟩ => by cases hc⟩
theorem OwnL.flatV {h : AHeap} {size : Nat} {elem : TypeId} {v : AVal} {l : List AVal} (H : OwnL h size elem v l) : v.flat = true := by
  rcases H.form with rfl | ⟨_, _, _, _, _, rfl⟩ <;> rfl
theorem BoxL.ld {A : Nat → Prop} {h : AHeap} {b : Nat} {l : List Alt} (H : BoxL A h b l) : ∃ v, h.get b = some (.cells [v] 55) ∧ ldA h b 0 = some v ∧ ldN h b 0 1 = some [v] ∧ OwnL h 2 57 v (l.map altC).flatten ∧ ∀ c, blkOf v c → c ≠ b ∧ ¬ A c := by
  obtain ⟨h1, h2, v, h3, h5, h6⟩ := H
  have hr : RowA h b 0 [v] := RowA.of_cells h1 h3 (fun x hx => by simp at hx; subst hx; exact h5.flatV)
  exact ⟨v, h3, hr.ldA (i := 0) rfl, hr.ldN (i := 0) (n := 1) (by simp), h5, h6⟩
theorem altC_len (l : List Alt) : (l.map altC).flatten.length = l.length * 2 := by
  have : ∀ x, x ∈ l.map altC → x.length = 2 := fun x hx => by obtain ⟨a, _, rfl⟩ := List.mem_map.1 hx; rfl
  rw [flatten_len this]; simp
theorem altC_flat (l : List Alt) : ∀ x, x ∈ (l.map altC).flatten → x.flat = true := by
  intro x hx
  obtain ⟨y, hy, hxy⟩ := List.mem_flatten.1 hx
  obtain ⟨a, _, rfl⟩ := List.mem_map.1 hy
  simp only [altC, List.mem_cons, List.not_mem_nil, or_false] at hxy
  rcases hxy with rfl | rfl <;> rfl
theorem OwnL.alts {h : AHeap} {v : AVal} {l : List Alt} (H : OwnL h 2 57 v (l.map altC).flatten) (hl : ∀ a, a ∈ l → a.1.length ≤ 9223372036854775807) : AltsA h v l :=
  ⟨H.SlA (fun x hx => by obtain ⟨a, _, rfl⟩ := List.mem_map.1 hx; rfl) (by omega) (altC_flat l), hl⟩
def OutL (n0 : Nat) (h : AHeap) (out : AVal) (done : List (List Alt)) : Prop := ∃ vs, OwnL h 1 55 out vs ∧ All2 (AltsA h) vs done ∧ (∀ x, x ∈ vs → ∀ c, blkOf x c → n0 ≤ c ∧ c < h.next ∧ ¬ blkOf out c) ∧ ∀ c, blkOf out c → n0 ≤ c
theorem OutL.nil (n0 : Nat) (h : AHeap) : OutL n0 h .nilslice [] := ⟨[], .inl ⟨rfl, rfl⟩, ⟨rfl, fun i x y hx => by simp at hx⟩, (fun x hx => by simp at hx), fun c ⟨_, _, _, _, hc⟩ => by cases hc⟩
theorem OutL.keep {n0 : Nat} {h h' : AHeap} {out : AVal} {done : List (List Alt)} (H : OutL n0 h out done) (hle : Hle h h') : OutL n0 h' out done := by
  obtain ⟨vs, h1, h2, h3⟩ := H
  exact ⟨vs, h1.frame hle.next (fun c hc => hle.get c (h1.blk hc)), ⟨h2.1, fun i x y hx hy => (h2.2 i x y hx hy).mono hle⟩, (fun x hx c hc => ⟨(h3.1 x hx c hc).1, by have := (h3.1 x hx c hc).2.1; have := hle.next; omega, (h3.1 x hx c hc).2.2⟩), h3.2⟩
theorem flat_single (vs : List AVal) : (vs.map fun x => [x]).flatten = vs := by
  induction vs with
  | nil => rfl
  | cons a l ih => simp [ih]
theorem OutL.cells {n0 : Nat} {h : AHeap} {out : AVal} {done : List (List Alt)} (H : OutL n0 h out done) : CellsA h out done := by
  obtain ⟨vs, h1, h2, h3⟩ := H
  have e := flat_single vs
  refine ⟨vs, OwnL.SlA (elem := 55) (by rw [e]; exact h1) (fun x hx => by obtain ⟨a, _, rfl⟩ := List.mem_map.1 hx; rfl) (by omega) ?_, h2⟩
  rw [e]
  intro x hx
  obtain ⟨i, hi⟩ := List.mem_iff_getElem?.1 hx
  obtain ⟨y, hy⟩ : ∃ y, done[i]? = some y := ⟨_, List.getElem?_eq_getElem (by rw [← h2.1]; exact (List.getElem?_eq_some_iff.1 hi).1)⟩
  exact (h2.2 i x y hi hy).flat
theorem OutL.app2 {n0 : Nat} {h : AHeap} {out v : AVal} {done : List (List Alt)} {l : List Alt} {z : Nat} (H : OutL n0 h out done) (hn0 : n0 ≤ h.next) (hv : AltsA h v l) (hd : ∀ c, blkOf v c → n0 ≤ c ∧ c < h.next ∧ ¬ blkOf out c) (hm : done.length ≤ 100000000) (hz : z < h.next) (hzg : h.get z = some (.cells [v] 55)) {K : AVal → AHeap → Prop}
    (hK : ∀ v' h', OutL n0 h' v' (done ++ [l]) → v'.flat = true → h.next ≤ h'.next → (∀ c, c < n0 → h'.get c = h.get c) → K v' h') : appV 55 1 out (.slice z 0 1 1 true) h K := by
  obtain ⟨vs, h1, h2, h3, h4⟩ := H
  have hone : SlA h 1 (.slice z 0 1 1 true) [[v]] := ⟨by simp, .inr ⟨_, _, _, _, rfl, .inr (RowA.of_cells (e := 55) hz hzg (by intro x hx; simp at hx; subst hx; exact hv.flat))⟩⟩
  refine appV_own h1 (srcCells_SlA hone (by simp)) (by simp) (by simp) (by omega) (by rw [h2.1]; simp; omega) ?_
  intro v' h'' ho hn hf hb
  have hblk : ∀ c, blkOf v' c → c = h.next := by
    rintro c ⟨o, n, c2, e, rfl⟩
    obtain ⟨_, _, _, _, he⟩ := hb
    cases he; rfl
  have hkeep : ∀ x y, AltsA h x y → (∀ c, blkOf x c → ¬ blkOf out c) → AltsA h'' x y := fun x y hx hxo => hx.keep (by omega) fun c hc hcl => hf c hcl (hxo c hc)
  refine hK v' h'' ⟨vs ++ [v], by simpa using ho, ⟨by simp [h2.1], fun i x y hx hy => ?_⟩, fun x hx c hc => ?_, fun c hc => by have := hblk c hc; omega⟩ ho.flatV (by omega) fun c hc => ?_
  · by_cases hi : i < vs.length
    · rw [List.getElem?_append_left hi] at hx
      rw [List.getElem?_append_left (by rw [← h2.1]; exact hi)] at hy
      exact hkeep x y (h2.2 i x y hx hy) (fun c hc => (h3 x (List.mem_of_getElem? hx) c hc).2.2)
    · rw [List.getElem?_append_right (by omega)] at hx
      rw [List.getElem?_append_right (by rw [← h2.1]; omega), ← h2.1] at hy
      have : i - vs.length = 0 := by
        have := (List.getElem?_eq_some_iff.1 hx).1
        simp at this; omega
      rw [this] at hx hy
      simp at hx hy
      subst hx; subst hy
      exact hkeep _ _ hv (fun c hc => (hd c hc).2.2)
  · rcases List.mem_append.1 hx with hx | hx
    · have := h3 x hx c hc
      exact ⟨this.1, by omega, fun hc' => by have := hblk c hc'; omega⟩
    · simp at hx; subst hx
      have := hd c hc
      exact ⟨this.1, by omega, fun hc' => by have := hblk c hc'; omega⟩
  · exact hf c (by omega) (fun hk => by have := h4 c hk; omega)
theorem OutL.blk {n0 : Nat} {h : AHeap} {out : AVal} {done : List (List Alt)} (H : OutL n0 h out done) {c : Nat} (hc : blkOf out c) : c < h.next := by
  obtain ⟨vs, h1, _⟩ := H
  exact h1.blk hc
end
end Go.AX
namespace Go.AX
open Go Go.Proofs
noncomputable section
set_option linter.unusedSimpArgs false
set_option linter.unusedVariables false
attribute [local go_sem] b_seq wp_skip wp_exit wp_ret wp_region b_block wops_nil b_ops b_opsg b_cond condV_lite wo_mv b_bin wo_call callV_func wo_pick b_box wo_load1 wo_loadN wo_store wo_nilCheck wo_not wo_lenStr' wo_lenSl wo_ixStr' wo_ixSl wo_fAddr wo_part1 wo_partN wo_extract wo_cInt wo_cStr wo_mkMap wo_mkIface wo_mkFunc wo_lookup pickV_bool ifT_true ifT_false b_loadV b_loadNV b_storeV nilV_ptr nilV_func nilV_iface notV_bool lenStrV_str lenSlV_nil lenSlV_slice b_ixStrV ixSlV_slice fAddrV_ptr b_part1V partNV_agg b_extractV convV_int strV_str evC_tm evC_cn T.get_set putA_some putA_none onO_some evCs_nil evCs_cons appL_nil appL_cons guardOk_true guardOk_false cellsV_bool cellsV_int cellsV_str cellsV_nilptr cellsV_ptr cellsV_nilslice cellsV_slice cellsV_nilmap cellsV_map cellsV_func cellsV_nilfunc cellsV_iface cellsV_niliface cellsV_agg bin_lss bin_gtr bin_leq bin_geq bin_eql bin_neq bin_add bin_sub bin_eqlS bin_neqS mkFrame_nil mkFrame_cons resA_one resA_two resA_three over_0 over_1 over_2 over_3 over_4 over_5 over0_nil over0_cons Option.getD_some if_true if_false AHeap.next_push AVal.bool.injEq decide_eq_true_eq decide_eq_false_iff_not Bool.not_eq_true' Bool.not_eq_false' Bool.not_eq_true decide_true decide_false Bool.not_true Bool.not_false Int.toNat_natCast Int.natCast_nonneg true_and and_true wo_mapPut wp_drawn' wsts_nil b_pure b_read b_new b_wr wor_none b_org rer_nil rer_load1 rer_loadN wo_append AHeap.next_skip AHeap.next_put' AHeap.mk_push_t AHeap.mk_eta AHeap.mk_skip ldA_skip ldN_skip Nat.add_zero Nat.zero_add b_lite_true b_lite_false eq_self_iff_true not_true_eq_false not_false_eq_true bx_k bx_q bx_x bx_1 undefA_bool putAt_push List.length_cons List.length_nil Nat.le_refl ldA_push_new ldN_push_new List.getElem?_cons_zero List.getElem?_cons_succ List.drop_zero List.drop_succ_cons List.take_succ_cons List.take_zero b_build b_buildSlice evParts_nil evParts_cons b_fillA_nil b_fillA nbeq nble natadd natmul lenL_eq repL_1 repL_2 repL_3 wo_sliceData sdV_nil sdV_slice wo_unsafeStr usV_nil wo_slStr slStrV_str evCo_none evCo_some boundA_none Bool.and_true Bool.true_and wo_minmax2' mm2V_int
theorem CellsA.nil (h : AHeap) : CellsA h .nilslice [] := ⟨[], ⟨by simp, .inl ⟨rfl, rfl⟩⟩, rfl, fun i x y hx => by simp at hx⟩
end
end Go.AX

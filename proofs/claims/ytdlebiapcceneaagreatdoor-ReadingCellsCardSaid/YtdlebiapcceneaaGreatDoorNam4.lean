/-
  Contracts of functions of this seat, for every input that each theorem names.
-/
import Derived.Test.YtdlebiapcceneaaGreatDoorNam3
import Derived.Test.YtdlebiapcceneaaGreatDoorNam1
set_option linter.unusedVariables false
set_option linter.unusedSimpArgs false
set_option linter.unusedSectionVars false
namespace Go.AX
open Go Go.Proofs
noncomputable section
set_option linter.unusedSimpArgs false
set_option linter.unusedVariables false
attribute [local go_sem] b_seq wp_skip wp_exit wp_ret wp_region b_block wops_nil b_ops b_opsg b_cond condV_lite wo_mv b_bin wo_call callV_func wo_pick b_box wo_load1 wo_loadN wo_store wo_nilCheck wo_not wo_lenStr' wo_lenSl wo_ixStr' wo_ixSl wo_fAddr wo_part1 wo_partN wo_extract wo_cInt wo_cStr wo_mkMap wo_mkIface wo_mkFunc wo_lookup pickV_bool ifT_true ifT_false b_loadV b_loadNV b_storeV nilV_ptr nilV_func nilV_iface notV_bool lenStrV_str lenSlV_nil lenSlV_slice b_ixStrV ixSlV_slice fAddrV_ptr b_part1V partNV_agg b_extractV convV_int strV_str evC_tm evC_cn T.get_set putA_some putA_none onO_some evCs_nil evCs_cons appL_nil appL_cons guardOk_true guardOk_false cellsV_bool cellsV_int cellsV_str cellsV_nilptr cellsV_ptr cellsV_nilslice cellsV_slice cellsV_nilmap cellsV_map cellsV_func cellsV_nilfunc cellsV_iface cellsV_niliface cellsV_agg bin_lss bin_gtr bin_leq bin_geq bin_eql bin_neq bin_add bin_sub bin_eqlS bin_neqS mkFrame_nil mkFrame_cons resA_one resA_two resA_three over_0 over_1 over_2 over_3 over_4 over_5 over0_nil over0_cons Option.getD_some if_true if_false AHeap.next_push AVal.bool.injEq decide_eq_true_eq decide_eq_false_iff_not Bool.not_eq_true' Bool.not_eq_false' Bool.not_eq_true decide_true decide_false Bool.not_true Bool.not_false Int.toNat_natCast Int.natCast_nonneg true_and and_true wo_mapPut wp_drawn' wsts_nil b_pure b_read b_new b_wr wor_none b_org rer_nil rer_load1 rer_loadN wo_append AHeap.next_skip AHeap.next_put' AHeap.mk_push_t AHeap.mk_eta AHeap.mk_skip ldA_skip ldN_skip Nat.add_zero Nat.zero_add b_lite_true b_lite_false eq_self_iff_true not_true_eq_false not_false_eq_true bx_k bx_q bx_x bx_1 undefA_bool putAt_push List.length_cons List.length_nil Nat.le_refl ldA_push_new ldN_push_new List.getElem?_cons_zero List.getElem?_cons_succ List.drop_zero List.drop_succ_cons List.take_succ_cons List.take_zero b_build b_buildSlice evParts_nil evParts_cons b_fillA_nil b_fillA nbeq nble natadd natmul lenL_eq repL_1 repL_2 repL_3 wo_sliceData sdV_nil sdV_slice wo_unsafeStr usV_nil wo_slStr slStrV_str evCo_none evCo_some boundA_none Bool.and_true Bool.true_and wo_minmax2' mm2V_int
theorem joinA_take_len {c : List Alt} (hv : validP c) (k : Nat) : (joinA (c.take k)).length ≤ 208 := by
  have := joinA_len (c := c.take k) fun a ha => hv.2.2.1 a (List.mem_of_mem_take ha)
  have := hv.2.1
  have : (c.take k).length ≤ c.length := by simp; omega
  omega
set_option maxHeartbeats 2000000 in
theorem printRef_inner {Qn Qr : Fr → AHeap → Prop} {Qx : Nat → Fr → AHeap → Prop} (c : List Alt) (hv : validP c) (x v : AVal) (h h0 : AHeap) (bs : List Nat) (fr : Fr) (i : Int) (hx : AltsA h x c) (hle : Hle h h0) (hlen : bs.length ≤ 6720)
    (t0 : fr.get 0 = some v) (t5 : fr.get 5 = some (.str (bs ++ [40]))) (t6 : fr.get 6 = some (.int .i64 i)) (t7 : fr.get 7 = some x) (t8 : fr.get 8 = some (.int .i64 0))
    (hq : ∀ fr h', fr.get 0 = some v → fr.get 5 = some (.str (bs ++ [40] ++ joinA c)) → fr.get 6 = some (.int .i64 i) → Hle h h' → Qx 2 fr h') : wp E2 (.loop c12_l0) fr h0 Qn Qx Qr := by
  refine b_loop (fun d fr h' => Hle h h' ∧ fr.get 0 = some v ∧ fr.get 6 = some (.int .i64 i) ∧ fr.get 7 = some x ∧ ∃ k : Nat, fr.get 8 = some (.int .i64 (k : Int)) ∧ d + k = c.length ∧ fr.get 5 = some (.str (bs ++ [40] ++ joinA (c.take k)))) c.length ?_ ?_
  · exact ⟨hle, t0, t6, t7, 0, t8, by omega, by simpa [joinA] using t5⟩
  clear hle t0 t5 t6 t7 t8
  rintro d fr h' ⟨hle, t0, t6, t7, k, t8, hd, t5⟩
  unfold c12_l0
  simp only [go_sem, Nat.reduceEqDiff, Int.reduceLT, Int.reduceLE, Int.reduceEq, Nat.reduceLT, Nat.reduceAdd, Nat.reduceMul, Int.reduceToNat, Nat.reduceLeDiff, reduceCtorEq, t0, t5, t6, t7, t8, hx.len]
  refine b_lite (fun hc => ?_) (fun hc => ?_)
  · obtain ⟨⟨s, n⟩, ha⟩ : ∃ a, c[k]? = some a := ⟨_, List.getElem?_eq_getElem (by omega)⟩
    have hok : altOk (s, n) := hv.2.2.1 _ (List.mem_of_getElem? ha)
    have hc8 : c.length ≤ 8 := hv.2.1
    have hat := altT_len hok
    have hpre := joinA_take_len hv k
    obtain ⟨b2, o2, hb2, hix, _, _, hN⟩ := (hx.mono hle).at ha
    have hj := joinA_snoc ha
    by_cases hk : (0 : Int) < (k : Int)
    · have hk0 : ¬ k = 0 := by omega
      rw [if_neg hk0] at hj
      have hb1 : (bs ++ [40] ++ joinA (c.take k)).length + [124].length ≤ 1073741824 := by simp only [List.length_append, List.length_cons, List.length_nil]; omega
      have hb2 : (bs ++ [40] ++ joinA (c.take k) ++ [124]).length + (altT (s, n)).length ≤ 1073741824 := by simp only [List.length_append, List.length_cons, List.length_nil]; omega
      simp only [go_sem, Nat.reduceEqDiff, Int.reduceLT, Int.reduceLE, Int.reduceEq, Nat.reduceLT, Nat.reduceAdd, Nat.reduceMul, Int.reduceToNat, Nat.reduceLeDiff, reduceCtorEq, t0, t5, t6, t7, t8, hk, bin_addS hb1, hix, hN]
      refine ⟨by decide, ?_⟩
      refine (altText_c (s, n) _ hok).mono ?_
      rintro r h4 ⟨rfl, hle4⟩
      simp only [go_sem, Nat.reduceEqDiff, Int.reduceLT, Int.reduceLE, Int.reduceEq, Nat.reduceLT, Nat.reduceAdd, Nat.reduceMul, Int.reduceToNat, Nat.reduceLeDiff, reduceCtorEq, t0, t5, t6, t7, t8, bin_addS hb2]
      refine ⟨d - 1, by omega, hle.trans hle4, k + 1, ?_, by omega, ?_⟩
      · rw [wrap_i64 (by omega) (by omega)]; rfl
      · rw [hj]; simp
    · have hk0 : k = 0 := by omega
      subst hk0
      rw [if_pos rfl] at hj
      have hb2 : (bs ++ [40] ++ joinA []).length + (altT (s, n)).length ≤ 1073741824 := by simp only [List.length_append, List.length_cons, List.length_nil, joinA]; omega
      simp only [go_sem, Nat.reduceEqDiff, Int.reduceLT, Int.reduceLE, Int.reduceEq, Nat.reduceLT, Nat.reduceAdd, Nat.reduceMul, Int.reduceToNat, Nat.reduceLeDiff, reduceCtorEq, t0, t5, t6, t7, t8, hk, hix, hN]
      refine ⟨by decide, ?_⟩
      refine (altText_c (s, n) _ hok).mono ?_
      rintro r h4 ⟨rfl, hle4⟩
      simp only [go_sem, Nat.reduceEqDiff, Int.reduceLT, Int.reduceLE, Int.reduceEq, Nat.reduceLT, Nat.reduceAdd, Nat.reduceMul, Int.reduceToNat, Nat.reduceLeDiff, reduceCtorEq, t0, t5, t6, t7, t8, bin_addS hb2]
      refine ⟨d - 1, by omega, hle.trans hle4, 0 + 1, ?_, by omega, ?_⟩
      · rfl
      · rw [hj]; simp [joinA]
  · simp only [go_sem, Nat.reduceEqDiff, Int.reduceLT, Int.reduceLE, Int.reduceEq, Nat.reduceLT, Nat.reduceAdd, Nat.reduceMul, Int.reduceToNat, Nat.reduceLeDiff, reduceCtorEq, t0, t5, t6, t7, t8]
    have hk : k = c.length := by omega
    rw [hk, List.take_length] at t5
    exact hq _ _ (by simp [T.get_set, t0]) (by simp [T.get_set, t5]) (by simp [T.get_set, t6]) hle
set_option maxHeartbeats 1000000 in
theorem printRef_c (cells : List (List Alt)) (v : AVal) (h : AHeap) (H : CellsA h v cells) : Ec E2 12 [v] h fun r h' => r = printR cells ∧ Hle h h' := by
  refine Ec.of_wpb (prim2_none (by decide)) code12 ?_
  unfold c12
  simp only [go_sem, Nat.reduceEqDiff, Int.reduceLT, Int.reduceLE, Int.reduceEq, Nat.reduceLT, Nat.reduceAdd, Nat.reduceMul, Int.reduceToNat, Nat.reduceLeDiff, reduceCtorEq]
  refine ⟨by decide, ?_⟩
  refine (checkCellsR_c cells v h H).mono ?_
  rintro r h1 ⟨rfl, hle1⟩
  by_cases hE : ¬ checkE cells = 0
  · simp only [go_sem, Nat.reduceEqDiff, Int.reduceLT, Int.reduceLE, Int.reduceEq, Nat.reduceLT, Nat.reduceAdd, Nat.reduceMul, Int.reduceToNat, Nat.reduceLeDiff, reduceCtorEq, hE]
    unfold printR
    rw [if_neg hE]
    exact ⟨rfl, hle1⟩
  have hE : checkE cells = 0 := Decidable.not_not.1 hE
  obtain ⟨hl32, hallV⟩ := checkE_ok hE
  simp only [go_sem, Nat.reduceEqDiff, Int.reduceLT, Int.reduceLE, Int.reduceEq, Nat.reduceLT, Nat.reduceAdd, Nat.reduceMul, Int.reduceToNat, Nat.reduceLeDiff, reduceCtorEq, hE]
  refine b_loop (fun d fr h' => Hle h h' ∧ fr.get 0 = some v ∧ ∃ i : Nat, fr.get 6 = some (.int .i64 (i : Int)) ∧ d + i = cells.length ∧ fr.get 5 = some (.str (printS (cells.take i)))) cells.length ?_ ?_
  · exact ⟨hle1, by simp [T.get_set], 0, by simp [T.get_set], by omega, by simp [T.get_set, printS]⟩
  rintro d fr h' ⟨hle, t0, i, t6, hd, t5⟩
  unfold c12_l1
  simp only [go_sem, Nat.reduceEqDiff, Int.reduceLT, Int.reduceLE, Int.reduceEq, Nat.reduceLT, Nat.reduceAdd, Nat.reduceMul, Int.reduceToNat, Nat.reduceLeDiff, reduceCtorEq, t0, t5, t6, H.len]
  refine b_lite (fun hc => ?_) (fun hc => ?_)
  · obtain ⟨c, hci⟩ : ∃ c, cells[i]? = some c := ⟨_, List.getElem?_eq_getElem (by omega)⟩
    have hv : validP c := hallV c (List.mem_of_getElem? hci)
    obtain ⟨bb, o, x, hb, hix, hl00, hlN0, hx, hxf⟩ := H.at hci
    have hl0 : ldA h' bb o = some x := (hle.ldA hb o).trans hl00
    have hplen := printS_take_len hallV hl32 i
    have hsn := printS_snoc hci
    by_cases hone : isOne c = true
    · obtain ⟨⟨s, n⟩, rfl, hs1, hn0⟩ := isOne_inv hone
      have hs1 : s.length = 1 := hs1
      have hn0 : n = 0 := hn0
      subst hn0
      obtain ⟨b2, o2, hb2, hix2, hm0, hm1, _⟩ := (hx.mono hle).at (j := 0) (a := (s, 0)) rfl
      have hix20 : ∀ k h' K, ixSlV 2 x (.int k 0) h' K = K (.ptr b2 o2) h' := fun k h' K => hix2 k 0 h' K rfl
      have hs1' : ((s.length : Nat) : Int) = 1 := by omega
      have hcat : (printS (cells.take i)).length + s.length ≤ 1073741824 := by omega
      simp only [go_sem, Nat.reduceEqDiff, Int.reduceLT, Int.reduceLE, Int.reduceEq, Nat.reduceLT, Nat.reduceAdd, Nat.reduceMul, Int.reduceToNat, Nat.reduceLeDiff, reduceCtorEq, t0, t5, t6, hix, hl0, hx.len, hix20, hm0, hm1, hs1', Int.natCast_one, bin_addS hcat]
      refine ⟨d - 1, by omega, hle, i + 1, ?_, by omega, ?_⟩
      · rw [wrap_i64 (by omega) (by omega)]; rfl
      · rw [hsn]
        have : printC [(s, 0)] = s := by unfold printC; rw [if_pos hone]; simp
        rw [this]
    · have hpC : printC c = [40] ++ joinA c ++ [41] := by
        unfold printC
        rw [if_neg hone]
        simp
      have hjl := joinA_take_len hv c.length
      rw [List.take_length] at hjl
      have hcat : (printS (cells.take i)).length + [40].length ≤ 1073741824 := by simp only [List.length_append, List.length_cons, List.length_nil]; omega
      have hcat2 : (printS (cells.take i) ++ [40] ++ joinA c).length + [41].length ≤ 1073741824 := by simp only [List.length_append, List.length_cons, List.length_nil]; omega
      have hgo : ∀ (fr1 : Fr) (Qn Qr : Fr → AHeap → Prop) (Qx : Nat → Fr → AHeap → Prop), fr1.get 0 = some v → fr1.get 5 = some (.str (printS (cells.take i) ++ [40])) → fr1.get 6 = some (.int .i64 (i : Int)) → fr1.get 7 = some x → fr1.get 8 = some (.int .i64 0) →
          (∀ fr h3, fr.get 0 = some v → fr.get 5 = some (.str (printS (cells.take i) ++ [40] ++ joinA c)) → fr.get 6 = some (.int .i64 (i : Int)) → Hle h h3 → Qx 2 fr h3) → wp E2 (.loop c12_l0) fr1 h' Qn Qx Qr :=
        fun fr1 Qn Qr Qx a0 a5 a6 a7 a8 hq => printRef_inner c hv x v h h' _ fr1 i hx hle hplen a0 a5 a6 a7 a8 hq
      by_cases q1 : (c.length : Int) = 1
      · obtain ⟨⟨s, n⟩, rfl⟩ : ∃ a, c = [a] := by
          match c, q1 with
          | [a], _ => exact ⟨a, rfl⟩
          | [], q1 => simp at q1
          | _ :: _ :: _, q1 => simp at q1; omega
        obtain ⟨b2, o2, hb2, hix2, hm0, hm1, _⟩ := (hx.mono hle).at (j := 0) (a := (s, n)) rfl
        have hix20 : ∀ k h' K, ixSlV 2 x (.int k 0) h' K = K (.ptr b2 o2) h' := fun k h' K => hix2 k 0 h' K rfl
        by_cases q2 : (s.length : Int) = 1
        · have q3 : ¬ n = 0 := by
            intro e
            apply hone
            unfold isOne
            simp [e]; omega
          simp only [go_sem, Nat.reduceEqDiff, Int.reduceLT, Int.reduceLE, Int.reduceEq, Nat.reduceLT, Nat.reduceAdd, Nat.reduceMul, Int.reduceToNat, Nat.reduceLeDiff, reduceCtorEq, t0, t5, t6, hix, hl0, hx.len, hix20, hm0, hm1, q1, q2, q3, Int.natCast_one, bin_addS hcat]
          refine hgo _ _ _ _ (by simp [T.get_set, t0]) (by simp [T.get_set]) (by simp [T.get_set, t6]) (by simp [T.get_set]) (by simp [T.get_set]) ?_
          intro fr2 h3 u0 u5 u6 hle3
          simp only [go_sem, Nat.reduceEqDiff, Int.reduceLT, Int.reduceLE, Int.reduceEq, Nat.reduceLT, Nat.reduceAdd, Nat.reduceMul, Int.reduceToNat, Nat.reduceLeDiff, reduceCtorEq, u0, u5, u6, bin_addS hcat2]
          refine ⟨d - 1, by omega, hle3, i + 1, ?_, by omega, ?_⟩
          · rw [wrap_i64 (by omega) (by omega)]; rfl
          · rw [hsn, hpC]; simp
        · simp only [go_sem, Nat.reduceEqDiff, Int.reduceLT, Int.reduceLE, Int.reduceEq, Nat.reduceLT, Nat.reduceAdd, Nat.reduceMul, Int.reduceToNat, Nat.reduceLeDiff, reduceCtorEq, t0, t5, t6, hix, hl0, hx.len, hix20, hm0, hm1, q1, q2, Int.natCast_one, bin_addS hcat]
          refine hgo _ _ _ _ (by simp [T.get_set, t0]) (by simp [T.get_set]) (by simp [T.get_set, t6]) (by simp [T.get_set]) (by simp [T.get_set]) ?_
          intro fr2 h3 u0 u5 u6 hle3
          simp only [go_sem, Nat.reduceEqDiff, Int.reduceLT, Int.reduceLE, Int.reduceEq, Nat.reduceLT, Nat.reduceAdd, Nat.reduceMul, Int.reduceToNat, Nat.reduceLeDiff, reduceCtorEq, u0, u5, u6, bin_addS hcat2]
          refine ⟨d - 1, by omega, hle3, i + 1, ?_, by omega, ?_⟩
          · rw [wrap_i64 (by omega) (by omega)]; rfl
          · rw [hsn, hpC]; simp
      · simp only [go_sem, Nat.reduceEqDiff, Int.reduceLT, Int.reduceLE, Int.reduceEq, Nat.reduceLT, Nat.reduceAdd, Nat.reduceMul, Int.reduceToNat, Nat.reduceLeDiff, reduceCtorEq, t0, t5, t6, hix, hl0, hx.len, q1, bin_addS hcat]
        refine hgo _ _ _ _ (by simp [T.get_set, t0]) (by simp [T.get_set]) (by simp [T.get_set, t6]) (by simp [T.get_set]) (by simp [T.get_set]) ?_
        intro fr2 h3 u0 u5 u6 hle3
        simp only [go_sem, Nat.reduceEqDiff, Int.reduceLT, Int.reduceLE, Int.reduceEq, Nat.reduceLT, Nat.reduceAdd, Nat.reduceMul, Int.reduceToNat, Nat.reduceLeDiff, reduceCtorEq, u0, u5, u6, bin_addS hcat2]
        refine ⟨d - 1, by omega, hle3, i + 1, ?_, by omega, ?_⟩
        · rw [wrap_i64 (by omega) (by omega)]; rfl
        · rw [hsn, hpC]; simp
  · simp only [go_sem, Nat.reduceEqDiff, Int.reduceLT, Int.reduceLE, Int.reduceEq, Nat.reduceLT, Nat.reduceAdd, Nat.reduceMul, Int.reduceToNat, Nat.reduceLeDiff, reduceCtorEq, t0, t5, t6]
    have hi : i = cells.length := by omega
    unfold printR
    rw [if_pos hE, hE, hi, List.take_length]
    exact ⟨rfl, hle⟩
end
end Go.AX
namespace Go.AX
open Go Go.Proofs Go.RowKit Go.WideShapes Go.ChangeShapes
noncomputable section
theorem oc3 : Tryz.prog.cellsOf 3 = 1 := by kernel_rfl
theorem oc9 : Tryz.prog.cellsOf 9 = 1 := by kernel_rfl
theorem oc53 : Tryz.prog.cellsOf 53 = 1 := by kernel_rfl
theorem oc55 : Tryz.prog.cellsOf 55 = 1 := by kernel_rfl
theorem oc57 : Tryz.prog.cellsOf 57 = 2 := by kernel_rfl
theorem oc22 : Tryz.prog.cellsOf 22 = 1 := by kernel_rfl
theorem len1 {α : Type} {l : List α} (h : l.length = 1) : ∃ a, l = [a] := by
  match l, h with
  | [a], _ => exact ⟨a, rfl⟩
theorem len2 {α : Type} {l : List α} (h : l.length = 2) : ∃ a b, l = [a, b] := by
  match l, h with
  | [a, b], _ => exact ⟨a, b, rfl⟩
theorem opn57 : Opn Tryz.prog 57 2 (fun _ (a : Alt) l => l = altC a ∧ a.1.length ≤ 9223372036854775807) := by
  refine ⟨oc57, fun {H enc w base held fuel cs x} h => ?_⟩
  obtain ⟨hl, n, hf⟩ := trod_fields Tryz.underlying57 oc57 (fun i f hi => by
    match i, hi with
    | 0, hi => cases hi; exact ⟨rfl, oc9⟩
    | 1, hi => cases hi; exact ⟨rfl, oc3⟩
    | (i + 2), hi => simp at hi) h
  obtain ⟨c0, c1, rfl⟩ := len2 hl
  obtain ⟨y0, g0⟩ := hf 0 _ c0 rfl rfl
  obtain ⟨y1, g1⟩ := hf 1 _ c1 rfl rfl
  obtain ⟨s, e0, _, w0⟩ := DataW.trod_string Tryz.underlying9 g0
  obtain ⟨k, e1, _, w1⟩ := DataW.trod_int Tryz.underlying3 g1
  cases e0; cases e1
  refine ⟨(s.data.toList.map UInt8.toNat, k), ⟨rfl, ?_⟩, fun c hc => ?_, rfl⟩
  · have : (s.data.toList.map UInt8.toNat).length = s.size := by rw [List.length_map, Array.length_toList]; rfl
    show (s.data.toList.map UInt8.toNat).length ≤ _
    unfold maxLen at w0
    omega
  · simp at hc
    rcases hc with rfl | rfl <;> rfl
theorem opn53 : Opn Tryz.prog 53 1 (fun w (xs : List Alt) l => ∃ v, l = [v] ∧ AltsA (absW w) v xs) := by
  have h0 := opn_slice opn57 (by omega) Tryz.underlying53 oc53
  refine ⟨h0.1, fun h => ?_⟩
  obtain ⟨xs, ⟨v, rows, e, hs, ⟨hl, h2⟩, _⟩, hf, hlen⟩ := h0.2 h
  refine ⟨xs, ⟨v, e, ?_, fun a ha => ?_⟩, hf, hlen⟩
  · have : rows = xs.map altC := by
      apply List.ext_getElem?
      intro i
      rw [List.getElem?_map]
      cases hx : xs[i]? with
      | none =>
        have := List.getElem?_eq_none_iff.1 hx
        rw [List.getElem?_eq_none (by omega)]
        rfl
      | some a =>
        have hi := (List.getElem?_eq_some_iff.1 hx).1
        obtain ⟨r, hr⟩ : ∃ r, rows[i]? = some r := ⟨_, List.getElem?_eq_getElem (by omega)⟩
        rw [hr, (h2 i a r hx hr).1]
        rfl
    rw [← this]
    exact hs
  · obtain ⟨i, hi⟩ := List.mem_iff_getElem?.1 ha
    have hil := (List.getElem?_eq_some_iff.1 hi).1
    obtain ⟨r, hr⟩ : ∃ r, rows[i]? = some r := ⟨_, List.getElem?_eq_getElem (by omega)⟩
    exact (h2 i a r hi hr).2
theorem opn55 : Opn Tryz.prog 55 1 (fun w (xs : List Alt) l => ∃ v, l = [v] ∧ AltsA (absW w) v xs) := by
  refine ⟨oc55, fun {H enc w base held fuel cs x} h => ?_⟩
  obtain ⟨hl, n, hf⟩ := trod_fields Tryz.underlying55 oc55 (fun i f hi => by
    match i, hi with
    | 0, hi => cases hi; exact ⟨rfl, oc53⟩
    | (i + 1), hi => simp at hi) h
  obtain ⟨c0, rfl⟩ := len1 hl
  obtain ⟨y0, g0⟩ := hf 0 _ c0 rfl rfl
  exact opn53.2 g0
theorem opn22 : Opn Tryz.prog 22 1 (fun w (cells : List (List Alt)) l => ∃ v, l = [v] ∧ CellsA (absW w) v cells) := by
  have h0 := opn_slice opn55 (by omega) Tryz.underlying22 oc22
  refine ⟨h0.1, fun h => ?_⟩
  obtain ⟨xs, ⟨v, rows, e, hs, ⟨hl, h2⟩, _⟩, hf, hlen⟩ := h0.2 h
  have hrow : ∀ (i : Nat) r, rows[i]? = some r → r = [r.headD undefA] := by
    intro i r hr
    have hi := (List.getElem?_eq_some_iff.1 hr).1
    obtain ⟨a, ha⟩ : ∃ a, xs[i]? = some a := ⟨_, List.getElem?_eq_getElem (by omega)⟩
    obtain ⟨x, hx, _⟩ := h2 i a r ha hr
    rw [hx]; rfl
  refine ⟨xs, ⟨v, e, rows.map (·.headD undefA), ?_, by simp [hl], fun i y a hy ha => ?_⟩, hf, hlen⟩
  · have : (rows.map (·.headD undefA)).map (fun x => [x]) = rows := by
      apply List.ext_getElem?
      intro i
      rw [List.getElem?_map, List.getElem?_map]
      cases hr : rows[i]? with
      | none => rfl
      | some r => exact congrArg some (hrow i r hr).symm
    rw [this]
    exact hs
  · rw [List.getElem?_map, Option.map_eq_some_iff] at hy
    obtain ⟨r, hr, rfl⟩ := hy
    obtain ⟨x, hx, hA⟩ := h2 i a r ha hr
    rw [hx]
    exact hA
end
end Go.AX
namespace Go.AX
open Go Go.Proofs
noncomputable section
set_option linter.unusedSimpArgs false
set_option linter.unusedVariables false
attribute [local go_sem] b_seq wp_skip wp_exit wp_ret wp_region b_block wops_nil b_ops b_opsg b_cond condV_lite wo_mv b_bin wo_call callV_func wo_pick b_box wo_load1 wo_loadN wo_store wo_nilCheck wo_not wo_lenStr' wo_lenSl wo_ixStr' wo_ixSl wo_fAddr wo_part1 wo_partN wo_extract wo_cInt wo_cStr wo_mkMap wo_mkIface wo_mkFunc wo_lookup pickV_bool ifT_true ifT_false b_loadV b_loadNV b_storeV nilV_ptr nilV_func nilV_iface notV_bool lenStrV_str lenSlV_nil lenSlV_slice b_ixStrV ixSlV_slice fAddrV_ptr b_part1V partNV_agg b_extractV convV_int strV_str evC_tm evC_cn T.get_set putA_some putA_none onO_some evCs_nil evCs_cons appL_nil appL_cons guardOk_true guardOk_false cellsV_bool cellsV_int cellsV_str cellsV_nilptr cellsV_ptr cellsV_nilslice cellsV_slice cellsV_nilmap cellsV_map cellsV_func cellsV_nilfunc cellsV_iface cellsV_niliface cellsV_agg bin_lss bin_gtr bin_leq bin_geq bin_eql bin_neq bin_add bin_sub bin_eqlS bin_neqS mkFrame_nil mkFrame_cons resA_one resA_two resA_three over_0 over_1 over_2 over_3 over_4 over_5 over0_nil over0_cons Option.getD_some if_true if_false AHeap.next_push AVal.bool.injEq decide_eq_true_eq decide_eq_false_iff_not Bool.not_eq_true' Bool.not_eq_false' Bool.not_eq_true decide_true decide_false Bool.not_true Bool.not_false Int.toNat_natCast Int.natCast_nonneg true_and and_true wo_mapPut wp_drawn' wsts_nil b_pure b_read b_new b_wr wor_none b_org rer_nil rer_load1 rer_loadN wo_append AHeap.next_skip AHeap.next_put' AHeap.mk_push_t AHeap.mk_eta AHeap.mk_skip ldA_skip ldN_skip Nat.add_zero Nat.zero_add b_lite_true b_lite_false eq_self_iff_true not_true_eq_false not_false_eq_true bx_k bx_q bx_x bx_1 undefA_bool putAt_push List.length_cons List.length_nil Nat.le_refl ldA_push_new ldN_push_new List.getElem?_cons_zero List.getElem?_cons_succ List.drop_zero List.drop_succ_cons List.take_succ_cons List.take_zero b_build b_buildSlice evParts_nil evParts_cons b_fillA_nil b_fillA nbeq nble natadd natmul lenL_eq repL_1 repL_2 repL_3 wo_sliceData sdV_nil sdV_slice wo_unsafeStr usV_nil wo_slStr slStrV_str evCo_none evCo_some boundA_none Bool.and_true Bool.true_and wo_minmax2' mm2V_int
theorem cells_law (cells : List (List Alt)) (v : AVal) (h : AHeap) (H : CellsA h v cells) : Ec E2 3 [v] h fun r _ => r = .bool true := by
  refine Ec.of_wpb (prim2_none (by decide)) code3 ?_
  unfold c3
  simp only [go_sem, Nat.reduceEqDiff, Int.reduceLT, Int.reduceLE, Int.reduceEq, Nat.reduceLT, Nat.reduceAdd, Nat.reduceMul, Int.reduceToNat, Nat.reduceLeDiff, reduceCtorEq]
  refine ⟨by decide, ?_⟩
  refine (print_c cells v h H).mono ?_
  rintro r h1 ⟨rfl, hle1⟩
  unfold printR
  simp only [go_sem, Nat.reduceEqDiff, Int.reduceLT, Int.reduceLE, Int.reduceEq, Nat.reduceLT, Nat.reduceAdd, Nat.reduceMul, Int.reduceToNat, Nat.reduceLeDiff, reduceCtorEq]
  refine ⟨by decide, ?_⟩
  refine (printRef_c cells v h1 (H.mono hle1)).mono ?_
  rintro r h2 ⟨rfl, hle2⟩
  unfold printR
  simp only [go_sem, Nat.reduceEqDiff, Int.reduceLT, Int.reduceLE, Int.reduceEq, Nat.reduceLT, Nat.reduceAdd, Nat.reduceMul, Int.reduceToNat, Nat.reduceLeDiff, reduceCtorEq]
  refine ⟨by decide, ?_⟩
  refine (alive_c h2).mono ?_
  rintro r h3 ⟨rfl, rfl⟩
  simp only [go_sem, Nat.reduceEqDiff, Int.reduceLT, Int.reduceLE, Int.reduceEq, Nat.reduceLT, Nat.reduceAdd, Nat.reduceMul, Int.reduceToNat, Nat.reduceLeDiff, reduceCtorEq]
  refine ⟨by decide, ?_⟩
  refine (checkCells_c cells v h3 (H.mono (hle1.trans hle2))).mono ?_
  rintro r h4 ⟨rfl, hle4⟩
  simp only [go_sem, Nat.reduceEqDiff, Int.reduceLT, Int.reduceLE, Int.reduceEq, Nat.reduceLT, Nat.reduceAdd, Nat.reduceMul, Int.reduceToNat, Nat.reduceLeDiff, reduceCtorEq]
  refine ⟨by decide, ?_⟩
  refine (checkCellsR_c cells v h4 (H.mono ((hle1.trans hle2).trans hle4))).mono ?_
  rintro r h5 ⟨rfl, hle5⟩
  simp only [go_sem, Nat.reduceEqDiff, Int.reduceLT, Int.reduceLE, Int.reduceEq, Nat.reduceLT, Nat.reduceAdd, Nat.reduceMul, Int.reduceToNat, Nat.reduceLeDiff, reduceCtorEq]
end
end Go.AX

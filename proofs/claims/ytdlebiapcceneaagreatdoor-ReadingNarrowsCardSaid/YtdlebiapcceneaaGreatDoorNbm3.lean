/-
  Contracts of functions of this seat, for every input that each theorem names.
-/
import Derived.Test.YtdlebiapcceneaaGreatDoorNbm2
import Derived.Lib.ItoaLen
import Derived.Test.YtdlebiapcceneaaGreatDoorNbm1
set_option linter.unusedVariables false
set_option linter.unusedSimpArgs false
set_option linter.unusedSectionVars false
namespace Go.AX
open Go Go.Proofs
noncomputable section
set_option linter.unusedSimpArgs false
set_option linter.unusedVariables false
attribute [local go_sem] b_seq wp_skip wp_exit wp_ret wp_region b_block wops_nil b_ops b_opsg b_cond condV_lite wo_mv b_bin wo_call callV_func wo_pick b_box wo_load1 wo_loadN wo_store wo_nilCheck wo_not wo_lenStr' wo_lenSl wo_ixStr' wo_ixSl wo_fAddr wo_part1 wo_partN wo_extract wo_cInt wo_cStr wo_mkMap wo_mkIface wo_mkFunc wo_lookup pickV_bool ifT_true ifT_false b_loadV b_loadNV b_storeV nilV_ptr nilV_func nilV_iface notV_bool lenStrV_str lenSlV_nil lenSlV_slice b_ixStrV ixSlV_slice fAddrV_ptr b_part1V partNV_agg b_extractV convV_int strV_str evC_tm evC_cn T.get_set putA_some putA_none onO_some evCs_nil evCs_cons appL_nil appL_cons guardOk_true guardOk_false cellsV_bool cellsV_int cellsV_str cellsV_nilptr cellsV_ptr cellsV_nilslice cellsV_slice cellsV_nilmap cellsV_map cellsV_func cellsV_nilfunc cellsV_iface cellsV_niliface cellsV_agg bin_lss bin_gtr bin_leq bin_geq bin_eql bin_neq bin_add bin_sub bin_eqlS bin_neqS mkFrame_nil mkFrame_cons resA_one resA_two resA_three over_0 over_1 over_2 over_3 over_4 over_5 over0_nil over0_cons Option.getD_some if_true if_false AHeap.next_push AVal.bool.injEq decide_eq_true_eq decide_eq_false_iff_not Bool.not_eq_true' Bool.not_eq_false' Bool.not_eq_true decide_true decide_false Bool.not_true Bool.not_false Int.toNat_natCast Int.natCast_nonneg true_and and_true wo_mapPut wp_drawn' wsts_nil b_pure b_read b_new b_wr wor_none b_org rer_nil rer_load1 rer_loadN wo_append AHeap.next_skip AHeap.next_put' AHeap.mk_push_t AHeap.mk_eta AHeap.mk_skip ldA_skip ldN_skip Nat.add_zero Nat.zero_add b_lite_true b_lite_false eq_self_iff_true not_true_eq_false not_false_eq_true bx_k bx_q bx_x bx_1 undefA_bool putAt_push List.length_cons List.length_nil Nat.le_refl ldA_push_new ldN_push_new List.getElem?_cons_zero List.getElem?_cons_succ List.drop_zero List.drop_succ_cons List.take_succ_cons List.take_zero b_build b_buildSlice evParts_nil evParts_cons b_fillA_nil b_fillA nbeq nble natadd natmul lenL_eq repL_1 repL_2 repL_3 wo_sliceData sdV_nil sdV_slice wo_unsafeStr usV_nil wo_slStr slStrV_str evCo_none evCo_some boundA_none Bool.and_true Bool.true_and wo_minmax2' mm2V_int
def allV (cells : List (List Alt)) : Prop := ∀ c, c ∈ cells → validP c
instance (cells : List (List Alt)) : Decidable (allV cells) := Classical.propDecidable _
def checkE (cells : List (List Alt)) : Int := if 32 < cells.length then 2 else if allV cells then 0 else 1
theorem allV.snoc {cells : List (List Alt)} {i : Nat} {c : List Alt} (hc : cells[i]? = some c) (h : allV (cells.take i)) (hv : validP c) : allV (cells.take (i + 1)) := by
  rw [List.take_add_one, hc]
  intro x hx
  rcases List.mem_append.1 hx with hx | hx
  · exact h x hx
  · simp at hx; subst hx; exact hv
theorem checkCells_c (cells : List (List Alt)) (v : AVal) (h : AHeap) (H : CellsA h v cells) : Ec E2 14 [v] h fun r h' => r = .int .i64 (checkE cells) ∧ Hle h h' := by
  refine Ec.of_wpb (prim2_none (by decide)) code14 ?_
  unfold c14
  by_cases g1 : (32 : Int) < (cells.length : Int)
  · simp only [go_sem, Nat.reduceEqDiff, Int.reduceLT, Int.reduceLE, Int.reduceEq, Nat.reduceLT, Nat.reduceAdd, Nat.reduceMul, Int.reduceToNat, Nat.reduceLeDiff, reduceCtorEq, H.len, g1]
    have : checkE cells = 2 := by unfold checkE; rw [if_pos (by omega)]
    rw [this]; exact ⟨rfl, Hle.refl h⟩
  simp only [go_sem, Nat.reduceEqDiff, Int.reduceLT, Int.reduceLE, Int.reduceEq, Nat.reduceLT, Nat.reduceAdd, Nat.reduceMul, Int.reduceToNat, Nat.reduceLeDiff, reduceCtorEq, H.len, g1]
  refine b_loop (fun d fr h' => Hle h h' ∧ fr.get 8 = some v ∧ fr.get 9 = some (.int .i64 (cells.length : Int)) ∧ ∃ i : Nat, fr.get 10 = some (.int .i64 (i : Int)) ∧ d + i = cells.length ∧ allV (cells.take i)) cells.length ?_ ?_
  · exact ⟨Hle.refl h, by simp [T.get_set], by simp [T.get_set], 0, by simp [T.get_set], by omega, fun c hc => by simp at hc⟩
  rintro d fr h' ⟨hle, t8, t9, i, t10, hd, hall⟩
  unfold c14_l0
  simp only [go_sem, Nat.reduceEqDiff, Int.reduceLT, Int.reduceLE, Int.reduceEq, Nat.reduceLT, Nat.reduceAdd, Nat.reduceMul, Int.reduceToNat, Nat.reduceLeDiff, reduceCtorEq, t8, t9, t10]
  refine b_lite (fun hc => ?_) (fun hc => ?_)
  · obtain ⟨c, hci⟩ : ∃ c, cells[i]? = some c := ⟨_, List.getElem?_eq_getElem (by omega)⟩
    obtain ⟨b, o, x, hb, hix, hl0, hlN, hx, hxf⟩ := (H.mono hle).at hci
    simp only [go_sem, Nat.reduceEqDiff, Int.reduceLT, Int.reduceLE, Int.reduceEq, Nat.reduceLT, Nat.reduceAdd, Nat.reduceMul, Int.reduceToNat, Nat.reduceLeDiff, reduceCtorEq, t8, t9, t10, hix, hlN]
    refine ⟨by decide, ?_⟩
    refine (valid_c c x _ (hx.mono ((Hle.refl h').push _))).mono ?_
    rintro r h1 ⟨rfl, hle1⟩
    have hle2 := (hle.push _).trans hle1
    by_cases hv : validP c
    · simp only [go_sem, Nat.reduceEqDiff, Int.reduceLT, Int.reduceLE, Int.reduceEq, Nat.reduceLT, Nat.reduceAdd, Nat.reduceMul, Int.reduceToNat, Nat.reduceLeDiff, reduceCtorEq, t8, t9, t10, hv]
      refine ⟨d - 1, by omega, hle2, i + 1, ?_, by omega, hall.snoc hci hv⟩
      rw [wrap_i64 (by omega) (by omega)]; rfl
    · simp only [go_sem, Nat.reduceEqDiff, Int.reduceLT, Int.reduceLE, Int.reduceEq, Nat.reduceLT, Nat.reduceAdd, Nat.reduceMul, Int.reduceToNat, Nat.reduceLeDiff, reduceCtorEq, t8, t9, t10, hv]
      have : checkE cells = 1 := by unfold checkE; rw [if_neg (by omega), if_neg (fun h => hv (h c (List.mem_of_getElem? hci)))]
      rw [this]; exact ⟨rfl, hle2⟩
  · simp only [go_sem, Nat.reduceEqDiff, Int.reduceLT, Int.reduceLE, Int.reduceEq, Nat.reduceLT, Nat.reduceAdd, Nat.reduceMul, Int.reduceToNat, Nat.reduceLeDiff, reduceCtorEq, t8, t9, t10]
    have hi : i = cells.length := by omega
    rw [hi, List.take_length] at hall
    have : checkE cells = 0 := by unfold checkE; rw [if_neg (by omega), if_pos hall]
    rw [this]; exact ⟨rfl, hle⟩
theorem checkCellsR_c (cells : List (List Alt)) (v : AVal) (h : AHeap) (H : CellsA h v cells) : Ec E2 15 [v] h fun r h' => r = .int .i64 (checkE cells) ∧ Hle h h' := by
  refine Ec.of_wpb (prim2_none (by decide)) code15 ?_
  unfold c15
  by_cases g1 : (32 : Int) < (cells.length : Int)
  · simp only [go_sem, Nat.reduceEqDiff, Int.reduceLT, Int.reduceLE, Int.reduceEq, Nat.reduceLT, Nat.reduceAdd, Nat.reduceMul, Int.reduceToNat, Nat.reduceLeDiff, reduceCtorEq, H.len, g1]
    have : checkE cells = 2 := by unfold checkE; rw [if_pos (by omega)]
    rw [this]; exact ⟨rfl, Hle.refl h⟩
  simp only [go_sem, Nat.reduceEqDiff, Int.reduceLT, Int.reduceLE, Int.reduceEq, Nat.reduceLT, Nat.reduceAdd, Nat.reduceMul, Int.reduceToNat, Nat.reduceLeDiff, reduceCtorEq, H.len, g1]
  refine b_loop (fun d fr h' => Hle h h' ∧ fr.get 0 = some v ∧ ∃ i : Nat, fr.get 3 = some (.int .i64 (i : Int)) ∧ d + i = cells.length ∧ allV (cells.take i)) cells.length ?_ ?_
  · exact ⟨Hle.refl h, by simp [T.get_set], 0, by simp [T.get_set], by omega, fun c hc => by simp at hc⟩
  rintro d fr h' ⟨hle, t0, i, t3, hd, hall⟩
  unfold c15_l0
  simp only [go_sem, Nat.reduceEqDiff, Int.reduceLT, Int.reduceLE, Int.reduceEq, Nat.reduceLT, Nat.reduceAdd, Nat.reduceMul, Int.reduceToNat, Nat.reduceLeDiff, reduceCtorEq, t0, t3, H.len]
  refine b_lite (fun hc => ?_) (fun hc => ?_)
  · obtain ⟨c, hci⟩ : ∃ c, cells[i]? = some c := ⟨_, List.getElem?_eq_getElem (by omega)⟩
    obtain ⟨b, o, x, hb, hix, hl0, hlN, hx, hxf⟩ := (H.mono hle).at hci
    simp only [go_sem, Nat.reduceEqDiff, Int.reduceLT, Int.reduceLE, Int.reduceEq, Nat.reduceLT, Nat.reduceAdd, Nat.reduceMul, Int.reduceToNat, Nat.reduceLeDiff, reduceCtorEq, t0, t3, hix, hlN]
    refine ⟨by decide, ?_⟩
    refine (validCell_c c x _ hx).mono ?_
    rintro r h1 ⟨rfl, hle1⟩
    have hle2 := hle.trans hle1
    by_cases hv : validP c
    · simp only [go_sem, Nat.reduceEqDiff, Int.reduceLT, Int.reduceLE, Int.reduceEq, Nat.reduceLT, Nat.reduceAdd, Nat.reduceMul, Int.reduceToNat, Nat.reduceLeDiff, reduceCtorEq, t0, t3, hv]
      refine ⟨d - 1, by omega, hle2, i + 1, ?_, by omega, hall.snoc hci hv⟩
      rw [wrap_i64 (by omega) (by omega)]; rfl
    · simp only [go_sem, Nat.reduceEqDiff, Int.reduceLT, Int.reduceLE, Int.reduceEq, Nat.reduceLT, Nat.reduceAdd, Nat.reduceMul, Int.reduceToNat, Nat.reduceLeDiff, reduceCtorEq, t0, t3, hv]
      have : checkE cells = 1 := by unfold checkE; rw [if_neg (by omega), if_neg (fun h => hv (h c (List.mem_of_getElem? hci)))]
      rw [this]; exact ⟨rfl, hle2⟩
  · simp only [go_sem, Nat.reduceEqDiff, Int.reduceLT, Int.reduceLE, Int.reduceEq, Nat.reduceLT, Nat.reduceAdd, Nat.reduceMul, Int.reduceToNat, Nat.reduceLeDiff, reduceCtorEq, t0, t3]
    have hi : i = cells.length := by omega
    rw [hi, List.take_length] at hall
    have : checkE cells = 0 := by unfold checkE; rw [if_neg (by omega), if_pos hall]
    rw [this]; exact ⟨rfl, hle⟩
def altT (a : Alt) : List Nat := if a.2 = 0 then a.1 else a.1 ++ 58 :: itoaL a.2
theorem itoaL_len {n : Int} (h0 : -9223372036854775808 ≤ n) (h1 : n ≤ 9223372036854775807) : (itoaL n).length ≤ 21 := by
  unfold itoaL
  rw [List.length_map]
  exact Lib.itoa_length_le n h0 h1
theorem altT_len {a : Alt} (h : altOk a) : (altT a).length ≤ 25 := by
  unfold altT
  have h1 := h.1
  have h3 := h.2.2.1
  have h4 := h.2.2.2
  split
  · omega
  · have := itoaL_len (n := a.2) (by omega) (by omega)
    simp; omega
theorem altText_c (a : Alt) (h : AHeap) (ha : altOk a) : Ec E2 36 [.agg [.str a.1, .int .i64 a.2]] h fun r h' => r = .str (altT a) ∧ Hle h h' := by
  obtain ⟨s, n⟩ := a
  refine Ec.of_wpb (prim2_none (by decide)) code36 ?_
  unfold c36 altT
  have h1 : s.length ≤ 3 := ha.1
  have h3 : 0 ≤ n := ha.2.2.1
  have h4 : n ≤ 1000 := ha.2.2.2
  by_cases g : n = 0
  · simp only [go_sem, Nat.reduceEqDiff, Int.reduceLT, Int.reduceLE, Int.reduceEq, Nat.reduceLT, Nat.reduceAdd, Nat.reduceMul, Int.reduceToNat, Nat.reduceLeDiff, reduceCtorEq, g]
    exact (Hle.refl h).push _
  have hb1 : s.length + [58].length ≤ 1073741824 := by simp; omega
  have hb2 : (s ++ [58]).length + (itoaL n).length ≤ 1073741824 := by
    have := itoaL_len (n := n) (by omega) (by omega)
    simp; omega
  simp only [go_sem, Nat.reduceEqDiff, Int.reduceLT, Int.reduceLE, Int.reduceEq, Nat.reduceLT, Nat.reduceAdd, Nat.reduceMul, Int.reduceToNat, Nat.reduceLeDiff, reduceCtorEq, g, bin_addS hb1]
  refine ⟨by decide, ?_⟩
  refine (itoa_c n _ (by omega) (by omega)).mono ?_
  rintro r h2 ⟨rfl, rfl⟩
  simp only [go_sem, Nat.reduceEqDiff, Int.reduceLT, Int.reduceLE, Int.reduceEq, Nat.reduceLT, Nat.reduceAdd, Nat.reduceMul, Int.reduceToNat, Nat.reduceLeDiff, reduceCtorEq, g, bin_addS hb2, sameA_str]
  simp only [List.append_assoc, List.cons_append, List.nil_append, true_and]
  exact ((Hle.refl h).push _).skip _
def isOne (c : List Alt) : Bool := match c with
  | [a] => decide (a.1.length = 1) && decide (a.2 = 0)
  | _ => false
def joinA : List Alt → List Nat
  | [] => []
  | a :: l => altT a ++ l.flatMap fun b => 124 :: altT b
def printC (c : List Alt) : List Nat := if isOne c = true then (c.flatMap fun a => a.1) else 40 :: (joinA c ++ [41])
def printS (cells : List (List Alt)) : List Nat := cells.flatMap printC
theorem joinA_snoc {c : List Alt} {k : Nat} {a : Alt} (ha : c[k]? = some a) : joinA (c.take (k + 1)) = joinA (c.take k) ++ (if k = 0 then [] else [124]) ++ altT a := by
  rw [List.take_add_one, ha]
  cases k with
  | zero => simp [joinA]
  | succ k =>
    cases c with
    | nil => simp at ha
    | cons b c => simp [joinA]
theorem joinA_len : ∀ {c : List Alt}, (∀ a, a ∈ c → altOk a) → (joinA c).length ≤ 26 * c.length
  | [], _ => by simp [joinA]
  | a :: l, h => by
    have h1 := altT_len (h a (by simp))
    have h2 : ∀ {l : List Alt}, (∀ a, a ∈ l → altOk a) → (l.flatMap fun b => 124 :: altT b).length ≤ 26 * l.length := by
      intro l
      induction l with
      | nil => intro _; simp
      | cons b l ih =>
        intro h
        have h3 := altT_len (h b (by simp))
        have h4 := ih fun x hx => h x (by simp [hx])
        rw [List.flatMap_cons, List.length_append, List.length_cons, List.length_cons]
        omega
    have h3 := h2 (l := l) fun x hx => h x (by simp [hx])
    unfold joinA
    rw [List.length_append, List.length_cons]
    omega
theorem isOne_inv {c : List Alt} (h : isOne c = true) : ∃ a : Alt, c = [a] ∧ a.1.length = 1 ∧ a.2 = 0 := by
  unfold isOne at h
  split at h
  · rename_i a
    simp at h
    exact ⟨a, rfl, h.1, h.2⟩
  · cases h
theorem printC_len {c : List Alt} (hv : validP c) : (printC c).length ≤ 210 := by
  unfold printC
  split
  · rename_i h
    obtain ⟨a, rfl, h1, _⟩ := isOne_inv h
    simp [h1]
  · have := joinA_len hv.2.2.1
    have := hv.2.1
    simp; omega
theorem printS_snoc {cells : List (List Alt)} {i : Nat} {c : List Alt} (hc : cells[i]? = some c) : printS (cells.take (i + 1)) = printS (cells.take i) ++ printC c := by
  unfold printS
  rw [List.take_add_one, hc]
  simp
theorem printS_len : ∀ {cells : List (List Alt)}, allV cells → (printS cells).length ≤ 210 * cells.length
  | [], _ => by simp [printS]
  | c :: l, h => by
    have h1 := printC_len (h c (by simp))
    have h2 := printS_len (cells := l) fun x hx => h x (by simp [hx])
    unfold printS at h2 ⊢
    rw [List.flatMap_cons, List.length_append, List.length_cons]
    omega
end
end Go.AX
namespace Go.AX
open Go Go.Proofs
noncomputable section
set_option linter.unusedSimpArgs false
set_option linter.unusedVariables false
attribute [local go_sem] b_seq wp_skip wp_exit wp_ret wp_region b_block wops_nil b_ops b_opsg b_cond condV_lite wo_mv b_bin wo_call callV_func wo_pick b_box wo_load1 wo_loadN wo_store wo_nilCheck wo_not wo_lenStr' wo_lenSl wo_ixStr' wo_ixSl wo_fAddr wo_part1 wo_partN wo_extract wo_cInt wo_cStr wo_mkMap wo_mkIface wo_mkFunc wo_lookup pickV_bool ifT_true ifT_false b_loadV b_loadNV b_storeV nilV_ptr nilV_func nilV_iface notV_bool lenStrV_str lenSlV_nil lenSlV_slice b_ixStrV ixSlV_slice fAddrV_ptr b_part1V partNV_agg b_extractV convV_int strV_str evC_tm evC_cn T.get_set putA_some putA_none onO_some evCs_nil evCs_cons appL_nil appL_cons guardOk_true guardOk_false cellsV_bool cellsV_int cellsV_str cellsV_nilptr cellsV_ptr cellsV_nilslice cellsV_slice cellsV_nilmap cellsV_map cellsV_func cellsV_nilfunc cellsV_iface cellsV_niliface cellsV_agg bin_lss bin_gtr bin_leq bin_geq bin_eql bin_neq bin_add bin_sub bin_eqlS bin_neqS mkFrame_nil mkFrame_cons resA_one resA_two resA_three over_0 over_1 over_2 over_3 over_4 over_5 over0_nil over0_cons Option.getD_some if_true if_false AHeap.next_push AVal.bool.injEq decide_eq_true_eq decide_eq_false_iff_not Bool.not_eq_true' Bool.not_eq_false' Bool.not_eq_true decide_true decide_false Bool.not_true Bool.not_false Int.toNat_natCast Int.natCast_nonneg true_and and_true wo_mapPut wp_drawn' wsts_nil b_pure b_read b_new b_wr wor_none b_org rer_nil rer_load1 rer_loadN wo_append AHeap.next_skip AHeap.next_put' AHeap.mk_push_t AHeap.mk_eta AHeap.mk_skip ldA_skip ldN_skip Nat.add_zero Nat.zero_add b_lite_true b_lite_false eq_self_iff_true not_true_eq_false not_false_eq_true bx_k bx_q bx_x bx_1 undefA_bool putAt_push List.length_cons List.length_nil Nat.le_refl ldA_push_new ldN_push_new List.getElem?_cons_zero List.getElem?_cons_succ List.drop_zero List.drop_succ_cons List.take_succ_cons List.take_zero b_build b_buildSlice evParts_nil evParts_cons b_fillA_nil b_fillA nbeq nble natadd natmul lenL_eq repL_1 repL_2 repL_3 wo_sliceData sdV_nil sdV_slice wo_unsafeStr usV_nil wo_slStr slStrV_str evCo_none evCo_some boundA_none Bool.and_true Bool.true_and wo_minmax2' mm2V_int
theorem take_allV {cells : List (List Alt)} (h : allV cells) (i : Nat) : allV (cells.take i) := fun c hc => h c (List.mem_of_mem_take hc)
theorem printS_take_len {cells : List (List Alt)} (h : allV cells) (hl : cells.length ≤ 32) (i : Nat) : (printS (cells.take i)).length ≤ 6720 := by
  have := printS_len (take_allV h i)
  have : (cells.take i).length ≤ cells.length := by simp; omega
  omega
theorem checkE_ok {cells : List (List Alt)} (h : checkE cells = 0) : cells.length ≤ 32 ∧ allV cells := by
  unfold checkE at h
  split at h
  · cases h
  · split at h
    · exact ⟨by omega, by assumption⟩
    · cases h
def printR (cells : List (List Alt)) : AVal := .tup [.str (if checkE cells = 0 then printS cells else []), .int .i64 (checkE cells)]
end
end Go.AX
namespace Go.AX
open Go Go.Proofs
noncomputable section
set_option linter.unusedSimpArgs false
set_option linter.unusedVariables false
attribute [local go_sem] b_seq wp_skip wp_exit wp_ret wp_region b_block wops_nil b_ops b_opsg b_cond condV_lite wo_mv b_bin wo_call callV_func wo_pick b_box wo_load1 wo_loadN wo_store wo_nilCheck wo_not wo_lenStr' wo_lenSl wo_ixStr' wo_ixSl wo_fAddr wo_part1 wo_partN wo_extract wo_cInt wo_cStr wo_mkMap wo_mkIface wo_mkFunc wo_lookup pickV_bool ifT_true ifT_false b_loadV b_loadNV b_storeV nilV_ptr nilV_func nilV_iface notV_bool lenStrV_str lenSlV_nil lenSlV_slice b_ixStrV ixSlV_slice fAddrV_ptr b_part1V partNV_agg b_extractV convV_int strV_str evC_tm evC_cn T.get_set putA_some putA_none onO_some evCs_nil evCs_cons appL_nil appL_cons guardOk_true guardOk_false cellsV_bool cellsV_int cellsV_str cellsV_nilptr cellsV_ptr cellsV_nilslice cellsV_slice cellsV_nilmap cellsV_map cellsV_func cellsV_nilfunc cellsV_iface cellsV_niliface cellsV_agg bin_lss bin_gtr bin_leq bin_geq bin_eql bin_neq bin_add bin_sub bin_eqlS bin_neqS mkFrame_nil mkFrame_cons resA_one resA_two resA_three over_0 over_1 over_2 over_3 over_4 over_5 over0_nil over0_cons Option.getD_some if_true if_false AHeap.next_push AVal.bool.injEq decide_eq_true_eq decide_eq_false_iff_not Bool.not_eq_true' Bool.not_eq_false' Bool.not_eq_true decide_true decide_false Bool.not_true Bool.not_false Int.toNat_natCast Int.natCast_nonneg true_and and_true wo_mapPut wp_drawn' wsts_nil b_pure b_read b_new b_wr wor_none b_org rer_nil rer_load1 rer_loadN wo_append AHeap.next_skip AHeap.next_put' AHeap.mk_push_t AHeap.mk_eta AHeap.mk_skip ldA_skip ldN_skip Nat.add_zero Nat.zero_add b_lite_true b_lite_false eq_self_iff_true not_true_eq_false not_false_eq_true bx_k bx_q bx_x bx_1 undefA_bool putAt_push List.length_cons List.length_nil Nat.le_refl ldA_push_new ldN_push_new List.getElem?_cons_zero List.getElem?_cons_succ List.drop_zero List.drop_succ_cons List.take_succ_cons List.take_zero b_build b_buildSlice evParts_nil evParts_cons b_fillA_nil b_fillA nbeq nble natadd natmul lenL_eq repL_1 repL_2 repL_3 wo_sliceData sdV_nil sdV_slice wo_unsafeStr usV_nil wo_slStr slStrV_str evCo_none evCo_some boundA_none Bool.and_true Bool.true_and wo_minmax2' mm2V_int
theorem joinA_take_len {c : List Alt} (hv : validP c) (k : Nat) : (joinA (c.take k)).length ≤ 208 := by
  have := joinA_len (c := c.take k) fun a ha => hv.2.2.1 a (List.mem_of_mem_take ha)
  have := hv.2.1
  have : (c.take k).length ≤ c.length := by simp; omega
  omega
set_option maxHeartbeats 2000000 in
theorem printRef_inner {Qn Qr : Fr → AHeap → Prop} {Qx : Nat → Fr → AHeap → Prop} (c : List Alt) (hv : validP c) (x v : AVal) (h h0 : AHeap) (bs : List Nat) (fr : Fr) (i : Int) (hx : AltsA h x c) (hle : Hle h h0) (hlen : bs.length ≤ 6720)
    (t0 : fr.get 0 = some v) (t5 : fr.get 5 = some (.str (bs ++ [40]))) (t6 : fr.get 6 = some (.int .i64 i)) (t7 : fr.get 7 = some x) (t8 : fr.get 8 = some (.int .i64 0))
    (hq : ∀ fr h', fr.get 0 = some v → fr.get 5 = some (.str (bs ++ [40] ++ joinA c)) → fr.get 6 = some (.int .i64 i) → Hle h h' → Qx 2 fr h') : wp E2 (.loop c12_l0) fr h0 Qn Qx Qr := by
  refine b_loop (fun d fr h' => Hle h h' ∧ fr.get 0 = some v ∧ fr.get 6 = some (.int .i64 i) ∧ fr.get 7 = some x ∧ ∃ k : Nat, fr.get 8 = some (.int .i64 (k : Int)) ∧ d + k = c.length ∧ fr.get 5 = some (.str (bs ++ [40] ++ joinA (c.take k)))) c.length ?_ ?_
  · exact ⟨hle, t0, t6, t7, 0, t8, by omega, by simpa [joinA] using t5⟩
  clear hle t0 t5 t6 t7 t8
  rintro d fr h' ⟨hle, t0, t6, t7, k, t8, hd, t5⟩
  unfold c12_l0
  simp only [go_sem, Nat.reduceEqDiff, Int.reduceLT, Int.reduceLE, Int.reduceEq, Nat.reduceLT, Nat.reduceAdd, Nat.reduceMul, Int.reduceToNat, Nat.reduceLeDiff, reduceCtorEq, t0, t5, t6, t7, t8, hx.len]
  refine b_lite (fun hc => ?_) (fun hc => ?_)
  · obtain ⟨⟨s, n⟩, ha⟩ : ∃ a, c[k]? = some a := ⟨_, List.getElem?_eq_getElem (by omega)⟩
    have hok : altOk (s, n) := hv.2.2.1 _ (List.mem_of_getElem? ha)
    have hc8 : c.length ≤ 8 := hv.2.1
    have hat := altT_len hok
    have hpre := joinA_take_len hv k
    obtain ⟨b2, o2, hb2, hix, _, _, hN⟩ := (hx.mono hle).at ha
    have hj := joinA_snoc ha
    by_cases hk : (0 : Int) < (k : Int)
    · have hk0 : ¬ k = 0 := by omega
      rw [if_neg hk0] at hj
      have hb1 : (bs ++ [40] ++ joinA (c.take k)).length + [124].length ≤ 1073741824 := by simp only [List.length_append, List.length_cons, List.length_nil]; omega
      have hb2 : (bs ++ [40] ++ joinA (c.take k) ++ [124]).length + (altT (s, n)).length ≤ 1073741824 := by simp only [List.length_append, List.length_cons, List.length_nil]; omega
      simp only [go_sem, Nat.reduceEqDiff, Int.reduceLT, Int.reduceLE, Int.reduceEq, Nat.reduceLT, Nat.reduceAdd, Nat.reduceMul, Int.reduceToNat, Nat.reduceLeDiff, reduceCtorEq, t0, t5, t6, t7, t8, hk, bin_addS hb1, hix, hN]
      refine ⟨by decide, ?_⟩
      refine (altText_c (s, n) _ hok).mono ?_
      rintro r h4 ⟨rfl, hle4⟩
      simp only [go_sem, Nat.reduceEqDiff, Int.reduceLT, Int.reduceLE, Int.reduceEq, Nat.reduceLT, Nat.reduceAdd, Nat.reduceMul, Int.reduceToNat, Nat.reduceLeDiff, reduceCtorEq, t0, t5, t6, t7, t8, bin_addS hb2]
      refine ⟨d - 1, by omega, hle.trans hle4, k + 1, ?_, by omega, ?_⟩
      · rw [wrap_i64 (by omega) (by omega)]; rfl
      · rw [hj]; simp
    · have hk0 : k = 0 := by omega
      subst hk0
      rw [if_pos rfl] at hj
      have hb2 : (bs ++ [40] ++ joinA []).length + (altT (s, n)).length ≤ 1073741824 := by simp only [List.length_append, List.length_cons, List.length_nil, joinA]; omega
      simp only [go_sem, Nat.reduceEqDiff, Int.reduceLT, Int.reduceLE, Int.reduceEq, Nat.reduceLT, Nat.reduceAdd, Nat.reduceMul, Int.reduceToNat, Nat.reduceLeDiff, reduceCtorEq, t0, t5, t6, t7, t8, hk, hix, hN]
      refine ⟨by decide, ?_⟩
      refine (altText_c (s, n) _ hok).mono ?_
      rintro r h4 ⟨rfl, hle4⟩
      simp only [go_sem, Nat.reduceEqDiff, Int.reduceLT, Int.reduceLE, Int.reduceEq, Nat.reduceLT, Nat.reduceAdd, Nat.reduceMul, Int.reduceToNat, Nat.reduceLeDiff, reduceCtorEq, t0, t5, t6, t7, t8, bin_addS hb2]
      refine ⟨d - 1, by omega, hle.trans hle4, 0 + 1, ?_, by omega, ?_⟩
      · rfl
      · rw [hj]; simp [joinA]
  · simp only [go_sem, Nat.reduceEqDiff, Int.reduceLT, Int.reduceLE, Int.reduceEq, Nat.reduceLT, Nat.reduceAdd, Nat.reduceMul, Int.reduceToNat, Nat.reduceLeDiff, reduceCtorEq, t0, t5, t6, t7, t8]
    have hk : k = c.length := by omega
    rw [hk, List.take_length] at t5
    exact hq _ _ (by simp [T.get_set, t0]) (by simp [T.get_set, t5]) (by simp [T.get_set, t6]) hle
set_option maxHeartbeats 1000000 in
theorem printRef_c (cells : List (List Alt)) (v : AVal) (h : AHeap) (H : CellsA h v cells) : Ec E2 12 [v] h fun r h' => r = printR cells ∧ Hle h h' := by
  refine Ec.of_wpb (prim2_none (by decide)) code12 ?_
  unfold c12
  simp only [go_sem, Nat.reduceEqDiff, Int.reduceLT, Int.reduceLE, Int.reduceEq, Nat.reduceLT, Nat.reduceAdd, Nat.reduceMul, Int.reduceToNat, Nat.reduceLeDiff, reduceCtorEq]
  refine ⟨by decide, ?_⟩
  refine (checkCellsR_c cells v h H).mono ?_
  rintro r h1 ⟨rfl, hle1⟩
  by_cases hE : ¬ checkE cells = 0
  · simp only [go_sem, Nat.reduceEqDiff, Int.reduceLT, Int.reduceLE, Int.reduceEq, Nat.reduceLT, Nat.reduceAdd, Nat.reduceMul, Int.reduceToNat, Nat.reduceLeDiff, reduceCtorEq, hE]
    unfold printR
    rw [if_neg hE]
    exact ⟨rfl, hle1⟩
  have hE : checkE cells = 0 := Decidable.not_not.1 hE
  obtain ⟨hl32, hallV⟩ := checkE_ok hE
  simp only [go_sem, Nat.reduceEqDiff, Int.reduceLT, Int.reduceLE, Int.reduceEq, Nat.reduceLT, Nat.reduceAdd, Nat.reduceMul, Int.reduceToNat, Nat.reduceLeDiff, reduceCtorEq, hE]
  refine b_loop (fun d fr h' => Hle h h' ∧ fr.get 0 = some v ∧ ∃ i : Nat, fr.get 6 = some (.int .i64 (i : Int)) ∧ d + i = cells.length ∧ fr.get 5 = some (.str (printS (cells.take i)))) cells.length ?_ ?_
  · exact ⟨hle1, by simp [T.get_set], 0, by simp [T.get_set], by omega, by simp [T.get_set, printS]⟩
  rintro d fr h' ⟨hle, t0, i, t6, hd, t5⟩
  unfold c12_l1
  simp only [go_sem, Nat.reduceEqDiff, Int.reduceLT, Int.reduceLE, Int.reduceEq, Nat.reduceLT, Nat.reduceAdd, Nat.reduceMul, Int.reduceToNat, Nat.reduceLeDiff, reduceCtorEq, t0, t5, t6, H.len]
  refine b_lite (fun hc => ?_) (fun hc => ?_)
  · obtain ⟨c, hci⟩ : ∃ c, cells[i]? = some c := ⟨_, List.getElem?_eq_getElem (by omega)⟩
    have hv : validP c := hallV c (List.mem_of_getElem? hci)
    obtain ⟨bb, o, x, hb, hix, hl00, hlN0, hx, hxf⟩ := H.at hci
    have hl0 : ldA h' bb o = some x := (hle.ldA hb o).trans hl00
    have hplen := printS_take_len hallV hl32 i
    have hsn := printS_snoc hci
    by_cases hone : isOne c = true
    · obtain ⟨⟨s, n⟩, rfl, hs1, hn0⟩ := isOne_inv hone
      have hs1 : s.length = 1 := hs1
      have hn0 : n = 0 := hn0
      subst hn0
      obtain ⟨b2, o2, hb2, hix2, hm0, hm1, _⟩ := (hx.mono hle).at (j := 0) (a := (s, 0)) rfl
      have hix20 : ∀ k h' K, ixSlV 2 x (.int k 0) h' K = K (.ptr b2 o2) h' := fun k h' K => hix2 k 0 h' K rfl
      have hs1' : ((s.length : Nat) : Int) = 1 := by omega
      have hcat : (printS (cells.take i)).length + s.length ≤ 1073741824 := by omega
      simp only [go_sem, Nat.reduceEqDiff, Int.reduceLT, Int.reduceLE, Int.reduceEq, Nat.reduceLT, Nat.reduceAdd, Nat.reduceMul, Int.reduceToNat, Nat.reduceLeDiff, reduceCtorEq, t0, t5, t6, hix, hl0, hx.len, hix20, hm0, hm1, hs1', Int.natCast_one, bin_addS hcat]
      refine ⟨d - 1, by omega, hle, i + 1, ?_, by omega, ?_⟩
      · rw [wrap_i64 (by omega) (by omega)]; rfl
      · rw [hsn]
        have : printC [(s, 0)] = s := by unfold printC; rw [if_pos hone]; simp
        rw [this]
    · have hpC : printC c = [40] ++ joinA c ++ [41] := by
        unfold printC
        rw [if_neg hone]
        simp
      have hjl := joinA_take_len hv c.length
      rw [List.take_length] at hjl
      have hcat : (printS (cells.take i)).length + [40].length ≤ 1073741824 := by simp only [List.length_append, List.length_cons, List.length_nil]; omega
      have hcat2 : (printS (cells.take i) ++ [40] ++ joinA c).length + [41].length ≤ 1073741824 := by simp only [List.length_append, List.length_cons, List.length_nil]; omega
      have hgo : ∀ (fr1 : Fr) (Qn Qr : Fr → AHeap → Prop) (Qx : Nat → Fr → AHeap → Prop), fr1.get 0 = some v → fr1.get 5 = some (.str (printS (cells.take i) ++ [40])) → fr1.get 6 = some (.int .i64 (i : Int)) → fr1.get 7 = some x → fr1.get 8 = some (.int .i64 0) →
          (∀ fr h3, fr.get 0 = some v → fr.get 5 = some (.str (printS (cells.take i) ++ [40] ++ joinA c)) → fr.get 6 = some (.int .i64 (i : Int)) → Hle h h3 → Qx 2 fr h3) → wp E2 (.loop c12_l0) fr1 h' Qn Qx Qr :=
        fun fr1 Qn Qr Qx a0 a5 a6 a7 a8 hq => printRef_inner c hv x v h h' _ fr1 i hx hle hplen a0 a5 a6 a7 a8 hq
      by_cases q1 : (c.length : Int) = 1
      · obtain ⟨⟨s, n⟩, rfl⟩ : ∃ a, c = [a] := by
          match c, q1 with
          | [a], _ => exact ⟨a, rfl⟩
          | [], q1 => simp at q1
          | _ :: _ :: _, q1 => simp at q1; omega
        obtain ⟨b2, o2, hb2, hix2, hm0, hm1, _⟩ := (hx.mono hle).at (j := 0) (a := (s, n)) rfl
        have hix20 : ∀ k h' K, ixSlV 2 x (.int k 0) h' K = K (.ptr b2 o2) h' := fun k h' K => hix2 k 0 h' K rfl
        by_cases q2 : (s.length : Int) = 1
        · have q3 : ¬ n = 0 := by
            intro e
            apply hone
            unfold isOne
            simp [e]; omega
          simp only [go_sem, Nat.reduceEqDiff, Int.reduceLT, Int.reduceLE, Int.reduceEq, Nat.reduceLT, Nat.reduceAdd, Nat.reduceMul, Int.reduceToNat, Nat.reduceLeDiff, reduceCtorEq, t0, t5, t6, hix, hl0, hx.len, hix20, hm0, hm1, q1, q2, q3, Int.natCast_one, bin_addS hcat]
          refine hgo _ _ _ _ (by simp [T.get_set, t0]) (by simp [T.get_set]) (by simp [T.get_set, t6]) (by simp [T.get_set]) (by simp [T.get_set]) ?_
          intro fr2 h3 u0 u5 u6 hle3
          simp only [go_sem, Nat.reduceEqDiff, Int.reduceLT, Int.reduceLE, Int.reduceEq, Nat.reduceLT, Nat.reduceAdd, Nat.reduceMul, Int.reduceToNat, Nat.reduceLeDiff, reduceCtorEq, u0, u5, u6, bin_addS hcat2]
          refine ⟨d - 1, by omega, hle3, i + 1, ?_, by omega, ?_⟩
          · rw [wrap_i64 (by omega) (by omega)]; rfl
          · rw [hsn, hpC]; simp
        · simp only [go_sem, Nat.reduceEqDiff, Int.reduceLT, Int.reduceLE, Int.reduceEq, Nat.reduceLT, Nat.reduceAdd, Nat.reduceMul, Int.reduceToNat, Nat.reduceLeDiff, reduceCtorEq, t0, t5, t6, hix, hl0, hx.len, hix20, hm0, hm1, q1, q2, Int.natCast_one, bin_addS hcat]
          refine hgo _ _ _ _ (by simp [T.get_set, t0]) (by simp [T.get_set]) (by simp [T.get_set, t6]) (by simp [T.get_set]) (by simp [T.get_set]) ?_
          intro fr2 h3 u0 u5 u6 hle3
          simp only [go_sem, Nat.reduceEqDiff, Int.reduceLT, Int.reduceLE, Int.reduceEq, Nat.reduceLT, Nat.reduceAdd, Nat.reduceMul, Int.reduceToNat, Nat.reduceLeDiff, reduceCtorEq, u0, u5, u6, bin_addS hcat2]
          refine ⟨d - 1, by omega, hle3, i + 1, ?_, by omega, ?_⟩
          · rw [wrap_i64 (by omega) (by omega)]; rfl
          · rw [hsn, hpC]; simp
      · simp only [go_sem, Nat.reduceEqDiff, Int.reduceLT, Int.reduceLE, Int.reduceEq, Nat.reduceLT, Nat.reduceAdd, Nat.reduceMul, Int.reduceToNat, Nat.reduceLeDiff, reduceCtorEq, t0, t5, t6, hix, hl0, hx.len, q1, bin_addS hcat]
        refine hgo _ _ _ _ (by simp [T.get_set, t0]) (by simp [T.get_set]) (by simp [T.get_set, t6]) (by simp [T.get_set]) (by simp [T.get_set]) ?_
        intro fr2 h3 u0 u5 u6 hle3
        simp only [go_sem, Nat.reduceEqDiff, Int.reduceLT, Int.reduceLE, Int.reduceEq, Nat.reduceLT, Nat.reduceAdd, Nat.reduceMul, Int.reduceToNat, Nat.reduceLeDiff, reduceCtorEq, u0, u5, u6, bin_addS hcat2]
        refine ⟨d - 1, by omega, hle3, i + 1, ?_, by omega, ?_⟩
        · rw [wrap_i64 (by omega) (by omega)]; rfl
        · rw [hsn, hpC]; simp
  · simp only [go_sem, Nat.reduceEqDiff, Int.reduceLT, Int.reduceLE, Int.reduceEq, Nat.reduceLT, Nat.reduceAdd, Nat.reduceMul, Int.reduceToNat, Nat.reduceLeDiff, reduceCtorEq, t0, t5, t6]
    have hi : i = cells.length := by omega
    unfold printR
    rw [if_pos hE, hE, hi, List.take_length]
    exact ⟨rfl, hle⟩
end
end Go.AX
namespace Go.AX
open Go Go.Proofs
noncomputable section
set_option linter.unusedSimpArgs false
set_option linter.unusedVariables false
attribute [local go_sem] b_seq wp_skip wp_exit wp_ret wp_region b_block wops_nil b_ops b_opsg b_cond condV_lite wo_mv b_bin wo_call callV_func wo_pick b_box wo_load1 wo_loadN wo_store wo_nilCheck wo_not wo_lenStr' wo_lenSl wo_ixStr' wo_ixSl wo_fAddr wo_part1 wo_partN wo_extract wo_cInt wo_cStr wo_mkMap wo_mkIface wo_mkFunc wo_lookup pickV_bool ifT_true ifT_false b_loadV b_loadNV b_storeV nilV_ptr nilV_func nilV_iface notV_bool lenStrV_str lenSlV_nil lenSlV_slice b_ixStrV ixSlV_slice fAddrV_ptr b_part1V partNV_agg b_extractV convV_int strV_str evC_tm evC_cn T.get_set putA_some putA_none onO_some evCs_nil evCs_cons appL_nil appL_cons guardOk_true guardOk_false cellsV_bool cellsV_int cellsV_str cellsV_nilptr cellsV_ptr cellsV_nilslice cellsV_slice cellsV_nilmap cellsV_map cellsV_func cellsV_nilfunc cellsV_iface cellsV_niliface cellsV_agg bin_lss bin_gtr bin_leq bin_geq bin_eql bin_neq bin_add bin_sub bin_eqlS bin_neqS mkFrame_nil mkFrame_cons resA_one resA_two resA_three over_0 over_1 over_2 over_3 over_4 over_5 over0_nil over0_cons Option.getD_some if_true if_false AHeap.next_push AVal.bool.injEq decide_eq_true_eq decide_eq_false_iff_not Bool.not_eq_true' Bool.not_eq_false' Bool.not_eq_true decide_true decide_false Bool.not_true Bool.not_false Int.toNat_natCast Int.natCast_nonneg true_and and_true wo_mapPut wp_drawn' wsts_nil b_pure b_read b_new b_wr wor_none b_org rer_nil rer_load1 rer_loadN wo_append AHeap.next_skip AHeap.next_put' AHeap.mk_push_t AHeap.mk_eta AHeap.mk_skip ldA_skip ldN_skip Nat.add_zero Nat.zero_add b_lite_true b_lite_false eq_self_iff_true not_true_eq_false not_false_eq_true bx_k bx_q bx_x bx_1 undefA_bool putAt_push List.length_cons List.length_nil Nat.le_refl ldA_push_new ldN_push_new List.getElem?_cons_zero List.getElem?_cons_succ List.drop_zero List.drop_succ_cons List.take_succ_cons List.take_zero b_build b_buildSlice evParts_nil evParts_cons b_fillA_nil b_fillA nbeq nble natadd natmul lenL_eq repL_1 repL_2 repL_3 wo_sliceData sdV_nil sdV_slice wo_unsafeStr usV_nil wo_slStr slStrV_str evCo_none evCo_some boundA_none Bool.and_true Bool.true_and wo_minmax2' mm2V_int
theorem neqAlt_same (s : List Nat) (n : Int) : binA .neq (.agg [(0, .s), (1, .i)]) (.agg [.str s, .int .i64 n]) (.agg [.str s, .int .i64 n]) = some (.bool false) := by
  show (eqNil (.agg [(0, .s), (1, .i)]) (.agg [.str s, .int .i64 n]) (.agg [.str s, .int .i64 n])).map (fun t => AVal.bool (!t)) = _
  have : eqNil (.agg [(0, .s), (1, .i)]) (.agg [.str s, .int .i64 n]) (.agg [.str s, .int .i64 n]) = some true := by
    show (ob (some (eqStr s s)) fun t => ifT t (ob (some (eqI n n)) fun t => ifT t (some true) (some false)) (some false)) = _
    rw [eqStr_eq, eqI_eq]
    simp [ob, ifT]
  rw [this]; rfl
set_option maxHeartbeats 1000000 in
theorem sameCells_c (cells : List (List Alt)) (v w : AVal) (h : AHeap) (H : CellsA h v cells) (G : CellsA h w cells) (hl : cells.length ≤ 9223372036854775807) (hll : ∀ c, c ∈ cells → c.length ≤ 9223372036854775807) : Ec E2 18 [v, w] h fun r h' => r = .bool true ∧ Hle h h' := by
  refine Ec.of_wpb (prim2_none (by decide)) code18 ?_
  unfold c18
  simp only [go_sem, Nat.reduceEqDiff, Int.reduceLT, Int.reduceLE, Int.reduceEq, Nat.reduceLT, Nat.reduceAdd, Nat.reduceMul, Int.reduceToNat, Nat.reduceLeDiff, reduceCtorEq, H.len, G.len]
  refine b_loop (fun d fr h' => Hle h h' ∧ fr.get 0 = some v ∧ fr.get 1 = some w ∧ ∃ i : Nat, fr.get 5 = some (.int .i64 (i : Int)) ∧ d + i = cells.length) cells.length ?_ ?_
  · exact ⟨Hle.refl h, by simp [T.get_set], by simp [T.get_set], 0, by simp [T.get_set], by omega⟩
  rintro d fr h' ⟨hle, t0, t1, i, t5, hd⟩
  unfold c18_l1
  simp only [go_sem, Nat.reduceEqDiff, Int.reduceLT, Int.reduceLE, Int.reduceEq, Nat.reduceLT, Nat.reduceAdd, Nat.reduceMul, Int.reduceToNat, Nat.reduceLeDiff, reduceCtorEq, t0, t1, t5, H.len]
  refine b_lite (fun hc => ?_) (fun hc => ?_)
  · obtain ⟨c, hci⟩ : ∃ c, cells[i]? = some c := ⟨_, List.getElem?_eq_getElem (by omega)⟩
    obtain ⟨b, o, x, hb, hix, hl0, _, hx, _⟩ := H.at hci
    obtain ⟨b2, o2, y, hb2, hiy, hm0, _, hy, _⟩ := G.at hci
    have hl0' : ldA h' b o = some x := (hle.ldA hb o).trans hl0
    have hm0' : ldA h' b2 o2 = some y := (hle.ldA hb2 o2).trans hm0
    simp only [go_sem, Nat.reduceEqDiff, Int.reduceLT, Int.reduceLE, Int.reduceEq, Nat.reduceLT, Nat.reduceAdd, Nat.reduceMul, Int.reduceToNat, Nat.reduceLeDiff, reduceCtorEq, t0, t1, t5, hix, hiy, hl0', hm0', hx.len, hy.len]
    refine b_loop (fun e fr h'' => Hle h h'' ∧ fr.get 0 = some v ∧ fr.get 1 = some w ∧ fr.get 5 = some (.int .i64 (i : Int)) ∧ ∃ k : Nat, fr.get 6 = some (.int .i64 (k : Int)) ∧ e + k = c.length) c.length ?_ ?_
    · exact ⟨hle.skip _, by simp [T.get_set, t0], by simp [T.get_set, t1], by simp [T.get_set, t5], 0, by simp [T.get_set], by omega⟩
    rintro e fr2 h'' ⟨hle2, u0, u1, u5, k, u6, he⟩
    have hl0'' : ldA h'' b o = some x := (hle2.ldA hb o).trans hl0
    have hm0'' : ldA h'' b2 o2 = some y := (hle2.ldA hb2 o2).trans hm0
    unfold c18_l0
    simp only [go_sem, Nat.reduceEqDiff, Int.reduceLT, Int.reduceLE, Int.reduceEq, Nat.reduceLT, Nat.reduceAdd, Nat.reduceMul, Int.reduceToNat, Nat.reduceLeDiff, reduceCtorEq, u0, u1, u5, u6, hix, hiy, hl0'', hm0'', hx.len]
    refine b_lite (fun hc2 => ?_) (fun hc2 => ?_)
    · obtain ⟨⟨s, n⟩, ha⟩ : ∃ a, c[k]? = some a := ⟨_, List.getElem?_eq_getElem (by omega)⟩
      obtain ⟨p, q, _, hip, _, _, hpN⟩ := (hx.mono hle2).at ha
      obtain ⟨p2, q2, _, hiq, _, _, hqN⟩ := (hy.mono hle2).at ha
      have hlen : c.length ≤ 9223372036854775807 := hll c (List.mem_of_getElem? hci)
      simp only [go_sem, Nat.reduceEqDiff, Int.reduceLT, Int.reduceLE, Int.reduceEq, Nat.reduceLT, Nat.reduceAdd, Nat.reduceMul, Int.reduceToNat, Nat.reduceLeDiff, reduceCtorEq, u0, u1, u5, u6, hix, hiy, hl0'', hm0'', hip, hiq, hpN, hqN, neqAlt_same]
      refine ⟨e - 1, by omega, hle2.skip _, k + 1, ?_, by omega⟩
      rw [wrap_i64 (by omega) (by omega)]; rfl
    · simp only [go_sem, Nat.reduceEqDiff, Int.reduceLT, Int.reduceLE, Int.reduceEq, Nat.reduceLT, Nat.reduceAdd, Nat.reduceMul, Int.reduceToNat, Nat.reduceLeDiff, reduceCtorEq, u0, u1, u5, u6]
      refine ⟨d - 1, by omega, hle2, i + 1, ?_, by omega⟩
      rw [wrap_i64 (by omega) (by omega)]; rfl
  · simp only [go_sem, Nat.reduceEqDiff, Int.reduceLT, Int.reduceLE, Int.reduceEq, Nat.reduceLT, Nat.reduceAdd, Nat.reduceMul, Int.reduceToNat, Nat.reduceLeDiff, reduceCtorEq, t0, t1, t5]
    exact hle
def costOf (c : List Alt) (s : List Nat) : Int := match c.find? (fun a => decide (a.1 = s)) with
  | some a => a.2
  | none => -1
theorem cost_c (c : List Alt) (y : AVal) (s : List Nat) (h : AHeap) (hy : AltsA h y c) (hl : c.length ≤ 9223372036854775807) : Ec E2 51 [.agg [y], .str s] h fun r h' => r = .int .i64 (costOf c s) ∧ Hle h h' := by
  refine Ec.of_wpb (prim2_none (by decide)) code51 ?_
  unfold c51
  simp only [go_sem, Nat.reduceEqDiff, Int.reduceLT, Int.reduceLE, Int.reduceEq, Nat.reduceLT, Nat.reduceAdd, Nat.reduceMul, Int.reduceToNat, Nat.reduceLeDiff, reduceCtorEq, hy.cells]
  have h1n : (h.push (.cells [y] 55)).next = h.next + 1 := rfl
  have h1l : ldA (h.push (.cells [y] 55)) h.next 0 = some y := by rw [ldA_push_new]; rfl
  have h1le : Hle h (h.push (.cells [y] 55)) := (Hle.refl h).push _
  generalize h.push (.cells [y] 55) = h1 at h1n h1l h1le ⊢
  refine b_loop (fun d fr h' => h' = h1 ∧ fr.get 1 = some (.str s) ∧ fr.get 2 = some (.ptr h.next 0) ∧ ∃ i : Nat, fr.get 5 = some (.int .i64 (i : Int)) ∧ d + i = c.length ∧ ∀ a, a ∈ c.take i → a.1 ≠ s) c.length ?_ ?_
  · exact ⟨rfl, by simp [T.get_set], by simp [T.get_set], 0, by simp [T.get_set], by omega, by simp⟩
  rintro d fr h' ⟨rfl, t1, t2, i, t5, hd, hno⟩
  unfold c51_l0
  simp only [go_sem, Nat.reduceEqDiff, Int.reduceLT, Int.reduceLE, Int.reduceEq, Nat.reduceLT, Nat.reduceAdd, Nat.reduceMul, Int.reduceToNat, Nat.reduceLeDiff, reduceCtorEq, t1, t2, t5, h1l, hy.len]
  refine b_lite (fun hc => ?_) (fun hc => ?_)
  · obtain ⟨⟨s', n⟩, ha⟩ : ∃ a, c[i]? = some a := ⟨_, List.getElem?_eq_getElem (by omega)⟩
    obtain ⟨b, o, _, hix, hm0, hm1, _⟩ := (hy.mono h1le).at ha
    by_cases e : s' = s
    · subst e
      simp only [go_sem, Nat.reduceEqDiff, Int.reduceLT, Int.reduceLE, Int.reduceEq, Nat.reduceLT, Nat.reduceAdd, Nat.reduceMul, Int.reduceToNat, Nat.reduceLeDiff, reduceCtorEq, t1, t2, t5, h1l, hix, hm0, hm1]
      refine ⟨?_, h1le⟩
      have : c.find? (fun a => decide (a.1 = s')) = some (s', n) := by
        rw [List.find?_eq_some_iff_getElem]
        have hi := List.getElem?_eq_some_iff.1 ha
        refine ⟨by simp, i, hi.1, hi.2, fun j hj => ?_⟩
        have hm : c[j] ∈ c.take i := List.mem_iff_getElem?.2 ⟨j, by rw [List.getElem?_take, if_pos hj]; exact List.getElem?_eq_getElem _⟩
        simpa using hno _ hm
      unfold costOf
      rw [this]
    · simp only [go_sem, Nat.reduceEqDiff, Int.reduceLT, Int.reduceLE, Int.reduceEq, Nat.reduceLT, Nat.reduceAdd, Nat.reduceMul, Int.reduceToNat, Nat.reduceLeDiff, reduceCtorEq, t1, t2, t5, h1l, hix, hm0, hm1, e]
      refine ⟨d - 1, by omega, i + 1, ?_, by omega, ?_⟩
      · rw [wrap_i64 (by omega) (by omega)]; rfl
      · rw [List.take_add_one, ha]
        intro a hm
        rcases List.mem_append.1 hm with hm | hm
        · exact hno a hm
        · simp at hm; subst hm; exact e
  · simp only [go_sem, Nat.reduceEqDiff, Int.reduceLT, Int.reduceLE, Int.reduceEq, Nat.reduceLT, Nat.reduceAdd, Nat.reduceMul, Int.reduceToNat, Nat.reduceLeDiff, reduceCtorEq, t1, t2, t5]
    have hi : i = c.length := by omega
    rw [hi, List.take_length] at hno
    refine ⟨?_, h1le⟩
    have : c.find? (fun a => decide (a.1 = s)) = none := by
      rw [List.find?_eq_none]
      intro a ha
      simpa using hno a ha
    unfold costOf
    rw [this]
end
end Go.AX

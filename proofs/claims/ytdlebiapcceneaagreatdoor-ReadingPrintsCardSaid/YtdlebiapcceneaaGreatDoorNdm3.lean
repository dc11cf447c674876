/-
  Contracts of functions of this seat, for every input that each theorem names.
-/
import Derived.Test.YtdlebiapcceneaaGreatDoorNdm2
import Derived.Lib.ItoaLen
set_option linter.unusedVariables false
set_option linter.unusedSimpArgs false
set_option linter.unusedSectionVars false
namespace Go.AX
open Go Go.Proofs
noncomputable section
set_option linter.unusedSimpArgs false
set_option linter.unusedVariables false
attribute [local go_sem] b_seq wp_skip wp_exit wp_ret wp_region b_block wops_nil b_ops b_opsg b_cond condV_lite wo_mv b_bin wo_call callV_func wo_pick b_box wo_load1 wo_loadN wo_store wo_nilCheck wo_not wo_lenStr' wo_lenSl wo_ixStr' wo_ixSl wo_fAddr wo_part1 wo_partN wo_extract wo_cInt wo_cStr wo_mkMap wo_mkIface wo_mkFunc wo_lookup pickV_bool ifT_true ifT_false b_loadV b_loadNV b_storeV nilV_ptr nilV_func nilV_iface notV_bool lenStrV_str lenSlV_nil lenSlV_slice b_ixStrV ixSlV_slice fAddrV_ptr b_part1V partNV_agg b_extractV convV_int strV_str evC_tm evC_cn T.get_set putA_some putA_none onO_some evCs_nil evCs_cons appL_nil appL_cons guardOk_true guardOk_false cellsV_bool cellsV_int cellsV_str cellsV_nilptr cellsV_ptr cellsV_nilslice cellsV_slice cellsV_nilmap cellsV_map cellsV_func cellsV_nilfunc cellsV_iface cellsV_niliface cellsV_agg bin_lss bin_gtr bin_leq bin_geq bin_eql bin_neq bin_add bin_sub bin_eqlS bin_neqS mkFrame_nil mkFrame_cons resA_one resA_two resA_three over_0 over_1 over_2 over_3 over_4 over_5 over0_nil over0_cons Option.getD_some if_true if_false AHeap.next_push AVal.bool.injEq decide_eq_true_eq decide_eq_false_iff_not Bool.not_eq_true' Bool.not_eq_false' Bool.not_eq_true decide_true decide_false Bool.not_true Bool.not_false Int.toNat_natCast Int.natCast_nonneg true_and and_true wo_mapPut wp_drawn' wsts_nil b_pure b_read b_new b_wr wor_none b_org rer_nil rer_load1 rer_loadN wo_append AHeap.next_skip AHeap.next_put' AHeap.mk_push_t AHeap.mk_eta AHeap.mk_skip ldA_skip ldN_skip Nat.add_zero Nat.zero_add b_lite_true b_lite_false eq_self_iff_true not_true_eq_false not_false_eq_true bx_k bx_q bx_x bx_1 undefA_bool putAt_push List.length_cons List.length_nil Nat.le_refl ldA_push_new ldN_push_new List.getElem?_cons_zero List.getElem?_cons_succ List.drop_zero List.drop_succ_cons List.take_succ_cons List.take_zero b_build b_buildSlice evParts_nil evParts_cons b_fillA_nil b_fillA nbeq nble natadd natmul lenL_eq repL_1 repL_2 repL_3 wo_sliceData sdV_nil sdV_slice wo_unsafeStr usV_nil wo_slStr slStrV_str evCo_none evCo_some boundA_none Bool.and_true Bool.true_and wo_minmax2' mm2V_int
def allV (cells : List (List Alt)) : Prop := ∀ c, c ∈ cells → validP c
instance (cells : List (List Alt)) : Decidable (allV cells) := Classical.propDecidable _
def checkE (cells : List (List Alt)) : Int := if 32 < cells.length then 2 else if allV cells then 0 else 1
theorem allV.snoc {cells : List (List Alt)} {i : Nat} {c : List Alt} (hc : cells[i]? = some c) (h : allV (cells.take i)) (hv : validP c) : allV (cells.take (i + 1)) := by
  rw [List.take_add_one, hc]
  intro x hx
  rcases List.mem_append.1 hx with hx | hx
  · exact h x hx
  · simp at hx; subst hx; exact hv
theorem checkCells_c (cells : List (List Alt)) (v : AVal) (h : AHeap) (H : CellsA h v cells) : Ec E2 14 [v] h fun r h' => r = .int .i64 (checkE cells) ∧ Hle h h' := by
  refine Ec.of_wpb (prim2_none (by decide)) code14 ?_
  unfold c14
  by_cases g1 : (32 : Int) < (cells.length : Int)
  · simp only [go_sem, Nat.reduceEqDiff, Int.reduceLT, Int.reduceLE, Int.reduceEq, Nat.reduceLT, Nat.reduceAdd, Nat.reduceMul, Int.reduceToNat, Nat.reduceLeDiff, reduceCtorEq, H.len, g1]
    have : checkE cells = 2 := by unfold checkE; rw [if_pos (by omega)]
    rw [this]; exact ⟨rfl, Hle.refl h⟩
  simp only [go_sem, Nat.reduceEqDiff, Int.reduceLT, Int.reduceLE, Int.reduceEq, Nat.reduceLT, Nat.reduceAdd, Nat.reduceMul, Int.reduceToNat, Nat.reduceLeDiff, reduceCtorEq, H.len, g1]
  refine b_loop (fun d fr h' => Hle h h' ∧ fr.get 8 = some v ∧ fr.get 9 = some (.int .i64 (cells.length : Int)) ∧ ∃ i : Nat, fr.get 10 = some (.int .i64 (i : Int)) ∧ d + i = cells.length ∧ allV (cells.take i)) cells.length ?_ ?_
  · exact ⟨Hle.refl h, by simp [T.get_set], by simp [T.get_set], 0, by simp [T.get_set], by omega, fun c hc => by simp at hc⟩
  rintro d fr h' ⟨hle, t8, t9, i, t10, hd, hall⟩
  unfold c14_l0
  simp only [go_sem, Nat.reduceEqDiff, Int.reduceLT, Int.reduceLE, Int.reduceEq, Nat.reduceLT, Nat.reduceAdd, Nat.reduceMul, Int.reduceToNat, Nat.reduceLeDiff, reduceCtorEq, t8, t9, t10]
  refine b_lite (fun hc => ?_) (fun hc => ?_)
  · obtain ⟨c, hci⟩ : ∃ c, cells[i]? = some c := ⟨_, List.getElem?_eq_getElem (by omega)⟩
    obtain ⟨b, o, x, hb, hix, hl0, hlN, hx, hxf⟩ := (H.mono hle).at hci
    simp only [go_sem, Nat.reduceEqDiff, Int.reduceLT, Int.reduceLE, Int.reduceEq, Nat.reduceLT, Nat.reduceAdd, Nat.reduceMul, Int.reduceToNat, Nat.reduceLeDiff, reduceCtorEq, t8, t9, t10, hix, hlN]
    refine ⟨by decide, ?_⟩
    refine (valid_c c x _ (hx.mono ((Hle.refl h').push _))).mono ?_
    rintro r h1 ⟨rfl, hle1⟩
    have hle2 := (hle.push _).trans hle1
    by_cases hv : validP c
    · simp only [go_sem, Nat.reduceEqDiff, Int.reduceLT, Int.reduceLE, Int.reduceEq, Nat.reduceLT, Nat.reduceAdd, Nat.reduceMul, Int.reduceToNat, Nat.reduceLeDiff, reduceCtorEq, t8, t9, t10, hv]
      refine ⟨d - 1, by omega, hle2, i + 1, ?_, by omega, hall.snoc hci hv⟩
      rw [wrap_i64 (by omega) (by omega)]; rfl
    · simp only [go_sem, Nat.reduceEqDiff, Int.reduceLT, Int.reduceLE, Int.reduceEq, Nat.reduceLT, Nat.reduceAdd, Nat.reduceMul, Int.reduceToNat, Nat.reduceLeDiff, reduceCtorEq, t8, t9, t10, hv]
      have : checkE cells = 1 := by unfold checkE; rw [if_neg (by omega), if_neg (fun h => hv (h c (List.mem_of_getElem? hci)))]
      rw [this]; exact ⟨rfl, hle2⟩
  · simp only [go_sem, Nat.reduceEqDiff, Int.reduceLT, Int.reduceLE, Int.reduceEq, Nat.reduceLT, Nat.reduceAdd, Nat.reduceMul, Int.reduceToNat, Nat.reduceLeDiff, reduceCtorEq, t8, t9, t10]
    have hi : i = cells.length := by omega
    rw [hi, List.take_length] at hall
    have : checkE cells = 0 := by unfold checkE; rw [if_neg (by omega), if_pos hall]
    rw [this]; exact ⟨rfl, hle⟩
def altT (a : Alt) : List Nat := if a.2 = 0 then a.1 else a.1 ++ 58 :: itoaL a.2
theorem itoaL_len {n : Int} (h0 : -9223372036854775808 ≤ n) (h1 : n ≤ 9223372036854775807) : (itoaL n).length ≤ 21 := by
  unfold itoaL
  rw [List.length_map]
  exact Lib.itoa_length_le n h0 h1
theorem itoaL_byte (n : Int) : ∀ b, b ∈ itoaL n → b < 256 := by
  intro b hb
  obtain ⟨x, _, rfl⟩ := List.mem_map.1 hb
  exact UInt8.toNat_lt x
theorem isL_byte {c : Nat} (h : isL c = true) : c < 256 := by unfold isL at h; simp at h; omega
theorem lettered_byte {s : List Nat} (h : lettered s = true) : ∀ b, b ∈ s → b < 256 := fun b hb => isL_byte (by unfold lettered at h; exact List.all_eq_true.1 h b hb)
theorem altT_len {a : Alt} (h : altOk a) : (altT a).length ≤ 25 := by
  unfold altT
  have h1 := h.1
  have h3 := h.2.2.1
  have h4 := h.2.2.2
  split
  · omega
  · have := itoaL_len (n := a.2) (by omega) (by omega)
    simp; omega
theorem altT_byte {a : Alt} (h : altOk a) : ∀ b, b ∈ altT a → b < 256 := by
  intro b hb
  unfold altT at hb
  have hl := lettered_byte h.2.1
  split at hb
  · exact hl b hb
  · rcases List.mem_append.1 hb with hb | hb
    · exact hl b hb
    · rcases List.mem_cons.1 hb with rfl | hb
      · omega
      · exact itoaL_byte _ b hb
def isOne (c : List Alt) : Bool := match c with
  | [a] => decide (a.1.length = 1) && decide (a.2 = 0)
  | _ => false
def joinA : List Alt → List Nat
  | [] => []
  | a :: l => altT a ++ l.flatMap fun b => 124 :: altT b
def printC (c : List Alt) : List Nat := if isOne c = true then (c.flatMap fun a => a.1) else 40 :: (joinA c ++ [41])
def printS (cells : List (List Alt)) : List Nat := cells.flatMap printC
theorem joinA_snoc {c : List Alt} {k : Nat} {a : Alt} (ha : c[k]? = some a) : joinA (c.take (k + 1)) = joinA (c.take k) ++ (if k = 0 then [] else [124]) ++ altT a := by
  rw [List.take_add_one, ha]
  cases k with
  | zero => simp [joinA]
  | succ k =>
    cases c with
    | nil => simp at ha
    | cons b c => simp [joinA]
theorem joinA_len : ∀ {c : List Alt}, (∀ a, a ∈ c → altOk a) → (joinA c).length ≤ 26 * c.length
  | [], _ => by simp [joinA]
  | a :: l, h => by
    have h1 := altT_len (h a (by simp))
    have h2 : ∀ {l : List Alt}, (∀ a, a ∈ l → altOk a) → (l.flatMap fun b => 124 :: altT b).length ≤ 26 * l.length := by
      intro l
      induction l with
      | nil => intro _; simp
      | cons b l ih =>
        intro h
        have h3 := altT_len (h b (by simp))
        have h4 := ih fun x hx => h x (by simp [hx])
        rw [List.flatMap_cons, List.length_append, List.length_cons, List.length_cons]
        omega
    have h3 := h2 (l := l) fun x hx => h x (by simp [hx])
    unfold joinA
    rw [List.length_append, List.length_cons]
    omega
theorem joinA_byte : ∀ {c : List Alt}, (∀ a, a ∈ c → altOk a) → ∀ b, b ∈ joinA c → b < 256
  | [], _, b, hb => by simp [joinA] at hb
  | a :: l, h, b, hb => by
    unfold joinA at hb
    rcases List.mem_append.1 hb with hb | hb
    · exact altT_byte (h a (by simp)) b hb
    · obtain ⟨x, hx, hb⟩ := List.mem_flatMap.1 hb
      rcases List.mem_cons.1 hb with rfl | hb
      · omega
      · exact altT_byte (h x (by simp [hx])) b hb
theorem isOne_inv {c : List Alt} (h : isOne c = true) : ∃ a : Alt, c = [a] ∧ a.1.length = 1 ∧ a.2 = 0 := by
  unfold isOne at h
  split at h
  · rename_i a
    simp at h
    exact ⟨a, rfl, h.1, h.2⟩
  · cases h
theorem printC_len {c : List Alt} (hv : validP c) : (printC c).length ≤ 210 := by
  unfold printC
  split
  · rename_i h
    obtain ⟨a, rfl, h1, _⟩ := isOne_inv h
    simp [h1]
  · have := joinA_len hv.2.2.1
    have := hv.2.1
    simp; omega
theorem printC_byte {c : List Alt} (hv : validP c) : ∀ b, b ∈ printC c → b < 256 := by
  intro b hb
  unfold printC at hb
  split at hb
  · obtain ⟨a, ha, hb⟩ := List.mem_flatMap.1 hb
    exact lettered_byte (hv.2.2.1 a ha).2.1 b hb
  · rcases List.mem_cons.1 hb with rfl | hb
    · omega
    · rcases List.mem_append.1 hb with hb | hb
      · exact joinA_byte hv.2.2.1 b hb
      · simp at hb; omega
theorem printS_snoc {cells : List (List Alt)} {i : Nat} {c : List Alt} (hc : cells[i]? = some c) : printS (cells.take (i + 1)) = printS (cells.take i) ++ printC c := by
  unfold printS
  rw [List.take_add_one, hc]
  simp
theorem printS_len : ∀ {cells : List (List Alt)}, allV cells → (printS cells).length ≤ 210 * cells.length
  | [], _ => by simp [printS]
  | c :: l, h => by
    have h1 := printC_len (h c (by simp))
    have h2 := printS_len (cells := l) fun x hx => h x (by simp [hx])
    unfold printS at h2 ⊢
    rw [List.flatMap_cons, List.length_append, List.length_cons]
    omega
theorem printS_byte {cells : List (List Alt)} (h : allV cells) : ∀ b, b ∈ printS cells → b < 256 := by
  intro b hb
  obtain ⟨c, hc, hb⟩ := List.mem_flatMap.1 hb
  exact printC_byte (h c hc) b hb
end
end Go.AX
namespace Go.AX
open Go Go.Proofs
noncomputable section
set_option linter.unusedSimpArgs false
set_option linter.unusedVariables false
attribute [local go_sem] b_seq wp_skip wp_exit wp_ret wp_region b_block wops_nil b_ops b_opsg b_cond condV_lite wo_mv b_bin wo_call callV_func wo_pick b_box wo_load1 wo_loadN wo_store wo_nilCheck wo_not wo_lenStr' wo_lenSl wo_ixStr' wo_ixSl wo_fAddr wo_part1 wo_partN wo_extract wo_cInt wo_cStr wo_mkMap wo_mkIface wo_mkFunc wo_lookup pickV_bool ifT_true ifT_false b_loadV b_loadNV b_storeV nilV_ptr nilV_func nilV_iface notV_bool lenStrV_str lenSlV_nil lenSlV_slice b_ixStrV ixSlV_slice fAddrV_ptr b_part1V partNV_agg b_extractV convV_int strV_str evC_tm evC_cn T.get_set putA_some putA_none onO_some evCs_nil evCs_cons appL_nil appL_cons guardOk_true guardOk_false cellsV_bool cellsV_int cellsV_str cellsV_nilptr cellsV_ptr cellsV_nilslice cellsV_slice cellsV_nilmap cellsV_map cellsV_func cellsV_nilfunc cellsV_iface cellsV_niliface cellsV_agg bin_lss bin_gtr bin_leq bin_geq bin_eql bin_neq bin_add bin_sub bin_eqlS bin_neqS mkFrame_nil mkFrame_cons resA_one resA_two resA_three over_0 over_1 over_2 over_3 over_4 over_5 over0_nil over0_cons Option.getD_some if_true if_false AHeap.next_push AVal.bool.injEq decide_eq_true_eq decide_eq_false_iff_not Bool.not_eq_true' Bool.not_eq_false' Bool.not_eq_true decide_true decide_false Bool.not_true Bool.not_false Int.toNat_natCast Int.natCast_nonneg true_and and_true wo_mapPut wp_drawn' wsts_nil b_pure b_read b_new b_wr wor_none b_org rer_nil rer_load1 rer_loadN wo_append AHeap.next_skip AHeap.next_put' AHeap.mk_push_t AHeap.mk_eta AHeap.mk_skip ldA_skip ldN_skip Nat.add_zero Nat.zero_add b_lite_true b_lite_false eq_self_iff_true not_true_eq_false not_false_eq_true bx_k bx_q bx_x bx_1 undefA_bool putAt_push List.length_cons List.length_nil Nat.le_refl ldA_push_new ldN_push_new List.getElem?_cons_zero List.getElem?_cons_succ List.drop_zero List.drop_succ_cons List.take_succ_cons List.take_zero b_build b_buildSlice evParts_nil evParts_cons b_fillA_nil b_fillA nbeq nble natadd natmul lenL_eq repL_1 repL_2 repL_3 wo_sliceData sdV_nil sdV_slice wo_unsafeStr usV_nil wo_slStr slStrV_str evCo_none evCo_some boundA_none Bool.and_true Bool.true_and wo_minmax2' mm2V_int
def preC (c : List Alt) (k : Nat) : List Nat := if k = 0 then [] else 40 :: joinA (c.take k)
theorem preC_snoc {c : List Alt} {k : Nat} {a : Alt} (ha : c[k]? = some a) : preC c (k + 1) = preC c k ++ [if k = 0 then 40 else 124] ++ altT a := by
  unfold preC
  rw [if_neg (by omega), joinA_snoc ha]
  by_cases e : k = 0
  · subst e; simp [joinA]
  · simp [e]
theorem preC_len {c : List Alt} (hv : validP c) (k : Nat) : (preC c k).length ≤ 210 := by
  unfold preC
  split
  · simp
  · have := joinA_len (c := c.take k) fun a ha => hv.2.2.1 a (List.mem_of_mem_take ha)
    have := hv.2.1
    have : (c.take k).length ≤ c.length := by simp; omega
    rw [List.length_cons]; omega
theorem take_allV {cells : List (List Alt)} (h : allV cells) (i : Nat) : allV (cells.take i) := fun c hc => h c (List.mem_of_mem_take hc)
theorem printS_take_len {cells : List (List Alt)} (h : allV cells) (hl : cells.length ≤ 32) (i : Nat) : (printS (cells.take i)).length ≤ 6720 := by
  have := printS_len (take_allV h i)
  have : (cells.take i).length ≤ cells.length := by simp; omega
  omega
theorem checkE_ok {cells : List (List Alt)} (h : checkE cells = 0) : cells.length ≤ 32 ∧ allV cells := by
  unfold checkE at h
  split at h
  · cases h
  · split at h
    · exact ⟨by omega, by assumption⟩
    · cases h
def printR (cells : List (List Alt)) : AVal := .tup [.str (if checkE cells = 0 then printS cells else []), .int .i64 (checkE cells)]
set_option maxHeartbeats 2000000 in
theorem print_inner {Qn Qr : Fr → AHeap → Prop} {Qx : Nat → Fr → AHeap → Prop} (c : List Alt) (hv : validP c) (x v : AVal) (h h0 : AHeap) (n0 : Nat) (b : Nat) (bs : List Nat) (fr : Fr) (i m : Int) (hx : AltsA h x c) (hle : Hle h h0) (hbl : Bld (fun c => c < h.next) h0 b bs) (hlen : bs.length ≤ 6720)
    (t5 : fr.get 5 = some (.ptr b 0)) (t15 : fr.get 15 = some v) (t16 : fr.get 16 = some (.int .i64 m)) (t17 : fr.get 17 = some (.int .i64 i)) (t49 : fr.get 49 = some x) (t50 : fr.get 50 = some (.int .i64 (c.length : Int))) (t51 : fr.get 51 = some (.int .i64 0))
    (hq : ∀ fr h', fr.get 5 = some (.ptr b 0) → fr.get 15 = some v → fr.get 16 = some (.int .i64 m) → fr.get 17 = some (.int .i64 i) → Hle h h' → Bld (fun c => c < h.next) h' b (bs ++ preC c c.length) → Qx 2 fr h') : wp E2 (.loop c11_l0) fr h0 Qn Qx Qr := by
  refine b_loop (fun d fr h' => Hle h h' ∧ fr.get 5 = some (.ptr b 0) ∧ fr.get 15 = some v ∧ fr.get 16 = some (.int .i64 m) ∧ fr.get 17 = some (.int .i64 i) ∧ fr.get 49 = some x ∧ fr.get 50 = some (.int .i64 (c.length : Int)) ∧ ∃ k : Nat, fr.get 51 = some (.int .i64 (k : Int)) ∧ d + k = c.length ∧ Bld (fun c => c < h.next) h' b (bs ++ preC c k)) c.length ?_ ?_
  · exact ⟨hle, t5, t15, t16, t17, t49, t50, 0, t51, by omega, by simpa [preC] using hbl⟩
  clear hbl hle t5 t15 t16 t17 t49 t50 t51
  rintro d fr h' ⟨hle, t5, t15, t16, t17, t49, t50, k, t51, hd, hbl⟩
  unfold c11_l0
  simp only [go_sem, Nat.reduceEqDiff, Int.reduceLT, Int.reduceLE, Int.reduceEq, Nat.reduceLT, Nat.reduceAdd, Nat.reduceMul, Int.reduceToNat, Nat.reduceLeDiff, reduceCtorEq, t5, t15, t16, t17, t49, t50, t51]
  refine b_lite (fun hc => ?_) (fun hc => ?_)
  · obtain ⟨⟨s, n⟩, ha⟩ : ∃ a, c[k]? = some a := ⟨_, List.getElem?_eq_getElem (by omega)⟩
    have hok : altOk (s, n) := hv.2.2.1 _ (List.mem_of_getElem? ha)
    have hok1 : s.length ≤ 3 := hok.1
    have hok3 : 0 ≤ n := hok.2.2.1
    have hok4 : n ≤ 1000 := hok.2.2.2
    have hc8 : c.length ≤ 8 := hv.2.1
    have hpre := preC_len hv k
    obtain ⟨b2, o2, hb2, hix, _, _, hN⟩ := (hx.mono hle).at ha
    have hbl1 := hbl.push (.cells [.str s, .int .i64 n] 57)
    have hle1 : Hle h (h'.push (.cells [.str s, .int .i64 n] 57)) := hle.push _
    have hA : ∀ c, (c < h.next ∨ c = h'.next) → c < (h'.push (.cells [.str s, .int .i64 n] 57)).next := fun c hc => by have := hle.next; show c < h'.next + 1; omega
    have hw0 : ldA (h'.push (.cells [.str s, .int .i64 n] 57)) h'.next 0 = some (.str s) := by rw [ldA_push_new]; rfl
    have hw1 : ldA (h'.push (.cells [.str s, .int .i64 n] 57)) h'.next 1 = some (.int .i64 n) := by rw [ldA_push_new]; rfl
    have hnx : (h'.push (.cells [.str s, .int .i64 n] 57)).next = h'.next + 1 := rfl
    by_cases hk : (k : Int) = 0
    all_goals
      simp only [go_sem, Nat.reduceEqDiff, Int.reduceLT, Int.reduceLE, Int.reduceEq, Nat.reduceLT, Nat.reduceAdd, Nat.reduceMul, Int.reduceToNat, Nat.reduceLeDiff, reduceCtorEq, t5, t15, t16, t17, t49, t50, t51, hix, hN, hk]
      generalize h'.push (.cells [.str s, .int .i64 n] 57) = h3 at hbl1 hle1 hA hw0 hw1 hnx ⊢
      refine ⟨by decide, ?_⟩
      first
        | refine (writeByte_c _ _ b _ 40 hbl1 hA (by simp; omega)).mono ?_
        | refine (writeByte_c _ _ b _ 124 hbl1 hA (by simp; omega)).mono ?_
      rintro r h4 ⟨hbl4, hn4, hg4⟩
      have hw04 : ldA h4 h'.next 0 = some (.str s) := (ldA_get (hg4 _ (.inr rfl)) 0).trans hw0
      have hw14 : ldA h4 h'.next 1 = some (.int .i64 n) := (ldA_get (hg4 _ (.inr rfl)) 1).trans hw1
      simp only [go_sem, Nat.reduceEqDiff, Int.reduceLT, Int.reduceLE, Int.reduceEq, Nat.reduceLT, Nat.reduceAdd, Nat.reduceMul, Int.reduceToNat, Nat.reduceLeDiff, reduceCtorEq, t5, t15, t16, t17, t49, t50, t51, hw04, hk]
      refine ⟨by decide, ?_⟩
      refine (writeString_c _ _ b _ s hbl4 (fun c hc => by have := hA c hc; omega) (by simp; omega)).mono ?_
      rintro r h5 ⟨hbl5, hn5, hg5⟩
      have hw15 : ldA h5 h'.next 1 = some (.int .i64 n) := (ldA_get (hg5 _ (.inr rfl)) 1).trans hw14
      have hle5 : Hle h h5 := ⟨by have := hle1.next; omega, fun c hc => by rw [hg5 c (.inl hc), hg4 c (.inl hc)]; exact hle1.get c hc⟩
      by_cases hn0 : n = 0
      · simp only [go_sem, Nat.reduceEqDiff, Int.reduceLT, Int.reduceLE, Int.reduceEq, Nat.reduceLT, Nat.reduceAdd, Nat.reduceMul, Int.reduceToNat, Nat.reduceLeDiff, reduceCtorEq, t5, t15, t16, t17, t49, t50, t51, hw15, hn0, hk]
        refine ⟨d - 1, by omega, hle5, k + 1, ?_, by omega, ?_⟩
        · congr 2
          rw [wrap_i64 (by omega) (by omega)]
          omega
        · rw [preC_snoc ha]
          have e : altT (s, n) = s := by unfold altT; rw [if_pos hn0]
          rw [e]
          have hkk : k = 0 ∨ ¬ k = 0 := Decidable.em _
          have := hbl5.sub (A' := fun c => c < h.next) fun c hc => .inl hc
          rcases hkk with hkk | hkk
          · first | (exfalso; omega) | simpa [hkk] using this
          · first | (exfalso; omega) | simpa [hkk] using this
      · have hi := itoaL_len (n := n) (by omega) (by omega)
        have hcat : [58].length + (itoaL n).length ≤ 1073741824 := by simp; omega
        simp only [go_sem, Nat.reduceEqDiff, Int.reduceLT, Int.reduceLE, Int.reduceEq, Nat.reduceLT, Nat.reduceAdd, Nat.reduceMul, Int.reduceToNat, Nat.reduceLeDiff, reduceCtorEq, t5, t15, t16, t17, t49, t50, t51, hw15, hn0, hk]
        refine ⟨by decide, ?_⟩
        refine (itoa_c n _ (by omega) (by omega)).mono ?_
        rintro r h6 ⟨rfl, rfl⟩
        simp only [go_sem, Nat.reduceEqDiff, Int.reduceLT, Int.reduceLE, Int.reduceEq, Nat.reduceLT, Nat.reduceAdd, Nat.reduceMul, Int.reduceToNat, Nat.reduceLeDiff, reduceCtorEq, t5, t15, t16, t17, t49, t50, t51, bin_addS hcat, hk]
        refine ⟨by decide, ?_⟩
        refine (writeString_c _ _ b _ ([58] ++ itoaL n) hbl5 (fun c hc => by have := hA c hc; omega) (by simp; omega)).mono ?_
        rintro r h7 ⟨hbl7, hn7, hg7⟩
        simp only [go_sem, Nat.reduceEqDiff, Int.reduceLT, Int.reduceLE, Int.reduceEq, Nat.reduceLT, Nat.reduceAdd, Nat.reduceMul, Int.reduceToNat, Nat.reduceLeDiff, reduceCtorEq, t5, t15, t16, t17, t49, t50, t51, hk]
        refine ⟨d - 1, by omega, ⟨by have := hle5.next; omega, fun c hc => by rw [hg7 c (.inl hc)]; exact hle5.get c hc⟩, k + 1, ?_, by omega, ?_⟩
        · congr 2
          rw [wrap_i64 (by omega) (by omega)]
          omega
        · rw [preC_snoc ha]
          have e : altT (s, n) = s ++ 58 :: itoaL n := by unfold altT; rw [if_neg hn0]
          rw [e]
          have hkk : k = 0 ∨ ¬ k = 0 := Decidable.em _
          have := hbl7.sub (A' := fun c => c < h.next) fun c hc => .inl hc
          rcases hkk with hkk | hkk
          · first | (exfalso; omega) | simpa [hkk] using this
          · first | (exfalso; omega) | simpa [hkk] using this
  · simp only [go_sem, Nat.reduceEqDiff, Int.reduceLT, Int.reduceLE, Int.reduceEq, Nat.reduceLT, Nat.reduceAdd, Nat.reduceMul, Int.reduceToNat, Nat.reduceLeDiff, reduceCtorEq, t5, t15, t16, t17, t49, t50, t51]
    have hk : k = c.length := by omega
    subst hk
    exact hq _ _ (by simp [T.get_set, t5]) (by simp [T.get_set, t15]) (by simp [T.get_set, t16]) (by simp [T.get_set, t17]) hle hbl
set_option maxHeartbeats 1000000 in
theorem print_c (cells : List (List Alt)) (v : AVal) (h : AHeap) (H : CellsA h v cells) : Ec E2 11 [v] h fun r h' => r = printR cells ∧ Hle h h' := by
  refine Ec.of_wpb (prim2_none (by decide)) code11 ?_
  unfold c11
  simp only [go_sem, Nat.reduceEqDiff, Int.reduceLT, Int.reduceLE, Int.reduceEq, Nat.reduceLT, Nat.reduceAdd, Nat.reduceMul, Int.reduceToNat, Nat.reduceLeDiff, reduceCtorEq]
  refine ⟨by decide, ?_⟩
  refine (checkCells_c cells v h H).mono ?_
  rintro r h1 ⟨rfl, hle1⟩
  by_cases hE : ¬ checkE cells = 0
  · simp only [go_sem, Nat.reduceEqDiff, Int.reduceLT, Int.reduceLE, Int.reduceEq, Nat.reduceLT, Nat.reduceAdd, Nat.reduceMul, Int.reduceToNat, Nat.reduceLeDiff, reduceCtorEq, hE]
    unfold printR
    rw [if_neg hE]
    exact ⟨rfl, hle1⟩
  have hE : checkE cells = 0 := Decidable.not_not.1 hE
  obtain ⟨hl32, hallV⟩ := checkE_ok hE
  have H1 := H.mono hle1
  simp only [go_sem, Nat.reduceEqDiff, Int.reduceLT, Int.reduceLE, Int.reduceEq, Nat.reduceLT, Nat.reduceAdd, Nat.reduceMul, Int.reduceToNat, Nat.reduceLeDiff, reduceCtorEq, hE, H.len]
  have hb0 : Bld (fun c => c < h.next) (h1.push (.cells [.nilptr, .nilslice] 52)) h1.next [] := Bld.new (by have := hle1.next; omega)
  have hle2 : Hle h (h1.push (.cells [.nilptr, .nilslice] 52)) := hle1.push _
  generalize h1.push (.cells [.nilptr, .nilslice] 52) = h2 at hb0 hle2 ⊢
  generalize h1.next = b at hb0 ⊢
  refine b_loop (fun d fr h' => Hle h h' ∧ fr.get 5 = some (.ptr b 0) ∧ fr.get 15 = some v ∧ fr.get 16 = some (.int .i64 (cells.length : Int)) ∧ ∃ i : Nat, fr.get 17 = some (.int .i64 (i : Int)) ∧ d + i = cells.length ∧ Bld (fun c => c < h.next) h' b (printS (cells.take i))) cells.length ?_ ?_
  · exact ⟨hle2, by simp [T.get_set], by simp [T.get_set], by simp [T.get_set], 0, by simp [T.get_set], by omega, hb0⟩
  rintro d fr h' ⟨hle, t5, t15, t16, i, t17, hd, hbl⟩
  unfold c11_l1
  simp only [go_sem, Nat.reduceEqDiff, Int.reduceLT, Int.reduceLE, Int.reduceEq, Nat.reduceLT, Nat.reduceAdd, Nat.reduceMul, Int.reduceToNat, Nat.reduceLeDiff, reduceCtorEq, t5, t15, t16, t17]
  refine b_lite (fun hc => ?_) (fun hc => ?_)
  · obtain ⟨c, hci⟩ : ∃ c, cells[i]? = some c := ⟨_, List.getElem?_eq_getElem (by omega)⟩
    have hv : validP c := hallV c (List.mem_of_getElem? hci)
    obtain ⟨bb, o, x, hb, hix, hl0, hlN0, hx, hxf⟩ := H.at hci
    have hlN : ldN h' bb o 1 = some [x] := (hle.ldN hb o 1).trans hlN0
    have hplen := printS_take_len hallV hl32 i
    have hfin := hbl.push (.cells [x] 55)
    have hleB : Hle h (h'.push (.cells [x] 55)) := hle.push _
    have hbox : ldA (h'.push (.cells [x] 55)) h'.next 0 = some x := by rw [ldA_push_new]; rfl
    have hA1 : ∀ c, c < h.next ∨ c = h'.next → c < (h'.push (.cells [x] 55)).next := fun c hc => by have := hle.next; show c < h'.next + 1; omega
    by_cases hone : isOne c = true
    · obtain ⟨⟨s, n⟩, rfl, hs1, hn0⟩ := isOne_inv hone
      have hs1 : s.length = 1 := hs1
      have hn0 : n = 0 := hn0
      subst hn0
      obtain ⟨b2, o2, hb2, hix2, hm0, hm1, _⟩ := (hx.mono hleB).at (j := 0) (a := (s, 0)) rfl
      have hix20 : ∀ k h' K, ixSlV 2 x (.int k 0) h' K = K (.ptr b2 o2) h' := fun k h' K => hix2 k 0 h' K rfl
      have hs1' : ((s.length : Nat) : Int) = 1 := by omega
      simp only [go_sem, Nat.reduceEqDiff, Int.reduceLT, Int.reduceLE, Int.reduceEq, Nat.reduceLT, Nat.reduceAdd, Nat.reduceMul, Int.reduceToNat, Nat.reduceLeDiff, reduceCtorEq, t5, t15, t16, t17, hix, hlN, hbox, hx.len, hix20, hm0, hm1, hs1', Int.natCast_one]
      refine ⟨by decide, ?_⟩
      refine (writeString_c _ _ b _ s hfin hA1 (by omega)).mono ?_
      rintro r h3 ⟨hbl3, hn3, hg3⟩
      simp only [go_sem, Nat.reduceEqDiff, Int.reduceLT, Int.reduceLE, Int.reduceEq, Nat.reduceLT, Nat.reduceAdd, Nat.reduceMul, Int.reduceToNat, Nat.reduceLeDiff, reduceCtorEq, t5, t15, t16, t17]
      refine ⟨d - 1, by omega, ⟨by have := hleB.next; omega, fun c hc => by rw [hg3 c (.inl hc)]; exact hleB.get c hc⟩, i + 1, ?_, by omega, ?_⟩
      · rw [wrap_i64 (by omega) (by omega)]; rfl
      · rw [printS_snoc hci]
        have : printC [(s, 0)] = s := by unfold printC; rw [if_pos hone]; simp
        rw [this]
        exact hbl3.sub fun c hc => .inl hc
    · have hpC : printC c = preC c c.length ++ [41] := by
        unfold printC preC
        rw [if_neg hone, if_neg (by have := hv.1; omega), List.take_length]
        rfl
      have hgo : ∀ (fr1 : Fr) (Qn Qr : Fr → AHeap → Prop) (Qx : Nat → Fr → AHeap → Prop), fr1.get 5 = some (.ptr b 0) → fr1.get 15 = some v → fr1.get 16 = some (.int .i64 (cells.length : Int)) → fr1.get 17 = some (.int .i64 (i : Int)) → fr1.get 49 = some x → fr1.get 50 = some (.int .i64 (c.length : Int)) → fr1.get 51 = some (.int .i64 0) →
          (∀ fr h3, fr.get 5 = some (.ptr b 0) → fr.get 15 = some v → fr.get 16 = some (.int .i64 (cells.length : Int)) → fr.get 17 = some (.int .i64 (i : Int)) → Hle h h3 → Bld (fun c => c < h.next) h3 b (printS (cells.take i) ++ preC c c.length) → Qx 2 fr h3) → wp E2 (.loop c11_l0) fr1 (h'.push (.cells [x] 55)) Qn Qx Qr :=
        fun fr1 Qn Qr Qx a5 a15 a16 a17 a49 a50 a51 hq => print_inner c hv x v h _ 0 b _ fr1 i cells.length hx hleB (hfin.sub fun c hc => .inl hc) hplen a5 a15 a16 a17 a49 a50 a51 hq
      have hpl8 : (preC c c.length).length ≤ 210 := preC_len hv c.length
      by_cases q1 : (c.length : Int) = 1
      · obtain ⟨⟨s, n⟩, rfl⟩ : ∃ a, c = [a] := by
          match c, q1 with
          | [a], _ => exact ⟨a, rfl⟩
          | [], q1 => simp at q1
          | _ :: _ :: _, q1 => simp at q1; omega
        obtain ⟨b2, o2, hb2, hix2, hm0, hm1, _⟩ := (hx.mono hleB).at (j := 0) (a := (s, n)) rfl
        have hix20 : ∀ k h' K, ixSlV 2 x (.int k 0) h' K = K (.ptr b2 o2) h' := fun k h' K => hix2 k 0 h' K rfl
        by_cases q2 : (s.length : Int) = 1
        · have q3 : ¬ n = 0 := by
            intro e
            apply hone
            unfold isOne
            simp [e]; omega
          simp only [go_sem, Nat.reduceEqDiff, Int.reduceLT, Int.reduceLE, Int.reduceEq, Nat.reduceLT, Nat.reduceAdd, Nat.reduceMul, Int.reduceToNat, Nat.reduceLeDiff, reduceCtorEq, t5, t15, t16, t17, hix, hlN, hbox, hx.len, hix20, hm0, hm1, q1, q2, q3, Int.natCast_one]
          refine hgo _ _ _ _ (by simp [T.get_set, t5]) (by simp [T.get_set, t15]) (by simp [T.get_set, t16]) (by simp [T.get_set, t17]) (by simp [T.get_set]) (by simp [T.get_set]) (by simp [T.get_set]) ?_
          intro fr2 h3 u5 u15 u16 u17 hle3 hbl3
          simp only [go_sem, Nat.reduceEqDiff, Int.reduceLT, Int.reduceLE, Int.reduceEq, Nat.reduceLT, Nat.reduceAdd, Nat.reduceMul, Int.reduceToNat, Nat.reduceLeDiff, reduceCtorEq, u5, u15, u16, u17]
          refine ⟨by decide, ?_⟩
          refine (writeByte_c _ _ b _ 41 hbl3 (fun c hc => by have := hle3.next; omega) (by simp only [List.length_append] at *; omega)).mono ?_
          rintro r h4 ⟨hbl4, hn4, hg4⟩
          simp only [go_sem, Nat.reduceEqDiff, Int.reduceLT, Int.reduceLE, Int.reduceEq, Nat.reduceLT, Nat.reduceAdd, Nat.reduceMul, Int.reduceToNat, Nat.reduceLeDiff, reduceCtorEq, u5, u15, u16, u17]
          refine ⟨d - 1, by omega, ⟨by have := hle3.next; omega, fun c hc => by rw [hg4 c hc]; exact hle3.get c hc⟩, i + 1, ?_, by omega, ?_⟩
          · rw [wrap_i64 (by omega) (by omega)]; rfl
          · rw [printS_snoc hci, hpC, ← List.append_assoc]
            exact hbl4
        · simp only [go_sem, Nat.reduceEqDiff, Int.reduceLT, Int.reduceLE, Int.reduceEq, Nat.reduceLT, Nat.reduceAdd, Nat.reduceMul, Int.reduceToNat, Nat.reduceLeDiff, reduceCtorEq, t5, t15, t16, t17, hix, hlN, hbox, hx.len, hix20, hm0, hm1, q1, q2, Int.natCast_one]
          refine hgo _ _ _ _ (by simp [T.get_set, t5]) (by simp [T.get_set, t15]) (by simp [T.get_set, t16]) (by simp [T.get_set, t17]) (by simp [T.get_set]) (by simp [T.get_set]) (by simp [T.get_set]) ?_
          intro fr2 h3 u5 u15 u16 u17 hle3 hbl3
          simp only [go_sem, Nat.reduceEqDiff, Int.reduceLT, Int.reduceLE, Int.reduceEq, Nat.reduceLT, Nat.reduceAdd, Nat.reduceMul, Int.reduceToNat, Nat.reduceLeDiff, reduceCtorEq, u5, u15, u16, u17]
          refine ⟨by decide, ?_⟩
          refine (writeByte_c _ _ b _ 41 hbl3 (fun c hc => by have := hle3.next; omega) (by simp only [List.length_append] at *; omega)).mono ?_
          rintro r h4 ⟨hbl4, hn4, hg4⟩
          simp only [go_sem, Nat.reduceEqDiff, Int.reduceLT, Int.reduceLE, Int.reduceEq, Nat.reduceLT, Nat.reduceAdd, Nat.reduceMul, Int.reduceToNat, Nat.reduceLeDiff, reduceCtorEq, u5, u15, u16, u17]
          refine ⟨d - 1, by omega, ⟨by have := hle3.next; omega, fun c hc => by rw [hg4 c hc]; exact hle3.get c hc⟩, i + 1, ?_, by omega, ?_⟩
          · rw [wrap_i64 (by omega) (by omega)]; rfl
          · rw [printS_snoc hci, hpC, ← List.append_assoc]
            exact hbl4
      · simp only [go_sem, Nat.reduceEqDiff, Int.reduceLT, Int.reduceLE, Int.reduceEq, Nat.reduceLT, Nat.reduceAdd, Nat.reduceMul, Int.reduceToNat, Nat.reduceLeDiff, reduceCtorEq, t5, t15, t16, t17, hix, hlN, hbox, hx.len, q1]
        refine hgo _ _ _ _ (by simp [T.get_set, t5]) (by simp [T.get_set, t15]) (by simp [T.get_set, t16]) (by simp [T.get_set, t17]) (by simp [T.get_set]) (by simp [T.get_set]) (by simp [T.get_set]) ?_
        intro fr2 h3 u5 u15 u16 u17 hle3 hbl3
        simp only [go_sem, Nat.reduceEqDiff, Int.reduceLT, Int.reduceLE, Int.reduceEq, Nat.reduceLT, Nat.reduceAdd, Nat.reduceMul, Int.reduceToNat, Nat.reduceLeDiff, reduceCtorEq, u5, u15, u16, u17]
        refine ⟨by decide, ?_⟩
        refine (writeByte_c _ _ b _ 41 hbl3 (fun c hc => by have := hle3.next; omega) (by simp only [List.length_append] at *; omega)).mono ?_
        rintro r h4 ⟨hbl4, hn4, hg4⟩
        simp only [go_sem, Nat.reduceEqDiff, Int.reduceLT, Int.reduceLE, Int.reduceEq, Nat.reduceLT, Nat.reduceAdd, Nat.reduceMul, Int.reduceToNat, Nat.reduceLeDiff, reduceCtorEq, u5, u15, u16, u17]
        refine ⟨d - 1, by omega, ⟨by have := hle3.next; omega, fun c hc => by rw [hg4 c hc]; exact hle3.get c hc⟩, i + 1, ?_, by omega, ?_⟩
        · rw [wrap_i64 (by omega) (by omega)]; rfl
        · rw [printS_snoc hci, hpC, ← List.append_assoc]
          exact hbl4
  · simp only [go_sem, Nat.reduceEqDiff, Int.reduceLT, Int.reduceLE, Int.reduceEq, Nat.reduceLT, Nat.reduceAdd, Nat.reduceMul, Int.reduceToNat, Nat.reduceLeDiff, reduceCtorEq, t5, t15, t16, t17]
    have hi : i = cells.length := by omega
    rw [hi, List.take_length] at hbl
    have hpl := printS_take_len hallV hl32 i
    rw [hi, List.take_length] at hpl
    refine ⟨by decide, ?_⟩
    refine (string_c _ _ b _ hbl (printS_byte hallV) (by omega)).mono ?_
    rintro r h3 ⟨rfl, hn3, hg3⟩
    simp only [go_sem, Nat.reduceEqDiff, Int.reduceLT, Int.reduceLE, Int.reduceEq, Nat.reduceLT, Nat.reduceAdd, Nat.reduceMul, Int.reduceToNat, Nat.reduceLeDiff, reduceCtorEq]
    unfold printR
    rw [if_pos hE, hE]
    exact ⟨rfl, by have := hle.next; omega, fun c hc => by rw [hg3 c hc]; exact hle.get c hc⟩
end
end Go.AX
namespace Go.AX
open Go Go.Proofs
noncomputable section
set_option linter.unusedSimpArgs false
set_option linter.unusedVariables false
attribute [local go_sem] b_seq wp_skip wp_exit wp_ret wp_region b_block wops_nil b_ops b_opsg b_cond condV_lite wo_mv b_bin wo_call callV_func wo_pick b_box wo_load1 wo_loadN wo_store wo_nilCheck wo_not wo_lenStr' wo_lenSl wo_ixStr' wo_ixSl wo_fAddr wo_part1 wo_partN wo_extract wo_cInt wo_cStr wo_mkMap wo_mkIface wo_mkFunc wo_lookup pickV_bool ifT_true ifT_false b_loadV b_loadNV b_storeV nilV_ptr nilV_func nilV_iface notV_bool lenStrV_str lenSlV_nil lenSlV_slice b_ixStrV ixSlV_slice fAddrV_ptr b_part1V partNV_agg b_extractV convV_int strV_str evC_tm evC_cn T.get_set putA_some putA_none onO_some evCs_nil evCs_cons appL_nil appL_cons guardOk_true guardOk_false cellsV_bool cellsV_int cellsV_str cellsV_nilptr cellsV_ptr cellsV_nilslice cellsV_slice cellsV_nilmap cellsV_map cellsV_func cellsV_nilfunc cellsV_iface cellsV_niliface cellsV_agg bin_lss bin_gtr bin_leq bin_geq bin_eql bin_neq bin_add bin_sub bin_eqlS bin_neqS mkFrame_nil mkFrame_cons resA_one resA_two resA_three over_0 over_1 over_2 over_3 over_4 over_5 over0_nil over0_cons Option.getD_some if_true if_false AHeap.next_push AVal.bool.injEq decide_eq_true_eq decide_eq_false_iff_not Bool.not_eq_true' Bool.not_eq_false' Bool.not_eq_true decide_true decide_false Bool.not_true Bool.not_false Int.toNat_natCast Int.natCast_nonneg true_and and_true wo_mapPut wp_drawn' wsts_nil b_pure b_read b_new b_wr wor_none b_org rer_nil rer_load1 rer_loadN wo_append AHeap.next_skip AHeap.next_put' AHeap.mk_push_t AHeap.mk_eta AHeap.mk_skip ldA_skip ldN_skip Nat.add_zero Nat.zero_add b_lite_true b_lite_false eq_self_iff_true not_true_eq_false not_false_eq_true bx_k bx_q bx_x bx_1 undefA_bool putAt_push List.length_cons List.length_nil Nat.le_refl ldA_push_new ldN_push_new List.getElem?_cons_zero List.getElem?_cons_succ List.drop_zero List.drop_succ_cons List.take_succ_cons List.take_zero b_build b_buildSlice evParts_nil evParts_cons b_fillA_nil b_fillA nbeq nble natadd natmul lenL_eq repL_1 repL_2 repL_3 wo_sliceData sdV_nil sdV_slice wo_unsafeStr usV_nil wo_slStr slStrV_str evCo_none evCo_some boundA_none Bool.and_true Bool.true_and wo_minmax2' mm2V_int
end
end Go.AX

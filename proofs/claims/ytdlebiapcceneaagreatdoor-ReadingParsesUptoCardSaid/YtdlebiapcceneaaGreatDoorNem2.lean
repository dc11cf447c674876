/-
  Contracts of functions of this seat, for every input that each theorem names.
-/
import Derived.Test.YtdlebiapcceneaaGreatDoorNem1
import Derived.Test.YtdlebiapcceneaaGreatDoorNes1
set_option linter.unusedVariables false
set_option linter.unusedSimpArgs false
set_option linter.unusedSectionVars false
namespace Go.AX
open Go Go.Proofs
noncomputable section
set_option linter.unusedSimpArgs false
set_option linter.unusedVariables false
attribute [local go_sem] b_seq wp_skip wp_exit wp_ret wp_region b_block wops_nil b_ops b_opsg b_cond condV_lite wo_mv b_bin wo_call callV_func wo_pick b_box wo_load1 wo_loadN wo_store wo_nilCheck wo_not wo_lenStr' wo_lenSl wo_ixStr' wo_ixSl wo_fAddr wo_part1 wo_partN wo_extract wo_cInt wo_cStr wo_mkMap wo_mkIface wo_mkFunc wo_lookup pickV_bool ifT_true ifT_false b_loadV b_loadNV b_storeV nilV_ptr nilV_func nilV_iface notV_bool lenStrV_str lenSlV_nil lenSlV_slice b_ixStrV ixSlV_slice fAddrV_ptr b_part1V partNV_agg b_extractV convV_int strV_str evC_tm evC_cn T.get_set putA_some putA_none onO_some evCs_nil evCs_cons appL_nil appL_cons guardOk_true guardOk_false cellsV_bool cellsV_int cellsV_str cellsV_nilptr cellsV_ptr cellsV_nilslice cellsV_slice cellsV_nilmap cellsV_map cellsV_func cellsV_nilfunc cellsV_iface cellsV_niliface cellsV_agg bin_lss bin_gtr bin_leq bin_geq bin_eql bin_neq bin_add bin_sub bin_eqlS bin_neqS mkFrame_nil mkFrame_cons resA_one resA_two resA_three over_0 over_1 over_2 over_3 over_4 over_5 over0_nil over0_cons Option.getD_some if_true if_false AHeap.next_push AVal.bool.injEq decide_eq_true_eq decide_eq_false_iff_not Bool.not_eq_true' Bool.not_eq_false' Bool.not_eq_true decide_true decide_false Bool.not_true Bool.not_false Int.toNat_natCast Int.natCast_nonneg true_and and_true wo_mapPut wp_drawn' wsts_nil b_pure b_read b_new b_wr wor_none b_org rer_nil rer_load1 rer_loadN wo_append AHeap.next_skip AHeap.next_put' AHeap.mk_push_t AHeap.mk_eta AHeap.mk_skip ldA_skip ldN_skip Nat.add_zero Nat.zero_add b_lite_true b_lite_false eq_self_iff_true not_true_eq_false not_false_eq_true bx_k bx_q bx_x bx_1 undefA_bool putAt_push List.length_cons List.length_nil Nat.le_refl ldA_push_new ldN_push_new List.getElem?_cons_zero List.getElem?_cons_succ List.drop_zero List.drop_succ_cons List.take_succ_cons List.take_zero b_build b_buildSlice evParts_nil evParts_cons b_fillA_nil b_fillA nbeq nble natadd natmul lenL_eq repL_1 repL_2 repL_3 wo_sliceData sdV_nil sdV_slice wo_unsafeStr usV_nil wo_slStr slStrV_str evCo_none evCo_some boundA_none Bool.and_true Bool.true_and wo_minmax2' mm2V_int
def preC (c : List Alt) (k : Nat) : List Nat := if k = 0 then [] else 40 :: joinA (c.take k)
theorem preC_snoc {c : List Alt} {k : Nat} {a : Alt} (ha : c[k]? = some a) : preC c (k + 1) = preC c k ++ [if k = 0 then 40 else 124] ++ altT a := by
  unfold preC
  rw [if_neg (by omega), joinA_snoc ha]
  by_cases e : k = 0
  · subst e; simp [joinA]
  · simp [e]
theorem preC_len {c : List Alt} (hv : validP c) (k : Nat) : (preC c k).length ≤ 210 := by
  unfold preC
  split
  · simp
  · have := joinA_len (c := c.take k) fun a ha => hv.2.2.1 a (List.mem_of_mem_take ha)
    have := hv.2.1
    have : (c.take k).length ≤ c.length := by simp; omega
    rw [List.length_cons]; omega
theorem take_allV {cells : List (List Alt)} (h : allV cells) (i : Nat) : allV (cells.take i) := fun c hc => h c (List.mem_of_mem_take hc)
theorem printS_take_len {cells : List (List Alt)} (h : allV cells) (hl : cells.length ≤ 32) (i : Nat) : (printS (cells.take i)).length ≤ 6720 := by
  have := printS_len (take_allV h i)
  have : (cells.take i).length ≤ cells.length := by simp; omega
  omega
theorem checkE_ok {cells : List (List Alt)} (h : checkE cells = 0) : cells.length ≤ 32 ∧ allV cells := by
  unfold checkE at h
  split at h
  · cases h
  · split at h
    · exact ⟨by omega, by assumption⟩
    · cases h
def printR (cells : List (List Alt)) : AVal := .tup [.str (if checkE cells = 0 then printS cells else []), .int .i64 (checkE cells)]
set_option maxHeartbeats 2000000 in
theorem print_inner {Qn Qr : Fr → AHeap → Prop} {Qx : Nat → Fr → AHeap → Prop} (c : List Alt) (hv : validP c) (x v : AVal) (h h0 : AHeap) (n0 : Nat) (b : Nat) (bs : List Nat) (fr : Fr) (i m : Int) (hx : AltsA h x c) (hle : Hle h h0) (hbl : Bld (fun c => c < h.next) h0 b bs) (hlen : bs.length ≤ 6720)
    (t5 : fr.get 5 = some (.ptr b 0)) (t15 : fr.get 15 = some v) (t16 : fr.get 16 = some (.int .i64 m)) (t17 : fr.get 17 = some (.int .i64 i)) (t49 : fr.get 49 = some x) (t50 : fr.get 50 = some (.int .i64 (c.length : Int))) (t51 : fr.get 51 = some (.int .i64 0))
    (hq : ∀ fr h', fr.get 5 = some (.ptr b 0) → fr.get 15 = some v → fr.get 16 = some (.int .i64 m) → fr.get 17 = some (.int .i64 i) → Hle h h' → Bld (fun c => c < h.next) h' b (bs ++ preC c c.length) → Qx 2 fr h') : wp E2 (.loop c11_l0) fr h0 Qn Qx Qr := by
  refine b_loop (fun d fr h' => Hle h h' ∧ fr.get 5 = some (.ptr b 0) ∧ fr.get 15 = some v ∧ fr.get 16 = some (.int .i64 m) ∧ fr.get 17 = some (.int .i64 i) ∧ fr.get 49 = some x ∧ fr.get 50 = some (.int .i64 (c.length : Int)) ∧ ∃ k : Nat, fr.get 51 = some (.int .i64 (k : Int)) ∧ d + k = c.length ∧ Bld (fun c => c < h.next) h' b (bs ++ preC c k)) c.length ?_ ?_
  · exact ⟨hle, t5, t15, t16, t17, t49, t50, 0, t51, by omega, by simpa [preC] using hbl⟩
  clear hbl hle t5 t15 t16 t17 t49 t50 t51
  rintro d fr h' ⟨hle, t5, t15, t16, t17, t49, t50, k, t51, hd, hbl⟩
  unfold c11_l0
  simp only [go_sem, Nat.reduceEqDiff, Int.reduceLT, Int.reduceLE, Int.reduceEq, Nat.reduceLT, Nat.reduceAdd, Nat.reduceMul, Int.reduceToNat, Nat.reduceLeDiff, reduceCtorEq, t5, t15, t16, t17, t49, t50, t51]
  refine b_lite (fun hc => ?_) (fun hc => ?_)
  · obtain ⟨⟨s, n⟩, ha⟩ : ∃ a, c[k]? = some a := ⟨_, List.getElem?_eq_getElem (by omega)⟩
    have hok : altOk (s, n) := hv.2.2.1 _ (List.mem_of_getElem? ha)
    have hok1 : s.length ≤ 3 := hok.1
    have hok3 : 0 ≤ n := hok.2.2.1
    have hok4 : n ≤ 1000 := hok.2.2.2
    have hc8 : c.length ≤ 8 := hv.2.1
    have hpre := preC_len hv k
    obtain ⟨b2, o2, hb2, hix, _, _, hN⟩ := (hx.mono hle).at ha
    have hbl1 := hbl.push (.cells [.str s, .int .i64 n] 57)
    have hle1 : Hle h (h'.push (.cells [.str s, .int .i64 n] 57)) := hle.push _
    have hA : ∀ c, (c < h.next ∨ c = h'.next) → c < (h'.push (.cells [.str s, .int .i64 n] 57)).next := fun c hc => by have := hle.next; show c < h'.next + 1; omega
    have hw0 : ldA (h'.push (.cells [.str s, .int .i64 n] 57)) h'.next 0 = some (.str s) := by rw [ldA_push_new]; rfl
    have hw1 : ldA (h'.push (.cells [.str s, .int .i64 n] 57)) h'.next 1 = some (.int .i64 n) := by rw [ldA_push_new]; rfl
    have hnx : (h'.push (.cells [.str s, .int .i64 n] 57)).next = h'.next + 1 := rfl
    by_cases hk : (k : Int) = 0
    all_goals
      simp only [go_sem, Nat.reduceEqDiff, Int.reduceLT, Int.reduceLE, Int.reduceEq, Nat.reduceLT, Nat.reduceAdd, Nat.reduceMul, Int.reduceToNat, Nat.reduceLeDiff, reduceCtorEq, t5, t15, t16, t17, t49, t50, t51, hix, hN, hk]
      generalize h'.push (.cells [.str s, .int .i64 n] 57) = h3 at hbl1 hle1 hA hw0 hw1 hnx ⊢
      refine ⟨by decide, ?_⟩
      first
        | refine (writeByte_c _ _ b _ 40 hbl1 hA (by simp; omega)).mono ?_
        | refine (writeByte_c _ _ b _ 124 hbl1 hA (by simp; omega)).mono ?_
      rintro r h4 ⟨hbl4, hn4, hg4⟩
      have hw04 : ldA h4 h'.next 0 = some (.str s) := (ldA_get (hg4 _ (.inr rfl)) 0).trans hw0
      have hw14 : ldA h4 h'.next 1 = some (.int .i64 n) := (ldA_get (hg4 _ (.inr rfl)) 1).trans hw1
      simp only [go_sem, Nat.reduceEqDiff, Int.reduceLT, Int.reduceLE, Int.reduceEq, Nat.reduceLT, Nat.reduceAdd, Nat.reduceMul, Int.reduceToNat, Nat.reduceLeDiff, reduceCtorEq, t5, t15, t16, t17, t49, t50, t51, hw04, hk]
      refine ⟨by decide, ?_⟩
      refine (writeString_c _ _ b _ s hbl4 (fun c hc => by have := hA c hc; omega) (by simp; omega)).mono ?_
      rintro r h5 ⟨hbl5, hn5, hg5⟩
      have hw15 : ldA h5 h'.next 1 = some (.int .i64 n) := (ldA_get (hg5 _ (.inr rfl)) 1).trans hw14
      have hle5 : Hle h h5 := ⟨by have := hle1.next; omega, fun c hc => by rw [hg5 c (.inl hc), hg4 c (.inl hc)]; exact hle1.get c hc⟩
      by_cases hn0 : n = 0
      · simp only [go_sem, Nat.reduceEqDiff, Int.reduceLT, Int.reduceLE, Int.reduceEq, Nat.reduceLT, Nat.reduceAdd, Nat.reduceMul, Int.reduceToNat, Nat.reduceLeDiff, reduceCtorEq, t5, t15, t16, t17, t49, t50, t51, hw15, hn0, hk]
        refine ⟨d - 1, by omega, hle5, k + 1, ?_, by omega, ?_⟩
        · congr 2
          rw [wrap_i64 (by omega) (by omega)]
          omega
        · rw [preC_snoc ha]
          have e : altT (s, n) = s := by unfold altT; rw [if_pos hn0]
          rw [e]
          have hkk : k = 0 ∨ ¬ k = 0 := Decidable.em _
          have := hbl5.sub (A' := fun c => c < h.next) fun c hc => .inl hc
          rcases hkk with hkk | hkk
          · first | (exfalso; omega) | simpa [hkk] using this
          · first | (exfalso; omega) | simpa [hkk] using this
      · have hi := itoaL_len (n := n) (by omega) (by omega)
        have hcat : [58].length + (itoaL n).length ≤ 1073741824 := by simp; omega
        simp only [go_sem, Nat.reduceEqDiff, Int.reduceLT, Int.reduceLE, Int.reduceEq, Nat.reduceLT, Nat.reduceAdd, Nat.reduceMul, Int.reduceToNat, Nat.reduceLeDiff, reduceCtorEq, t5, t15, t16, t17, t49, t50, t51, hw15, hn0, hk]
        refine ⟨by decide, ?_⟩
        refine (itoa_c n _ (by omega) (by omega)).mono ?_
        rintro r h6 ⟨rfl, rfl⟩
        simp only [go_sem, Nat.reduceEqDiff, Int.reduceLT, Int.reduceLE, Int.reduceEq, Nat.reduceLT, Nat.reduceAdd, Nat.reduceMul, Int.reduceToNat, Nat.reduceLeDiff, reduceCtorEq, t5, t15, t16, t17, t49, t50, t51, bin_addS hcat, hk]
        refine ⟨by decide, ?_⟩
        refine (writeString_c _ _ b _ ([58] ++ itoaL n) hbl5 (fun c hc => by have := hA c hc; omega) (by simp; omega)).mono ?_
        rintro r h7 ⟨hbl7, hn7, hg7⟩
        simp only [go_sem, Nat.reduceEqDiff, Int.reduceLT, Int.reduceLE, Int.reduceEq, Nat.reduceLT, Nat.reduceAdd, Nat.reduceMul, Int.reduceToNat, Nat.reduceLeDiff, reduceCtorEq, t5, t15, t16, t17, t49, t50, t51, hk]
        refine ⟨d - 1, by omega, ⟨by have := hle5.next; omega, fun c hc => by rw [hg7 c (.inl hc)]; exact hle5.get c hc⟩, k + 1, ?_, by omega, ?_⟩
        · congr 2
          rw [wrap_i64 (by omega) (by omega)]
          omega
        · rw [preC_snoc ha]
          have e : altT (s, n) = s ++ 58 :: itoaL n := by unfold altT; rw [if_neg hn0]
          rw [e]
          have hkk : k = 0 ∨ ¬ k = 0 := Decidable.em _
          have := hbl7.sub (A' := fun c => c < h.next) fun c hc => .inl hc
          rcases hkk with hkk | hkk
          · first | (exfalso; omega) | simpa [hkk] using this
          · first | (exfalso; omega) | simpa [hkk] using this
  · simp only [go_sem, Nat.reduceEqDiff, Int.reduceLT, Int.reduceLE, Int.reduceEq, Nat.reduceLT, Nat.reduceAdd, Nat.reduceMul, Int.reduceToNat, Nat.reduceLeDiff, reduceCtorEq, t5, t15, t16, t17, t49, t50, t51]
    have hk : k = c.length := by omega
    subst hk
    exact hq _ _ (by simp [T.get_set, t5]) (by simp [T.get_set, t15]) (by simp [T.get_set, t16]) (by simp [T.get_set, t17]) hle hbl
set_option maxHeartbeats 1000000 in
theorem print_c (cells : List (List Alt)) (v : AVal) (h : AHeap) (H : CellsA h v cells) : Ec E2 11 [v] h fun r h' => r = printR cells ∧ Hle h h' := by
  refine Ec.of_wpb (prim2_none (by decide)) code11 ?_
  unfold c11
  simp only [go_sem, Nat.reduceEqDiff, Int.reduceLT, Int.reduceLE, Int.reduceEq, Nat.reduceLT, Nat.reduceAdd, Nat.reduceMul, Int.reduceToNat, Nat.reduceLeDiff, reduceCtorEq]
  refine ⟨by decide, ?_⟩
  refine (checkCells_c cells v h H).mono ?_
  rintro r h1 ⟨rfl, hle1⟩
  by_cases hE : ¬ checkE cells = 0
  · simp only [go_sem, Nat.reduceEqDiff, Int.reduceLT, Int.reduceLE, Int.reduceEq, Nat.reduceLT, Nat.reduceAdd, Nat.reduceMul, Int.reduceToNat, Nat.reduceLeDiff, reduceCtorEq, hE]
    unfold printR
    rw [if_neg hE]
    exact ⟨rfl, hle1⟩
  have hE : checkE cells = 0 := Decidable.not_not.1 hE
  obtain ⟨hl32, hallV⟩ := checkE_ok hE
  have H1 := H.mono hle1
  simp only [go_sem, Nat.reduceEqDiff, Int.reduceLT, Int.reduceLE, Int.reduceEq, Nat.reduceLT, Nat.reduceAdd, Nat.reduceMul, Int.reduceToNat, Nat.reduceLeDiff, reduceCtorEq, hE, H.len]
  have hb0 : Bld (fun c => c < h.next) (h1.push (.cells [.nilptr, .nilslice] 52)) h1.next [] := Bld.new (by have := hle1.next; omega)
  have hle2 : Hle h (h1.push (.cells [.nilptr, .nilslice] 52)) := hle1.push _
  generalize h1.push (.cells [.nilptr, .nilslice] 52) = h2 at hb0 hle2 ⊢
  generalize h1.next = b at hb0 ⊢
  refine b_loop (fun d fr h' => Hle h h' ∧ fr.get 5 = some (.ptr b 0) ∧ fr.get 15 = some v ∧ fr.get 16 = some (.int .i64 (cells.length : Int)) ∧ ∃ i : Nat, fr.get 17 = some (.int .i64 (i : Int)) ∧ d + i = cells.length ∧ Bld (fun c => c < h.next) h' b (printS (cells.take i))) cells.length ?_ ?_
  · exact ⟨hle2, by simp [T.get_set], by simp [T.get_set], by simp [T.get_set], 0, by simp [T.get_set], by omega, hb0⟩
  rintro d fr h' ⟨hle, t5, t15, t16, i, t17, hd, hbl⟩
  unfold c11_l1
  simp only [go_sem, Nat.reduceEqDiff, Int.reduceLT, Int.reduceLE, Int.reduceEq, Nat.reduceLT, Nat.reduceAdd, Nat.reduceMul, Int.reduceToNat, Nat.reduceLeDiff, reduceCtorEq, t5, t15, t16, t17]
  refine b_lite (fun hc => ?_) (fun hc => ?_)
  · obtain ⟨c, hci⟩ : ∃ c, cells[i]? = some c := ⟨_, List.getElem?_eq_getElem (by omega)⟩
    have hv : validP c := hallV c (List.mem_of_getElem? hci)
    obtain ⟨bb, o, x, hb, hix, hl0, hlN0, hx, hxf⟩ := H.at hci
    have hlN : ldN h' bb o 1 = some [x] := (hle.ldN hb o 1).trans hlN0
    have hplen := printS_take_len hallV hl32 i
    have hfin := hbl.push (.cells [x] 55)
    have hleB : Hle h (h'.push (.cells [x] 55)) := hle.push _
    have hbox : ldA (h'.push (.cells [x] 55)) h'.next 0 = some x := by rw [ldA_push_new]; rfl
    have hA1 : ∀ c, c < h.next ∨ c = h'.next → c < (h'.push (.cells [x] 55)).next := fun c hc => by have := hle.next; show c < h'.next + 1; omega
    by_cases hone : isOne c = true
    · obtain ⟨⟨s, n⟩, rfl, hs1, hn0⟩ := isOne_inv hone
      have hs1 : s.length = 1 := hs1
      have hn0 : n = 0 := hn0
      subst hn0
      obtain ⟨b2, o2, hb2, hix2, hm0, hm1, _⟩ := (hx.mono hleB).at (j := 0) (a := (s, 0)) rfl
      have hix20 : ∀ k h' K, ixSlV 2 x (.int k 0) h' K = K (.ptr b2 o2) h' := fun k h' K => hix2 k 0 h' K rfl
      have hs1' : ((s.length : Nat) : Int) = 1 := by omega
      simp only [go_sem, Nat.reduceEqDiff, Int.reduceLT, Int.reduceLE, Int.reduceEq, Nat.reduceLT, Nat.reduceAdd, Nat.reduceMul, Int.reduceToNat, Nat.reduceLeDiff, reduceCtorEq, t5, t15, t16, t17, hix, hlN, hbox, hx.len, hix20, hm0, hm1, hs1', Int.natCast_one]
      refine ⟨by decide, ?_⟩
      refine (writeString_c _ _ b _ s hfin hA1 (by omega)).mono ?_
      rintro r h3 ⟨hbl3, hn3, hg3⟩
      simp only [go_sem, Nat.reduceEqDiff, Int.reduceLT, Int.reduceLE, Int.reduceEq, Nat.reduceLT, Nat.reduceAdd, Nat.reduceMul, Int.reduceToNat, Nat.reduceLeDiff, reduceCtorEq, t5, t15, t16, t17]
      refine ⟨d - 1, by omega, ⟨by have := hleB.next; omega, fun c hc => by rw [hg3 c (.inl hc)]; exact hleB.get c hc⟩, i + 1, ?_, by omega, ?_⟩
      · rw [wrap_i64 (by omega) (by omega)]; rfl
      · rw [printS_snoc hci]
        have : printC [(s, 0)] = s := by unfold printC; rw [if_pos hone]; simp
        rw [this]
        exact hbl3.sub fun c hc => .inl hc
    · have hpC : printC c = preC c c.length ++ [41] := by
        unfold printC preC
        rw [if_neg hone, if_neg (by have := hv.1; omega), List.take_length]
        rfl
      have hgo : ∀ (fr1 : Fr) (Qn Qr : Fr → AHeap → Prop) (Qx : Nat → Fr → AHeap → Prop), fr1.get 5 = some (.ptr b 0) → fr1.get 15 = some v → fr1.get 16 = some (.int .i64 (cells.length : Int)) → fr1.get 17 = some (.int .i64 (i : Int)) → fr1.get 49 = some x → fr1.get 50 = some (.int .i64 (c.length : Int)) → fr1.get 51 = some (.int .i64 0) →
          (∀ fr h3, fr.get 5 = some (.ptr b 0) → fr.get 15 = some v → fr.get 16 = some (.int .i64 (cells.length : Int)) → fr.get 17 = some (.int .i64 (i : Int)) → Hle h h3 → Bld (fun c => c < h.next) h3 b (printS (cells.take i) ++ preC c c.length) → Qx 2 fr h3) → wp E2 (.loop c11_l0) fr1 (h'.push (.cells [x] 55)) Qn Qx Qr :=
        fun fr1 Qn Qr Qx a5 a15 a16 a17 a49 a50 a51 hq => print_inner c hv x v h _ 0 b _ fr1 i cells.length hx hleB (hfin.sub fun c hc => .inl hc) hplen a5 a15 a16 a17 a49 a50 a51 hq
      have hpl8 : (preC c c.length).length ≤ 210 := preC_len hv c.length
      by_cases q1 : (c.length : Int) = 1
      · obtain ⟨⟨s, n⟩, rfl⟩ : ∃ a, c = [a] := by
          match c, q1 with
          | [a], _ => exact ⟨a, rfl⟩
          | [], q1 => simp at q1
          | _ :: _ :: _, q1 => simp at q1; omega
        obtain ⟨b2, o2, hb2, hix2, hm0, hm1, _⟩ := (hx.mono hleB).at (j := 0) (a := (s, n)) rfl
        have hix20 : ∀ k h' K, ixSlV 2 x (.int k 0) h' K = K (.ptr b2 o2) h' := fun k h' K => hix2 k 0 h' K rfl
        by_cases q2 : (s.length : Int) = 1
        · have q3 : ¬ n = 0 := by
            intro e
            apply hone
            unfold isOne
            simp [e]; omega
          simp only [go_sem, Nat.reduceEqDiff, Int.reduceLT, Int.reduceLE, Int.reduceEq, Nat.reduceLT, Nat.reduceAdd, Nat.reduceMul, Int.reduceToNat, Nat.reduceLeDiff, reduceCtorEq, t5, t15, t16, t17, hix, hlN, hbox, hx.len, hix20, hm0, hm1, q1, q2, q3, Int.natCast_one]
          refine hgo _ _ _ _ (by simp [T.get_set, t5]) (by simp [T.get_set, t15]) (by simp [T.get_set, t16]) (by simp [T.get_set, t17]) (by simp [T.get_set]) (by simp [T.get_set]) (by simp [T.get_set]) ?_
          intro fr2 h3 u5 u15 u16 u17 hle3 hbl3
          simp only [go_sem, Nat.reduceEqDiff, Int.reduceLT, Int.reduceLE, Int.reduceEq, Nat.reduceLT, Nat.reduceAdd, Nat.reduceMul, Int.reduceToNat, Nat.reduceLeDiff, reduceCtorEq, u5, u15, u16, u17]
          refine ⟨by decide, ?_⟩
          refine (writeByte_c _ _ b _ 41 hbl3 (fun c hc => by have := hle3.next; omega) (by simp only [List.length_append] at *; omega)).mono ?_
          rintro r h4 ⟨hbl4, hn4, hg4⟩
          simp only [go_sem, Nat.reduceEqDiff, Int.reduceLT, Int.reduceLE, Int.reduceEq, Nat.reduceLT, Nat.reduceAdd, Nat.reduceMul, Int.reduceToNat, Nat.reduceLeDiff, reduceCtorEq, u5, u15, u16, u17]
          refine ⟨d - 1, by omega, ⟨by have := hle3.next; omega, fun c hc => by rw [hg4 c hc]; exact hle3.get c hc⟩, i + 1, ?_, by omega, ?_⟩
          · rw [wrap_i64 (by omega) (by omega)]; rfl
          · rw [printS_snoc hci, hpC, ← List.append_assoc]
            exact hbl4
        · simp only [go_sem, Nat.reduceEqDiff, Int.reduceLT, Int.reduceLE, Int.reduceEq, Nat.reduceLT, Nat.reduceAdd, Nat.reduceMul, Int.reduceToNat, Nat.reduceLeDiff, reduceCtorEq, t5, t15, t16, t17, hix, hlN, hbox, hx.len, hix20, hm0, hm1, q1, q2, Int.natCast_one]
          refine hgo _ _ _ _ (by simp [T.get_set, t5]) (by simp [T.get_set, t15]) (by simp [T.get_set, t16]) (by simp [T.get_set, t17]) (by simp [T.get_set]) (by simp [T.get_set]) (by simp [T.get_set]) ?_
          intro fr2 h3 u5 u15 u16 u17 hle3 hbl3
          simp only [go_sem, Nat.reduceEqDiff, Int.reduceLT, Int.reduceLE, Int.reduceEq, Nat.reduceLT, Nat.reduceAdd, Nat.reduceMul, Int.reduceToNat, Nat.reduceLeDiff, reduceCtorEq, u5, u15, u16, u17]
          refine ⟨by decide, ?_⟩
          refine (writeByte_c _ _ b _ 41 hbl3 (fun c hc => by have := hle3.next; omega) (by simp only [List.length_append] at *; omega)).mono ?_
          rintro r h4 ⟨hbl4, hn4, hg4⟩
          simp only [go_sem, Nat.reduceEqDiff, Int.reduceLT, Int.reduceLE, Int.reduceEq, Nat.reduceLT, Nat.reduceAdd, Nat.reduceMul, Int.reduceToNat, Nat.reduceLeDiff, reduceCtorEq, u5, u15, u16, u17]
          refine ⟨d - 1, by omega, ⟨by have := hle3.next; omega, fun c hc => by rw [hg4 c hc]; exact hle3.get c hc⟩, i + 1, ?_, by omega, ?_⟩
          · rw [wrap_i64 (by omega) (by omega)]; rfl
          · rw [printS_snoc hci, hpC, ← List.append_assoc]
            exact hbl4
      · simp only [go_sem, Nat.reduceEqDiff, Int.reduceLT, Int.reduceLE, Int.reduceEq, Nat.reduceLT, Nat.reduceAdd, Nat.reduceMul, Int.reduceToNat, Nat.reduceLeDiff, reduceCtorEq, t5, t15, t16, t17, hix, hlN, hbox, hx.len, q1]
        refine hgo _ _ _ _ (by simp [T.get_set, t5]) (by simp [T.get_set, t15]) (by simp [T.get_set, t16]) (by simp [T.get_set, t17]) (by simp [T.get_set]) (by simp [T.get_set]) (by simp [T.get_set]) ?_
        intro fr2 h3 u5 u15 u16 u17 hle3 hbl3
        simp only [go_sem, Nat.reduceEqDiff, Int.reduceLT, Int.reduceLE, Int.reduceEq, Nat.reduceLT, Nat.reduceAdd, Nat.reduceMul, Int.reduceToNat, Nat.reduceLeDiff, reduceCtorEq, u5, u15, u16, u17]
        refine ⟨by decide, ?_⟩
        refine (writeByte_c _ _ b _ 41 hbl3 (fun c hc => by have := hle3.next; omega) (by simp only [List.length_append] at *; omega)).mono ?_
        rintro r h4 ⟨hbl4, hn4, hg4⟩
        simp only [go_sem, Nat.reduceEqDiff, Int.reduceLT, Int.reduceLE, Int.reduceEq, Nat.reduceLT, Nat.reduceAdd, Nat.reduceMul, Int.reduceToNat, Nat.reduceLeDiff, reduceCtorEq, u5, u15, u16, u17]
        refine ⟨d - 1, by omega, ⟨by have := hle3.next; omega, fun c hc => by rw [hg4 c hc]; exact hle3.get c hc⟩, i + 1, ?_, by omega, ?_⟩
        · rw [wrap_i64 (by omega) (by omega)]; rfl
        · rw [printS_snoc hci, hpC, ← List.append_assoc]
          exact hbl4
  · simp only [go_sem, Nat.reduceEqDiff, Int.reduceLT, Int.reduceLE, Int.reduceEq, Nat.reduceLT, Nat.reduceAdd, Nat.reduceMul, Int.reduceToNat, Nat.reduceLeDiff, reduceCtorEq, t5, t15, t16, t17]
    have hi : i = cells.length := by omega
    rw [hi, List.take_length] at hbl
    have hpl := printS_take_len hallV hl32 i
    rw [hi, List.take_length] at hpl
    refine ⟨by decide, ?_⟩
    refine (string_c _ _ b _ hbl (printS_byte hallV) (by omega)).mono ?_
    rintro r h3 ⟨rfl, hn3, hg3⟩
    simp only [go_sem, Nat.reduceEqDiff, Int.reduceLT, Int.reduceLE, Int.reduceEq, Nat.reduceLT, Nat.reduceAdd, Nat.reduceMul, Int.reduceToNat, Nat.reduceLeDiff, reduceCtorEq]
    unfold printR
    rw [if_pos hE, hE]
    exact ⟨rfl, by have := hle.next; omega, fun c hc => by rw [hg3 c hc]; exact hle.get c hc⟩
end
end Go.AX
namespace Go.AX
open Go Go.Proofs
noncomputable section
set_option linter.unusedSimpArgs false
set_option linter.unusedVariables false
attribute [local go_sem] b_seq wp_skip wp_exit wp_ret wp_region b_block wops_nil b_ops b_opsg b_cond condV_lite wo_mv b_bin wo_call callV_func wo_pick b_box wo_load1 wo_loadN wo_store wo_nilCheck wo_not wo_lenStr' wo_lenSl wo_ixStr' wo_ixSl wo_fAddr wo_part1 wo_partN wo_extract wo_cInt wo_cStr wo_mkMap wo_mkIface wo_mkFunc wo_lookup pickV_bool ifT_true ifT_false b_loadV b_loadNV b_storeV nilV_ptr nilV_func nilV_iface notV_bool lenStrV_str lenSlV_nil lenSlV_slice b_ixStrV ixSlV_slice fAddrV_ptr b_part1V partNV_agg b_extractV convV_int strV_str evC_tm evC_cn T.get_set putA_some putA_none onO_some evCs_nil evCs_cons appL_nil appL_cons guardOk_true guardOk_false cellsV_bool cellsV_int cellsV_str cellsV_nilptr cellsV_ptr cellsV_nilslice cellsV_slice cellsV_nilmap cellsV_map cellsV_func cellsV_nilfunc cellsV_iface cellsV_niliface cellsV_agg bin_lss bin_gtr bin_leq bin_geq bin_eql bin_neq bin_add bin_sub bin_eqlS bin_neqS mkFrame_nil mkFrame_cons resA_one resA_two resA_three over_0 over_1 over_2 over_3 over_4 over_5 over0_nil over0_cons Option.getD_some if_true if_false AHeap.next_push AVal.bool.injEq decide_eq_true_eq decide_eq_false_iff_not Bool.not_eq_true' Bool.not_eq_false' Bool.not_eq_true decide_true decide_false Bool.not_true Bool.not_false Int.toNat_natCast Int.natCast_nonneg true_and and_true wo_mapPut wp_drawn' wsts_nil b_pure b_read b_new b_wr wor_none b_org rer_nil rer_load1 rer_loadN wo_append AHeap.next_skip AHeap.next_put' AHeap.mk_push_t AHeap.mk_eta AHeap.mk_skip ldA_skip ldN_skip Nat.add_zero Nat.zero_add b_lite_true b_lite_false eq_self_iff_true not_true_eq_false not_false_eq_true bx_k bx_q bx_x bx_1 undefA_bool putAt_push List.length_cons List.length_nil Nat.le_refl ldA_push_new ldN_push_new List.getElem?_cons_zero List.getElem?_cons_succ List.drop_zero List.drop_succ_cons List.take_succ_cons List.take_zero b_build b_buildSlice evParts_nil evParts_cons b_fillA_nil b_fillA nbeq nble natadd natmul lenL_eq repL_1 repL_2 repL_3 wo_sliceData sdV_nil sdV_slice wo_unsafeStr usV_nil wo_slStr slStrV_str evCo_none evCo_some boundA_none Bool.and_true Bool.true_and wo_minmax2' mm2V_int
theorem joinA_take_len {c : List Alt} (hv : validP c) (k : Nat) : (joinA (c.take k)).length ≤ 208 := by
  have := joinA_len (c := c.take k) fun a ha => hv.2.2.1 a (List.mem_of_mem_take ha)
  have := hv.2.1
  have : (c.take k).length ≤ c.length := by simp; omega
  omega
set_option maxHeartbeats 2000000 in
theorem printRef_inner {Qn Qr : Fr → AHeap → Prop} {Qx : Nat → Fr → AHeap → Prop} (c : List Alt) (hv : validP c) (x v : AVal) (h h0 : AHeap) (bs : List Nat) (fr : Fr) (i : Int) (hx : AltsA h x c) (hle : Hle h h0) (hlen : bs.length ≤ 6720)
    (t0 : fr.get 0 = some v) (t5 : fr.get 5 = some (.str (bs ++ [40]))) (t6 : fr.get 6 = some (.int .i64 i)) (t7 : fr.get 7 = some x) (t8 : fr.get 8 = some (.int .i64 0))
    (hq : ∀ fr h', fr.get 0 = some v → fr.get 5 = some (.str (bs ++ [40] ++ joinA c)) → fr.get 6 = some (.int .i64 i) → Hle h h' → Qx 2 fr h') : wp E2 (.loop c12_l0) fr h0 Qn Qx Qr := by
  refine b_loop (fun d fr h' => Hle h h' ∧ fr.get 0 = some v ∧ fr.get 6 = some (.int .i64 i) ∧ fr.get 7 = some x ∧ ∃ k : Nat, fr.get 8 = some (.int .i64 (k : Int)) ∧ d + k = c.length ∧ fr.get 5 = some (.str (bs ++ [40] ++ joinA (c.take k)))) c.length ?_ ?_
  · exact ⟨hle, t0, t6, t7, 0, t8, by omega, by simpa [joinA] using t5⟩
  clear hle t0 t5 t6 t7 t8
  rintro d fr h' ⟨hle, t0, t6, t7, k, t8, hd, t5⟩
  unfold c12_l0
  simp only [go_sem, Nat.reduceEqDiff, Int.reduceLT, Int.reduceLE, Int.reduceEq, Nat.reduceLT, Nat.reduceAdd, Nat.reduceMul, Int.reduceToNat, Nat.reduceLeDiff, reduceCtorEq, t0, t5, t6, t7, t8, hx.len]
  refine b_lite (fun hc => ?_) (fun hc => ?_)
  · obtain ⟨⟨s, n⟩, ha⟩ : ∃ a, c[k]? = some a := ⟨_, List.getElem?_eq_getElem (by omega)⟩
    have hok : altOk (s, n) := hv.2.2.1 _ (List.mem_of_getElem? ha)
    have hc8 : c.length ≤ 8 := hv.2.1
    have hat := altT_len hok
    have hpre := joinA_take_len hv k
    obtain ⟨b2, o2, hb2, hix, _, _, hN⟩ := (hx.mono hle).at ha
    have hj := joinA_snoc ha
    by_cases hk : (0 : Int) < (k : Int)
    · have hk0 : ¬ k = 0 := by omega
      rw [if_neg hk0] at hj
      have hb1 : (bs ++ [40] ++ joinA (c.take k)).length + [124].length ≤ 1073741824 := by simp only [List.length_append, List.length_cons, List.length_nil]; omega
      have hb2 : (bs ++ [40] ++ joinA (c.take k) ++ [124]).length + (altT (s, n)).length ≤ 1073741824 := by simp only [List.length_append, List.length_cons, List.length_nil]; omega
      simp only [go_sem, Nat.reduceEqDiff, Int.reduceLT, Int.reduceLE, Int.reduceEq, Nat.reduceLT, Nat.reduceAdd, Nat.reduceMul, Int.reduceToNat, Nat.reduceLeDiff, reduceCtorEq, t0, t5, t6, t7, t8, hk, bin_addS hb1, hix, hN]
      refine ⟨by decide, ?_⟩
      refine (altText_c (s, n) _ hok).mono ?_
      rintro r h4 ⟨rfl, hle4⟩
      simp only [go_sem, Nat.reduceEqDiff, Int.reduceLT, Int.reduceLE, Int.reduceEq, Nat.reduceLT, Nat.reduceAdd, Nat.reduceMul, Int.reduceToNat, Nat.reduceLeDiff, reduceCtorEq, t0, t5, t6, t7, t8, bin_addS hb2]
      refine ⟨d - 1, by omega, hle.trans hle4, k + 1, ?_, by omega, ?_⟩
      · rw [wrap_i64 (by omega) (by omega)]; rfl
      · rw [hj]; simp
    · have hk0 : k = 0 := by omega
      subst hk0
      rw [if_pos rfl] at hj
      have hb2 : (bs ++ [40] ++ joinA []).length + (altT (s, n)).length ≤ 1073741824 := by simp only [List.length_append, List.length_cons, List.length_nil, joinA]; omega
      simp only [go_sem, Nat.reduceEqDiff, Int.reduceLT, Int.reduceLE, Int.reduceEq, Nat.reduceLT, Nat.reduceAdd, Nat.reduceMul, Int.reduceToNat, Nat.reduceLeDiff, reduceCtorEq, t0, t5, t6, t7, t8, hk, hix, hN]
      refine ⟨by decide, ?_⟩
      refine (altText_c (s, n) _ hok).mono ?_
      rintro r h4 ⟨rfl, hle4⟩
      simp only [go_sem, Nat.reduceEqDiff, Int.reduceLT, Int.reduceLE, Int.reduceEq, Nat.reduceLT, Nat.reduceAdd, Nat.reduceMul, Int.reduceToNat, Nat.reduceLeDiff, reduceCtorEq, t0, t5, t6, t7, t8, bin_addS hb2]
      refine ⟨d - 1, by omega, hle.trans hle4, 0 + 1, ?_, by omega, ?_⟩
      · rfl
      · rw [hj]; simp [joinA]
  · simp only [go_sem, Nat.reduceEqDiff, Int.reduceLT, Int.reduceLE, Int.reduceEq, Nat.reduceLT, Nat.reduceAdd, Nat.reduceMul, Int.reduceToNat, Nat.reduceLeDiff, reduceCtorEq, t0, t5, t6, t7, t8]
    have hk : k = c.length := by omega
    rw [hk, List.take_length] at t5
    exact hq _ _ (by simp [T.get_set, t0]) (by simp [T.get_set, t5]) (by simp [T.get_set, t6]) hle
set_option maxHeartbeats 1000000 in
theorem printRef_c (cells : List (List Alt)) (v : AVal) (h : AHeap) (H : CellsA h v cells) : Ec E2 12 [v] h fun r h' => r = printR cells ∧ Hle h h' := by
  refine Ec.of_wpb (prim2_none (by decide)) code12 ?_
  unfold c12
  simp only [go_sem, Nat.reduceEqDiff, Int.reduceLT, Int.reduceLE, Int.reduceEq, Nat.reduceLT, Nat.reduceAdd, Nat.reduceMul, Int.reduceToNat, Nat.reduceLeDiff, reduceCtorEq]
  refine ⟨by decide, ?_⟩
  refine (checkCellsR_c cells v h H).mono ?_
  rintro r h1 ⟨rfl, hle1⟩
  by_cases hE : ¬ checkE cells = 0
  · simp only [go_sem, Nat.reduceEqDiff, Int.reduceLT, Int.reduceLE, Int.reduceEq, Nat.reduceLT, Nat.reduceAdd, Nat.reduceMul, Int.reduceToNat, Nat.reduceLeDiff, reduceCtorEq, hE]
    unfold printR
    rw [if_neg hE]
    exact ⟨rfl, hle1⟩
  have hE : checkE cells = 0 := Decidable.not_not.1 hE
  obtain ⟨hl32, hallV⟩ := checkE_ok hE
  simp only [go_sem, Nat.reduceEqDiff, Int.reduceLT, Int.reduceLE, Int.reduceEq, Nat.reduceLT, Nat.reduceAdd, Nat.reduceMul, Int.reduceToNat, Nat.reduceLeDiff, reduceCtorEq, hE]
  refine b_loop (fun d fr h' => Hle h h' ∧ fr.get 0 = some v ∧ ∃ i : Nat, fr.get 6 = some (.int .i64 (i : Int)) ∧ d + i = cells.length ∧ fr.get 5 = some (.str (printS (cells.take i)))) cells.length ?_ ?_
  · exact ⟨hle1, by simp [T.get_set], 0, by simp [T.get_set], by omega, by simp [T.get_set, printS]⟩
  rintro d fr h' ⟨hle, t0, i, t6, hd, t5⟩
  unfold c12_l1
  simp only [go_sem, Nat.reduceEqDiff, Int.reduceLT, Int.reduceLE, Int.reduceEq, Nat.reduceLT, Nat.reduceAdd, Nat.reduceMul, Int.reduceToNat, Nat.reduceLeDiff, reduceCtorEq, t0, t5, t6, H.len]
  refine b_lite (fun hc => ?_) (fun hc => ?_)
  · obtain ⟨c, hci⟩ : ∃ c, cells[i]? = some c := ⟨_, List.getElem?_eq_getElem (by omega)⟩
    have hv : validP c := hallV c (List.mem_of_getElem? hci)
    obtain ⟨bb, o, x, hb, hix, hl00, hlN0, hx, hxf⟩ := H.at hci
    have hl0 : ldA h' bb o = some x := (hle.ldA hb o).trans hl00
    have hplen := printS_take_len hallV hl32 i
    have hsn := printS_snoc hci
    by_cases hone : isOne c = true
    · obtain ⟨⟨s, n⟩, rfl, hs1, hn0⟩ := isOne_inv hone
      have hs1 : s.length = 1 := hs1
      have hn0 : n = 0 := hn0
      subst hn0
      obtain ⟨b2, o2, hb2, hix2, hm0, hm1, _⟩ := (hx.mono hle).at (j := 0) (a := (s, 0)) rfl
      have hix20 : ∀ k h' K, ixSlV 2 x (.int k 0) h' K = K (.ptr b2 o2) h' := fun k h' K => hix2 k 0 h' K rfl
      have hs1' : ((s.length : Nat) : Int) = 1 := by omega
      have hcat : (printS (cells.take i)).length + s.length ≤ 1073741824 := by omega
      simp only [go_sem, Nat.reduceEqDiff, Int.reduceLT, Int.reduceLE, Int.reduceEq, Nat.reduceLT, Nat.reduceAdd, Nat.reduceMul, Int.reduceToNat, Nat.reduceLeDiff, reduceCtorEq, t0, t5, t6, hix, hl0, hx.len, hix20, hm0, hm1, hs1', Int.natCast_one, bin_addS hcat]
      refine ⟨d - 1, by omega, hle, i + 1, ?_, by omega, ?_⟩
      · rw [wrap_i64 (by omega) (by omega)]; rfl
      · rw [hsn]
        have : printC [(s, 0)] = s := by unfold printC; rw [if_pos hone]; simp
        rw [this]
    · have hpC : printC c = [40] ++ joinA c ++ [41] := by
        unfold printC
        rw [if_neg hone]
        simp
      have hjl := joinA_take_len hv c.length
      rw [List.take_length] at hjl
      have hcat : (printS (cells.take i)).length + [40].length ≤ 1073741824 := by simp only [List.length_append, List.length_cons, List.length_nil]; omega
      have hcat2 : (printS (cells.take i) ++ [40] ++ joinA c).length + [41].length ≤ 1073741824 := by simp only [List.length_append, List.length_cons, List.length_nil]; omega
      have hgo : ∀ (fr1 : Fr) (Qn Qr : Fr → AHeap → Prop) (Qx : Nat → Fr → AHeap → Prop), fr1.get 0 = some v → fr1.get 5 = some (.str (printS (cells.take i) ++ [40])) → fr1.get 6 = some (.int .i64 (i : Int)) → fr1.get 7 = some x → fr1.get 8 = some (.int .i64 0) →
          (∀ fr h3, fr.get 0 = some v → fr.get 5 = some (.str (printS (cells.take i) ++ [40] ++ joinA c)) → fr.get 6 = some (.int .i64 (i : Int)) → Hle h h3 → Qx 2 fr h3) → wp E2 (.loop c12_l0) fr1 h' Qn Qx Qr :=
        fun fr1 Qn Qr Qx a0 a5 a6 a7 a8 hq => printRef_inner c hv x v h h' _ fr1 i hx hle hplen a0 a5 a6 a7 a8 hq
      by_cases q1 : (c.length : Int) = 1
      · obtain ⟨⟨s, n⟩, rfl⟩ : ∃ a, c = [a] := by
          match c, q1 with
          | [a], _ => exact ⟨a, rfl⟩
          | [], q1 => simp at q1
          | _ :: _ :: _, q1 => simp at q1; omega
        obtain ⟨b2, o2, hb2, hix2, hm0, hm1, _⟩ := (hx.mono hle).at (j := 0) (a := (s, n)) rfl
        have hix20 : ∀ k h' K, ixSlV 2 x (.int k 0) h' K = K (.ptr b2 o2) h' := fun k h' K => hix2 k 0 h' K rfl
        by_cases q2 : (s.length : Int) = 1
        · have q3 : ¬ n = 0 := by
            intro e
            apply hone
            unfold isOne
            simp [e]; omega
          simp only [go_sem, Nat.reduceEqDiff, Int.reduceLT, Int.reduceLE, Int.reduceEq, Nat.reduceLT, Nat.reduceAdd, Nat.reduceMul, Int.reduceToNat, Nat.reduceLeDiff, reduceCtorEq, t0, t5, t6, hix, hl0, hx.len, hix20, hm0, hm1, q1, q2, q3, Int.natCast_one, bin_addS hcat]
          refine hgo _ _ _ _ (by simp [T.get_set, t0]) (by simp [T.get_set]) (by simp [T.get_set, t6]) (by simp [T.get_set]) (by simp [T.get_set]) ?_
          intro fr2 h3 u0 u5 u6 hle3
          simp only [go_sem, Nat.reduceEqDiff, Int.reduceLT, Int.reduceLE, Int.reduceEq, Nat.reduceLT, Nat.reduceAdd, Nat.reduceMul, Int.reduceToNat, Nat.reduceLeDiff, reduceCtorEq, u0, u5, u6, bin_addS hcat2]
          refine ⟨d - 1, by omega, hle3, i + 1, ?_, by omega, ?_⟩
          · rw [wrap_i64 (by omega) (by omega)]; rfl
          · rw [hsn, hpC]; simp
        · simp only [go_sem, Nat.reduceEqDiff, Int.reduceLT, Int.reduceLE, Int.reduceEq, Nat.reduceLT, Nat.reduceAdd, Nat.reduceMul, Int.reduceToNat, Nat.reduceLeDiff, reduceCtorEq, t0, t5, t6, hix, hl0, hx.len, hix20, hm0, hm1, q1, q2, Int.natCast_one, bin_addS hcat]
          refine hgo _ _ _ _ (by simp [T.get_set, t0]) (by simp [T.get_set]) (by simp [T.get_set, t6]) (by simp [T.get_set]) (by simp [T.get_set]) ?_
          intro fr2 h3 u0 u5 u6 hle3
          simp only [go_sem, Nat.reduceEqDiff, Int.reduceLT, Int.reduceLE, Int.reduceEq, Nat.reduceLT, Nat.reduceAdd, Nat.reduceMul, Int.reduceToNat, Nat.reduceLeDiff, reduceCtorEq, u0, u5, u6, bin_addS hcat2]
          refine ⟨d - 1, by omega, hle3, i + 1, ?_, by omega, ?_⟩
          · rw [wrap_i64 (by omega) (by omega)]; rfl
          · rw [hsn, hpC]; simp
      · simp only [go_sem, Nat.reduceEqDiff, Int.reduceLT, Int.reduceLE, Int.reduceEq, Nat.reduceLT, Nat.reduceAdd, Nat.reduceMul, Int.reduceToNat, Nat.reduceLeDiff, reduceCtorEq, t0, t5, t6, hix, hl0, hx.len, q1, bin_addS hcat]
        refine hgo _ _ _ _ (by simp [T.get_set, t0]) (by simp [T.get_set]) (by simp [T.get_set, t6]) (by simp [T.get_set]) (by simp [T.get_set]) ?_
        intro fr2 h3 u0 u5 u6 hle3
        simp only [go_sem, Nat.reduceEqDiff, Int.reduceLT, Int.reduceLE, Int.reduceEq, Nat.reduceLT, Nat.reduceAdd, Nat.reduceMul, Int.reduceToNat, Nat.reduceLeDiff, reduceCtorEq, u0, u5, u6, bin_addS hcat2]
        refine ⟨d - 1, by omega, hle3, i + 1, ?_, by omega, ?_⟩
        · rw [wrap_i64 (by omega) (by omega)]; rfl
        · rw [hsn, hpC]; simp
  · simp only [go_sem, Nat.reduceEqDiff, Int.reduceLT, Int.reduceLE, Int.reduceEq, Nat.reduceLT, Nat.reduceAdd, Nat.reduceMul, Int.reduceToNat, Nat.reduceLeDiff, reduceCtorEq, t0, t5, t6]
    have hi : i = cells.length := by omega
    unfold printR
    rw [if_pos hE, hE, hi, List.take_length]
    exact ⟨rfl, hle⟩
end
end Go.AX
namespace Go.AX
open Go Go.Proofs
noncomputable section
def c18_l0 : CCode :=
 (.seq
  (.seq
   (.region [⟨some 31, none, .mv (.t 6)⟩, ⟨some 32, none, .mv (.t 0)⟩, ⟨some 33, none, .mv (.t 5)⟩, ⟨some 34, none, .ixSl 1 (.t 32) (.t 33)⟩, ⟨some 35, none, .fAddr 0 (.t 34)⟩, ⟨some 36, none, .load1 (.t 35)⟩, ⟨some 37, none, .len .slice (.t 36)⟩, ⟨some 38, none, .bin .lss .none (.t 31) (.t 37)⟩])
   (.cond (.t 38)
    .skip
    (.exit 2)))
  (.seq
   (.block 3
    (.seq
     (.drawn 17 [⟨⟨some 41, none, .mv (.t 0)⟩, 0, .pure, []⟩, ⟨⟨some 42, none, .mv (.t 5)⟩, 1, .pure, []⟩, ⟨⟨some 43, none, .ixSl 1 (.t 41) (.t 42)⟩, 2, .pure, []⟩, ⟨⟨some 44, none, .fAddr 0 (.t 43)⟩, 3, .pure, []⟩, ⟨⟨some 45, none, .load1 (.t 44)⟩, 4, .read, []⟩, ⟨⟨some 46, none, .mv (.t 6)⟩, 5, .pure, []⟩, ⟨⟨some 47, none, .ixSl 2 (.t 45) (.t 46)⟩, 6, .pure, []⟩, ⟨⟨some 48, none, .loadN 2 (.t 47)⟩, 7, .read, []⟩, ⟨⟨some 49, none, .mv (.t 1)⟩, 8, .pure, []⟩, ⟨⟨some 50, none, .mv (.t 5)⟩, 9, .pure, []⟩, ⟨⟨some 51, none, .ixSl 1 (.t 49) (.t 50)⟩, 10, .pure, []⟩, ⟨⟨some 52, none, .fAddr 0 (.t 51)⟩, 11, .pure, []⟩, ⟨⟨some 53, none, .load1 (.t 52)⟩, 12, .read, []⟩, ⟨⟨some 54, none, .mv (.t 6)⟩, 13, .pure, []⟩, ⟨⟨some 55, none, .ixSl 2 (.t 53) (.t 54)⟩, 14, .pure, []⟩, ⟨⟨some 56, none, .loadN 2 (.t 55)⟩, 15, .read, []⟩, ⟨⟨some 57, none, .bin .neq (.agg [(0, .s), (1, .i)]) (.t 48) (.t 56)⟩, 16, .pure, []⟩])
     (.cond (.t 57)
      (.seq
       (.region [⟨some 4, none, .mv (.c (.bool false))⟩])
       .ret)
      .skip)))
   (.region [⟨some 39, none, .mv (.t 6)⟩, ⟨some 40, none, .bin .add .none (.t 39) (.c (.int .i64 1))⟩, ⟨some 6, none, .mv (.t 40)⟩])))
def c18_l1 : CCode :=
 (.seq
  (.seq
   (.region [⟨some 12, none, .mv (.t 5)⟩, ⟨some 13, none, .mv (.t 0)⟩, ⟨some 14, none, .len .slice (.t 13)⟩, ⟨some 15, none, .bin .lss .none (.t 12) (.t 14)⟩])
   (.cond (.t 15)
    .skip
    (.exit 0)))
  (.seq
   (.block 1
    (.seq
     (.seq
      (.drawn 13 [⟨⟨some 18, none, .mv (.t 0)⟩, 0, .pure, []⟩, ⟨⟨some 19, none, .mv (.t 5)⟩, 1, .pure, []⟩, ⟨⟨some 20, none, .ixSl 1 (.t 18) (.t 19)⟩, 2, .pure, []⟩, ⟨⟨some 21, none, .fAddr 0 (.t 20)⟩, 3, .pure, []⟩, ⟨⟨some 22, none, .load1 (.t 21)⟩, 4, .read, []⟩, ⟨⟨some 23, none, .len .slice (.t 22)⟩, 5, .pure, []⟩, ⟨⟨some 24, none, .mv (.t 1)⟩, 6, .pure, []⟩, ⟨⟨some 25, none, .mv (.t 5)⟩, 7, .pure, []⟩, ⟨⟨some 26, none, .ixSl 1 (.t 24) (.t 25)⟩, 8, .pure, []⟩, ⟨⟨some 27, none, .fAddr 0 (.t 26)⟩, 9, .pure, []⟩, ⟨⟨some 28, none, .load1 (.t 27)⟩, 10, .read, []⟩, ⟨⟨some 29, none, .len .slice (.t 28)⟩, 11, .pure, []⟩, ⟨⟨some 30, none, .bin .neq .none (.t 23) (.t 29)⟩, 12, .pure, []⟩])
      (.cond (.t 30)
       (.seq
        (.region [⟨some 4, none, .mv (.c (.bool false))⟩])
        .ret)
       .skip))
     (.seq
      (.region [⟨some 6, none, .mv (.c (.int .i64 0))⟩])
      (.block 2
       (.loop c18_l0)))))
   (.region [⟨some 16, none, .mv (.t 5)⟩, ⟨some 17, none, .bin .add .none (.t 16) (.c (.int .i64 1))⟩, ⟨some 5, none, .mv (.t 17)⟩])))
def c18 : CCode :=
 (.seq
  (.region [⟨some 4, none, .mv (.c (.bool false))⟩])
  (.seq
   (.seq
    (.region [⟨some 7, none, .mv (.t 0)⟩, ⟨some 8, none, .len .slice (.t 7)⟩, ⟨some 9, none, .mv (.t 1)⟩, ⟨some 10, none, .len .slice (.t 9)⟩, ⟨some 11, none, .bin .neq .none (.t 8) (.t 10)⟩])
    (.cond (.t 11)
     (.seq
      (.region [⟨some 4, none, .mv (.c (.bool false))⟩])
      .ret)
     .skip))
   (.seq
    (.seq
     (.region [⟨some 5, none, .mv (.c (.int .i64 0))⟩])
     (.block 0
      (.loop c18_l1)))
    (.seq
     (.region [⟨some 4, none, .mv (.c (.bool true))⟩])
     .ret))))
theorem code18 : E2.code 18 = some (c18, [.tmp 4]) := by kernel_rfl
def c51_l0 : CCode :=
 (.seq
  (.seq
   (.region [⟨some 6, none, .mv (.t 5)⟩, ⟨some 7, none, .fAddr 0 (.t 2)⟩, ⟨some 8, none, .load1 (.t 7)⟩, ⟨some 9, none, .len .slice (.t 8)⟩, ⟨some 10, none, .bin .lss .none (.t 6) (.t 9)⟩])
   (.cond (.t 10)
    .skip
    (.exit 0)))
  (.seq
   (.block 1
    (.seq
     (.region [⟨some 13, none, .fAddr 0 (.t 2)⟩, ⟨some 14, none, .load1 (.t 13)⟩, ⟨some 15, none, .mv (.t 5)⟩, ⟨some 16, none, .ixSl 2 (.t 14) (.t 15)⟩, ⟨some 17, none, .fAddr 0 (.t 16)⟩, ⟨some 18, none, .load1 (.t 17)⟩, ⟨some 19, none, .mv (.t 1)⟩, ⟨some 20, none, .bin .eql .none (.t 18) (.t 19)⟩])
     (.cond (.t 20)
      (.seq
       (.region [⟨some 21, none, .fAddr 0 (.t 2)⟩, ⟨some 22, none, .load1 (.t 21)⟩, ⟨some 23, none, .mv (.t 5)⟩, ⟨some 24, none, .ixSl 2 (.t 22) (.t 23)⟩, ⟨some 25, none, .fAddr 1 (.t 24)⟩, ⟨some 26, none, .load1 (.t 25)⟩, ⟨some 4, none, .mv (.t 26)⟩])
       .ret)
      .skip)))
   (.region [⟨some 11, none, .mv (.t 5)⟩, ⟨some 12, none, .bin .add .none (.t 11) (.c (.int .i64 1))⟩, ⟨some 5, none, .mv (.t 12)⟩])))
def c51 : CCode :=
 (.seq
  (.region [⟨some 2, none, .box 55 (.t 0)⟩, ⟨some 4, none, .mv (.c (.int .i64 0))⟩])
  (.seq
   (.seq
    (.region [⟨some 5, none, .mv (.c (.int .i64 0))⟩])
    (.block 0
     (.loop c51_l0)))
   (.seq
    (.region [⟨some 4, none, .mv (.c (.int .i64 (-1)))⟩])
    .ret)))
end
end Go.AX
namespace Go.AX
open Go Go.Proofs
noncomputable section
set_option linter.unusedSimpArgs false
set_option linter.unusedVariables false
attribute [local go_sem] b_seq wp_skip wp_exit wp_ret wp_region b_block wops_nil b_ops b_opsg b_cond condV_lite wo_mv b_bin wo_call callV_func wo_pick b_box wo_load1 wo_loadN wo_store wo_nilCheck wo_not wo_lenStr' wo_lenSl wo_ixStr' wo_ixSl wo_fAddr wo_part1 wo_partN wo_extract wo_cInt wo_cStr wo_mkMap wo_mkIface wo_mkFunc wo_lookup pickV_bool ifT_true ifT_false b_loadV b_loadNV b_storeV nilV_ptr nilV_func nilV_iface notV_bool lenStrV_str lenSlV_nil lenSlV_slice b_ixStrV ixSlV_slice fAddrV_ptr b_part1V partNV_agg b_extractV convV_int strV_str evC_tm evC_cn T.get_set putA_some putA_none onO_some evCs_nil evCs_cons appL_nil appL_cons guardOk_true guardOk_false cellsV_bool cellsV_int cellsV_str cellsV_nilptr cellsV_ptr cellsV_nilslice cellsV_slice cellsV_nilmap cellsV_map cellsV_func cellsV_nilfunc cellsV_iface cellsV_niliface cellsV_agg bin_lss bin_gtr bin_leq bin_geq bin_eql bin_neq bin_add bin_sub bin_eqlS bin_neqS mkFrame_nil mkFrame_cons resA_one resA_two resA_three over_0 over_1 over_2 over_3 over_4 over_5 over0_nil over0_cons Option.getD_some if_true if_false AHeap.next_push AVal.bool.injEq decide_eq_true_eq decide_eq_false_iff_not Bool.not_eq_true' Bool.not_eq_false' Bool.not_eq_true decide_true decide_false Bool.not_true Bool.not_false Int.toNat_natCast Int.natCast_nonneg true_and and_true wo_mapPut wp_drawn' wsts_nil b_pure b_read b_new b_wr wor_none b_org rer_nil rer_load1 rer_loadN wo_append AHeap.next_skip AHeap.next_put' AHeap.mk_push_t AHeap.mk_eta AHeap.mk_skip ldA_skip ldN_skip Nat.add_zero Nat.zero_add b_lite_true b_lite_false eq_self_iff_true not_true_eq_false not_false_eq_true bx_k bx_q bx_x bx_1 undefA_bool putAt_push List.length_cons List.length_nil Nat.le_refl ldA_push_new ldN_push_new List.getElem?_cons_zero List.getElem?_cons_succ List.drop_zero List.drop_succ_cons List.take_succ_cons List.take_zero b_build b_buildSlice evParts_nil evParts_cons b_fillA_nil b_fillA nbeq nble natadd natmul lenL_eq repL_1 repL_2 repL_3 wo_sliceData sdV_nil sdV_slice wo_unsafeStr usV_nil wo_slStr slStrV_str evCo_none evCo_some boundA_none Bool.and_true Bool.true_and wo_minmax2' mm2V_int
theorem neqAlt_same (s : List Nat) (n : Int) : binA .neq (.agg [(0, .s), (1, .i)]) (.agg [.str s, .int .i64 n]) (.agg [.str s, .int .i64 n]) = some (.bool false) := by
  show (eqNil (.agg [(0, .s), (1, .i)]) (.agg [.str s, .int .i64 n]) (.agg [.str s, .int .i64 n])).map (fun t => AVal.bool (!t)) = _
  have : eqNil (.agg [(0, .s), (1, .i)]) (.agg [.str s, .int .i64 n]) (.agg [.str s, .int .i64 n]) = some true := by
    show (ob (some (eqStr s s)) fun t => ifT t (ob (some (eqI n n)) fun t => ifT t (some true) (some false)) (some false)) = _
    rw [eqStr_eq, eqI_eq]
    simp [ob, ifT]
  rw [this]; rfl
set_option maxHeartbeats 1000000 in
theorem sameCells_c (cells : List (List Alt)) (v w : AVal) (h : AHeap) (H : CellsA h v cells) (G : CellsA h w cells) (hl : cells.length ≤ 9223372036854775807) (hll : ∀ c, c ∈ cells → c.length ≤ 9223372036854775807) : Ec E2 18 [v, w] h fun r h' => r = .bool true ∧ Hle h h' := by
  refine Ec.of_wpb (prim2_none (by decide)) code18 ?_
  unfold c18
  simp only [go_sem, Nat.reduceEqDiff, Int.reduceLT, Int.reduceLE, Int.reduceEq, Nat.reduceLT, Nat.reduceAdd, Nat.reduceMul, Int.reduceToNat, Nat.reduceLeDiff, reduceCtorEq, H.len, G.len]
  refine b_loop (fun d fr h' => Hle h h' ∧ fr.get 0 = some v ∧ fr.get 1 = some w ∧ ∃ i : Nat, fr.get 5 = some (.int .i64 (i : Int)) ∧ d + i = cells.length) cells.length ?_ ?_
  · exact ⟨Hle.refl h, by simp [T.get_set], by simp [T.get_set], 0, by simp [T.get_set], by omega⟩
  rintro d fr h' ⟨hle, t0, t1, i, t5, hd⟩
  unfold c18_l1
  simp only [go_sem, Nat.reduceEqDiff, Int.reduceLT, Int.reduceLE, Int.reduceEq, Nat.reduceLT, Nat.reduceAdd, Nat.reduceMul, Int.reduceToNat, Nat.reduceLeDiff, reduceCtorEq, t0, t1, t5, H.len]
  refine b_lite (fun hc => ?_) (fun hc => ?_)
  · obtain ⟨c, hci⟩ : ∃ c, cells[i]? = some c := ⟨_, List.getElem?_eq_getElem (by omega)⟩
    obtain ⟨b, o, x, hb, hix, hl0, _, hx, _⟩ := H.at hci
    obtain ⟨b2, o2, y, hb2, hiy, hm0, _, hy, _⟩ := G.at hci
    have hl0' : ldA h' b o = some x := (hle.ldA hb o).trans hl0
    have hm0' : ldA h' b2 o2 = some y := (hle.ldA hb2 o2).trans hm0
    simp only [go_sem, Nat.reduceEqDiff, Int.reduceLT, Int.reduceLE, Int.reduceEq, Nat.reduceLT, Nat.reduceAdd, Nat.reduceMul, Int.reduceToNat, Nat.reduceLeDiff, reduceCtorEq, t0, t1, t5, hix, hiy, hl0', hm0', hx.len, hy.len]
    refine b_loop (fun e fr h'' => Hle h h'' ∧ fr.get 0 = some v ∧ fr.get 1 = some w ∧ fr.get 5 = some (.int .i64 (i : Int)) ∧ ∃ k : Nat, fr.get 6 = some (.int .i64 (k : Int)) ∧ e + k = c.length) c.length ?_ ?_
    · exact ⟨hle.skip _, by simp [T.get_set, t0], by simp [T.get_set, t1], by simp [T.get_set, t5], 0, by simp [T.get_set], by omega⟩
    rintro e fr2 h'' ⟨hle2, u0, u1, u5, k, u6, he⟩
    have hl0'' : ldA h'' b o = some x := (hle2.ldA hb o).trans hl0
    have hm0'' : ldA h'' b2 o2 = some y := (hle2.ldA hb2 o2).trans hm0
    unfold c18_l0
    simp only [go_sem, Nat.reduceEqDiff, Int.reduceLT, Int.reduceLE, Int.reduceEq, Nat.reduceLT, Nat.reduceAdd, Nat.reduceMul, Int.reduceToNat, Nat.reduceLeDiff, reduceCtorEq, u0, u1, u5, u6, hix, hiy, hl0'', hm0'', hx.len]
    refine b_lite (fun hc2 => ?_) (fun hc2 => ?_)
    · obtain ⟨⟨s, n⟩, ha⟩ : ∃ a, c[k]? = some a := ⟨_, List.getElem?_eq_getElem (by omega)⟩
      obtain ⟨p, q, _, hip, _, _, hpN⟩ := (hx.mono hle2).at ha
      obtain ⟨p2, q2, _, hiq, _, _, hqN⟩ := (hy.mono hle2).at ha
      have hlen : c.length ≤ 9223372036854775807 := hll c (List.mem_of_getElem? hci)
      simp only [go_sem, Nat.reduceEqDiff, Int.reduceLT, Int.reduceLE, Int.reduceEq, Nat.reduceLT, Nat.reduceAdd, Nat.reduceMul, Int.reduceToNat, Nat.reduceLeDiff, reduceCtorEq, u0, u1, u5, u6, hix, hiy, hl0'', hm0'', hip, hiq, hpN, hqN, neqAlt_same]
      refine ⟨e - 1, by omega, hle2.skip _, k + 1, ?_, by omega⟩
      rw [wrap_i64 (by omega) (by omega)]; rfl
    · simp only [go_sem, Nat.reduceEqDiff, Int.reduceLT, Int.reduceLE, Int.reduceEq, Nat.reduceLT, Nat.reduceAdd, Nat.reduceMul, Int.reduceToNat, Nat.reduceLeDiff, reduceCtorEq, u0, u1, u5, u6]
      refine ⟨d - 1, by omega, hle2, i + 1, ?_, by omega⟩
      rw [wrap_i64 (by omega) (by omega)]; rfl
  · simp only [go_sem, Nat.reduceEqDiff, Int.reduceLT, Int.reduceLE, Int.reduceEq, Nat.reduceLT, Nat.reduceAdd, Nat.reduceMul, Int.reduceToNat, Nat.reduceLeDiff, reduceCtorEq, t0, t1, t5]
    exact hle
end
end Go.AX
namespace Go.AX
open Go Go.Proofs
noncomputable section
set_option linter.unusedSimpArgs false
set_option linter.unusedVariables false
attribute [local go_sem] b_seq wp_skip wp_exit wp_ret wp_region b_block wops_nil b_ops b_opsg b_cond condV_lite wo_mv b_bin wo_call callV_func wo_pick b_box wo_load1 wo_loadN wo_store wo_nilCheck wo_not wo_lenStr' wo_lenSl wo_ixStr' wo_ixSl wo_fAddr wo_part1 wo_partN wo_extract wo_cInt wo_cStr wo_mkMap wo_mkIface wo_mkFunc wo_lookup pickV_bool ifT_true ifT_false b_loadV b_loadNV b_storeV nilV_ptr nilV_func nilV_iface notV_bool lenStrV_str lenSlV_nil lenSlV_slice b_ixStrV ixSlV_slice fAddrV_ptr b_part1V partNV_agg b_extractV convV_int strV_str evC_tm evC_cn T.get_set putA_some putA_none onO_some evCs_nil evCs_cons appL_nil appL_cons guardOk_true guardOk_false cellsV_bool cellsV_int cellsV_str cellsV_nilptr cellsV_ptr cellsV_nilslice cellsV_slice cellsV_nilmap cellsV_map cellsV_func cellsV_nilfunc cellsV_iface cellsV_niliface cellsV_agg bin_lss bin_gtr bin_leq bin_geq bin_eql bin_neq bin_add bin_sub bin_eqlS bin_neqS mkFrame_nil mkFrame_cons resA_one resA_two resA_three over_0 over_1 over_2 over_3 over_4 over_5 over0_nil over0_cons Option.getD_some if_true if_false AHeap.next_push AVal.bool.injEq decide_eq_true_eq decide_eq_false_iff_not Bool.not_eq_true' Bool.not_eq_false' Bool.not_eq_true decide_true decide_false Bool.not_true Bool.not_false Int.toNat_natCast Int.natCast_nonneg true_and and_true wo_mapPut wp_drawn' wsts_nil b_pure b_read b_new b_wr wor_none b_org rer_nil rer_load1 rer_loadN wo_append AHeap.next_skip AHeap.next_put' AHeap.mk_push_t AHeap.mk_eta AHeap.mk_skip ldA_skip ldN_skip Nat.add_zero Nat.zero_add b_lite_true b_lite_false eq_self_iff_true not_true_eq_false not_false_eq_true bx_k bx_q bx_x bx_1 undefA_bool putAt_push List.length_cons List.length_nil Nat.le_refl ldA_push_new ldN_push_new List.getElem?_cons_zero List.getElem?_cons_succ List.drop_zero List.drop_succ_cons List.take_succ_cons List.take_zero b_build b_buildSlice evParts_nil evParts_cons b_fillA_nil b_fillA nbeq nble natadd natmul lenL_eq repL_1 repL_2 repL_3 wo_sliceData sdV_nil sdV_slice wo_unsafeStr usV_nil wo_slStr slStrV_str evCo_none evCo_some boundA_none Bool.and_true Bool.true_and wo_minmax2' mm2V_int
theorem RowA.keep {h h' : AHeap} {b o : Nat} {l : List AVal} (H : RowA h b o l) (hn : h.next ≤ h'.next) (hg : h'.get b = h.get b) : RowA h' b o l := H.get (Nat.lt_of_lt_of_le H.1 hn) hg
theorem SlA.keep {h h' : AHeap} {size : Nat} {v : AVal} {xs : List (List AVal)} (H : SlA h size v xs) (hn : h.next ≤ h'.next) (hg : ∀ c, blkOf v c → c < h.next → h'.get c = h.get c) : SlA h' size v xs := by
  obtain ⟨h1, h2⟩ := H
  refine ⟨h1, h2.imp id fun ⟨b, o, c, ex, e, hr⟩ => ⟨b, o, c, ex, e, hr.imp id fun hr => hr.keep hn (hg b ⟨_, _, _, _, e⟩ hr.1)⟩⟩
theorem AltsA.keep {h h' : AHeap} {v : AVal} {alts : List Alt} (H : AltsA h v alts) (hn : h.next ≤ h'.next) (hg : ∀ c, blkOf v c → c < h.next → h'.get c = h.get c) : AltsA h' v alts := ⟨H.1.keep hn hg, H.2⟩
def BoxL (A : Nat → Prop) (h : AHeap) (b : Nat) (l : List Alt) : Prop := b < h.next ∧ ¬ A b ∧ ∃ v, h.get b = some (.cells [v] 55) ∧ OwnL h 2 57 v (l.map altC).flatten ∧ (∀ c, blkOf v c → c ≠ b ∧ ¬ A c)
theorem BoxL.push {A : Nat → Prop} {h : AHeap} {b : Nat} {l : List Alt} (H : BoxL A h b l) (o : AObj) : BoxL (fun c => A c ∨ c = h.next) (h.push o) b l := by
  obtain ⟨h1, h2, v, h3, h5, h6⟩ := H
  exact ⟨by simp [AHeap.next_push]; omega, fun e => e.elim h2 (fun e => by omega), v, by rw [AHeap.get_push_ne _ _ (by omega)]; exact h3, h5.frame (by simp [AHeap.next_push]) (fun c hc => AHeap.get_push_ne _ _ (by have := h5.blk hc; omega)), fun c hc => ⟨(h6 c hc).1, fun e => e.elim (h6 c hc).2 (fun e => by have := h5.blk hc; omega)⟩⟩
theorem BoxL.mono {A : Nat → Prop} {h h' : AHeap} {b : Nat} {l : List Alt} (H : BoxL A h b l) (hle : Hle h h') : BoxL A h' b l := by
  obtain ⟨h1, h2, v, h3, h5, h6⟩ := H
  exact ⟨by have := hle.next; omega, h2, v, by rw [hle.get b h1]; exact h3, h5.frame hle.next (fun c hc => hle.get c (h5.blk hc)), h6⟩
theorem BoxL.sub {A A' : Nat → Prop} {h : AHeap} {b : Nat} {l : List Alt} (H : BoxL A h b l) (hA : ∀ c, A' c → A c) : BoxL A' h b l := by
  obtain ⟨h1, h2, v, h3, h5, h6⟩ := H
  exact ⟨h1, fun e => h2 (hA _ e), v, h3, h5, fun c hc => ⟨(h6 c hc).1, fun e => (h6 c hc).2 (hA _ e)⟩⟩
theorem BoxL.new {A : Nat → Prop} {h : AHeap} (hA : ¬ A h.next) : BoxL A (h.push (.cells [.nilslice] 55)) h.next [] :=
  ⟨by simp [AHeap.next_push], hA, _, AHeap.get_push_same _ _, .inl ⟨rfl, rfl⟩, fun c ⟨_, _, _, _, hc⟩ => by cases hc⟩
theorem OwnL.flatV {h : AHeap} {size : Nat} {elem : TypeId} {v : AVal} {l : List AVal} (H : OwnL h size elem v l) : v.flat = true := by
  rcases H.form with rfl | ⟨_, _, _, _, _, rfl⟩ <;> rfl
theorem BoxL.ld {A : Nat → Prop} {h : AHeap} {b : Nat} {l : List Alt} (H : BoxL A h b l) : ∃ v, h.get b = some (.cells [v] 55) ∧ ldA h b 0 = some v ∧ ldN h b 0 1 = some [v] ∧ OwnL h 2 57 v (l.map altC).flatten ∧ ∀ c, blkOf v c → c ≠ b ∧ ¬ A c := by
  obtain ⟨h1, h2, v, h3, h5, h6⟩ := H
  have hr : RowA h b 0 [v] := RowA.of_cells h1 h3 (fun x hx => by simp at hx; subst hx; exact h5.flatV)
  exact ⟨v, h3, hr.ldA (i := 0) rfl, hr.ldN (i := 0) (n := 1) (by simp), h5, h6⟩
theorem altC_len (l : List Alt) : (l.map altC).flatten.length = l.length * 2 := by
  have : ∀ x, x ∈ l.map altC → x.length = 2 := fun x hx => by obtain ⟨a, _, rfl⟩ := List.mem_map.1 hx; rfl
  rw [flatten_len this]; simp
theorem altC_flat (l : List Alt) : ∀ x, x ∈ (l.map altC).flatten → x.flat = true := by
  intro x hx
  obtain ⟨y, hy, hxy⟩ := List.mem_flatten.1 hx
  obtain ⟨a, _, rfl⟩ := List.mem_map.1 hy
  simp only [altC, List.mem_cons, List.not_mem_nil, or_false] at hxy
  rcases hxy with rfl | rfl <;> rfl
theorem OwnL.alts {h : AHeap} {v : AVal} {l : List Alt} (H : OwnL h 2 57 v (l.map altC).flatten) (hl : ∀ a, a ∈ l → a.1.length ≤ 9223372036854775807) : AltsA h v l :=
  ⟨H.SlA (fun x hx => by obtain ⟨a, _, rfl⟩ := List.mem_map.1 hx; rfl) (by omega) (altC_flat l), hl⟩
theorem BoxL.app {A : Nat → Prop} {h : AHeap} {b : Nat} {l : List Alt} (H : BoxL A h b l) (hA : ∀ c, A c → c < h.next) (s : List Nat) (n : Int) (hm : l.length ≤ 100000000) {v : AVal} (hv : ldA h b 0 = some v) {K : AVal → AHeap → Prop}
    (hK : ∀ v' h' h'', cellsV v' = some [v'] → putAt h' b 0 1 [v'] = some h'' → BoxL A h'' b (l ++ [(s, n)]) → h.next ≤ h''.next → (∀ c, A c → h''.get c = h.get c) → K v' h') : appV 57 2 v (.slice h.next 0 1 1 true) (h.push (.cells [.str s, .int .i64 n] 57)) K := by
  obtain ⟨h1, h2, _⟩ := id H
  obtain ⟨v2, h3, hv2, _, h5, h6⟩ := H.ld
  obtain rfl : v = v2 := Option.some.inj (hv.symm.trans hv2)
  have hone : SlA (h.push (.cells [.str s, .int .i64 n] 57)) 2 (.slice h.next 0 1 1 true) [[.str s, .int .i64 n]] := ⟨by simp, .inr ⟨_, _, _, _, rfl, .inr (RowA.of_cells (e := 57) (by simp [AHeap.next_push]) (AHeap.get_push_same _ _) (by intro x hx; simp at hx; rcases hx with rfl | rfl <;> rfl))⟩⟩
  have own' := h5.frame (h' := h.push (.cells [.str s, .int .i64 n] 57)) (by simp [AHeap.next_push]) (fun c hc => AHeap.get_push_ne _ _ (by have := h5.blk hc; omega))
  refine appV_own own' (srcCells_SlA hone (by simp)) (by simp) (by simp) (by omega) (by rw [altC_len]; simp; omega) ?_
  intro v' h'' ho hn hf hb
  have hn' : h''.next = h.next + 1 + 1 := hn
  have hgb : h''.get b = some (.cells [v] 55) := by
    rw [hf b (by simp [AHeap.next_push]; omega) (fun hc => (h6 b hc).1 rfl), AHeap.get_push_ne _ _ (by omega)]; exact h3
  have hp : putAt h'' b 0 1 [v'] = some (h''.put b (.cells [v'] 55)) := putAt_cells (o := 0) (n := 1) (vs := [v']) hgb rfl (by simp)
  have hblk : ∀ c, blkOf v' c → c = h.next + 1 := by
    rintro c ⟨o, n, c2, e, rfl⟩
    obtain ⟨_, _, _, _, he⟩ := hb
    cases he; rfl
  refine hK v' h'' _ (cellsV_flat ho.flatV) hp ⟨by simp [AHeap.next_put]; omega, h2, v', AHeap.get_put_same _ _ _, ?_, fun c hc => ?_⟩ (by simp [AHeap.next_put]; omega) fun c hc => ?_
  · have e : ((l ++ [(s, n)]).map altC).flatten = (l.map altC).flatten ++ [[AVal.str s, AVal.int .i64 n]].flatten := by simp [altC]
    rw [e]
    exact ho.frame (by simp [AHeap.next_put]) fun c hc => AHeap.get_put_ne _ _ (fun e => by have := hblk c hc; omega)
  · have := hblk c hc
    exact ⟨by omega, fun e => by have := hA c e; omega⟩
  · have hcb : c ≠ b := fun e => h2 (e ▸ hc)
    have hcl := hA c hc
    rw [AHeap.get_put_ne _ _ (Ne.symm hcb), hf c (by simp [AHeap.next_push]; omega) (fun hk => (h6 c hk).2 hc), AHeap.get_push_ne _ _ (by omega)]
def OutL (n0 : Nat) (h : AHeap) (out : AVal) (done : List (List Alt)) : Prop := ∃ vs, OwnL h 1 55 out vs ∧ All2 (AltsA h) vs done ∧ (∀ x, x ∈ vs → ∀ c, blkOf x c → n0 ≤ c ∧ c < h.next ∧ ¬ blkOf out c) ∧ ∀ c, blkOf out c → n0 ≤ c
theorem OutL.nil (n0 : Nat) (h : AHeap) : OutL n0 h .nilslice [] := ⟨[], .inl ⟨rfl, rfl⟩, ⟨rfl, fun i x y hx => by simp at hx⟩, (fun x hx => by simp at hx), fun c ⟨_, _, _, _, hc⟩ => by cases hc⟩
theorem OutL.keep {n0 : Nat} {h h' : AHeap} {out : AVal} {done : List (List Alt)} (H : OutL n0 h out done) (hle : Hle h h') : OutL n0 h' out done := by
  obtain ⟨vs, h1, h2, h3⟩ := H
  exact ⟨vs, h1.frame hle.next (fun c hc => hle.get c (h1.blk hc)), ⟨h2.1, fun i x y hx hy => (h2.2 i x y hx hy).mono hle⟩, (fun x hx c hc => ⟨(h3.1 x hx c hc).1, by have := (h3.1 x hx c hc).2.1; have := hle.next; omega, (h3.1 x hx c hc).2.2⟩), h3.2⟩
theorem flat_single (vs : List AVal) : (vs.map fun x => [x]).flatten = vs := by
  induction vs with
  | nil => rfl
  | cons a l ih => simp [ih]
theorem OutL.cells {n0 : Nat} {h : AHeap} {out : AVal} {done : List (List Alt)} (H : OutL n0 h out done) : CellsA h out done := by
  obtain ⟨vs, h1, h2, h3⟩ := H
  have e := flat_single vs
  refine ⟨vs, OwnL.SlA (elem := 55) (by rw [e]; exact h1) (fun x hx => by obtain ⟨a, _, rfl⟩ := List.mem_map.1 hx; rfl) (by omega) ?_, h2⟩
  rw [e]
  intro x hx
  obtain ⟨i, hi⟩ := List.mem_iff_getElem?.1 hx
  obtain ⟨y, hy⟩ : ∃ y, done[i]? = some y := ⟨_, List.getElem?_eq_getElem (by rw [← h2.1]; exact (List.getElem?_eq_some_iff.1 hi).1)⟩
  exact (h2.2 i x y hi hy).flat
theorem OutL.app2 {n0 : Nat} {h : AHeap} {out v : AVal} {done : List (List Alt)} {l : List Alt} {z : Nat} (H : OutL n0 h out done) (hn0 : n0 ≤ h.next) (hv : AltsA h v l) (hd : ∀ c, blkOf v c → n0 ≤ c ∧ c < h.next ∧ ¬ blkOf out c) (hm : done.length ≤ 100000000) (hz : z < h.next) (hzg : h.get z = some (.cells [v] 55)) {K : AVal → AHeap → Prop}
    (hK : ∀ v' h', OutL n0 h' v' (done ++ [l]) → v'.flat = true → h.next ≤ h'.next → (∀ c, c < n0 → h'.get c = h.get c) → K v' h') : appV 55 1 out (.slice z 0 1 1 true) h K := by
  obtain ⟨vs, h1, h2, h3, h4⟩ := H
  have hone : SlA h 1 (.slice z 0 1 1 true) [[v]] := ⟨by simp, .inr ⟨_, _, _, _, rfl, .inr (RowA.of_cells (e := 55) hz hzg (by intro x hx; simp at hx; subst hx; exact hv.flat))⟩⟩
  refine appV_own h1 (srcCells_SlA hone (by simp)) (by simp) (by simp) (by omega) (by rw [h2.1]; simp; omega) ?_
  intro v' h'' ho hn hf hb
  have hblk : ∀ c, blkOf v' c → c = h.next := by
    rintro c ⟨o, n, c2, e, rfl⟩
    obtain ⟨_, _, _, _, he⟩ := hb
    cases he; rfl
  have hkeep : ∀ x y, AltsA h x y → (∀ c, blkOf x c → ¬ blkOf out c) → AltsA h'' x y := fun x y hx hxo => hx.keep (by omega) fun c hc hcl => hf c hcl (hxo c hc)
  refine hK v' h'' ⟨vs ++ [v], by simpa using ho, ⟨by simp [h2.1], fun i x y hx hy => ?_⟩, fun x hx c hc => ?_, fun c hc => by have := hblk c hc; omega⟩ ho.flatV (by omega) fun c hc => ?_
  · by_cases hi : i < vs.length
    · rw [List.getElem?_append_left hi] at hx
      rw [List.getElem?_append_left (by rw [← h2.1]; exact hi)] at hy
      exact hkeep x y (h2.2 i x y hx hy) (fun c hc => (h3 x (List.mem_of_getElem? hx) c hc).2.2)
    · rw [List.getElem?_append_right (by omega)] at hx
      rw [List.getElem?_append_right (by rw [← h2.1]; omega), ← h2.1] at hy
      have : i - vs.length = 0 := by
        have := (List.getElem?_eq_some_iff.1 hx).1
        simp at this; omega
      rw [this] at hx hy
      simp at hx hy
      subst hx; subst hy
      exact hkeep _ _ hv (fun c hc => (hd c hc).2.2)
  · rcases List.mem_append.1 hx with hx | hx
    · have := h3 x hx c hc
      exact ⟨this.1, by omega, fun hc' => by have := hblk c hc'; omega⟩
    · simp at hx; subst hx
      have := hd c hc
      exact ⟨this.1, by omega, fun hc' => by have := hblk c hc'; omega⟩
  · exact hf c (by omega) (fun hk => by have := h4 c hk; omega)
theorem OutL.blk {n0 : Nat} {h : AHeap} {out : AVal} {done : List (List Alt)} (H : OutL n0 h out done) {c : Nat} (hc : blkOf out c) : c < h.next := by
  obtain ⟨vs, h1, _⟩ := H
  exact h1.blk hc
theorem OutL.app {n0 : Nat} {h : AHeap} {out v : AVal} {done : List (List Alt)} {l : List Alt} (H : OutL n0 h out done) (hn0 : n0 ≤ h.next) (hv : AltsA h v l) (hd : ∀ c, blkOf v c → ¬ blkOf out c) (hvb : ∀ c, blkOf v c → n0 ≤ c ∧ c < h.next) (hm : done.length ≤ 100000000) {K : AVal → AHeap → Prop}
    (hK : ∀ v' h', OutL n0 h' v' (done ++ [l]) → h.next ≤ h'.next → (∀ c, c < n0 → h'.get c = h.get c) → K v' h') : appV 55 1 out (.slice h.next 0 1 1 true) (h.push (.cells [v] 55)) K :=
  OutL.app2 (H.keep ((Hle.refl h).push _)) (by simp [AHeap.next_push]; omega) (hv.mono ((Hle.refl h).push _)) (fun c hc => ⟨(hvb c hc).1, by have := (hvb c hc).2; simp [AHeap.next_push]; omega, hd c hc⟩) hm (by simp [AHeap.next_push]) (AHeap.get_push_same _ _)
    fun v' h' ho _ hn hg => hK v' h' ho (by have : (h.push (.cells [v] 55)).next = h.next + 1 := rfl; omega) fun c hc => by rw [hg c hc, AHeap.get_push_ne _ _ (by omega)]
end
end Go.AX
namespace Go.AX
open Go Go.Proofs
def c5 : CCode :=
 (.seq
  (.region [⟨some 2, none, .mv (.c (.bool false))⟩])
  (.seq
   (.region [⟨some 8, none, .mv (.t 0)⟩, ⟨some 9, none, .call (.c (.func 11 [] [])) [(.t 8)]⟩, ⟨some 7, none, .mv (.t 9)⟩, ⟨some 10, none, .extract 0 (.t 7)⟩, ⟨some 11, none, .extract 1 (.t 7)⟩, ⟨some 3, none, .mv (.t 10)⟩, ⟨some 4, none, .mv (.t 11)⟩])
   (.seq
    (.seq
     (.region [⟨some 12, none, .mv (.t 4)⟩, ⟨some 13, none, .bin .neq .none (.t 12) (.c (.int .i64 0))⟩])
     (.cond (.t 13)
      (.seq
       (.region [⟨some 14, none, .call (.c (.func 13 [] [])) []⟩, ⟨some 15, none, .mv (.t 14)⟩, ⟨some 16, some (15, true), .mv (.t 3)⟩, ⟨some 17, some (15, true), .bin .eql .none (.t 16) (.c (.str []))⟩, ⟨some 18, none, .pick (.t 15) (.t 17) (.c (.bool false))⟩, ⟨some 19, none, .mv (.t 18)⟩, ⟨some 20, some (19, true), .mv (.t 0)⟩, ⟨some 21, some (19, true), .call (.c (.func 14 [] [])) [(.t 20)]⟩, ⟨some 22, some (19, true), .mv (.t 4)⟩, ⟨some 23, some (19, true), .bin .eql .none (.t 21) (.t 22)⟩, ⟨some 24, none, .pick (.t 19) (.t 23) (.c (.bool false))⟩, ⟨some 2, none, .mv (.t 24)⟩])
       .ret)
      .skip))
    (.seq
     (.region [⟨some 26, none, .mv (.t 3)⟩, ⟨some 27, none, .call (.c (.func 16 [] [])) [(.t 26)]⟩, ⟨some 25, none, .mv (.t 27)⟩, ⟨some 28, none, .extract 0 (.t 25)⟩, ⟨some 29, none, .extract 1 (.t 25)⟩, ⟨some 5, none, .mv (.t 28)⟩, ⟨some 6, none, .mv (.t 29)⟩])
     (.seq
      (.region [⟨some 30, none, .call (.c (.func 13 [] [])) []⟩, ⟨some 31, none, .mv (.t 30)⟩, ⟨some 32, some (31, true), .mv (.t 6)⟩, ⟨some 33, some (31, true), .bin .eql .none (.t 32) (.c (.int .i64 0))⟩, ⟨some 34, none, .pick (.t 31) (.t 33) (.c (.bool false))⟩, ⟨some 35, none, .mv (.t 34)⟩, ⟨some 36, some (35, true), .mv (.t 5)⟩, ⟨some 37, some (35, true), .mv (.t 0)⟩, ⟨some 38, some (35, true), .call (.c (.func 18 [] [])) [(.t 36), (.t 37)]⟩, ⟨some 39, none, .pick (.t 35) (.t 38) (.c (.bool false))⟩, ⟨some 2, none, .mv (.t 39)⟩])
      .ret)))))
def c16b_l0 : CCode :=
 (.seq
  (.seq
   (.region [⟨some 11, none, .mv (.t 4)⟩, ⟨some 12, none, .nilCheck (.t 11)⟩, ⟨some 13, none, .fAddr 1 (.t 12)⟩, ⟨some 14, none, .load1 (.t 13)⟩, ⟨some 15, none, .mv (.t 0)⟩, ⟨some 16, none, .len .str (.t 15)⟩, ⟨some 17, none, .bin .lss .none (.t 14) (.t 16)⟩])
   (.cond (.t 17)
    .skip
    (.exit 0)))
  (.block 1
   (.seq
    (.seq
     (.region [⟨some 18, none, .load1 (.t 2)⟩, ⟨some 19, none, .len .slice (.t 18)⟩, ⟨some 20, none, .bin .eql .none (.t 19) (.c (.int .i64 32))⟩])
     (.cond (.t 20)
      (.seq
       (.region [⟨none, none, .store 1 (.t 2) (.c .nilslice)⟩, ⟨none, none, .store 1 (.t 3) (.c (.int .i64 4))⟩])
       .ret)
      .skip))
    (.drawn 6 [⟨⟨some 21, none, .load1 (.t 2)⟩, 0, .read, []⟩, ⟨⟨some 22, none, .mv (.t 4)⟩, 1, .pure, []⟩, ⟨⟨some 23, none, .call (.c (.func 43 [] [])) [(.t 22)]⟩, 2, .wr, [⟨some 21, none, .load1 (.t 2)⟩]⟩, ⟨⟨some 24, none, .buildSlice 55 1 [.nilslice] [(0, 1, (.t 23))]⟩, 3, .new, []⟩, ⟨⟨some 25, none, .append 55 1 (.t 21) (.t 24)⟩, 4, .wr, []⟩, ⟨⟨none, none, .store 1 (.t 2) (.t 25)⟩, 5, .wr, []⟩]))))
def c17_l0 : CCode :=
 (.seq
  (.seq
   (.region [⟨some 33, none, .mv (.t 6)⟩, ⟨some 34, none, .mv (.t 0)⟩, ⟨some 35, none, .len .str (.t 34)⟩, ⟨some 36, none, .bin .lss .none (.t 33) (.t 35)⟩, ⟨some 37, none, .mv (.t 36)⟩, ⟨some 38, some (37, true), .mv (.t 0)⟩, ⟨some 39, some (37, true), .mv (.t 6)⟩, ⟨some 40, some (37, true), .ixStr (.t 38) (.t 39)⟩, ⟨some 41, some (37, true), .bin .neq .none (.t 40) (.c (.int .u8 41))⟩, ⟨some 42, none, .pick (.t 37) (.t 41) (.c (.bool false))⟩])
   (.cond (.t 42)
    .skip
    (.exit 2)))
  (.block 3
   (.region [⟨some 43, none, .mv (.t 6)⟩, ⟨some 44, none, .bin .add .none (.t 43) (.c (.int .i64 1))⟩, ⟨some 6, none, .mv (.t 44)⟩])))
def c17_l1 : CCode :=
 (.seq
  (.seq
   (.region [⟨some 11, none, .mv (.t 5)⟩, ⟨some 12, none, .mv (.t 0)⟩, ⟨some 13, none, .len .str (.t 12)⟩, ⟨some 14, none, .bin .lss .none (.t 11) (.t 13)⟩])
   (.cond (.t 14)
    .skip
    (.exit 0)))
  (.block 1
   (.seq
    (.seq
     (.region [⟨some 15, none, .mv (.t 0)⟩, ⟨some 16, none, .mv (.t 5)⟩, ⟨some 17, none, .ixStr (.t 15) (.t 16)⟩, ⟨some 18, none, .bin .neq .none (.t 17) (.c (.int .u8 40))⟩])
     (.cond (.t 18)
      (.seq
       (.region [⟨some 19, none, .mv (.t 4)⟩, ⟨some 20, none, .mv (.t 0)⟩, ⟨some 21, none, .mv (.t 5)⟩, ⟨some 22, none, .mv (.t 5)⟩, ⟨some 23, none, .bin .add .none (.t 22) (.c (.int .i64 1))⟩, ⟨some 24, none, .slStr (.t 20) (some (.t 21)) (some (.t 23))⟩, ⟨some 25, none, .build [(.str []), (.int .i64 0)] [(0, 1, (.t 24))]⟩, ⟨some 26, none, .buildSlice 57 1 [(.str []), (.int .i64 0)] [(0, 2, (.t 25))]⟩, ⟨some 27, none, .build [.nilslice] [(0, 1, (.t 26))]⟩, ⟨some 28, none, .buildSlice 55 1 [.nilslice] [(0, 1, (.t 27))]⟩, ⟨some 29, none, .append 55 1 (.t 19) (.t 28)⟩, ⟨some 4, none, .mv (.t 29)⟩])
       (.seq
        (.region [⟨some 30, none, .mv (.t 5)⟩, ⟨some 31, none, .bin .add .none (.t 30) (.c (.int .i64 1))⟩, ⟨some 5, none, .mv (.t 31)⟩])
        (.exit 1)))
      .skip))
    (.seq
     (.region [⟨some 32, none, .mv (.t 5)⟩, ⟨some 6, none, .mv (.t 32)⟩])
     (.seq
      (.block 2
       (.loop c17_l0))
      (.seq
       (.seq
        (.region [⟨some 45, none, .mv (.t 6)⟩, ⟨some 46, none, .mv (.t 0)⟩, ⟨some 47, none, .len .str (.t 46)⟩, ⟨some 48, none, .bin .eql .none (.t 45) (.t 47)⟩])
        (.cond (.t 48)
         (.seq
          (.region [⟨some 2, none, .mv (.c .nilslice)⟩, ⟨some 3, none, .mv (.c (.int .i64 4))⟩])
          .ret)
         .skip))
       (.seq
        (.region [⟨some 50, none, .mv (.t 0)⟩, ⟨some 51, none, .mv (.t 5)⟩, ⟨some 52, none, .bin .add .none (.t 51) (.c (.int .i64 1))⟩, ⟨some 53, none, .mv (.t 6)⟩, ⟨some 54, none, .slStr (.t 50) (some (.t 52)) (some (.t 53))⟩, ⟨some 55, none, .call (.c (.func 44 [] [])) [(.t 54)]⟩, ⟨some 49, none, .mv (.t 55)⟩, ⟨some 56, none, .extract 0 (.t 49)⟩, ⟨some 57, none, .extract 1 (.t 49)⟩, ⟨some 7, none, .box 55 (.c (.agg [.nilslice]))⟩, ⟨none, none, .store 1 (.t 7) (.t 56)⟩, ⟨some 8, none, .mv (.t 57)⟩])
        (.seq
         (.seq
          (.region [⟨some 58, none, .mv (.t 8)⟩, ⟨some 59, none, .not (.t 58)⟩])
          (.cond (.t 59)
           (.seq
            (.region [⟨some 2, none, .mv (.c .nilslice)⟩, ⟨some 3, none, .mv (.c (.int .i64 4))⟩])
            .ret)
           .skip))
         (.seq
          (.region [⟨some 60, none, .mv (.t 4)⟩, ⟨some 61, none, .loadN 1 (.t 7)⟩, ⟨some 62, none, .buildSlice 55 1 [.nilslice] [(0, 1, (.t 61))]⟩, ⟨some 63, none, .append 55 1 (.t 60) (.t 62)⟩, ⟨some 4, none, .mv (.t 63)⟩])
          (.region [⟨some 64, none, .mv (.t 6)⟩, ⟨some 65, none, .bin .add .none (.t 64) (.c (.int .i64 1))⟩, ⟨some 5, none, .mv (.t 65)⟩]))))))))))
def c17 : CCode :=
 (.seq
  (.region [⟨some 2, none, .mv (.c .nilslice)⟩, ⟨some 3, none, .mv (.c (.int .i64 0))⟩])
  (.seq
   (.region [⟨some 4, none, .mv (.c .nilslice)⟩])
   (.seq
    (.seq
     (.region [⟨some 5, none, .mv (.c (.int .i64 0))⟩])
     (.block 0
      (.loop c17_l1)))
    (.seq
     (.region [⟨some 67, none, .mv (.t 4)⟩, ⟨some 68, none, .call (.c (.func 12 [] [])) [(.t 67)]⟩, ⟨some 66, none, .mv (.t 68)⟩, ⟨some 69, none, .extract 0 (.t 66)⟩, ⟨some 70, none, .extract 1 (.t 66)⟩, ⟨some 9, none, .mv (.t 69)⟩, ⟨some 10, none, .mv (.t 70)⟩])
     (.seq
      (.seq
       (.region [⟨some 71, none, .mv (.t 10)⟩, ⟨some 72, none, .bin .neq .none (.t 71) (.c (.int .i64 0))⟩, ⟨some 73, none, .mv (.t 72)⟩, ⟨some 74, some (73, false), .mv (.t 9)⟩, ⟨some 75, some (73, false), .mv (.t 0)⟩, ⟨some 76, some (73, false), .bin .neq .none (.t 74) (.t 75)⟩, ⟨some 77, none, .pick (.t 73) (.c (.bool true)) (.t 76)⟩])
       (.cond (.t 77)
        (.seq
         (.region [⟨some 2, none, .mv (.c .nilslice)⟩, ⟨some 3, none, .mv (.c (.int .i64 4))⟩])
         .ret)
        .skip))
      (.seq
       (.region [⟨some 78, none, .mv (.t 4)⟩, ⟨some 2, none, .mv (.t 78)⟩, ⟨some 3, none, .mv (.c (.int .i64 0))⟩])
       .ret))))))
theorem code17 : E2.code 17 = some (c17, [.tmp 2, .tmp 3]) := by kernel_rfl
def c43_l0 : CCode :=
 (.block 1
  (.seq
   (.region [⟨some 26, none, .mv (.t 0)⟩, ⟨some 27, none, .nilCheck (.t 26)⟩, ⟨some 28, none, .fAddr 1 (.t 27)⟩, ⟨some 29, none, .load1 (.t 28)⟩, ⟨some 30, none, .bin .add .none (.t 29) (.c (.int .i64 1))⟩, ⟨some 31, none, .nilCheck (.t 26)⟩, ⟨some 32, none, .fAddr 1 (.t 31)⟩, ⟨none, none, .store 1 (.t 32) (.t 30)⟩])
   (.seq
    (.drawn 8 [⟨⟨some 33, none, .fAddr 0 (.t 4)⟩, 0, .pure, []⟩, ⟨⟨some 34, none, .load1 (.t 33)⟩, 1, .read, []⟩, ⟨⟨some 35, none, .mv (.t 0)⟩, 2, .pure, []⟩, ⟨⟨some 36, none, .call (.c (.func 58 [] [])) [(.t 35)]⟩, 3, .wr, [⟨some 34, none, .load1 (.t 33)⟩]⟩, ⟨⟨some 37, none, .buildSlice 57 1 [(.str []), (.int .i64 0)] [(0, 2, (.t 36))]⟩, 4, .new, []⟩, ⟨⟨some 38, none, .append 57 2 (.t 34) (.t 37)⟩, 5, .wr, []⟩, ⟨⟨some 39, none, .fAddr 0 (.t 4)⟩, 6, .pure, []⟩, ⟨⟨none, none, .store 1 (.t 39) (.t 38)⟩, 7, .wr, []⟩])
    (.seq
     (.seq
      (.region [⟨some 40, none, .mv (.t 0)⟩, ⟨some 41, none, .call (.c (.func 57 [] [])) [(.t 40)]⟩])
      (.block 2
       (.seq
        (.region [⟨some 43, none, .bin .eql .none (.t 41) (.c (.int .u8 124))⟩, ⟨some 42, none, .mv (.t 43)⟩])
        (.cond (.t 42)
         (.exit 1)
         (.seq
          (.region [⟨some 45, none, .bin .eql .none (.t 41) (.c (.int .u8 41))⟩, ⟨some 44, none, .mv (.t 45)⟩])
          (.cond (.t 44)
           (.seq
            (.region [⟨some 46, none, .mv (.t 0)⟩, ⟨some 47, none, .nilCheck (.t 46)⟩, ⟨some 48, none, .fAddr 1 (.t 47)⟩, ⟨some 49, none, .load1 (.t 48)⟩, ⟨some 50, none, .bin .add .none (.t 49) (.c (.int .i64 1))⟩, ⟨some 51, none, .nilCheck (.t 46)⟩, ⟨some 52, none, .fAddr 1 (.t 51)⟩, ⟨none, none, .store 1 (.t 52) (.t 50)⟩])
            (.seq
             (.region [⟨some 53, none, .loadN 1 (.t 4)⟩, ⟨none, none, .store 1 (.t 2) (.t 53)⟩])
             .ret))
           .skip))))))
     (.region [⟨some 54, none, .build [] []⟩, ⟨some 55, none, .mkIface 75 (.t 54)⟩, ⟨none, none, .bad⟩])))))
def c43 : CCode :=
 (.seq
  (.region [⟨some 2, none, .box 55 (.c (.agg [.nilslice]))⟩])
  (.seq
   (.region [⟨some 5, none, .mv (.t 0)⟩, ⟨some 6, none, .call (.c (.func 57 [] [])) [(.t 5)]⟩, ⟨some 3, none, .mv (.t 6)⟩])
   (.seq
    (.seq
     (.region [⟨some 7, none, .mv (.t 3)⟩, ⟨some 8, none, .call (.c (.func 23 [] [])) [(.t 7)]⟩])
     (.cond (.t 8)
      (.seq
       (.region [⟨some 9, none, .mv (.t 0)⟩, ⟨some 10, none, .nilCheck (.t 9)⟩, ⟨some 11, none, .fAddr 1 (.t 10)⟩, ⟨some 12, none, .load1 (.t 11)⟩, ⟨some 13, none, .bin .add .none (.t 12) (.c (.int .i64 1))⟩, ⟨some 14, none, .nilCheck (.t 9)⟩, ⟨some 15, none, .fAddr 1 (.t 14)⟩, ⟨none, none, .store 1 (.t 15) (.t 13)⟩])
       (.seq
        (.region [⟨some 16, none, .mv (.t 3)⟩, ⟨some 17, none, .buildSlice 5 1 [(.int .u8 0)] [(0, 1, (.t 16))]⟩, ⟨some 18, none, .cBytesStr (.t 17)⟩, ⟨some 19, none, .build [(.str []), (.int .i64 0)] [(0, 1, (.t 18))]⟩, ⟨some 20, none, .buildSlice 57 1 [(.str []), (.int .i64 0)] [(0, 2, (.t 19))]⟩, ⟨some 21, none, .build [.nilslice] [(0, 1, (.t 20))]⟩, ⟨none, none, .store 1 (.t 2) (.t 21)⟩])
        .ret))
      .skip))
    (.seq
     (.seq
      (.region [⟨some 22, none, .mv (.t 3)⟩, ⟨some 23, none, .bin .neq .none (.t 22) (.c (.int .u8 40))⟩])
      (.cond (.t 23)
       (.region [⟨some 24, none, .build [] []⟩, ⟨some 25, none, .mkIface 75 (.t 24)⟩, ⟨none, none, .bad⟩])
       .skip))
     (.seq
      (.region [⟨some 4, none, .box 55 (.c (.agg [.nilslice]))⟩])
      (.block 0
       (.loop c43_l0)))))))
theorem code43 : E2.code 43 = some (c43, [.cell 2 55]) := by kernel_rfl
def c57 : CCode :=
 (.seq
  (.region [⟨some 2, none, .mv (.c (.int .u8 0))⟩])
  (.seq
   (.seq
    (.drawn 10 [⟨⟨some 3, none, .mv (.t 0)⟩, 0, .pure, []⟩, ⟨⟨some 4, none, .nilCheck (.t 3)⟩, 1, .pure, []⟩, ⟨⟨some 5, none, .fAddr 1 (.t 4)⟩, 2, .pure, []⟩, ⟨⟨some 6, none, .load1 (.t 5)⟩, 3, .read, []⟩, ⟨⟨some 7, none, .mv (.t 0)⟩, 4, .pure, []⟩, ⟨⟨some 8, none, .nilCheck (.t 7)⟩, 5, .pure, []⟩, ⟨⟨some 9, none, .fAddr 0 (.t 8)⟩, 6, .pure, []⟩, ⟨⟨some 10, none, .load1 (.t 9)⟩, 7, .read, []⟩, ⟨⟨some 11, none, .len .str (.t 10)⟩, 8, .pure, []⟩, ⟨⟨some 12, none, .bin .lss .none (.t 6) (.t 11)⟩, 9, .pure, []⟩])
    (.cond (.t 12)
     (.seq
      (.drawn 10 [⟨⟨some 13, none, .mv (.t 0)⟩, 0, .pure, []⟩, ⟨⟨some 14, none, .nilCheck (.t 13)⟩, 1, .pure, []⟩, ⟨⟨some 15, none, .fAddr 0 (.t 14)⟩, 2, .pure, []⟩, ⟨⟨some 16, none, .load1 (.t 15)⟩, 3, .read, []⟩, ⟨⟨some 17, none, .mv (.t 0)⟩, 4, .pure, []⟩, ⟨⟨some 18, none, .nilCheck (.t 17)⟩, 5, .pure, []⟩, ⟨⟨some 19, none, .fAddr 1 (.t 18)⟩, 6, .pure, []⟩, ⟨⟨some 20, none, .load1 (.t 19)⟩, 7, .read, []⟩, ⟨⟨some 21, none, .ixStr (.t 16) (.t 20)⟩, 8, .pure, []⟩, ⟨⟨some 2, none, .mv (.t 21)⟩, 9, .pure, []⟩])
      .ret)
     .skip))
   (.seq
    (.region [⟨some 2, none, .mv (.c (.int .u8 0))⟩])
    .ret)))
theorem code57 : E2.code 57 = some (c57, [.tmp 2]) := by kernel_rfl
def c58 : CCode :=
 (.seq
  (.region [⟨some 2, none, .box 57 (.c (.agg [(.str []), (.int .i64 0)]))⟩])
  (.seq
   (.region [⟨some 7, none, .mv (.t 0)⟩, ⟨some 8, none, .call (.c (.func 71 [] [])) [(.t 7), (.c (.func 23 [] []))]⟩, ⟨some 9, none, .build [(.str []), (.int .i64 0)] [(0, 1, (.t 8))]⟩, ⟨some 3, none, .box 57 (.c (.agg [(.str []), (.int .i64 0)]))⟩, ⟨none, none, .store 2 (.t 3) (.t 9)⟩])
   (.seq
    (.seq
     (.region [⟨some 10, none, .mv (.t 0)⟩, ⟨some 11, none, .call (.c (.func 57 [] [])) [(.t 10)]⟩, ⟨some 12, none, .bin .eql .none (.t 11) (.c (.int .u8 58))⟩])
     (.cond (.t 12)
      (.seq
       (.region [⟨some 13, none, .mv (.t 0)⟩, ⟨some 14, none, .nilCheck (.t 13)⟩, ⟨some 15, none, .fAddr 1 (.t 14)⟩, ⟨some 16, none, .load1 (.t 15)⟩, ⟨some 17, none, .bin .add .none (.t 16) (.c (.int .i64 1))⟩, ⟨some 18, none, .nilCheck (.t 13)⟩, ⟨some 19, none, .fAddr 1 (.t 18)⟩, ⟨none, none, .store 1 (.t 19) (.t 17)⟩])
       (.seq
        (.region [⟨some 20, none, .mv (.t 0)⟩, ⟨some 21, none, .call (.c (.func 71 [] [])) [(.t 20), (.c (.func 72 [] []))]⟩, ⟨some 4, none, .mv (.t 21)⟩])
        (.seq
         (.region [⟨some 23, none, .mv (.t 4)⟩, ⟨some 24, none, .call (.c (.func 73 [] [])) [(.t 23)]⟩, ⟨some 22, none, .mv (.t 24)⟩, ⟨some 25, none, .extract 0 (.t 22)⟩, ⟨some 26, none, .extract 1 (.t 22)⟩, ⟨some 5, none, .mv (.t 25)⟩, ⟨some 6, none, .mv (.t 26)⟩])
         (.seq
          (.seq
           (.region [⟨some 27, none, .mv (.t 6)⟩, ⟨some 28, none, .bin .neq (.iface true) (.t 27) (.c .niliface)⟩, ⟨some 29, none, .mv (.t 28)⟩, ⟨some 30, some (29, false), .mv (.t 5)⟩, ⟨some 31, some (29, false), .bin .lss .none (.t 30) (.c (.int .i64 1))⟩, ⟨some 32, none, .pick (.t 29) (.c (.bool true)) (.t 31)⟩, ⟨some 33, none, .mv (.t 32)⟩, ⟨some 34, some (33, false), .mv (.t 5)⟩, ⟨some 35, some (33, false), .bin .gtr .none (.t 34) (.c (.int .i64 1000))⟩, ⟨some 36, none, .pick (.t 33) (.c (.bool true)) (.t 35)⟩, ⟨some 37, none, .mv (.t 36)⟩, ⟨some 38, some (37, false), .mv (.t 5)⟩, ⟨some 39, some (37, false), .call (.c (.func 34 [] [])) [(.t 38)]⟩, ⟨some 40, some (37, false), .mv (.t 4)⟩, ⟨some 41, some (37, false), .bin .neq .none (.t 39) (.t 40)⟩, ⟨some 42, none, .pick (.t 37) (.c (.bool true)) (.t 41)⟩])
           (.cond (.t 42)
            (.region [⟨some 43, none, .build [] []⟩, ⟨some 44, none, .mkIface 75 (.t 43)⟩, ⟨none, none, .bad⟩])
            .skip))
          (.region [⟨some 45, none, .mv (.t 5)⟩, ⟨some 46, none, .fAddr 1 (.t 3)⟩, ⟨none, none, .store 1 (.t 46) (.t 45)⟩])))))
      .skip))
    (.seq
     (.region [⟨some 47, none, .loadN 2 (.t 3)⟩, ⟨none, none, .store 2 (.t 2) (.t 47)⟩])
     .ret))))
theorem code58 : E2.code 58 = some (c58, [.cell 2 57]) := by kernel_rfl
def c71_l0 : CCode :=
 (.seq
  (.seq
   (.drawn 23 [⟨⟨some 10, none, .mv (.t 0)⟩, 0, .pure, []⟩, ⟨⟨some 11, none, .nilCheck (.t 10)⟩, 1, .pure, []⟩, ⟨⟨some 12, none, .fAddr 1 (.t 11)⟩, 2, .pure, []⟩, ⟨⟨some 13, none, .load1 (.t 12)⟩, 3, .read, []⟩, ⟨⟨some 14, none, .mv (.t 0)⟩, 4, .pure, []⟩, ⟨⟨some 15, none, .nilCheck (.t 14)⟩, 5, .pure, []⟩, ⟨⟨some 16, none, .fAddr 0 (.t 15)⟩, 6, .pure, []⟩, ⟨⟨some 17, none, .load1 (.t 16)⟩, 7, .read, []⟩, ⟨⟨some 18, none, .len .str (.t 17)⟩, 8, .pure, []⟩, ⟨⟨some 19, none, .bin .lss .none (.t 13) (.t 18)⟩, 9, .pure, []⟩, ⟨⟨some 20, none, .mv (.t 19)⟩, 10, .pure, []⟩, ⟨⟨some 21, some (20, true), .mv (.t 1)⟩, 11, .pure, []⟩, ⟨⟨some 22, some (20, true), .mv (.t 0)⟩, 12, .pure, []⟩, ⟨⟨some 23, some (20, true), .nilCheck (.t 22)⟩, 13, .pure, []⟩, ⟨⟨some 24, some (20, true), .fAddr 0 (.t 23)⟩, 14, .pure, []⟩, ⟨⟨some 25, some (20, true), .load1 (.t 24)⟩, 15, .read, []⟩, ⟨⟨some 26, some (20, true), .mv (.t 0)⟩, 16, .pure, []⟩, ⟨⟨some 27, some (20, true), .nilCheck (.t 26)⟩, 17, .pure, []⟩, ⟨⟨some 28, some (20, true), .fAddr 1 (.t 27)⟩, 18, .pure, []⟩, ⟨⟨some 29, some (20, true), .load1 (.t 28)⟩, 19, .read, []⟩, ⟨⟨some 30, some (20, true), .ixStr (.t 25) (.t 29)⟩, 20, .pure, []⟩, ⟨⟨some 31, some (20, true), .call (.t 21) [(.t 30)]⟩, 21, .wr, []⟩, ⟨⟨some 32, none, .pick (.t 20) (.t 31) (.c (.bool false))⟩, 22, .pure, []⟩])
   (.cond (.t 32)
    .skip
    (.exit 0)))
  (.block 1
   (.region [⟨some 33, none, .mv (.t 0)⟩, ⟨some 34, none, .nilCheck (.t 33)⟩, ⟨some 35, none, .fAddr 1 (.t 34)⟩, ⟨some 36, none, .load1 (.t 35)⟩, ⟨some 37, none, .bin .add .none (.t 36) (.c (.int .i64 1))⟩, ⟨some 38, none, .nilCheck (.t 33)⟩, ⟨some 39, none, .fAddr 1 (.t 38)⟩, ⟨none, none, .store 1 (.t 39) (.t 37)⟩])))
def c71 : CCode :=
 (.seq
  (.region [⟨some 4, none, .mv (.c (.str []))⟩])
  (.seq
   (.region [⟨some 6, none, .mv (.t 0)⟩, ⟨some 7, none, .nilCheck (.t 6)⟩, ⟨some 8, none, .fAddr 1 (.t 7)⟩, ⟨some 9, none, .load1 (.t 8)⟩, ⟨some 5, none, .mv (.t 9)⟩])
   (.seq
    (.block 0
     (.loop c71_l0))
    (.seq
     (.drawn 11 [⟨⟨some 40, none, .mv (.t 0)⟩, 0, .pure, []⟩, ⟨⟨some 41, none, .nilCheck (.t 40)⟩, 1, .pure, []⟩, ⟨⟨some 42, none, .fAddr 0 (.t 41)⟩, 2, .pure, []⟩, ⟨⟨some 43, none, .load1 (.t 42)⟩, 3, .read, []⟩, ⟨⟨some 44, none, .mv (.t 5)⟩, 4, .pure, []⟩, ⟨⟨some 45, none, .mv (.t 0)⟩, 5, .pure, []⟩, ⟨⟨some 46, none, .nilCheck (.t 45)⟩, 6, .pure, []⟩, ⟨⟨some 47, none, .fAddr 1 (.t 46)⟩, 7, .pure, []⟩, ⟨⟨some 48, none, .load1 (.t 47)⟩, 8, .read, []⟩, ⟨⟨some 49, none, .slStr (.t 43) (some (.t 44)) (some (.t 48))⟩, 9, .pure, []⟩, ⟨⟨some 4, none, .mv (.t 49)⟩, 10, .pure, []⟩])
     .ret))))
theorem code71 : E2.code 71 = some (c71, [.tmp 4]) := by kernel_rfl
def c72 : CCode :=
 (.seq
  (.region [⟨some 2, none, .mv (.c (.bool false))⟩])
  (.seq
   (.region [⟨some 3, none, .mv (.t 0)⟩, ⟨some 4, none, .bin .geq .none (.t 3) (.c (.int .u8 48))⟩, ⟨some 5, none, .mv (.t 4)⟩, ⟨some 6, some (5, true), .mv (.t 0)⟩, ⟨some 7, some (5, true), .bin .leq .none (.t 6) (.c (.int .u8 57))⟩, ⟨some 8, none, .pick (.t 5) (.t 7) (.c (.bool false))⟩, ⟨some 2, none, .mv (.t 8)⟩])
   .ret))
theorem code72 : E2.code 72 = some (c72, [.tmp 2]) := by kernel_rfl
end Go.AX
namespace Go.AX
open Go Go.Proofs
noncomputable section
set_option linter.unusedSimpArgs false
set_option linter.unusedVariables false
attribute [local go_sem] b_seq wp_skip wp_exit wp_ret wp_region b_block wops_nil b_ops b_opsg b_cond condV_lite wo_mv b_bin wo_call callV_func wo_pick b_box wo_load1 wo_loadN wo_store wo_nilCheck wo_not wo_lenStr' wo_lenSl wo_ixStr' wo_ixSl wo_fAddr wo_part1 wo_partN wo_extract wo_cInt wo_cStr wo_mkMap wo_mkIface wo_mkFunc wo_lookup pickV_bool ifT_true ifT_false b_loadV b_loadNV b_storeV nilV_ptr nilV_func nilV_iface notV_bool lenStrV_str lenSlV_nil lenSlV_slice b_ixStrV ixSlV_slice fAddrV_ptr b_part1V partNV_agg b_extractV convV_int strV_str evC_tm evC_cn T.get_set putA_some putA_none onO_some evCs_nil evCs_cons appL_nil appL_cons guardOk_true guardOk_false cellsV_bool cellsV_int cellsV_str cellsV_nilptr cellsV_ptr cellsV_nilslice cellsV_slice cellsV_nilmap cellsV_map cellsV_func cellsV_nilfunc cellsV_iface cellsV_niliface cellsV_agg bin_lss bin_gtr bin_leq bin_geq bin_eql bin_neq bin_add bin_sub bin_eqlS bin_neqS mkFrame_nil mkFrame_cons resA_one resA_two resA_three over_0 over_1 over_2 over_3 over_4 over_5 over0_nil over0_cons Option.getD_some if_true if_false AHeap.next_push AVal.bool.injEq decide_eq_true_eq decide_eq_false_iff_not Bool.not_eq_true' Bool.not_eq_false' Bool.not_eq_true decide_true decide_false Bool.not_true Bool.not_false Int.toNat_natCast Int.natCast_nonneg true_and and_true wo_mapPut wp_drawn' wsts_nil b_pure b_read b_new b_wr wor_none b_org rer_nil rer_load1 rer_loadN wo_append AHeap.next_skip AHeap.next_put' AHeap.mk_push_t AHeap.mk_eta AHeap.mk_skip ldA_skip ldN_skip Nat.add_zero Nat.zero_add b_lite_true b_lite_false eq_self_iff_true not_true_eq_false not_false_eq_true bx_k bx_q bx_x bx_1 undefA_bool putAt_push List.length_cons List.length_nil Nat.le_refl ldA_push_new ldN_push_new List.getElem?_cons_zero List.getElem?_cons_succ List.drop_zero List.drop_succ_cons List.take_succ_cons List.take_zero b_build b_buildSlice evParts_nil evParts_cons b_fillA_nil b_fillA nbeq nble natadd natmul lenL_eq repL_1 repL_2 repL_3 wo_sliceData sdV_nil sdV_slice wo_unsafeStr usV_nil wo_slStr slStrV_str evCo_none evCo_some boundA_none Bool.and_true Bool.true_and wo_minmax2' mm2V_int
def Par (h : AHeap) (p : Nat) (s : List Nat) (i : Nat) : Prop := p < h.next ∧ h.get p = some (.cells [.str s, .int .i64 (i : Int)] 79)
theorem Par.ld0 {h : AHeap} {p : Nat} {s : List Nat} {i : Nat} (H : Par h p s i) : ldA h p 0 = some (.str s) := by rw [ldA_cells H.2]; rfl
theorem Par.ld1 {h : AHeap} {p : Nat} {s : List Nat} {i : Nat} (H : Par h p s i) : ldA h p 1 = some (.int .i64 (i : Int)) := by rw [ldA_cells H.2]; rfl
theorem Par.mono {h h' : AHeap} {p : Nat} {s : List Nat} {i : Nat} (H : Par h p s i) (hle : Hle h h') : Par h' p s i := ⟨by have := hle.next; have := H.1; omega, (hle.get p H.1).trans H.2⟩
def Only (p : Nat) (h h' : AHeap) : Prop := h.next ≤ h'.next ∧ ∀ c, c < h.next → c ≠ p → h'.get c = h.get c
theorem Only.refl (p : Nat) (h : AHeap) : Only p h h := ⟨Nat.le_refl _, fun _ _ _ => rfl⟩
theorem Only.trans {p : Nat} {h h' h'' : AHeap} (H : Only p h h') (G : Only p h' h'') : Only p h h'' := ⟨Nat.le_trans H.1 G.1, fun c hc hp => (G.2 c (Nat.lt_of_lt_of_le hc H.1) hp).trans (H.2 c hc hp)⟩
theorem Hle.only {p : Nat} {h h' : AHeap} (H : Hle h h') : Only p h h' := ⟨H.next, fun c hc _ => H.get c hc⟩
theorem Par.put {h : AHeap} {p : Nat} {s : List Nat} {i : Nat} (H : Par h p s i) (j : Nat) (z : Int) (hz : z = (j : Int)) : ∃ h', putAt h p 1 1 [.int .i64 z] = some h' ∧ Par h' p s j ∧ Only p h h' := by
  subst hz
  refine ⟨h.put p (.cells [.str s, .int .i64 (j : Int)] 79), putAt_cells (o := 1) (n := 1) (vs := [.int .i64 (j : Int)]) H.2 rfl (by simp), ⟨by simp [AHeap.next_put]; exact H.1, AHeap.get_put_same _ _ _⟩, ⟨by simp [AHeap.next_put], fun c _ hp => AHeap.get_put_ne _ _ (Ne.symm hp)⟩⟩
theorem peek_c (p : Nat) (s : List Nat) (i : Nat) (h : AHeap) (H : Par h p s i) : Ec E2 57 [.ptr p 0] h fun r h' => r = .int .u8 ((s[i]?.getD 0 : Nat) : Int) ∧ Hle h h' := by
  refine Ec.of_wpb (prim2_none (by decide)) code57 ?_
  unfold c57
  have l0 := H.ld0
  have l1 := H.ld1
  simp only [go_sem, Nat.reduceEqDiff, Int.reduceLT, Int.reduceLE, Int.reduceEq, Nat.reduceLT, Nat.reduceAdd, Nat.reduceMul, Int.reduceToNat, Nat.reduceLeDiff, reduceCtorEq, l0, l1]
  by_cases hc : (i : Int) < (s.length : Int)
  · obtain ⟨x, hx⟩ : ∃ x, s[i]? = some x := ⟨_, List.getElem?_eq_getElem (by omega)⟩
    simp only [go_sem, Nat.reduceEqDiff, Int.reduceLT, Int.reduceLE, Int.reduceEq, Nat.reduceLT, Nat.reduceAdd, Nat.reduceMul, Int.reduceToNat, Nat.reduceLeDiff, reduceCtorEq, l0, l1, hc, hx]
    exact ((Hle.refl h).skip _).skip _
  · simp only [go_sem, Nat.reduceEqDiff, Int.reduceLT, Int.reduceLE, Int.reduceEq, Nat.reduceLT, Nat.reduceAdd, Nat.reduceMul, Int.reduceToNat, Nat.reduceLeDiff, reduceCtorEq, l0, l1, hc]
    rw [List.getElem?_eq_none (by omega)]
    exact ⟨rfl, (Hle.refl h).skip _⟩
def runL (test : Nat → Bool) (s : List Nat) (i : Nat) : List Nat := (s.drop i).takeWhile test
theorem runL_step {test : Nat → Bool} {s : List Nat} {i x : Nat} (hx : s[i]? = some x) (ht : test x = true) : runL test s i = x :: runL test s (i + 1) := by
  unfold runL
  have hi := List.getElem?_eq_some_iff.1 hx
  rw [List.drop_eq_getElem_cons hi.1, hi.2, List.takeWhile_cons_of_pos ht]
theorem runL_stop {test : Nat → Bool} {s : List Nat} {i x : Nat} (hx : s[i]? = some x) (ht : ¬ test x = true) : runL test s i = [] := by
  unfold runL
  have hi := List.getElem?_eq_some_iff.1 hx
  rw [List.drop_eq_getElem_cons hi.1, hi.2, List.takeWhile_cons_of_neg ht]
theorem runL_end {test : Nat → Bool} {s : List Nat} {i : Nat} (hi : s.length ≤ i) : runL test s i = [] := by
  unfold runL
  rw [List.drop_eq_nil_of_le hi]; rfl
theorem runL_len (test : Nat → Bool) (s : List Nat) (i : Nat) : (runL test s i).length ≤ s.length - i := by
  unfold runL
  have := (List.takeWhile_prefix (l := s.drop i) test).length_le
  simpa using this
theorem runL_take (test : Nat → Bool) (s : List Nat) (i : Nat) : runL test s i = (s.drop i).take (runL test s i).length := by
  have := List.takeWhile_prefix (l := s.drop i) test
  exact (List.prefix_iff_eq_take.1 this)
theorem digit_c (x : Nat) (h : AHeap) : Ec E2 72 [.int .u8 (x : Int)] h fun r h' => r = .bool (decide (48 ≤ x) && decide (x ≤ 57)) ∧ Hle h h' := by
  refine Ec.of_wpb (prim2_none (by decide)) code72 ?_
  unfold c72
  by_cases h1 : (x : Int) < 48
  · simp only [go_sem, Nat.reduceEqDiff, Int.reduceLT, Int.reduceLE, Int.reduceEq, Nat.reduceLT, Nat.reduceAdd, Nat.reduceMul, Int.reduceToNat, Nat.reduceLeDiff, reduceCtorEq, h1]
    refine ⟨?_, Hle.refl h⟩
    have : ¬ 48 ≤ x := by omega
    simp [this]
  · simp only [go_sem, Nat.reduceEqDiff, Int.reduceLT, Int.reduceLE, Int.reduceEq, Nat.reduceLT, Nat.reduceAdd, Nat.reduceMul, Int.reduceToNat, Nat.reduceLeDiff, reduceCtorEq, h1]
    refine ⟨?_, Hle.refl h⟩
    have e1 : 48 ≤ x := by omega
    have e2 : decide (57 < (x : Int)) = decide (57 < x) := by congr 1; simp; omega
    by_cases e3 : x ≤ 57
    · have : ¬ (57 : Int) < (x : Int) := by omega
      simp [e1, e3, this]
    · have : (57 : Int) < (x : Int) := by omega
      simp [e1, e3, this]
theorem boundA_at {k : IntKind} {n d hi : Nat} (h2 : n ≤ hi) : boundA (some (.int k (n : Int))) d hi = some n := by
  show ifT (Nat.ble n hi) (some n) none = _
  rw [ifT_eq, if_pos (by simpa using h2)]
set_option maxHeartbeats 1000000 in
theorem take_c (f : FuncId) (test : Nat → Bool) (hfb : f < 1000000000) (hf : ∀ (x : Nat) h, Ec E2 f [.int .u8 (x : Int)] h fun r h' => r = .bool (test x) ∧ Hle h h') (p : Nat) (s : List Nat) (i : Nat) (h : AHeap) (H : Par h p s i) (hi : i ≤ s.length) (hs : s.length ≤ 9223372036854775807) :
    Ec E2 71 [.ptr p 0, .func f [] []] h fun r h' => r = .str (runL test s i) ∧ Par h' p s (i + (runL test s i).length) ∧ Only p h h' := by
  refine Ec.of_wpb (prim2_none (by decide)) code71 ?_
  unfold c71
  have l0 := H.ld0
  have l1 := H.ld1
  simp only [go_sem, Nat.reduceEqDiff, Int.reduceLT, Int.reduceLE, Int.reduceEq, Nat.reduceLT, Nat.reduceAdd, Nat.reduceMul, Int.reduceToNat, Nat.reduceLeDiff, reduceCtorEq, l0, l1]
  refine b_loop (fun d fr h' => Only p h h' ∧ fr.get 0 = some (.ptr p 0) ∧ fr.get 1 = some (.func f [] []) ∧ fr.get 5 = some (.int .i64 (i : Int)) ∧ ∃ k : Nat, Par h' p s (i + k) ∧ d + (i + k) = s.length ∧ (runL test s i).length = k + (runL test s (i + k)).length) (s.length - i) ?_ ?_
  · exact ⟨Only.refl p h, by simp [T.get_set], by simp [T.get_set], by simp [T.get_set], 0, H, by omega, by simp⟩
  rintro d fr h' ⟨hon, t0, t1, t5, k, hP, hd, hrun⟩
  have m0 := hP.ld0
  have m1 := hP.ld1
  unfold c71_l0
  by_cases hc : ((i + k : Nat) : Int) < (s.length : Int)
  · obtain ⟨x, hx⟩ : ∃ x, s[i + k]? = some x := ⟨_, List.getElem?_eq_getElem (by omega)⟩
    have hle : (Hle h' (h'.skip 23)) := (Hle.refl h').skip _
    simp only [go_sem, Nat.reduceEqDiff, Int.reduceLT, Int.reduceLE, Int.reduceEq, Nat.reduceLT, Nat.reduceAdd, Nat.reduceMul, Int.reduceToNat, Nat.reduceLeDiff, reduceCtorEq, t0, t1, t5, m0, m1, hc, hx]
    refine ⟨by simp [Nat.blt_eq, hfb], ?_⟩
    refine (hf x _).mono ?_
    rintro r h2 ⟨rfl, hle2⟩
    have hP2 := hP.mono (hle.trans hle2)
    by_cases ht : test x = true
    · obtain ⟨h3, hput, hP3, hon3⟩ := hP2.put (i + (k + 1)) ((IntKind.i64).wrap (((i + k : Nat) : Int) + 1)) (by rw [wrap_i64 (by omega) (by omega)]; push_cast; omega)
      simp only [go_sem, Nat.reduceEqDiff, Int.reduceLT, Int.reduceLE, Int.reduceEq, Nat.reduceLT, Nat.reduceAdd, Nat.reduceMul, Int.reduceToNat, Nat.reduceLeDiff, reduceCtorEq, t0, t1, t5, ht, hP2.ld0, hP2.ld1, hput]
      refine ⟨d - 1, by omega, hon.trans (((hle.trans hle2).only).trans hon3), k + 1, hP3, by omega, ?_⟩
      rw [hrun, runL_step hx ht]
      simp [Nat.add_assoc]; omega
    · have b1 : boundA (some (.int .i64 ((i + k : Nat) : Int))) s.length s.length = some (i + k) := boundA_at (by omega)
      have b2 : boundA (some (.int .i64 (i : Int))) 0 (i + k) = some i := boundA_at (by omega)
      simp only [go_sem, Nat.reduceEqDiff, Int.reduceLT, Int.reduceLE, Int.reduceEq, Nat.reduceLT, Nat.reduceAdd, Nat.reduceMul, Int.reduceToNat, Nat.reduceLeDiff, reduceCtorEq, t0, t1, t5, ht, hP2.ld0, hP2.ld1, b1, b2]
      have hz := runL_stop hx ht
      rw [hz] at hrun
      have hk : (runL test s i).length = k := by simpa using hrun
      refine ⟨?_, ?_, hon.trans (((hle.trans hle2).skip _).only)⟩
      · rw [runL_take, hk, List.take_drop]
      · rw [hk]; exact hP2.mono ((Hle.refl _).skip _)
  · have b1 : boundA (some (.int .i64 ((i + k : Nat) : Int))) s.length s.length = some (i + k) := boundA_at (by omega)
    have b2 : boundA (some (.int .i64 (i : Int))) 0 (i + k) = some i := boundA_at (by omega)
    simp only [go_sem, Nat.reduceEqDiff, Int.reduceLT, Int.reduceLE, Int.reduceEq, Nat.reduceLT, Nat.reduceAdd, Nat.reduceMul, Int.reduceToNat, Nat.reduceLeDiff, reduceCtorEq, t0, t1, t5, m0, m1, hc, b1, b2]
    have hz := runL_end (test := test) (s := s) (i := i + k) (by omega)
    rw [hz] at hrun
    have hk : (runL test s i).length = k := by simpa using hrun
    have hle : Hle h' ((h'.skip 23).skip 11) := ((Hle.refl _).skip _).skip _
    refine ⟨?_, ?_, hon.trans hle.only⟩
    · rw [runL_take, hk, List.take_drop]
    · rw [hk]; exact hP.mono hle
end
end Go.AX

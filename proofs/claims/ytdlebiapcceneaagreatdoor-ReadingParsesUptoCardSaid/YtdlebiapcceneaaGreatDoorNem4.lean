/-
  Contracts of functions of this seat, for every input that each theorem names.
-/
import Derived.Test.YtdlebiapcceneaaGreatDoorNem3
import Derived.Test.YtdlebiapcceneaaGreatDoorNem1
import Derived.Test.YtdlebiapcceneaaGreatDoorNes1
set_option linter.unusedVariables false
set_option linter.unusedSimpArgs false
set_option linter.unusedSectionVars false
namespace Go.AX
open Go Go.Proofs
noncomputable section
def chkN (n : Nat) : Bool := (itoaL ((n : Int) + 1)).all isDig && (match Lib.atoiAll ((itoaL ((n : Int) + 1)).map Nat.toUInt8) with | .ok v => decide (v = (n : Int) + 1) | _ => false)
theorem chkN_all : (List.range 1000).all chkN = true := by kernel_rfl
theorem numD_itoa {n : Int} (h1 : 1 ≤ n) (h2 : n ≤ 1000) : (∀ x, x ∈ itoaL n → isDig x = true) ∧ numD (itoaL n) = some n := by
  obtain ⟨k, rfl⟩ : ∃ k : Nat, n = (k : Int) + 1 := ⟨(n - 1).toNat, by omega⟩
  have hk := List.all_eq_true.1 chkN_all k (List.mem_range.2 (by omega))
  unfold chkN at hk
  rw [Bool.and_eq_true] at hk
  refine ⟨List.all_eq_true.1 hk.1, ?_⟩
  have h3 := hk.2
  unfold numD
  split at h3
  · rename_i v hv
    have hv2 : v = (k : Int) + 1 := by simpa using h3
    subst hv2
    rw [hv]
    simp only
    rw [if_pos ⟨h1, h2, trivial⟩]
  · cases h3
theorem runL_app {test : Nat → Bool} {s l rest : List Nat} {i : Nat} (hd : s.drop i = l ++ rest) (hl : ∀ x, x ∈ l → test x = true) (hr : ∀ x, rest.head? = some x → test x = false) : runL test s i = l := by
  unfold runL
  rw [hd, List.takeWhile_append_of_pos hl]
  cases rest with
  | nil => simp
  | cons x r => rw [List.takeWhile_cons_of_neg (by rw [hr x rfl]; simp)]; simp
theorem drop_at {s l rest : List Nat} {i : Nat} (hd : s.drop i = l ++ rest) : s.drop (i + l.length) = rest := by
  rw [← List.drop_drop, hd]; simp
theorem drop_head {s rest : List Nat} {i x : Nat} (hd : s.drop i = x :: rest) : s[i]? = some x := by
  have : (s.drop i)[0]? = some x := by rw [hd]; rfl
  simpa using this
theorem pAlt_print {s rest : List Nat} {i x : Nat} {a : Alt} (ha : altOk a) (hx : x = 124 ∨ x = 41) (hd : s.drop i = altT a ++ x :: rest) : pAlt s i = some (a, i + (altT a).length) := by
  obtain ⟨l, n⟩ := a
  have hll : ∀ x, x ∈ l → isL x = true := by
    have := ha.2.1
    unfold lettered at this
    exact List.all_eq_true.1 this
  have h3 : 0 ≤ n := ha.2.2.1
  have h4 : n ≤ 1000 := ha.2.2.2
  unfold pAlt
  by_cases hn : n = 0
  · subst hn
    have e : altT (l, 0) = l := if_pos rfl
    rw [e] at hd ⊢
    have hr : runL isL s i = l := runL_app hd hll (fun y hy => by cases hy; rcases hx with rfl | rfl <;> rfl)
    have h0 := drop_head (drop_at hd)
    rw [hr, h0, if_neg (by rcases hx with rfl | rfl <;> simp)]
  · have e : altT (l, n) = l ++ 58 :: itoaL n := if_neg hn
    rw [e] at hd ⊢
    have hd2 : s.drop i = l ++ (58 :: (itoaL n ++ x :: rest)) := by rw [hd]; simp
    have hr : runL isL s i = l := runL_app hd2 hll (fun y hy => by cases hy; rfl)
    have hd3 := drop_at hd2
    have h0 := drop_head hd3
    have hd4 : s.drop (i + l.length + 1) = itoaL n ++ x :: rest := by rw [← List.drop_drop, hd3]; rfl
    obtain ⟨hdg, hnum⟩ := numD_itoa (n := n) (by omega) h4
    have hr2 : runL isDig s (i + l.length + 1) = itoaL n := runL_app hd4 hdg (fun y hy => by cases hy; rcases hx with rfl | rfl <;> rfl)
    rw [hr, h0, if_pos (by simp), hr2, hnum]
    simp only [Option.map_some, List.length_append, List.length_cons, Option.some.injEq, Prod.mk.injEq, true_and]
    omega
theorem pAlts_print : ∀ (l : List Alt) (a : Alt) {s rest : List Nat} {i x n : Nat} {acc : List Alt}, (∀ y, y ∈ a :: l → altOk y) → l.length + 1 ≤ n → s.drop i = x :: (altT a ++ (l.flatMap fun b => 124 :: altT b) ++ 41 :: rest) →
    pAlts n s i acc = some (acc ++ a :: l, i + 1 + (altT a ++ (l.flatMap fun b => 124 :: altT b)).length + 1)
  | [], a, s, rest, i, x, n + 1, acc, ho, hn, hd => by
    have hd1 : s.drop (i + 1) = altT a ++ 41 :: rest := by rw [← List.drop_drop, hd]; simp
    have h1 := pAlt_print (ho a (by simp)) (.inr rfl) hd1
    have h2 := drop_head (drop_at hd1)
    unfold pAlts
    rw [h1]
    simp only
    rw [h2, if_neg (by simp), if_pos (by simp)]
    simp
  | b :: l, a, s, rest, i, x, n + 1, acc, ho, hn, hd => by
    have hd1 : s.drop (i + 1) = altT a ++ 124 :: (altT b ++ (l.flatMap fun b => 124 :: altT b) ++ 41 :: rest) := by rw [← List.drop_drop, hd]; simp
    have h1 := pAlt_print (ho a (by simp)) (.inl rfl) hd1
    have hd2 := drop_at hd1
    have h2 := drop_head hd2
    have ih := pAlts_print l b (n := n) (acc := acc ++ [a]) (fun y hy => ho y (List.mem_cons_of_mem _ hy)) (by simp at hn; omega) hd2
    unfold pAlts
    rw [h1]
    simp only
    rw [h2, if_pos (by simp), ih]
    refine congrArg some (Prod.ext (by simp) ?_)
    show _ + 1 = _ + 1
    rw [List.flatMap_cons]
    simp only [List.length_append, List.length_cons]
    omega
theorem flat_len (l : List Alt) : l.length ≤ (l.flatMap fun b => 124 :: altT b).length := by
  induction l with
  | nil => simp
  | cons a l ih => rw [List.flatMap_cons]; simp only [List.length_append, List.length_cons]; omega
theorem pCell_print {s rest : List Nat} {i : Nat} {c : List Alt} (hv : validP c) (hd : s.drop i = printC c ++ rest) : pCell s i = some (c, i + (printC c).length) := by
  unfold pCell
  by_cases ho : isOne c = true
  · obtain ⟨⟨l, n⟩, rfl, hl, hn⟩ := isOne_inv ho
    have hn : n = 0 := hn
    subst hn
    have hl : l.length = 1 := hl
    obtain ⟨x, rfl⟩ : ∃ x, l = [x] := by
      match l, hl with
      | [x], _ => exact ⟨x, rfl⟩
    have e : printC [([x], 0)] = [x] := by unfold printC; rw [if_pos ho]; rfl
    rw [e] at hd ⊢
    have h0 := drop_head hd
    have hx : isL x = true := by
      have := (hv.2.2.1 ([x], 0) (by simp)).2.1
      unfold lettered at this
      simpa using this
    rw [h0]
    simp [hx]
  · have e : printC c = 40 :: (joinA c ++ [41]) := by unfold printC; rw [if_neg ho]
    rw [e] at hd ⊢
    have h0 := drop_head (rest := joinA c ++ [41] ++ rest) hd
    match c, hv with
    | [], hv => have := hv.1; simp at this
    | a :: l, hv =>
    rw [h0, if_neg (by simp; rfl), if_pos (by simp)]
    have hd2 : s.drop i = 40 :: (altT a ++ (l.flatMap fun b => 124 :: altT b) ++ 41 :: rest) := by rw [hd]; simp [joinA]
    have hlen := congrArg List.length hd2
    have hfl := flat_len l
    rw [List.length_drop] at hlen
    simp only [List.length_cons, List.length_append] at hlen
    rw [pAlts_print l a hv.2.2.1 (by omega) hd2]
    refine congrArg some (Prod.ext (by simp) ?_)
    show _ + 1 = _
    simp only [joinA, List.length_append, List.length_cons, List.length_nil]
    omega
theorem printC_ne (c : List Alt) (hv : validP c) : 1 ≤ (printC c).length := by
  unfold printC
  split
  · rename_i ho
    obtain ⟨⟨l, n⟩, rfl, hl, hn⟩ := isOne_inv ho
    have hl : l.length = 1 := hl
    simp [hl]
  · simp
theorem printS_ne {cells : List (List Alt)} (hv : allV cells) : cells.length ≤ (printS cells).length := by
  induction cells with
  | nil => simp
  | cons c l ih =>
    have h1 := printC_ne c (hv c (by simp))
    have h2 := ih fun y hy => hv y (by simp [hy])
    unfold printS at h2 ⊢
    rw [List.flatMap_cons, List.length_append, List.length_cons]
    omega
theorem pCells_print : ∀ (cs : List (List Alt)) {s : List Nat} {i n : Nat} {acc : List (List Alt)}, allV cs → acc.length + cs.length ≤ 32 → cs.length + 1 ≤ n → s.drop i = printS cs → pCells n s i acc = some (some (acc ++ cs))
  | [], s, i, n + 1, acc, hv, hl, hn, hd => by
    have h0 : s.length ≤ i := by
      have : s.drop i = [] := hd
      exact List.drop_eq_nil_iff.1 this
    unfold pCells
    rw [if_neg (by omega)]; simp
  | c :: cs, s, i, n + 1, acc, hv, hl, hn, hd => by
    have hd' : s.drop i = printC c ++ printS cs := hd
    have h1 := printC_ne c (hv c (by simp))
    have hi : i < s.length := by
      have := congrArg List.length hd'
      simp at this
      omega
    have hc := pCell_print (hv c (by simp)) hd'
    have ih := pCells_print cs (n := n) (acc := acc ++ [c]) (fun y hy => hv y (by simp [hy])) (by simp at hl ⊢; omega) (by simp at hn; omega) (drop_at hd')
    unfold pCells
    rw [if_pos hi, if_neg (by simp at hl; omega), hc]
    simp only
    rw [ih]; simp
theorem parse_print {cells : List (List Alt)} (hE : checkE cells = 0) : pCells ((printS cells).length + 1) (printS cells) 0 [] = some (some cells) := by
  obtain ⟨hl, hv⟩ := checkE_ok hE
  have := printS_ne hv
  simpa using pCells_print cells (s := printS cells) (i := 0) (n := (printS cells).length + 1) (acc := []) hv (by simpa using hl) (by omega) (by simp)
end
end Go.AX
namespace Go.AX
open Go Go.Proofs
noncomputable section
set_option linter.unusedSimpArgs false
set_option linter.unusedVariables false
attribute [local go_sem] b_seq wp_skip wp_exit wp_ret wp_region b_block wops_nil b_ops b_opsg b_cond condV_lite wo_mv b_bin wo_call callV_func wo_pick b_box wo_load1 wo_loadN wo_store wo_nilCheck wo_not wo_lenStr' wo_lenSl wo_ixStr' wo_ixSl wo_fAddr wo_part1 wo_partN wo_extract wo_cInt wo_cStr wo_mkMap wo_mkIface wo_mkFunc wo_lookup pickV_bool ifT_true ifT_false b_loadV b_loadNV b_storeV nilV_ptr nilV_func nilV_iface notV_bool lenStrV_str lenSlV_nil lenSlV_slice b_ixStrV ixSlV_slice fAddrV_ptr b_part1V partNV_agg b_extractV convV_int strV_str evC_tm evC_cn T.get_set putA_some putA_none onO_some evCs_nil evCs_cons appL_nil appL_cons guardOk_true guardOk_false cellsV_bool cellsV_int cellsV_str cellsV_nilptr cellsV_ptr cellsV_nilslice cellsV_slice cellsV_nilmap cellsV_map cellsV_func cellsV_nilfunc cellsV_iface cellsV_niliface cellsV_agg bin_lss bin_gtr bin_leq bin_geq bin_eql bin_neq bin_add bin_sub bin_eqlS bin_neqS mkFrame_nil mkFrame_cons resA_one resA_two resA_three over_0 over_1 over_2 over_3 over_4 over_5 over0_nil over0_cons Option.getD_some if_true if_false AHeap.next_push AVal.bool.injEq decide_eq_true_eq decide_eq_false_iff_not Bool.not_eq_true' Bool.not_eq_false' Bool.not_eq_true decide_true decide_false Bool.not_true Bool.not_false Int.toNat_natCast Int.natCast_nonneg true_and and_true wo_mapPut wp_drawn' wsts_nil b_pure b_read b_new b_wr wor_none b_org rer_nil rer_load1 rer_loadN wo_append AHeap.next_skip AHeap.next_put' AHeap.mk_push_t AHeap.mk_eta AHeap.mk_skip ldA_skip ldN_skip Nat.add_zero Nat.zero_add b_lite_true b_lite_false eq_self_iff_true not_true_eq_false not_false_eq_true bx_k bx_q bx_x bx_1 undefA_bool putAt_push List.length_cons List.length_nil Nat.le_refl ldA_push_new ldN_push_new List.getElem?_cons_zero List.getElem?_cons_succ List.drop_zero List.drop_succ_cons List.take_succ_cons List.take_zero b_build b_buildSlice evParts_nil evParts_cons b_fillA_nil b_fillA nbeq nble natadd natmul lenL_eq repL_1 repL_2 repL_3 wo_sliceData sdV_nil sdV_slice wo_unsafeStr usV_nil wo_slStr slStrV_str evCo_none evCo_some boundA_none Bool.and_true Bool.true_and wo_minmax2' mm2V_int
def cA : CCode → CCode | .seq a _ => a | c => c
def cB : CCode → CCode | .seq _ b => b | c => c
def cT : CCode → CCode | .cond _ a _ => a | c => c
def codT : Code → Code | .cond _ a _ => a | c => c
noncomputable def b58 : Code := Tryz.f58.body.getD .skip
noncomputable def pl58 : List (Nat × List Nat) := (E2.plans.get 58).getD []
noncomputable def t58 : Code := codT (seqB (seqA (seqB (seqB b58))))
noncomputable def x58 : Code := seqA (seqB (seqB (seqB t58)))
noncomputable def d58 : CCode := cT (cB (cA (cB (cB c58))))
theorem e58a : b58 = .seq (seqA b58) (.seq (seqA (seqB b58)) (.seq (.seq (seqA (seqA (seqB (seqB b58)))) (.cond (.tmp 12) t58 .skip)) (seqB (seqB (seqB b58))))) := by kernel_rfl
theorem e58b : t58 = .seq (seqA t58) (.seq (seqA (seqB t58)) (.seq (seqA (seqB (seqB t58))) (.seq (.seq (seqA x58) (.cond (.tmp 42) (codT (seqB x58)) .skip)) (seqB (seqB (seqB (seqB t58))))))) := by kernel_rfl
theorem k58a : cCode E2 48 pl58 (seqA b58) = some (cA c58) := by kernel_rfl
theorem k58b : cCode E2 48 pl58 (seqA (seqB b58)) = some (cA (cB c58)) := by kernel_rfl
theorem k58c : cCode E2 48 pl58 (seqA (seqA (seqB (seqB b58)))) = some (cA (cA (cB (cB c58)))) := by kernel_rfl
theorem k58d : cCode E2 48 pl58 (seqA t58) = some (cA d58) := by kernel_rfl
theorem k58e : cCode E2 48 pl58 (seqA (seqB t58)) = some (cA (cB d58)) := by kernel_rfl
theorem k58f : cCode E2 48 pl58 (seqA (seqB (seqB t58))) = some (cA (cB (cB d58))) := by kernel_rfl
theorem k58g : cCode E2 48 pl58 (seqA x58) = some (cA (cA (cB (cB (cB d58))))) := by kernel_rfl
noncomputable def o58 : Array Oper := match codT (seqB x58) with | .region _ ops _ => ops | _ => #[]
def isPan (o : Oper) : Option Operand := match o.op, o.guard with | .panic x, none => some x | _, _ => none
theorem isPan_inv {o : Oper} {x : Operand} (h : isPan o = some x) : o.op = .panic x ∧ o.guard = none := by
  unfold isPan at h
  split at h
  · rename_i h1 h2; cases h; exact ⟨h1, h2⟩
  · cases h
def regId (c : Code) : Nat := match c with | .region id _ _ => id | _ => 0
theorem r58 : codT (seqB x58) = .region (regId (codT (seqB x58))) o58 false := by kernel_rfl
theorem o58a : o58.size = 3 := by kernel_rfl
theorem o58b : (List.range 2).mapM (fun i => (o58[i]?).bind (cOper E2 48 o58)) = some [⟨some 43, none, .build [] []⟩, ⟨some 44, none, .mkIface 75 (.t 43)⟩] := by kernel_rfl
theorem o58c : ((o58[2]?).bind isPan) = some (.tmp 44) := by kernel_rfl
theorem pan58 (fr : Fr) (h : AHeap) (Ph : AHeap → Prop) (hp : Ph h) : PanK 48 (codT (seqB x58)) fr h Ph := by
  have hc := o58c
  rw [Option.bind_eq_some_iff] at hc
  obtain ⟨o, ho, hi⟩ := hc
  obtain ⟨h1, h2⟩ := isPan_inv hi
  rw [r58]
  refine PanK.region (n := 2) (cx := .t 44) o58a o58b ho h1 h2 rfl ?_
  simp only [go_sem, Nat.reduceEqDiff, Int.reduceLT, Int.reduceLE, Int.reduceEq, Nat.reduceLT, Nat.reduceAdd, Nat.reduceMul, Int.reduceToNat, Nat.reduceLeDiff, reduceCtorEq]
  exact hp
theorem body58 : Tryz.f58.body = some b58 := by kernel_rfl
theorem ntmps58 : Tryz.f58.ntmps = 48 := by kernel_rfl
set_option maxHeartbeats 1000000 in
theorem alt_pan (p : Nat) (s : List Nat) (i : Nat) (h : AHeap) (H : Par h p s i) (hi : i ≤ s.length) (hs : s.length ≤ 1073741824) (ha : pAlt s i = none) : PanC 58 [.ptr p 0] h (fun h' => Only p h h') := by
  refine PanC.of_code (Pf := fun _ => True) Tryz.func58 body58 (enters_of_info Tryz.func58 (by kernel_rfl) (by kernel_rfl)) ?_
  rw [ntmps58, e58a]
  have hl := runL_len isL s i
  have hcol : s[i + (runL isL s i).length]?.getD 0 = 58 ∧ numD (runL isDig s (i + (runL isL s i).length + 1)) = none := by
    unfold pAlt at ha
    split at ha
    · rename_i hc
      exact ⟨hc, by simpa using ha⟩
    · cases ha
  obtain ⟨hc, hnum⟩ := hcol
  refine PanK.seq2 k58a ?_
  unfold c58
  simp only [cA]
  simp only [go_sem, Nat.reduceEqDiff, Int.reduceLT, Int.reduceLE, Int.reduceEq, Nat.reduceLT, Nat.reduceAdd, Nat.reduceMul, Int.reduceToNat, Nat.reduceLeDiff, reduceCtorEq]
  have hle0 : Hle h (h.push (.cells [.str [], .int .i64 0] 57)) := (Hle.refl h).push _
  have hn0 : (h.push (.cells [.str [], .int .i64 0] 57)).next = h.next + 1 := rfl
  generalize h.push (.cells [.str [], .int .i64 0] 57) = h0 at hle0 hn0 ⊢
  have hp0 := H.1
  refine PanK.seq2 k58b ?_
  unfold c58
  simp only [cA, cB]
  simp only [go_sem, Nat.reduceEqDiff, Int.reduceLT, Int.reduceLE, Int.reduceEq, Nat.reduceLT, Nat.reduceAdd, Nat.reduceMul, Int.reduceToNat, Nat.reduceLeDiff, reduceCtorEq]
  refine ⟨by decide, ?_⟩
  refine (take_c 23 isL (by decide) isL_hf p s i h0 (H.mono hle0) hi (by omega)).mono ?_
  rintro r h1 ⟨rfl, hP1, hon1⟩
  simp only [go_sem, Nat.reduceEqDiff, Int.reduceLT, Int.reduceLE, Int.reduceEq, Nat.reduceLT, Nat.reduceAdd, Nat.reduceMul, Int.reduceToNat, Nat.reduceLeDiff, reduceCtorEq]
  have hle2 : Hle h1 (h1.push (.cells [.str (runL isL s i), .int .i64 0] 57)) := (Hle.refl h1).push _
  generalize h1.push (.cells [.str (runL isL s i), .int .i64 0] 57) = h2 at hle2 ⊢
  refine PanK.seq1 (PanK.seq2 k58c ?_)
  unfold c58
  simp only [cA, cB]
  simp only [go_sem, Nat.reduceEqDiff, Int.reduceLT, Int.reduceLE, Int.reduceEq, Nat.reduceLT, Nat.reduceAdd, Nat.reduceMul, Int.reduceToNat, Nat.reduceLeDiff, reduceCtorEq]
  refine ⟨by decide, ?_⟩
  refine (peek_c p s _ h2 (hP1.mono hle2)).mono ?_
  rintro r h3 ⟨rfl, hle3⟩
  have hP3 := (hP1.mono hle2).mono hle3
  have hon3 : Only p h h3 := (((hle0.only (p := p)).trans hon1).trans hle2.only).trans hle3.only
  have hcc : ((s[i + (runL isL s i).length]?.getD 0 : Nat) : Int) = 58 := by omega
  simp only [go_sem, Nat.reduceEqDiff, Int.reduceLT, Int.reduceLE, Int.reduceEq, Nat.reduceLT, Nat.reduceAdd, Nat.reduceMul, Int.reduceToNat, Nat.reduceLeDiff, reduceCtorEq, hcc]
  refine PanK.cond (cc := .t 12) (b := true) rfl (by simp only [go_sem, Nat.reduceEqDiff, Int.reduceLT, Int.reduceLE, Int.reduceEq, Nat.reduceLT, Nat.reduceAdd, Nat.reduceMul, Int.reduceToNat, Nat.reduceLeDiff, reduceCtorEq]) ?_
  rw [if_pos rfl, e58b]
  have hj : i + (runL isL s i).length < s.length := by
    by_cases hj : i + (runL isL s i).length < s.length
    · exact hj
    · rw [List.getElem?_eq_none (by omega)] at hc
      simp at hc
  obtain ⟨h4, hput, hP4, hon4⟩ := hP3.put (i + (runL isL s i).length + 1) ((IntKind.i64).wrap (((i + (runL isL s i).length : Nat) : Int) + 1)) (by rw [wrap_i64 (by omega) (by omega)]; push_cast; omega)
  refine PanK.seq2 k58d ?_
  unfold d58 c58
  simp only [cA, cB, cT]
  simp only [go_sem, Nat.reduceEqDiff, Int.reduceLT, Int.reduceLE, Int.reduceEq, Nat.reduceLT, Nat.reduceAdd, Nat.reduceMul, Int.reduceToNat, Nat.reduceLeDiff, reduceCtorEq, hP3.ld0, hP3.ld1, hput]
  refine PanK.seq2 k58e ?_
  unfold d58 c58
  simp only [cA, cB, cT]
  simp only [go_sem, Nat.reduceEqDiff, Int.reduceLT, Int.reduceLE, Int.reduceEq, Nat.reduceLT, Nat.reduceAdd, Nat.reduceMul, Int.reduceToNat, Nat.reduceLeDiff, reduceCtorEq]
  refine ⟨by decide, ?_⟩
  refine (take_c 72 isDig (by decide) isDig_hf p s _ h4 hP4 (by omega) (by omega)).mono ?_
  rintro r h5 ⟨rfl, hP5, hon5⟩
  have hl2 := runL_len isDig s (i + (runL isL s i).length + 1)
  have hon05 : Only p h h5 := (hon3.trans hon4).trans hon5
  simp only [go_sem, Nat.reduceEqDiff, Int.reduceLT, Int.reduceLE, Int.reduceEq, Nat.reduceLT, Nat.reduceAdd, Nat.reduceMul, Int.reduceToNat, Nat.reduceLeDiff, reduceCtorEq]
  refine PanK.seq2 k58f ?_
  unfold d58 c58
  simp only [cA, cB, cT]
  simp only [go_sem, Nat.reduceEqDiff, Int.reduceLT, Int.reduceLE, Int.reduceEq, Nat.reduceLT, Nat.reduceAdd, Nat.reduceMul, Int.reduceToNat, Nat.reduceLeDiff, reduceCtorEq]
  refine ⟨by decide, ?_⟩
  by_cases hok : ∃ v, Lib.atoiAll ((runL isDig s (i + (runL isL s i).length + 1)).map Nat.toUInt8) = .ok v
  · obtain ⟨v, hv⟩ := hok
    refine (atoi_c _ v h5 (by omega) hv).mono ?_
    rintro r h6 ⟨rfl, rfl⟩
    have hneq : binA .neq (.iface true) .niliface .niliface = some (.bool false) := rfl
    simp only [go_sem, Nat.reduceEqDiff, Int.reduceLT, Int.reduceLE, Int.reduceEq, Nat.reduceLT, Nat.reduceAdd, Nat.reduceMul, Int.reduceToNat, Nat.reduceLeDiff, reduceCtorEq]
    refine PanK.seq1 (PanK.seq2 k58g ?_)
    unfold d58 c58
    simp only [cA, cB, cT]
    by_cases q1 : v < 1
    · simp only [go_sem, Nat.reduceEqDiff, Int.reduceLT, Int.reduceLE, Int.reduceEq, Nat.reduceLT, Nat.reduceAdd, Nat.reduceMul, Int.reduceToNat, Nat.reduceLeDiff, reduceCtorEq, hneq, q1]
      refine PanK.cond (cc := .t 42) (b := true) rfl (by simp only [go_sem, Nat.reduceEqDiff, Int.reduceLT, Int.reduceLE, Int.reduceEq, Nat.reduceLT, Nat.reduceAdd, Nat.reduceMul, Int.reduceToNat, Nat.reduceLeDiff, reduceCtorEq]) ?_
      rw [if_pos rfl]
      exact pan58 _ _ _ hon05
    by_cases q2 : 1000 < v
    · simp only [go_sem, Nat.reduceEqDiff, Int.reduceLT, Int.reduceLE, Int.reduceEq, Nat.reduceLT, Nat.reduceAdd, Nat.reduceMul, Int.reduceToNat, Nat.reduceLeDiff, reduceCtorEq, hneq, q1, q2]
      refine PanK.cond (cc := .t 42) (b := true) rfl (by simp only [go_sem, Nat.reduceEqDiff, Int.reduceLT, Int.reduceLE, Int.reduceEq, Nat.reduceLT, Nat.reduceAdd, Nat.reduceMul, Int.reduceToNat, Nat.reduceLeDiff, reduceCtorEq]) ?_
      rw [if_pos rfl]
      exact pan58 _ _ _ hon05
    have q3 : ¬ itoaL v = runL isDig s (i + (runL isL s i).length + 1) := by
      intro e
      unfold numD at hnum
      rw [hv] at hnum
      simp only at hnum
      rw [if_pos ⟨by omega, by omega, e⟩] at hnum
      cases hnum
    simp only [go_sem, Nat.reduceEqDiff, Int.reduceLT, Int.reduceLE, Int.reduceEq, Nat.reduceLT, Nat.reduceAdd, Nat.reduceMul, Int.reduceToNat, Nat.reduceLeDiff, reduceCtorEq, hneq, q1, q2]
    refine ⟨by decide, ?_⟩
    refine (itoa_c v h6 (by omega) (by omega)).mono ?_
    rintro r h7 ⟨rfl, rfl⟩
    simp only [go_sem, Nat.reduceEqDiff, Int.reduceLT, Int.reduceLE, Int.reduceEq, Nat.reduceLT, Nat.reduceAdd, Nat.reduceMul, Int.reduceToNat, Nat.reduceLeDiff, reduceCtorEq, q3]
    refine PanK.cond (cc := .t 42) (b := true) rfl (by simp only [go_sem, Nat.reduceEqDiff, Int.reduceLT, Int.reduceLE, Int.reduceEq, Nat.reduceLT, Nat.reduceAdd, Nat.reduceMul, Int.reduceToNat, Nat.reduceLeDiff, reduceCtorEq]) ?_
    rw [if_pos rfl]
    exact pan58 _ _ _ hon05
  · refine (atoi_bad _ h5 (by omega) (fun v hv => hok ⟨v, hv⟩)).mono ?_
    rintro r h6 ⟨z, rfl, rfl⟩
    have hneq : binA .neq (.iface true) (.iface 227 (.ptr h5.next 0)) .niliface = some (.bool true) := rfl
    simp only [go_sem, Nat.reduceEqDiff, Int.reduceLT, Int.reduceLE, Int.reduceEq, Nat.reduceLT, Nat.reduceAdd, Nat.reduceMul, Int.reduceToNat, Nat.reduceLeDiff, reduceCtorEq]
    refine PanK.seq1 (PanK.seq2 k58g ?_)
    unfold d58 c58
    simp only [cA, cB, cT]
    simp only [go_sem, Nat.reduceEqDiff, Int.reduceLT, Int.reduceLE, Int.reduceEq, Nat.reduceLT, Nat.reduceAdd, Nat.reduceMul, Int.reduceToNat, Nat.reduceLeDiff, reduceCtorEq, hneq]
    refine PanK.cond (cc := .t 42) (b := true) rfl (by simp only [go_sem, Nat.reduceEqDiff, Int.reduceLT, Int.reduceLE, Int.reduceEq, Nat.reduceLT, Nat.reduceAdd, Nat.reduceMul, Int.reduceToNat, Nat.reduceLeDiff, reduceCtorEq]) ?_
    rw [if_pos rfl]
    exact pan58 _ _ _ (hon05.trans (((Hle.refl h5).push _).only))
end
end Go.AX
namespace Go.AX
open Go Go.Proofs
noncomputable section
set_option linter.unusedSimpArgs false
set_option linter.unusedVariables false
attribute [local go_sem] b_seq wp_skip wp_exit wp_ret wp_region b_block wops_nil b_ops b_opsg b_cond condV_lite wo_mv b_bin wo_call callV_func wo_pick b_box wo_load1 wo_loadN wo_store wo_nilCheck wo_not wo_lenStr' wo_lenSl wo_ixStr' wo_ixSl wo_fAddr wo_part1 wo_partN wo_extract wo_cInt wo_cStr wo_mkMap wo_mkIface wo_mkFunc wo_lookup pickV_bool ifT_true ifT_false b_loadV b_loadNV b_storeV nilV_ptr nilV_func nilV_iface notV_bool lenStrV_str lenSlV_nil lenSlV_slice b_ixStrV ixSlV_slice fAddrV_ptr b_part1V partNV_agg b_extractV convV_int strV_str evC_tm evC_cn T.get_set putA_some putA_none onO_some evCs_nil evCs_cons appL_nil appL_cons guardOk_true guardOk_false cellsV_bool cellsV_int cellsV_str cellsV_nilptr cellsV_ptr cellsV_nilslice cellsV_slice cellsV_nilmap cellsV_map cellsV_func cellsV_nilfunc cellsV_iface cellsV_niliface cellsV_agg bin_lss bin_gtr bin_leq bin_geq bin_eql bin_neq bin_add bin_sub bin_eqlS bin_neqS mkFrame_nil mkFrame_cons resA_one resA_two resA_three over_0 over_1 over_2 over_3 over_4 over_5 over0_nil over0_cons Option.getD_some if_true if_false AHeap.next_push AVal.bool.injEq decide_eq_true_eq decide_eq_false_iff_not Bool.not_eq_true' Bool.not_eq_false' Bool.not_eq_true decide_true decide_false Bool.not_true Bool.not_false Int.toNat_natCast Int.natCast_nonneg true_and and_true wo_mapPut wp_drawn' wsts_nil b_pure b_read b_new b_wr wor_none b_org rer_nil rer_load1 rer_loadN wo_append AHeap.next_skip AHeap.next_put' AHeap.mk_push_t AHeap.mk_eta AHeap.mk_skip ldA_skip ldN_skip Nat.add_zero Nat.zero_add b_lite_true b_lite_false eq_self_iff_true not_true_eq_false not_false_eq_true bx_k bx_q bx_x bx_1 undefA_bool putAt_push List.length_cons List.length_nil Nat.le_refl ldA_push_new ldN_push_new List.getElem?_cons_zero List.getElem?_cons_succ List.drop_zero List.drop_succ_cons List.take_succ_cons List.take_zero b_build b_buildSlice evParts_nil evParts_cons b_fillA_nil b_fillA nbeq nble natadd natmul lenL_eq repL_1 repL_2 repL_3 wo_sliceData sdV_nil sdV_slice wo_unsafeStr usV_nil wo_slStr slStrV_str evCo_none evCo_some boundA_none Bool.and_true Bool.true_and wo_minmax2' mm2V_int
noncomputable def b43 : Code := Tryz.f43.body.getD .skip
def codB : Code → Code | .block _ a => a | c => c
def codL : Code → Code | .loop a => a | c => c
def codO : Code → Array Oper | .region _ ops _ => ops | _ => #[]
noncomputable def l43 : Code := codL (codB (seqB (seqB (seqB (seqB (seqB b43))))))
noncomputable def i43 : Code := codB l43
noncomputable def dr43 : Code := seqA (seqB i43)
noncomputable def o43 : Array Oper := codO dr43
theorem o43sz : o43.size = 8 := by kernel_rfl
theorem o43d : dr43 = .region (regId dr43) o43 true := by kernel_rfl
theorem o43_0 : (o43[0]?).bind (cOper E2 56 o43) = some ⟨some 33, none, .fAddr 0 (.t 4)⟩ := by kernel_rfl
theorem o43_1 : (o43[1]?).bind (cOper E2 56 o43) = some ⟨some 34, none, .load1 (.t 33)⟩ := by kernel_rfl
theorem o43_2 : (o43[2]?).bind (cOper E2 56 o43) = some ⟨some 35, none, .mv (.t 0)⟩ := by kernel_rfl
theorem o43_3 : (o43[3]?).bind (cOper E2 56 o43) = some ⟨some 36, none, .call (.c (.func 58 [] [])) [.t 35]⟩ := by kernel_rfl
theorem o43_6 : (o43[6]?).bind (cOper E2 56 o43) = some ⟨some 39, none, .fAddr 0 (.t 4)⟩ := by kernel_rfl
def lst (b0 b1 b2 b6 : Bool) : Array Bool := #[b0, b1, b2, false, false, false, b6, false]
def allB (f : Bool → Bool) : Bool := f true && f false
theorem allB_spec {f : Bool → Bool} (h : allB f = true) (b : Bool) : f b = true := by
  unfold allB at h
  rw [Bool.and_eq_true] at h
  cases b
  · exact h.2
  · exact h.1
theorem rdy43 : (allB fun b0 => allB fun b1 => allB fun b2 => allB fun b6 =>
    !(Region.ready .any o43 (lst b0 b1 b2 b6)).isEmpty && (Region.ready .any o43 (lst b0 b1 b2 b6)).all fun i => (i == 0 && !b0) || (i == 1 && !b1 && b0) || (i == 2 && !b2) || (i == 3 && b2) || (i == 6 && !b6)) = true := by kernel_rfl
theorem lst_0 (b0 b1 b2 b6 : Bool) : (lst b0 b1 b2 b6).setIfInBounds 0 true = lst true b1 b2 b6 := rfl
theorem lst_1 (b0 b1 b2 b6 : Bool) : (lst b0 b1 b2 b6).setIfInBounds 1 true = lst b0 true b2 b6 := rfl
theorem lst_2 (b0 b1 b2 b6 : Bool) : (lst b0 b1 b2 b6).setIfInBounds 2 true = lst b0 b1 true b6 := rfl
theorem lst_6 (b0 b1 b2 b6 : Bool) : (lst b0 b1 b2 b6).setIfInBounds 6 true = lst b0 b1 b2 true := rfl
theorem draw43 (p b : Nat) (u : AVal) (fr : Fr) (h : AHeap) (Ph : AHeap → Prop) (t0 : fr.get 0 = some (.ptr p 0)) (t4 : fr.get 4 = some (.ptr b 0)) (hl : ldA h b 0 = some u) (hp : PanC 58 [.ptr p 0] h Ph) : PanK 56 dr43 fr h Ph := by
  rw [o43d]
  obtain ⟨h', hph, hp⟩ := hp
  refine ⟨h', hph, fun K W0 ρ w a hn hf hW => ?_⟩
  refine wp_region_any env2.mixed ?_
  rw [o43sz]
  have key : ∀ (fuel : Nat) (b0 b1 b2 b6 : Bool) (fr : Fr) (ρ1 : Ren) (w1 : World) (a1 : Act), fuel + b0.toNat + b1.toNat + b2.toNat + b6.toNat = 8 → fr.get 0 = some (.ptr p 0) → fr.get 4 = some (.ptr b 0) → (b0 = true → fr.get 33 = some (.ptr b 0)) → (b2 = true → fr.get 35 = some (.ptr p 0)) →
      56 ≤ a1.tmps.size → FR ρ1 fr a1.tmps → WR Tryz.prog K W0 ρ1 h w1 → ρ.le ρ1 → a1.defers = a.defers → wpAny Tryz.prog .any o43 (PQ (fun _ => True) K W0 ρ a.defers h') fuel (lst b0 b1 b2 b6) a1 w1 := by
    intro fuel
    induction fuel with
    | zero =>
      intro b0 b1 b2 b6 fr ρ1 w1 a1 hfu
      exfalso
      cases b0 <;> cases b1 <;> cases b2 <;> cases b6 <;> simp at hfu
    | succ fuel ih =>
      intro b0 b1 b2 b6 fr ρ1 w1 a1 hfu t0 t4 t33 t35 hn1 hf1 hW1 hle1 hd1
      have hr := allB_spec (allB_spec (allB_spec (allB_spec rdy43 b0) b1) b2) b6
      rw [Bool.and_eq_true] at hr
      obtain ⟨hne, hall⟩ := hr
      unfold wpAny
      refine ⟨fun he => ?_, fun i hi => ?_⟩
      · rw [he] at hne; simp at hne
      have hi2 := List.all_eq_true.1 hall i hi
      simp only [Bool.or_eq_true, Bool.and_eq_true, beq_iff_eq, Bool.not_eq_true'] at hi2
      rcases hi2 with (((⟨rfl, e0⟩ | ⟨⟨rfl, e1⟩, e0⟩) | ⟨rfl, e2⟩) | ⟨rfl, e2⟩) | ⟨rfl, e6⟩
      · subst e0
        rw [lst_0]
        refine op_wp (R := fun fr' g' => g' = h ∧ fr' = fr.set 33 (.ptr b 0)) o43_0 hn1 hf1 hW1 (by simp only [go_sem, Nat.reduceEqDiff, Int.reduceLT, Int.reduceLE, Int.reduceEq, Nat.reduceLT, Nat.reduceAdd, Nat.reduceMul, Int.reduceToNat, Nat.reduceLeDiff, reduceCtorEq, t4]) ?_
        rintro fr' g' a2 w2 ρ2 ⟨rfl, rfl⟩ k1 k2 k3 k4 k5
        exact ih true b1 b2 b6 _ ρ2 w2 a2 (by simp at hfu ⊢; omega) (by simp [T.get_set, t0]) (by simp [T.get_set, t4]) (fun _ => by simp [T.get_set]) (fun e => by simp [T.get_set, t35 e]) k2 k4 k5 (Ren.le_trans hle1 k1) (k3.trans hd1)
      · subst e1; subst e0
        rw [lst_1]
        refine op_wp (R := fun fr' g' => g' = h ∧ fr' = fr.set 34 u) o43_1 hn1 hf1 hW1 (by simp only [go_sem, Nat.reduceEqDiff, Int.reduceLT, Int.reduceLE, Int.reduceEq, Nat.reduceLT, Nat.reduceAdd, Nat.reduceMul, Int.reduceToNat, Nat.reduceLeDiff, reduceCtorEq, t33 rfl, hl]) ?_
        rintro fr' g' a2 w2 ρ2 ⟨rfl, rfl⟩ k1 k2 k3 k4 k5
        exact ih true true b2 b6 _ ρ2 w2 a2 (by simp at hfu ⊢; omega) (by simp [T.get_set, t0]) (by simp [T.get_set, t4]) (fun _ => by simp [T.get_set, t33 rfl]) (fun e => by simp [T.get_set, t35 e]) k2 k4 k5 (Ren.le_trans hle1 k1) (k3.trans hd1)
      · subst e2
        rw [lst_2]
        refine op_wp (R := fun fr' g' => g' = h ∧ fr' = fr.set 35 (.ptr p 0)) o43_2 hn1 hf1 hW1 (by simp only [go_sem, Nat.reduceEqDiff, Int.reduceLT, Int.reduceLE, Int.reduceEq, Nat.reduceLT, Nat.reduceAdd, Nat.reduceMul, Int.reduceToNat, Nat.reduceLeDiff, reduceCtorEq, t0]) ?_
        rintro fr' g' a2 w2 ρ2 ⟨rfl, rfl⟩ k1 k2 k3 k4 k5
        exact ih b0 b1 true b6 _ ρ2 w2 a2 (by simp at hfu ⊢; omega) (by simp [T.get_set, t0]) (by simp [T.get_set, t4]) (fun e => by simp [T.get_set, t33 e]) (fun _ => by simp [T.get_set]) k2 k4 k5 (Ren.le_trans hle1 k1) (k3.trans hd1)
      · subst e2
        refine call_pan o43_3 (by decide) hf1 hW1 hle1 hd1 ?_ trivial
        have : evCs [.t 35] fr = [.ptr p 0] := by simp only [go_sem, Nat.reduceEqDiff, Int.reduceLT, Int.reduceLE, Int.reduceEq, Nat.reduceLT, Nat.reduceAdd, Nat.reduceMul, Int.reduceToNat, Nat.reduceLeDiff, reduceCtorEq, t35 rfl]
        rw [this]; exact hp
      · subst e6
        rw [lst_6]
        refine op_wp (R := fun fr' g' => g' = h ∧ fr' = fr.set 39 (.ptr b 0)) o43_6 hn1 hf1 hW1 (by simp only [go_sem, Nat.reduceEqDiff, Int.reduceLT, Int.reduceLE, Int.reduceEq, Nat.reduceLT, Nat.reduceAdd, Nat.reduceMul, Int.reduceToNat, Nat.reduceLeDiff, reduceCtorEq, t4]) ?_
        rintro fr' g' a2 w2 ρ2 ⟨rfl, rfl⟩ k1 k2 k3 k4 k5
        exact ih b0 b1 b2 true _ ρ2 w2 a2 (by simp at hfu ⊢; omega) (by simp [T.get_set, t0]) (by simp [T.get_set, t4]) (fun e => by simp [T.get_set, t33 e]) (fun e => by simp [T.get_set, t35 e]) k2 k4 k5 (Ren.le_trans hle1 k1) (k3.trans hd1)
  exact key 8 false false false false fr ρ _ a rfl t0 t4 (fun e => by cases e) (fun e => by cases e) hn hf (hW.drawn _) (Ren.le_refl _) rfl
end
end Go.AX
namespace Go.AX
open Go Go.Proofs
noncomputable section
set_option linter.unusedSimpArgs false
set_option linter.unusedVariables false
attribute [local go_sem] b_seq wp_skip wp_exit wp_ret wp_region b_block wops_nil b_ops b_opsg b_cond condV_lite wo_mv b_bin wo_call callV_func wo_pick b_box wo_load1 wo_loadN wo_store wo_nilCheck wo_not wo_lenStr' wo_lenSl wo_ixStr' wo_ixSl wo_fAddr wo_part1 wo_partN wo_extract wo_cInt wo_cStr wo_mkMap wo_mkIface wo_mkFunc wo_lookup pickV_bool ifT_true ifT_false b_loadV b_loadNV b_storeV nilV_ptr nilV_func nilV_iface notV_bool lenStrV_str lenSlV_nil lenSlV_slice b_ixStrV ixSlV_slice fAddrV_ptr b_part1V partNV_agg b_extractV convV_int strV_str evC_tm evC_cn T.get_set putA_some putA_none onO_some evCs_nil evCs_cons appL_nil appL_cons guardOk_true guardOk_false cellsV_bool cellsV_int cellsV_str cellsV_nilptr cellsV_ptr cellsV_nilslice cellsV_slice cellsV_nilmap cellsV_map cellsV_func cellsV_nilfunc cellsV_iface cellsV_niliface cellsV_agg bin_lss bin_gtr bin_leq bin_geq bin_eql bin_neq bin_add bin_sub bin_eqlS bin_neqS mkFrame_nil mkFrame_cons resA_one resA_two resA_three over_0 over_1 over_2 over_3 over_4 over_5 over0_nil over0_cons Option.getD_some if_true if_false AHeap.next_push AVal.bool.injEq decide_eq_true_eq decide_eq_false_iff_not Bool.not_eq_true' Bool.not_eq_false' Bool.not_eq_true decide_true decide_false Bool.not_true Bool.not_false Int.toNat_natCast Int.natCast_nonneg true_and and_true wo_mapPut wp_drawn' wsts_nil b_pure b_read b_new b_wr wor_none b_org rer_nil rer_load1 rer_loadN wo_append AHeap.next_skip AHeap.next_put' AHeap.mk_push_t AHeap.mk_eta AHeap.mk_skip ldA_skip ldN_skip Nat.add_zero Nat.zero_add b_lite_true b_lite_false eq_self_iff_true not_true_eq_false not_false_eq_true bx_k bx_q bx_x bx_1 undefA_bool putAt_push List.length_cons List.length_nil Nat.le_refl ldA_push_new ldN_push_new List.getElem?_cons_zero List.getElem?_cons_succ List.drop_zero List.drop_succ_cons List.take_succ_cons List.take_zero b_build b_buildSlice evParts_nil evParts_cons b_fillA_nil b_fillA nbeq nble natadd natmul lenL_eq repL_1 repL_2 repL_3 wo_sliceData sdV_nil sdV_slice wo_unsafeStr usV_nil wo_slStr slStrV_str evCo_none evCo_some boundA_none Bool.and_true Bool.true_and wo_minmax2' mm2V_int
attribute [local go_sem] wo_cBytesStr
noncomputable def pl43 : List (Nat × List Nat) := (E2.plans.get 43).getD []
noncomputable def s43b : Code := seqA (seqB (seqB b43))
noncomputable def s43c : Code := seqA (seqB (seqB (seqB b43)))
noncomputable def s43d : Code := seqB (seqB (seqB (seqB b43)))
theorem e43a : b43 = .seq (seqA b43) (.seq (seqA (seqB b43)) (.seq s43b (.seq s43c (.seq (seqA s43d) (.block 0 (.loop l43)))))) := by kernel_rfl
theorem e43c : s43c = .seq (seqA s43c) (.cond (.tmp 23) (codT (seqB s43c)) .skip) := by kernel_rfl
theorem e43l : l43 = .block 1 (.seq (seqA i43) (.seq dr43 (.seq (seqA (seqB (seqB i43))) (seqB (seqB (seqB i43)))))) := by kernel_rfl
theorem k43a : cCode E2 56 pl43 (seqA b43) = some (cA c43) := by kernel_rfl
theorem k43b : cCode E2 56 pl43 (seqA (seqB b43)) = some (cA (cB c43)) := by kernel_rfl
theorem k43c : cCode E2 56 pl43 s43b = some (cA (cB (cB c43))) := by kernel_rfl
theorem k43d : cCode E2 56 pl43 s43c = some (cA (cB (cB (cB c43)))) := by kernel_rfl
theorem k43e : cCode E2 56 pl43 (seqA s43c) = some (cA (cA (cB (cB (cB c43))))) := by kernel_rfl
theorem k43f : cCode E2 56 pl43 (seqA s43d) = some (cA (cB (cB (cB (cB c43))))) := by kernel_rfl
theorem k43l : cCode E2 56 pl43 l43 = some c43_l0 := by kernel_rfl
def cBk : CCode → CCode | .block _ a => a | c => c
theorem k43m : cCode E2 56 pl43 (seqA i43) = some (cA (cBk c43_l0)) := by kernel_rfl
theorem k43n : cCode E2 56 pl43 dr43 = some (cA (cB (cBk c43_l0))) := by kernel_rfl
theorem k43o : cCode E2 56 pl43 (seqA (seqB (seqB i43))) = some (cA (cB (cB (cBk c43_l0)))) := by kernel_rfl
noncomputable def o43p : Array Oper := codO (codT (seqB s43c))
noncomputable def o43q : Array Oper := codO (seqB (seqB (seqB i43)))
theorem o43pa : codT (seqB s43c) = .region (regId (codT (seqB s43c))) o43p false := by kernel_rfl
theorem o43pb : o43p.size = 3 := by kernel_rfl
theorem o43pc : (List.range 2).mapM (fun i => (o43p[i]?).bind (cOper E2 56 o43p)) = some [⟨some 24, none, .build [] []⟩, ⟨some 25, none, .mkIface 75 (.t 24)⟩] := by kernel_rfl
theorem o43pd : ((o43p[2]?).bind isPan) = some (.tmp 25) := by kernel_rfl
theorem o43qa : seqB (seqB (seqB i43)) = .region (regId (seqB (seqB (seqB i43)))) o43q false := by kernel_rfl
theorem o43qb : o43q.size = 3 := by kernel_rfl
theorem o43qc : (List.range 2).mapM (fun i => (o43q[i]?).bind (cOper E2 56 o43q)) = some [⟨some 54, none, .build [] []⟩, ⟨some 55, none, .mkIface 75 (.t 54)⟩] := by kernel_rfl
theorem o43qd : ((o43q[2]?).bind isPan) = some (.tmp 55) := by kernel_rfl
theorem pan43p (fr : Fr) (h : AHeap) (Ph : AHeap → Prop) (hp : Ph h) : PanK 56 (codT (seqB s43c)) fr h Ph := by
  have hc := o43pd
  rw [Option.bind_eq_some_iff] at hc
  obtain ⟨o, ho, hi⟩ := hc
  obtain ⟨h1, h2⟩ := isPan_inv hi
  rw [o43pa]
  refine PanK.region (n := 2) (cx := .t 25) o43pb o43pc ho h1 h2 rfl ?_
  simp only [go_sem, Nat.reduceEqDiff, Int.reduceLT, Int.reduceLE, Int.reduceEq, Nat.reduceLT, Nat.reduceAdd, Nat.reduceMul, Int.reduceToNat, Nat.reduceLeDiff, reduceCtorEq]
  exact hp
theorem pan43q (fr : Fr) (h : AHeap) (Ph : AHeap → Prop) (hp : Ph h) : PanK 56 (seqB (seqB (seqB i43))) fr h Ph := by
  have hc := o43qd
  rw [Option.bind_eq_some_iff] at hc
  obtain ⟨o, ho, hi⟩ := hc
  obtain ⟨h1, h2⟩ := isPan_inv hi
  rw [o43qa]
  refine PanK.region (n := 2) (cx := .t 55) o43qb o43qc ho h1 h2 rfl ?_
  simp only [go_sem, Nat.reduceEqDiff, Int.reduceLT, Int.reduceLE, Int.reduceEq, Nat.reduceLT, Nat.reduceAdd, Nat.reduceMul, Int.reduceToNat, Nat.reduceLeDiff, reduceCtorEq]
  exact hp
end
end Go.AX
namespace Go.AX
open Go Go.Proofs
noncomputable section
set_option linter.unusedSimpArgs false
set_option linter.unusedVariables false
attribute [local go_sem] b_seq wp_skip wp_exit wp_ret wp_region b_block wops_nil b_ops b_opsg b_cond condV_lite wo_mv b_bin wo_call callV_func wo_pick b_box wo_load1 wo_loadN wo_store wo_nilCheck wo_not wo_lenStr' wo_lenSl wo_ixStr' wo_ixSl wo_fAddr wo_part1 wo_partN wo_extract wo_cInt wo_cStr wo_mkMap wo_mkIface wo_mkFunc wo_lookup pickV_bool ifT_true ifT_false b_loadV b_loadNV b_storeV nilV_ptr nilV_func nilV_iface notV_bool lenStrV_str lenSlV_nil lenSlV_slice b_ixStrV ixSlV_slice fAddrV_ptr b_part1V partNV_agg b_extractV convV_int strV_str evC_tm evC_cn T.get_set putA_some putA_none onO_some evCs_nil evCs_cons appL_nil appL_cons guardOk_true guardOk_false cellsV_bool cellsV_int cellsV_str cellsV_nilptr cellsV_ptr cellsV_nilslice cellsV_slice cellsV_nilmap cellsV_map cellsV_func cellsV_nilfunc cellsV_iface cellsV_niliface cellsV_agg bin_lss bin_gtr bin_leq bin_geq bin_eql bin_neq bin_add bin_sub bin_eqlS bin_neqS mkFrame_nil mkFrame_cons resA_one resA_two resA_three over_0 over_1 over_2 over_3 over_4 over_5 over0_nil over0_cons Option.getD_some if_true if_false AHeap.next_push AVal.bool.injEq decide_eq_true_eq decide_eq_false_iff_not Bool.not_eq_true' Bool.not_eq_false' Bool.not_eq_true decide_true decide_false Bool.not_true Bool.not_false Int.toNat_natCast Int.natCast_nonneg true_and and_true wo_mapPut wp_drawn' wsts_nil b_pure b_read b_new b_wr wor_none b_org rer_nil rer_load1 rer_loadN wo_append AHeap.next_skip AHeap.next_put' AHeap.mk_push_t AHeap.mk_eta AHeap.mk_skip ldA_skip ldN_skip Nat.add_zero Nat.zero_add b_lite_true b_lite_false eq_self_iff_true not_true_eq_false not_false_eq_true bx_k bx_q bx_x bx_1 undefA_bool putAt_push List.length_cons List.length_nil Nat.le_refl ldA_push_new ldN_push_new List.getElem?_cons_zero List.getElem?_cons_succ List.drop_zero List.drop_succ_cons List.take_succ_cons List.take_zero b_build b_buildSlice evParts_nil evParts_cons b_fillA_nil b_fillA nbeq nble natadd natmul lenL_eq repL_1 repL_2 repL_3 wo_sliceData sdV_nil sdV_slice wo_unsafeStr usV_nil wo_slStr slStrV_str evCo_none evCo_some boundA_none Bool.and_true Bool.true_and wo_minmax2' mm2V_int
attribute [local go_sem] wo_cBytesStr
theorem body43 : Tryz.f43.body = some b43 := by kernel_rfl
theorem ntmps43 : Tryz.f43.ntmps = 56 := by kernel_rfl
set_option maxHeartbeats 1000000 in
theorem cell_loop_pan (p : Nat) (s : List Nat) (g h0 : AHeap) (q b : Nat) (hs : s.length ≤ 2000000) (n0 i0 : Nat) (fr0 : Fr) (hpg : p < g.next) (hq : g.next ≤ q) (hni : i0 < s.length) (hn0 : n0 ≤ s.length) (hsn : s.length ≤ n0 + i0) (hpa : pAlts n0 s i0 [] = none) (hon : Only p g h0) (hP : Par h0 p s i0) (hq2 : q < h0.next) (hb : BoxL (fun x => x < g.next ∨ x = q) h0 b [])
    (t0 : fr0.get 0 = some (.ptr p 0)) (t4 : fr0.get 4 = some (.ptr b 0)) : PanK 56 (.loop l43) fr0 h0 (fun h' => Only p g h') := by
  refine PanK.loop (pl := pl43) (cx := c43_l0) k43l (fun n fr h1 => fr.get 0 = some (.ptr p 0) ∧ fr.get 4 = some (.ptr b 0) ∧ ∃ i acc, i < s.length ∧ s.length ≤ n + i ∧ acc.length + n ≤ s.length ∧ pAlts n s i acc = none ∧ Only p g h1 ∧ Par h1 p s i ∧ q < h1.next ∧ BoxL (fun x => x < g.next ∨ x = q) h1 b acc) ?_ n0 ?_
  rotate_left
  · exact ⟨t0, t4, i0, [], hni, hsn, by simp; omega, hpa, hon, hP, hq2, hb⟩
  clear hni hpa hon hP hq2 hb t0 t4 hsn
  rintro n fr h1 ⟨t0, t4, i, acc, hni, hsn, hacc, hpa, hon, hP, hq2, hb⟩
  match n, hpa, hsn with
  | 0, hpa, hsn => omega
  | n + 1, hpa, hsn =>
    obtain ⟨h2, hput, hP2, hon2⟩ := hP.put (i + 1) ((IntKind.i64).wrap ((i : Int) + 1)) (by rw [wrap_i64 (by omega) (by omega)]; push_cast; omega)
    have hb2 := hb.only (.inl hpg) hon2
    obtain ⟨u, hu0, hu, _, huo, _⟩ := hb2.ld
    have hsame : sameA 20 u u = true := sameA_sl huo.form
    have hAp : (fun x => x < g.next ∨ x = q) p := .inl hpg
    have hon12 : Only p g h2 := hon.trans hon2
    cases hak : pAlt s (i + 1) with
    | none =>
      left
      rw [e43l]
      refine PanK.block (PanK.seq2 k43m ?_)
      unfold c43_l0
      simp only [cA, cB, cBk]
      simp only [go_sem, Nat.reduceEqDiff, Int.reduceLT, Int.reduceLE, Int.reduceEq, Nat.reduceLT, Nat.reduceAdd, Nat.reduceMul, Int.reduceToNat, Nat.reduceLeDiff, reduceCtorEq, t0, t4, hP.ld0, hP.ld1, hput]
      refine PanK.seq1 (draw43 p b u _ _ _ (by simp [T.get_set, t0]) (by simp [T.get_set, t4]) hu ?_)
      exact (alt_pan p s (i + 1) h2 hP2 (by omega) (by omega) hak).mono fun h' h4 => hon12.trans h4
    | some ak =>
      obtain ⟨a, k⟩ := ak
      unfold pAlts at hpa
      rw [hak] at hpa
      simp only at hpa
      have hpos := pAlt_pos (by omega) hak
      have hgn := hon.1
      have hon2n := hon2.1
      have mid : ∀ (h3 : AHeap), Par h3 p s k → Only p (h2.skip 8) h3 → ldA h3 b 0 = some u ∧
          ∃ h4, h4 = h3.put (h2.next + 4) (.cells [.str a.1, .int .i64 a.2] 57) ∧ ∀ K : AVal → AHeap → Prop, (∀ v' h5 h6, cellsV v' = some [v'] → putAt h5 b 0 1 [v'] = some h6 → BoxL (fun x => x < g.next ∨ x = q) h6 b (acc ++ [a]) → Only p g h6 → q < h6.next → Par h6 p s k → K v' h5) → appV 57 2 u (.slice (h2.next + 4) 0 1 1 true) h4 K := by
        intro h3 hP3 hon3
        have hon23 : Only p h2 h3 := ((((Hle.refl h2).skip 8).only)).trans hon3
        have hn3 : h2.next + 8 ≤ h3.next := hon3.1
        refine ⟨?_, _, rfl, fun K hK => ?_⟩
        · have : h3.get b = h2.get b := hon23.2 b hb2.1 (fun e => hb2.2.1 (e ▸ hAp))
          rw [ldA_get this]; exact hu
        have hz : (h3.put (h2.next + 4) (.cells [.str a.1, .int .i64 a.2] 57)).get (h2.next + 4) = some (.cells [.str a.1, .int .i64 a.2] 57) := AHeap.get_put_same _ _ _
        have hzn : (h3.put (h2.next + 4) (.cells [.str a.1, .int .i64 a.2] 57)).next = h3.next := rfl
        have hon24 : Only p h2 (h3.put (h2.next + 4) (.cells [.str a.1, .int .i64 a.2] 57)) := ⟨by rw [hzn]; omega, fun x hx hxp => by rw [AHeap.get_put_ne _ _ (by omega)]; exact hon23.2 x hx hxp⟩
        have hP4 : Par (h3.put (h2.next + 4) (.cells [.str a.1, .int .i64 a.2] 57)) p s k := ⟨by rw [hzn]; exact hP3.1, by rw [AHeap.get_put_ne _ _ (by have := hP2.1; omega)]; exact hP3.2⟩
        generalize h3.put (h2.next + 4) (.cells [.str a.1, .int .i64 a.2] 57) = h4 at hz hzn hon24 hP4 ⊢
        have hb4 := hb2.only hAp hon24
        have hu4 : ldA h4 b 0 = some u := by
          have : h4.get b = h2.get b := hon24.2 b hb2.1 (fun e => hb2.2.1 (e ▸ hAp))
          rw [ldA_get this]; exact hu
        refine hb4.app2 (fun x hx => by rcases hx with hx | rfl <;> omega) a.1 a.2 (by omega) hu4 (by omega) hz ?_
        intro v' h5 h6 hcv hput6 hb6 hn6 hg6
        exact hK v' h5 h6 hcv hput6 hb6 ⟨by omega, fun x hx hxp => by rw [hg6 x (.inl hx), hon24.2 x (by omega) hxp, hon2.2 x (by omega) hxp]; exact hon.2 x hx hxp⟩ (by omega) ⟨by have := hP4.1; omega, (hg6 p (.inl hpg)).trans hP4.2⟩
      have halt := alt_c p s (i + 1) _ (hP2.mono ((Hle.refl h2).skip 8)) (by omega) (by omega) a k hak
      by_cases c124 : s[k]?.getD 0 = 124
      · rw [if_pos c124] at hpa
        have hcc : ((s[k]?.getD 0 : Nat) : Int) = 124 := by omega
        have hkl : k < s.length := by
          by_cases hj : k < s.length
          · exact hj
          · rw [List.getElem?_eq_none (by omega)] at c124
            simp at c124
        right
        unfold c43_l0
        simp only [go_sem, Nat.reduceEqDiff, Int.reduceLT, Int.reduceLE, Int.reduceEq, Nat.reduceLT, Nat.reduceAdd, Nat.reduceMul, Int.reduceToNat, Nat.reduceLeDiff, reduceCtorEq, t0, t4, hP.ld0, hP.ld1, hput, hu]
        refine ⟨by decide, ?_⟩
        refine halt.mono ?_
        rintro r h3 ⟨rfl, hP3, hon3⟩
        obtain ⟨hu3, h4, rfl, happ⟩ := mid h3 hP3 hon3
        simp only [go_sem, Nat.reduceEqDiff, Int.reduceLT, Int.reduceLE, Int.reduceEq, Nat.reduceLT, Nat.reduceAdd, Nat.reduceMul, Int.reduceToNat, Nat.reduceLeDiff, reduceCtorEq, t0, t4, hu3]
        refine ⟨hsame, happ _ ?_⟩
        intro v' h5 h6 hcv hput6 hb6 hon6 hq6 hP6
        simp only [go_sem, Nat.reduceEqDiff, Int.reduceLT, Int.reduceLE, Int.reduceEq, Nat.reduceLT, Nat.reduceAdd, Nat.reduceMul, Int.reduceToNat, Nat.reduceLeDiff, reduceCtorEq, t0, t4, hcv, hput6]
        refine ⟨by decide, ?_⟩
        refine (peek_c p s k h6 hP6).mono ?_
        rintro r h7 ⟨rfl, hle7⟩
        simp only [go_sem, Nat.reduceEqDiff, Int.reduceLT, Int.reduceLE, Int.reduceEq, Nat.reduceLT, Nat.reduceAdd, Nat.reduceMul, Int.reduceToNat, Nat.reduceLeDiff, reduceCtorEq, t0, t4, hcc]
        exact ⟨n, by omega, k, acc ++ [a], hkl, by omega, by simp; omega, hpa, hon6.trans hle7.only, hP6.mono hle7, by have := hle7.next; omega, hb6.mono hle7⟩
      · rw [if_neg c124] at hpa
        have c41 : ¬ s[k]?.getD 0 = 41 := by
          intro e
          rw [if_pos e] at hpa
          cases hpa
        have hcc : ¬ ((s[k]?.getD 0 : Nat) : Int) = 124 := by omega
        have hcc2 : ¬ ((s[k]?.getD 0 : Nat) : Int) = 41 := by omega
        left
        rw [e43l]
        refine PanK.block (PanK.seq2 k43m ?_)
        unfold c43_l0
        simp only [cA, cB, cBk]
        simp only [go_sem, Nat.reduceEqDiff, Int.reduceLT, Int.reduceLE, Int.reduceEq, Nat.reduceLT, Nat.reduceAdd, Nat.reduceMul, Int.reduceToNat, Nat.reduceLeDiff, reduceCtorEq, t0, t4, hP.ld0, hP.ld1, hput]
        refine PanK.seq2 k43n ?_
        unfold c43_l0
        simp only [cA, cB, cBk]
        simp only [go_sem, Nat.reduceEqDiff, Int.reduceLT, Int.reduceLE, Int.reduceEq, Nat.reduceLT, Nat.reduceAdd, Nat.reduceMul, Int.reduceToNat, Nat.reduceLeDiff, reduceCtorEq, t0, t4, hu]
        refine ⟨by decide, ?_⟩
        refine halt.mono ?_
        rintro r h3 ⟨rfl, hP3, hon3⟩
        obtain ⟨hu3, h4, rfl, happ⟩ := mid h3 hP3 hon3
        simp only [go_sem, Nat.reduceEqDiff, Int.reduceLT, Int.reduceLE, Int.reduceEq, Nat.reduceLT, Nat.reduceAdd, Nat.reduceMul, Int.reduceToNat, Nat.reduceLeDiff, reduceCtorEq, t0, t4, hu3]
        refine ⟨hsame, happ _ ?_⟩
        intro v' h5 h6 hcv hput6 hb6 hon6 hq6 hP6
        simp only [go_sem, Nat.reduceEqDiff, Int.reduceLT, Int.reduceLE, Int.reduceEq, Nat.reduceLT, Nat.reduceAdd, Nat.reduceMul, Int.reduceToNat, Nat.reduceLeDiff, reduceCtorEq, t0, t4, hcv, hput6]
        refine PanK.seq2 k43o ?_
        unfold c43_l0
        simp only [cA, cB, cBk]
        simp only [go_sem, Nat.reduceEqDiff, Int.reduceLT, Int.reduceLE, Int.reduceEq, Nat.reduceLT, Nat.reduceAdd, Nat.reduceMul, Int.reduceToNat, Nat.reduceLeDiff, reduceCtorEq, t0, t4]
        refine ⟨by decide, ?_⟩
        refine (peek_c p s k h6 hP6).mono ?_
        rintro r h7 ⟨rfl, hle7⟩
        simp only [go_sem, Nat.reduceEqDiff, Int.reduceLT, Int.reduceLE, Int.reduceEq, Nat.reduceLT, Nat.reduceAdd, Nat.reduceMul, Int.reduceToNat, Nat.reduceLeDiff, reduceCtorEq, t0, t4, hcc, hcc2]
        exact pan43q _ _ _ (hon6.trans hle7.only)
set_option maxHeartbeats 1000000 in
theorem cell_pan (p : Nat) (s : List Nat) (i : Nat) (h : AHeap) (H : Par h p s i) (hi : i < s.length) (hs : s.length ≤ 2000000) (hc : pCell s i = none) : PanC 43 [.ptr p 0] h (fun h' => Only p h h') := by
  refine PanC.of_code (Pf := fun _ => True) Tryz.func43 body43 (enters_of_info Tryz.func43 (by kernel_rfl) (by kernel_rfl)) ?_
  rw [ntmps43, e43a]
  have hnl : ¬ isL (s[i]?.getD 0) = true := by
    intro h
    unfold pCell at hc
    rw [if_pos h] at hc
    cases hc
  have hc2 : s[i]?.getD 0 = 40 → pAlts (s.length - i) s i [] = none := by
    intro h
    unfold pCell at hc
    rw [if_neg hnl, if_pos h] at hc
    exact hc
  refine PanK.seq2 k43a ?_
  unfold c43
  simp only [cA]
  simp only [go_sem, Nat.reduceEqDiff, Int.reduceLT, Int.reduceLE, Int.reduceEq, Nat.reduceLT, Nat.reduceAdd, Nat.reduceMul, Int.reduceToNat, Nat.reduceLeDiff, reduceCtorEq]
  have hle0 : Hle h (h.push (.cells [.nilslice] 55)) := (Hle.refl h).push _
  have hn0 : (h.push (.cells [.nilslice] 55)).next = h.next + 1 := rfl
  generalize h.push (.cells [.nilslice] 55) = h0 at hle0 hn0 ⊢
  have hp0 := H.1
  refine PanK.seq2 k43b ?_
  unfold c43
  simp only [cA, cB]
  simp only [go_sem, Nat.reduceEqDiff, Int.reduceLT, Int.reduceLE, Int.reduceEq, Nat.reduceLT, Nat.reduceAdd, Nat.reduceMul, Int.reduceToNat, Nat.reduceLeDiff, reduceCtorEq]
  refine ⟨by decide, ?_⟩
  refine (peek_c p s i h0 (H.mono hle0)).mono ?_
  rintro r h1 ⟨rfl, hle1⟩
  have hle01 := hle0.trans hle1
  have hP1 := H.mono hle01
  have hn1 := hle1.next
  simp only [go_sem, Nat.reduceEqDiff, Int.reduceLT, Int.reduceLE, Int.reduceEq, Nat.reduceLT, Nat.reduceAdd, Nat.reduceMul, Int.reduceToNat, Nat.reduceLeDiff, reduceCtorEq]
  refine PanK.seq2 k43c ?_
  unfold c43
  simp only [cA, cB]
  simp only [go_sem, Nat.reduceEqDiff, Int.reduceLT, Int.reduceLE, Int.reduceEq, Nat.reduceLT, Nat.reduceAdd, Nat.reduceMul, Int.reduceToNat, Nat.reduceLeDiff, reduceCtorEq]
  refine ⟨by decide, ?_⟩
  refine (isLetter_c (s[i]?.getD 0) h1).mono ?_
  rintro r h1' ⟨rfl, rfl⟩
  simp only [go_sem, Nat.reduceEqDiff, Int.reduceLT, Int.reduceLE, Int.reduceEq, Nat.reduceLT, Nat.reduceAdd, Nat.reduceMul, Int.reduceToNat, Nat.reduceLeDiff, reduceCtorEq, hnl]
  by_cases h40 : s[i]?.getD 0 = 40
  · have hcc : ((s[i]?.getD 0 : Nat) : Int) = 40 := by omega
    refine PanK.seq2 k43d ?_
    unfold c43
    simp only [cA, cB]
    simp only [go_sem, Nat.reduceEqDiff, Int.reduceLT, Int.reduceLE, Int.reduceEq, Nat.reduceLT, Nat.reduceAdd, Nat.reduceMul, Int.reduceToNat, Nat.reduceLeDiff, reduceCtorEq, hcc]
    refine PanK.seq2 k43f ?_
    unfold c43
    simp only [cA, cB]
    simp only [go_sem, Nat.reduceEqDiff, Int.reduceLT, Int.reduceLE, Int.reduceEq, Nat.reduceLT, Nat.reduceAdd, Nat.reduceMul, Int.reduceToNat, Nat.reduceLeDiff, reduceCtorEq]
    have hbx : BoxL (fun x => x < h.next ∨ x = h.next) (h1'.push (.cells [.nilslice] 55)) h1'.next [] := BoxL.new (fun e => by omega)
    exact PanK.block (cell_loop_pan p s h _ h.next h1'.next hs (s.length - i) i _ hp0 (Nat.le_refl _) hi (by omega) (by omega) (hc2 h40) ((hle01.push _).only) (hP1.mono ((Hle.refl _).push _)) (by simp [AHeap.next_push]; omega) hbx (by simp [T.get_set]) (by simp [T.get_set]))
  · have hcc : ¬ ((s[i]?.getD 0 : Nat) : Int) = 40 := by omega
    rw [e43c]
    refine PanK.seq1 (PanK.seq2 k43e ?_)
    unfold c43
    simp only [cA, cB]
    simp only [go_sem, Nat.reduceEqDiff, Int.reduceLT, Int.reduceLE, Int.reduceEq, Nat.reduceLT, Nat.reduceAdd, Nat.reduceMul, Int.reduceToNat, Nat.reduceLeDiff, reduceCtorEq, hcc]
    refine PanK.cond (cc := .t 23) (b := true) rfl (by simp only [go_sem, Nat.reduceEqDiff, Int.reduceLT, Int.reduceLE, Int.reduceEq, Nat.reduceLT, Nat.reduceAdd, Nat.reduceMul, Int.reduceToNat, Nat.reduceLeDiff, reduceCtorEq]) ?_
    rw [if_pos rfl]
    exact pan43p _ _ _ hle01.only
end
end Go.AX
namespace Go.AX
open Go Go.Proofs
noncomputable section
set_option linter.unusedSimpArgs false
set_option linter.unusedVariables false
attribute [local go_sem] b_seq wp_skip wp_exit wp_ret wp_region b_block wops_nil b_ops b_opsg b_cond condV_lite wo_mv b_bin wo_call callV_func wo_pick b_box wo_load1 wo_loadN wo_store wo_nilCheck wo_not wo_lenStr' wo_lenSl wo_ixStr' wo_ixSl wo_fAddr wo_part1 wo_partN wo_extract wo_cInt wo_cStr wo_mkMap wo_mkIface wo_mkFunc wo_lookup pickV_bool ifT_true ifT_false b_loadV b_loadNV b_storeV nilV_ptr nilV_func nilV_iface notV_bool lenStrV_str lenSlV_nil lenSlV_slice b_ixStrV ixSlV_slice fAddrV_ptr b_part1V partNV_agg b_extractV convV_int strV_str evC_tm evC_cn T.get_set putA_some putA_none onO_some evCs_nil evCs_cons appL_nil appL_cons guardOk_true guardOk_false cellsV_bool cellsV_int cellsV_str cellsV_nilptr cellsV_ptr cellsV_nilslice cellsV_slice cellsV_nilmap cellsV_map cellsV_func cellsV_nilfunc cellsV_iface cellsV_niliface cellsV_agg bin_lss bin_gtr bin_leq bin_geq bin_eql bin_neq bin_add bin_sub bin_eqlS bin_neqS mkFrame_nil mkFrame_cons resA_one resA_two resA_three over_0 over_1 over_2 over_3 over_4 over_5 over0_nil over0_cons Option.getD_some if_true if_false AHeap.next_push AVal.bool.injEq decide_eq_true_eq decide_eq_false_iff_not Bool.not_eq_true' Bool.not_eq_false' Bool.not_eq_true decide_true decide_false Bool.not_true Bool.not_false Int.toNat_natCast Int.natCast_nonneg true_and and_true wo_mapPut wp_drawn' wsts_nil b_pure b_read b_new b_wr wor_none b_org rer_nil rer_load1 rer_loadN wo_append AHeap.next_skip AHeap.next_put' AHeap.mk_push_t AHeap.mk_eta AHeap.mk_skip ldA_skip ldN_skip Nat.add_zero Nat.zero_add b_lite_true b_lite_false eq_self_iff_true not_true_eq_false not_false_eq_true bx_k bx_q bx_x bx_1 undefA_bool putAt_push List.length_cons List.length_nil Nat.le_refl ldA_push_new ldN_push_new List.getElem?_cons_zero List.getElem?_cons_succ List.drop_zero List.drop_succ_cons List.take_succ_cons List.take_zero b_build b_buildSlice evParts_nil evParts_cons b_fillA_nil b_fillA nbeq nble natadd natmul lenL_eq repL_1 repL_2 repL_3 wo_sliceData sdV_nil sdV_slice wo_unsafeStr usV_nil wo_slStr slStrV_str evCo_none evCo_some boundA_none Bool.and_true Bool.true_and wo_minmax2' mm2V_int
noncomputable def p16 : Code := seqB (seqB c16)
noncomputable def l16 : Code := codL (codB (seqA (seqB p16)))
noncomputable def dr16 : Code := seqB (codB (seqB l16))
noncomputable def o16 : Array Oper := codO dr16
theorem o16sz : o16.size = 6 := by kernel_rfl
theorem o16d : dr16 = .region (regId dr16) o16 true := by kernel_rfl
theorem o16_0 : (o16[0]?).bind (cOper E2 39 o16) = some ⟨some 21, none, .load1 (.t 2)⟩ := by kernel_rfl
theorem o16_1 : (o16[1]?).bind (cOper E2 39 o16) = some ⟨some 22, none, .mv (.t 4)⟩ := by kernel_rfl
theorem o16_2 : (o16[2]?).bind (cOper E2 39 o16) = some ⟨some 23, none, .call (.c (.func 43 [] [])) [.t 22]⟩ := by kernel_rfl
def lst2 (b0 b1 : Bool) : Array Bool := #[b0, b1, false, false, false, false]
theorem rdy16 : (allB fun b0 => allB fun b1 =>
    !(Region.ready .any o16 (lst2 b0 b1)).isEmpty && (Region.ready .any o16 (lst2 b0 b1)).all fun i => (i == 0 && !b0) || (i == 1 && !b1) || (i == 2 && b1)) = true := by kernel_rfl
theorem lst2_0 (b0 b1 : Bool) : (lst2 b0 b1).setIfInBounds 0 true = lst2 true b1 := rfl
theorem lst2_1 (b0 b1 : Bool) : (lst2 b0 b1).setIfInBounds 1 true = lst2 b0 true := rfl
def T23 (b c : Nat) (fr : Fr) : Prop := fr.get 2 = some (.ptr b 0) ∧ fr.get 3 = some (.ptr c 0)
theorem draw16 (p b c : Nat) (u : AVal) (fr : Fr) (h : AHeap) (Ph : AHeap → Prop) (t2 : fr.get 2 = some (.ptr b 0)) (t3 : fr.get 3 = some (.ptr c 0)) (t4 : fr.get 4 = some (.ptr p 0)) (hl : ldA h b 0 = some u) (hp : PanC 43 [.ptr p 0] h Ph) : PanK 39 dr16 fr h Ph (T23 b c) := by
  rw [o16d]
  obtain ⟨h', hph, hp⟩ := hp
  refine ⟨h', hph, fun K W0 ρ w a hn hf hW => ?_⟩
  refine wp_region_any env2.mixed ?_
  rw [o16sz]
  have key : ∀ (fuel : Nat) (b0 b1 : Bool) (fr : Fr) (ρ1 : Ren) (w1 : World) (a1 : Act), fuel + b0.toNat + b1.toNat = 6 → fr.get 2 = some (.ptr b 0) → fr.get 3 = some (.ptr c 0) → fr.get 4 = some (.ptr p 0) → (b1 = true → fr.get 22 = some (.ptr p 0)) →
      39 ≤ a1.tmps.size → FR ρ1 fr a1.tmps → WR Tryz.prog K W0 ρ1 h w1 → ρ.le ρ1 → a1.defers = a.defers → wpAny Tryz.prog .any o16 (PQ (T23 b c) K W0 ρ a.defers h') fuel (lst2 b0 b1) a1 w1 := by
    intro fuel
    induction fuel with
    | zero =>
      intro b0 b1 fr ρ1 w1 a1 hfu
      exfalso
      cases b0 <;> cases b1 <;> simp at hfu
    | succ fuel ih =>
      intro b0 b1 fr ρ1 w1 a1 hfu t2 t3 t4 t22 hn1 hf1 hW1 hle1 hd1
      have hr := allB_spec (allB_spec rdy16 b0) b1
      rw [Bool.and_eq_true] at hr
      obtain ⟨hne, hall⟩ := hr
      unfold wpAny
      refine ⟨fun he => ?_, fun i hi => ?_⟩
      · rw [he] at hne; simp at hne
      have hi2 := List.all_eq_true.1 hall i hi
      simp only [Bool.or_eq_true, Bool.and_eq_true, beq_iff_eq, Bool.not_eq_true'] at hi2
      rcases hi2 with (⟨rfl, e0⟩ | ⟨rfl, e1⟩) | ⟨rfl, e1⟩
      · subst e0
        rw [lst2_0]
        refine op_wp (R := fun fr' g' => g' = h ∧ fr' = fr.set 21 u) o16_0 hn1 hf1 hW1 (by simp only [go_sem, Nat.reduceEqDiff, Int.reduceLT, Int.reduceLE, Int.reduceEq, Nat.reduceLT, Nat.reduceAdd, Nat.reduceMul, Int.reduceToNat, Nat.reduceLeDiff, reduceCtorEq, t2, hl]) ?_
        rintro fr' g' a2 w2 ρ2 ⟨rfl, rfl⟩ k1 k2 k3 k4 k5
        exact ih true b1 _ ρ2 w2 a2 (by simp at hfu ⊢; omega) (by simp [T.get_set, t2]) (by simp [T.get_set, t3]) (by simp [T.get_set, t4]) (fun e => by simp [T.get_set, t22 e]) k2 k4 k5 (Ren.le_trans hle1 k1) (k3.trans hd1)
      · subst e1
        rw [lst2_1]
        refine op_wp (R := fun fr' g' => g' = h ∧ fr' = fr.set 22 (.ptr p 0)) o16_1 hn1 hf1 hW1 (by simp only [go_sem, Nat.reduceEqDiff, Int.reduceLT, Int.reduceLE, Int.reduceEq, Nat.reduceLT, Nat.reduceAdd, Nat.reduceMul, Int.reduceToNat, Nat.reduceLeDiff, reduceCtorEq, t4]) ?_
        rintro fr' g' a2 w2 ρ2 ⟨rfl, rfl⟩ k1 k2 k3 k4 k5
        exact ih b0 true _ ρ2 w2 a2 (by simp at hfu ⊢; omega) (by simp [T.get_set, t2]) (by simp [T.get_set, t3]) (by simp [T.get_set, t4]) (fun _ => by simp [T.get_set]) k2 k4 k5 (Ren.le_trans hle1 k1) (k3.trans hd1)
      · subst e1
        refine call_pan o16_2 (by decide) hf1 hW1 hle1 hd1 ?_ ⟨t2, t3⟩
        have : evCs [.t 22] fr = [.ptr p 0] := by simp only [go_sem, Nat.reduceEqDiff, Int.reduceLT, Int.reduceLE, Int.reduceEq, Nat.reduceLT, Nat.reduceAdd, Nat.reduceMul, Int.reduceToNat, Nat.reduceLeDiff, reduceCtorEq, t22 rfl]
        rw [this]; exact hp
  exact key 6 false false fr ρ _ a rfl t2 t3 t4 (fun e => by cases e) hn hf (hW.drawn _) (Ren.le_refl _) rfl
end
end Go.AX
namespace Go.AX
open Go Go.Proofs
noncomputable section
set_option linter.unusedSimpArgs false
set_option linter.unusedVariables false
attribute [local go_sem] b_seq wp_skip wp_exit wp_ret wp_region b_block wops_nil b_ops b_opsg b_cond condV_lite wo_mv b_bin wo_call callV_func wo_pick b_box wo_load1 wo_loadN wo_store wo_nilCheck wo_not wo_lenStr' wo_lenSl wo_ixStr' wo_ixSl wo_fAddr wo_part1 wo_partN wo_extract wo_cInt wo_cStr wo_mkMap wo_mkIface wo_mkFunc wo_lookup pickV_bool ifT_true ifT_false b_loadV b_loadNV b_storeV nilV_ptr nilV_func nilV_iface notV_bool lenStrV_str lenSlV_nil lenSlV_slice b_ixStrV ixSlV_slice fAddrV_ptr b_part1V partNV_agg b_extractV convV_int strV_str evC_tm evC_cn T.get_set putA_some putA_none onO_some evCs_nil evCs_cons appL_nil appL_cons guardOk_true guardOk_false cellsV_bool cellsV_int cellsV_str cellsV_nilptr cellsV_ptr cellsV_nilslice cellsV_slice cellsV_nilmap cellsV_map cellsV_func cellsV_nilfunc cellsV_iface cellsV_niliface cellsV_agg bin_lss bin_gtr bin_leq bin_geq bin_eql bin_neq bin_add bin_sub bin_eqlS bin_neqS mkFrame_nil mkFrame_cons resA_one resA_two resA_three over_0 over_1 over_2 over_3 over_4 over_5 over0_nil over0_cons Option.getD_some if_true if_false AHeap.next_push AVal.bool.injEq decide_eq_true_eq decide_eq_false_iff_not Bool.not_eq_true' Bool.not_eq_false' Bool.not_eq_true decide_true decide_false Bool.not_true Bool.not_false Int.toNat_natCast Int.natCast_nonneg true_and and_true wo_mapPut wp_drawn' wsts_nil b_pure b_read b_new b_wr wor_none b_org rer_nil rer_load1 rer_loadN wo_append AHeap.next_skip AHeap.next_put' AHeap.mk_push_t AHeap.mk_eta AHeap.mk_skip ldA_skip ldN_skip Nat.add_zero Nat.zero_add b_lite_true b_lite_false eq_self_iff_true not_true_eq_false not_false_eq_true bx_k bx_q bx_x bx_1 undefA_bool putAt_push List.length_cons List.length_nil Nat.le_refl ldA_push_new ldN_push_new List.getElem?_cons_zero List.getElem?_cons_succ List.drop_zero List.drop_succ_cons List.take_succ_cons List.take_zero b_build b_buildSlice evParts_nil evParts_cons b_fillA_nil b_fillA nbeq nble natadd natmul lenL_eq repL_1 repL_2 repL_3 wo_sliceData sdV_nil sdV_slice wo_unsafeStr usV_nil wo_slStr slStrV_str evCo_none evCo_some boundA_none Bool.and_true Bool.true_and wo_minmax2' mm2V_int
noncomputable def pl16 : List (Nat × List Nat) := (E2.plans.get 16).getD []
def cBk1 : CCode → CCode | .block _ a => a | c => c
theorem e16p : p16 = .seq (seqA p16) (.seq (.block 0 (.loop l16)) (seqB (seqB p16))) := by kernel_rfl
theorem e16l : l16 = .seq (seqA l16) (.block 1 (.seq (seqA (codB (seqB l16))) dr16)) := by kernel_rfl
theorem k16a : cCode E2 39 pl16 (seqA p16) = some (cA c16b) := by kernel_rfl
theorem k16l : cCode E2 39 pl16 l16 = some c16b_l0 := by kernel_rfl
theorem k16b : cCode E2 39 pl16 (seqA l16) = some (cA c16b_l0) := by kernel_rfl
theorem k16c : cCode E2 39 pl16 (seqA (codB (seqB l16))) = some (cA (cBk1 (cB c16b_l0))) := by kernel_rfl
def PanP (h0 h' : AHeap) : Prop := Hle h0 h' ∧ h0.next + 3 ≤ h'.next ∧ (∃ x, h'.get h0.next = some (.cells [x] 22)) ∧ h'.get (h0.next + 1) = some (.cells [.int .i64 0] 23)
set_option maxHeartbeats 1000000 in
theorem parse_pan (s : List Nat) (h0 h : AHeap) (fr : Fr) (hs : s.length ≤ 2000000) (hr : pCells (s.length + 1) s 0 [] = none) (hle : Hle h0 h) (hn : h.next = h0.next + 2) (g2 : h.get h0.next = some (.cells [.nilslice] 22)) (g3 : h.get (h0.next + 1) = some (.cells [.int .i64 0] 23))
    (t0 : fr.get 0 = some (.str s)) (t2 : fr.get 2 = some (.ptr h0.next 0)) (t3 : fr.get 3 = some (.ptr (h0.next + 1) 0)) : PanK 39 p16 fr h (PanP h0) (T23 h0.next (h0.next + 1)) := by
  rw [e16p]
  refine PanK.seq2 k16a ?_
  unfold c16b
  simp only [cA]
  simp only [go_sem, Nat.reduceEqDiff, Int.reduceLT, Int.reduceLE, Int.reduceEq, Nat.reduceLT, Nat.reduceAdd, Nat.reduceMul, Int.reduceToNat, Nat.reduceLeDiff, reduceCtorEq, t0, t2, t3]
  have hle0 : Hle h0 (h.push (.cells [.str s, .int .i64 0] 79)) := hle.push _
  have hn0 : (h.push (.cells [.str s, .int .i64 0] 79)).next = h0.next + 3 := by show h.next + 1 = _; omega
  have e2 : (h.push (.cells [.str s, .int .i64 0] 79)).get h0.next = some (.cells [.nilslice] 22) := by rw [AHeap.get_push_ne _ _ (by omega)]; exact g2
  have e3 : (h.push (.cells [.str s, .int .i64 0] 79)).get (h0.next + 1) = some (.cells [.int .i64 0] 23) := by rw [AHeap.get_push_ne _ _ (by omega)]; exact g3
  have eP : Par (h.push (.cells [.str s, .int .i64 0] 79)) h.next s 0 := ⟨by omega, AHeap.get_push_same _ _⟩
  generalize h.push (.cells [.str s, .int .i64 0] 79) = h1 at hle0 hn0 e2 e3 eP ⊢
  refine PanK.seq1 (PanK.block (PanK.loop (pl := pl16) (cx := c16b_l0) k16l (fun d fr h' => fr.get 0 = some (.str s) ∧ fr.get 2 = some (.ptr h0.next 0) ∧ fr.get 3 = some (.ptr (h0.next + 1) 0) ∧ fr.get 4 = some (.ptr h.next 0) ∧ Hle h0 h' ∧ h'.get (h0.next + 1) = some (.cells [.int .i64 0] 23) ∧
    ∃ i acc out, Par h' h.next s i ∧ i ≤ s.length ∧ acc.length ≤ 32 ∧ h'.get h0.next = some (.cells [out] 22) ∧ OutL (h0.next + 3) h' out acc ∧ d + i = s.length + 1 ∧ ∃ m, s.length < i + m ∧ pCells m s i acc = none) ?_ (s.length + 1) ?_))
  rotate_left
  · exact ⟨by simp [T.get_set, t0], by simp [T.get_set, t2], by simp [T.get_set, t3], by simp [T.get_set], hle0, e3, 0, [], .nilslice, eP, by omega, by simp, e2, OutL.nil _ _, by omega, s.length + 1, by omega, hr⟩
  clear t0 t2 t3 hr hle0 hn0 e2 e3 eP
  rintro d fr h' ⟨t0, t2, t3, t4, hle0, e3, i, acc, out, hP, hi, hacc, e2, hout, hd, m, hm, hr⟩
  have hp1 := hP.1
  have l2 : ldA h' h0.next 0 = some out := by rw [ldA_cells e2]; rfl
  match m, hm, hr with
  | 0, hm, hr => omega
  | m + 1, hm, hr =>
  unfold pCells at hr
  by_cases hil : i < s.length
  · rw [if_pos hil] at hr
    have hc : (i : Int) < (s.length : Int) := by omega
    split at hr
    · cases hr
    rename_i h32
    have hlen : ¬ (acc.length : Int) = 32 := by omega
    cases hcj : pCell s i with
    | none =>
      left
      rw [e16l]
      refine PanK.seq2 k16b ?_
      unfold c16b_l0
      simp only [cA]
      simp only [go_sem, Nat.reduceEqDiff, Int.reduceLT, Int.reduceLE, Int.reduceEq, Nat.reduceLT, Nat.reduceAdd, Nat.reduceMul, Int.reduceToNat, Nat.reduceLeDiff, reduceCtorEq, t0, t2, t3, t4, hP.ld0, hP.ld1, hc]
      refine PanK.block (PanK.seq2 k16c ?_)
      unfold c16b_l0
      simp only [cA, cB, cBk1]
      simp only [go_sem, Nat.reduceEqDiff, Int.reduceLT, Int.reduceLE, Int.reduceEq, Nat.reduceLT, Nat.reduceAdd, Nat.reduceMul, Int.reduceToNat, Nat.reduceLeDiff, reduceCtorEq, t0, t2, t3, t4, l2, hout.cells.len, hlen]
      refine draw16 h.next h0.next (h0.next + 1) out _ _ _ (by simp [T.get_set, t2]) (by simp [T.get_set, t3]) (by simp [T.get_set, t4]) l2 ?_
      refine (cell_pan h.next s i h' hP hil hs hcj).mono fun q2 hon => ?_
      have := hon.1
      exact ⟨⟨by have := hle0.next; omega, fun c hc => by rw [hon.2 c (by omega) (by omega)]; exact hle0.get c hc⟩, by omega, ⟨out, (hon.2 _ (by omega) (by omega)).trans e2⟩, (hon.2 _ (by omega) (by omega)).trans e3⟩
    | some cj =>
      obtain ⟨c, j⟩ := cj
      rw [hcj] at hr
      have hpos := pCell_pos (by omega) hcj
      right
      unfold c16b_l0
      simp only [go_sem, Nat.reduceEqDiff, Int.reduceLT, Int.reduceLE, Int.reduceEq, Nat.reduceLT, Nat.reduceAdd, Nat.reduceMul, Int.reduceToNat, Nat.reduceLeDiff, reduceCtorEq, t0, t2, t3, t4, hP.ld0, hP.ld1, hc, l2, hout.cells.len, hlen]
      refine ⟨by decide, ?_⟩
      refine (cell_c h.next s i _ (hP.mono ((Hle.refl h').skip 6)) (by omega) hs c j hcj).mono ?_
      rintro r1 h2 ⟨v, rfl, hv, hP2, hon2, hbl⟩
      have hon2' : Only h.next h' h2 := ((((Hle.refl h').skip 6).only)).trans hon2
      have hn2 : h'.next + 6 ≤ h2.next := hon2.1
      have e22 : h2.get h0.next = some (.cells [out] 22) := (hon2'.2 _ (by omega) (by omega)).trans e2
      have l22 : ldA h2 h0.next 0 = some out := by rw [ldA_cells e22]; rfl
      have hsame : sameA 20 out out = true := sameA_sl hout.form
      have hon3 : Only h.next h' (h2.put (h'.next + 3) (.cells [v] 55)) := ⟨by simp [AHeap.next_put]; omega, fun x hx hxp => by rw [AHeap.get_put_ne _ _ (by omega)]; exact hon2'.2 x hx hxp⟩
      have hz : (h2.put (h'.next + 3) (.cells [v] 55)).get (h'.next + 3) = some (.cells [v] 55) := AHeap.get_put_same _ _ _
      have hzn : (h2.put (h'.next + 3) (.cells [v] 55)).next = h2.next := rfl
      have hbl' : ∀ x, blkOf v x → h'.next + 6 ≤ x ∧ x < h2.next := hbl
      have hv3 : AltsA (h2.put (h'.next + 3) (.cells [v] 55)) v c := hv.keep (by omega) fun x hx _ => AHeap.get_put_ne _ _ (by have := (hbl' x hx).1; omega)
      have hP3 : Par (h2.put (h'.next + 3) (.cells [v] 55)) h.next s j := ⟨by rw [hzn]; exact hP2.1, by rw [AHeap.get_put_ne _ _ (by omega)]; exact hP2.2⟩
      have e23 : (h2.put (h'.next + 3) (.cells [v] 55)).get h0.next = some (.cells [out] 22) := by rw [AHeap.get_put_ne _ _ (by omega)]; exact e22
      have e33 : (h2.put (h'.next + 3) (.cells [v] 55)).get (h0.next + 1) = some (.cells [.int .i64 0] 23) := by rw [AHeap.get_put_ne _ _ (by omega)]; exact (hon2'.2 _ (by omega) (by omega)).trans e3
      have hout3 := hout.only (p := h.next) (by omega) hon3
      have hln := hle0.next
      simp only [go_sem, Nat.reduceEqDiff, Int.reduceLT, Int.reduceLE, Int.reduceEq, Nat.reduceLT, Nat.reduceAdd, Nat.reduceMul, Int.reduceToNat, Nat.reduceLeDiff, reduceCtorEq, t0, t2, t3, t4, l22, hv.cells]
      refine ⟨hsame, ?_⟩
      generalize h2.put (h'.next + 3) (.cells [v] 55) = h3 at hon3 hz hzn hv3 hP3 e23 e33 hout3 ⊢
      refine hout3.app2 (by omega) hv3 (fun x hx => ⟨by have := (hbl' x hx).1; omega, by have := (hbl' x hx).2; omega, fun hx2 => by have := hout.blk hx2; have := (hbl' x hx).1; omega⟩) (by omega) (by omega) hz ?_
      intro v' h4 hout4 hvf hn4 hg4
      have e24 : h4.get h0.next = some (.cells [out] 22) := (hg4 _ (by omega)).trans e23
      have hput4 : putAt h4 h0.next 0 1 [v'] = some (h4.put h0.next (.cells [v'] 22)) := putAt_cells (o := 0) (n := 1) (vs := [v']) e24 rfl (by simp)
      have hgl : ∀ x, x < h0.next → h4.get x = h0.get x := fun x hx => by rw [hg4 x (by omega), hon3.2 x (by omega) (by omega)]; exact hle0.get x hx
      simp only [go_sem, Nat.reduceEqDiff, Int.reduceLT, Int.reduceLE, Int.reduceEq, Nat.reduceLT, Nat.reduceAdd, Nat.reduceMul, Int.reduceToNat, Nat.reduceLeDiff, reduceCtorEq, t0, t2, t3, t4, cellsV_flat hvf, hput4]
      refine ⟨d - (j - i), by omega, ⟨by simp [AHeap.next_put]; omega, fun x hx => by rw [AHeap.get_put_ne _ _ (by omega)]; exact hgl x hx⟩, ?_, j, acc ++ [c], v', ?_, hpos.2, by simp; omega, AHeap.get_put_same _ _ _, hout4.only (p := h0.next) (by omega) ⟨by simp [AHeap.next_put], fun x _ hx => AHeap.get_put_ne _ _ (Ne.symm hx)⟩, by omega, m, by omega, hr⟩
      · rw [AHeap.get_put_ne _ _ (by omega), hg4 _ (by omega)]; exact e33
      · exact ⟨by simp [AHeap.next_put]; have := hP3.1; omega, by rw [AHeap.get_put_ne _ _ (by omega), hg4 _ (by omega)]; exact hP3.2⟩
  · rw [if_neg hil] at hr
    cases hr
end
end Go.AX
namespace Go.AX
open Go Go.Proofs Go.RowKit
noncomputable section
set_option linter.unusedSimpArgs false
set_option linter.unusedVariables false
attribute [local go_sem] b_seq wp_skip wp_exit wp_ret wp_region b_block wops_nil b_ops b_opsg b_cond condV_lite wo_mv b_bin wo_call callV_func wo_pick b_box wo_load1 wo_loadN wo_store wo_nilCheck wo_not wo_lenStr' wo_lenSl wo_ixStr' wo_ixSl wo_fAddr wo_part1 wo_partN wo_extract wo_cInt wo_cStr wo_mkMap wo_mkIface wo_mkFunc wo_lookup pickV_bool ifT_true ifT_false b_loadV b_loadNV b_storeV nilV_ptr nilV_func nilV_iface notV_bool lenStrV_str lenSlV_nil lenSlV_slice b_ixStrV ixSlV_slice fAddrV_ptr b_part1V partNV_agg b_extractV convV_int strV_str evC_tm evC_cn T.get_set putA_some putA_none onO_some evCs_nil evCs_cons appL_nil appL_cons guardOk_true guardOk_false cellsV_bool cellsV_int cellsV_str cellsV_nilptr cellsV_ptr cellsV_nilslice cellsV_slice cellsV_nilmap cellsV_map cellsV_func cellsV_nilfunc cellsV_iface cellsV_niliface cellsV_agg bin_lss bin_gtr bin_leq bin_geq bin_eql bin_neq bin_add bin_sub bin_eqlS bin_neqS mkFrame_nil mkFrame_cons resA_one resA_two resA_three over_0 over_1 over_2 over_3 over_4 over_5 over0_nil over0_cons Option.getD_some if_true if_false AHeap.next_push AVal.bool.injEq decide_eq_true_eq decide_eq_false_iff_not Bool.not_eq_true' Bool.not_eq_false' Bool.not_eq_true decide_true decide_false Bool.not_true Bool.not_false Int.toNat_natCast Int.natCast_nonneg true_and and_true wo_mapPut wp_drawn' wsts_nil b_pure b_read b_new b_wr wor_none b_org rer_nil rer_load1 rer_loadN wo_append AHeap.next_skip AHeap.next_put' AHeap.mk_push_t AHeap.mk_eta AHeap.mk_skip ldA_skip ldN_skip Nat.add_zero Nat.zero_add b_lite_true b_lite_false eq_self_iff_true not_true_eq_false not_false_eq_true bx_k bx_q bx_x bx_1 undefA_bool putAt_push List.length_cons List.length_nil Nat.le_refl ldA_push_new ldN_push_new List.getElem?_cons_zero List.getElem?_cons_succ List.drop_zero List.drop_succ_cons List.take_succ_cons List.take_zero b_build b_buildSlice evParts_nil evParts_cons b_fillA_nil b_fillA nbeq nble natadd natmul lenL_eq repL_1 repL_2 repL_3 wo_sliceData sdV_nil sdV_slice wo_unsafeStr usV_nil wo_slStr slStrV_str evCo_none evCo_some boundA_none Bool.and_true Bool.true_and wo_minmax2' mm2V_int
theorem parse_fails (s : List Nat) (h : AHeap) (hs : s.length ≤ 2000000) (hr : pCells (s.length + 1) s 0 [] = none) : ∃ fr1 h1, (∃ N, ∀ m n, N ≤ m → N ≤ n → exec E2 (callN E2 m n) m c16a (mkFrame [.str s] 0 .nil) h = some ⟨.normal, fr1, h1⟩) ∧ fr1.get 2 = some (.ptr h.next 0) ∧ fr1.get 3 = some (.ptr (h.next + 1) 0) ∧
    PanK 39 p16 (fr1.set 7 (.func 42 [] [.ptr h.next 0, .ptr (h.next + 1) 0])) h1 (PanP h) (T23 h.next (h.next + 1)) := by
  have w1 : wp E2 c16a (mkFrame [.str s] 0 .nil) h (bx (fun fr h1 => fr.get 0 = some (.str s) ∧ fr.get 2 = some (.ptr h.next 0) ∧ fr.get 3 = some (.ptr (h.next + 1) 0) ∧ Hle h h1 ∧ h1.next = h.next + 2 ∧ h1.get h.next = some (.cells [.nilslice] 22) ∧ h1.get (h.next + 1) = some (.cells [.int .i64 0] 23)) .mk) (fun _ _ _ => False) (fun _ _ => False) := by
    unfold c16a
    simp only [go_sem, Nat.reduceEqDiff, Int.reduceLT, Int.reduceLE, Int.reduceEq, Nat.reduceLT, Nat.reduceAdd, Nat.reduceMul, Int.reduceToNat, Nat.reduceLeDiff, reduceCtorEq]
    refine ⟨((Hle.refl h).push _).push _, ?_, AHeap.get_push_same _ _⟩
    rw [AHeap.get_push_ne _ _ (by simp [AHeap.next_push])]
    exact AHeap.get_push_same _ _
  obtain ⟨⟨e1, fr1, h1⟩, hN1, hq1⟩ := wp_W w1
  cases e1 with
  | exit id => exact hq1.elim
  | ret => exact hq1.elim
  | normal =>
  obtain ⟨t0, t2, t3, hle, hn, g2, g3⟩ := hq1
  exact ⟨fr1, h1, hN1, t2, t3, parse_pan s h h1 _ hs hr hle hn g2 g3 (by simp [T.get_set, t0]) (by simp [T.get_set, t2]) (by simp [T.get_set, t3])⟩
end
end Go.AX
namespace Go.AX
open Go Go.Proofs Go.RowKit
noncomputable section
set_option linter.unusedSimpArgs false
set_option linter.unusedVariables false
attribute [local go_sem] b_seq wp_skip wp_exit wp_ret wp_region b_block wops_nil b_ops b_opsg b_cond condV_lite wo_mv b_bin wo_call callV_func wo_pick b_box wo_load1 wo_loadN wo_store wo_nilCheck wo_not wo_lenStr' wo_lenSl wo_ixStr' wo_ixSl wo_fAddr wo_part1 wo_partN wo_extract wo_cInt wo_cStr wo_mkMap wo_mkIface wo_mkFunc wo_lookup pickV_bool ifT_true ifT_false b_loadV b_loadNV b_storeV nilV_ptr nilV_func nilV_iface notV_bool lenStrV_str lenSlV_nil lenSlV_slice b_ixStrV ixSlV_slice fAddrV_ptr b_part1V partNV_agg b_extractV convV_int strV_str evC_tm evC_cn T.get_set putA_some putA_none onO_some evCs_nil evCs_cons appL_nil appL_cons guardOk_true guardOk_false cellsV_bool cellsV_int cellsV_str cellsV_nilptr cellsV_ptr cellsV_nilslice cellsV_slice cellsV_nilmap cellsV_map cellsV_func cellsV_nilfunc cellsV_iface cellsV_niliface cellsV_agg bin_lss bin_gtr bin_leq bin_geq bin_eql bin_neq bin_add bin_sub bin_eqlS bin_neqS mkFrame_nil mkFrame_cons resA_one resA_two resA_three over_0 over_1 over_2 over_3 over_4 over_5 over0_nil over0_cons Option.getD_some if_true if_false AHeap.next_push AVal.bool.injEq decide_eq_true_eq decide_eq_false_iff_not Bool.not_eq_true' Bool.not_eq_false' Bool.not_eq_true decide_true decide_false Bool.not_true Bool.not_false Int.toNat_natCast Int.natCast_nonneg true_and and_true wo_mapPut wp_drawn' wsts_nil b_pure b_read b_new b_wr wor_none b_org rer_nil rer_load1 rer_loadN wo_append AHeap.next_skip AHeap.next_put' AHeap.mk_push_t AHeap.mk_eta AHeap.mk_skip ldA_skip ldN_skip Nat.add_zero Nat.zero_add b_lite_true b_lite_false eq_self_iff_true not_true_eq_false not_false_eq_true bx_k bx_q bx_x bx_1 undefA_bool putAt_push List.length_cons List.length_nil Nat.le_refl ldA_push_new ldN_push_new List.getElem?_cons_zero List.getElem?_cons_succ List.drop_zero List.drop_succ_cons List.take_succ_cons List.take_zero b_build b_buildSlice evParts_nil evParts_cons b_fillA_nil b_fillA nbeq nble natadd natmul lenL_eq repL_1 repL_2 repL_3 wo_sliceData sdV_nil sdV_slice wo_unsafeStr usV_nil wo_slStr slStrV_str evCo_none evCo_some boundA_none Bool.and_true Bool.true_and wo_minmax2' mm2V_int
theorem code16a' : cCode E2 39 ((E2.plans.get 16).getD []) (seqA c16) = some c16a := by kernel_rfl
theorem settle_saved : settle saved = .returning := rfl
theorem tmps42 (p q : Value) : (#[p, q] ++ ((Array.replicate 14 undef).setIfInBounds 3 failV).setIfInBounds 0 failV : Array Value) = ((#[p, q] ++ Array.replicate 14 undef).setIfInBounds 5 failV).setIfInBounds 2 failV := by
  apply Array.ext'
  simp [List.replicate]
theorem V.failV {ρ : Ren} : V ρ (.iface 75 (.agg [])) failV := .iface (.agg (fun _ h => nomatch h) .nil)
theorem fr42 {ρ : Ren} {a b : AVal} {p q : Value} (ha : V ρ a p) (hb : V ρ b q) : FR ρ (((mkFrame [a, b] 0 .nil).set 5 (.iface 75 (.agg []))).set 2 (.iface 75 (.agg []))) (((#[p, q] ++ Array.replicate 14 undef).setIfInBounds 5 failV).setIfInBounds 2 failV) := by
  have hz : (#[p, q] ++ Array.replicate 14 undef : Array Value).size = 16 := by simp
  have f0 : FR ρ (mkFrame [a, b] 0 .nil) (#[p, q] ++ Array.replicate 14 undef) := mkFrame_FR (args' := #[p, q]) (VL.cons ha (VL.cons hb .nil)) 14
  have f1 := f0.set (d := 5) (by omega) (V.failV (ρ := ρ))
  exact f1.set (d := 2) (by rw [Array.size_setIfInBounds]; omega) (V.failV (ρ := ρ))
theorem sz42 (p q : Value) : 16 ≤ (((#[p, q] ++ Array.replicate 14 undef).setIfInBounds 5 failV).setIfInBounds 2 failV : Array Value).size := by
  rw [Array.size_setIfInBounds, Array.size_setIfInBounds]; simp
theorem parse_fail (s : List Nat) (h : AHeap) (hs : s.length ≤ 2000000) (hr : pCells (s.length + 1) s 0 [] = none) :
    ∃ h', Hle h h' ∧ (Enters Tryz.prog 16 ∧ ∀ (K : Keep) (W0 : World) (ρ : Ren) (w : World) (args' : Array Value), VL ρ [.str s] args'.toList → WR Tryz.prog K W0 ρ h w → Calls Tryz.prog 16 args' w (CPost Tryz.prog K W0 ρ (.tup [.nilslice, .int .i64 4]) h')) := by
  obtain ⟨fr1, h1, ⟨N1, hN1⟩, t2, t3, hpan⟩ := parse_fails s h hs hr
  obtain ⟨h2, ⟨hle2, hn2, ⟨x, e2⟩, e3⟩, hpan⟩ := hpan
  have wc := close_wp h h2 x 0 (((mkFrame [.ptr h.next 0, .ptr (h.next + 1) 0] 0 .nil).set 5 (.iface 75 (.agg []))).set 2 (.iface 75 (.agg []))) hle2 hn2 e2 e3
    (by simp [T.get_set, mkFrame_get]) (by simp [T.get_set, mkFrame_get]) (by simp [T.get_set])
  obtain ⟨⟨e4, fr4, h4⟩, ⟨N2, hN2⟩, hq4⟩ := wp_W wc
  cases e4 with
  | exit id => exact hq4.elim
  | ret => exact hq4.elim
  | normal =>
  obtain ⟨q1, q2, q3⟩ := hq4
  refine ⟨h4, q3, ⟨_, Tryz.func16, by kernel_rfl, by kernel_rfl⟩, fun K W0 ρ w args' hargs H => ?_⟩
  have hsize : 39 ≤ (args' ++ Array.replicate (Tryz.f16.ntmps - args'.size) undef).size := by rw [ntmps16]; simp; omega
  refine calls_of_wp_defers Tryz.func16 body16 ?_
  apply Go.wp_seq
  refine Go.wp_mono (exec_sound env2 (call2 N1 N1) (drawnS env2 (call2 N1 N1)) N1 (nt := 39) (seqA c16) code16a' (a := { tmps := args' ++ Array.replicate (Tryz.f16.ntmps - args'.size) undef, defers := [] }) hsize (mkFrame_FR hargs _) H (hN1 N1 N1 (Nat.le_refl _) (Nat.le_refl _))) fun e a1 w1 hq => ?_
  obtain ⟨ρ1, k1, k2, k3⟩ := hq.rest
  have hd : a1.defers = [] := hq.defers
  have he : e = .normal := hq.e
  subst he
  have hs1 := hq.size
  show Code.wp _ _ _ a1 w1
  have k22 : FR ρ1 fr1 a1.tmps := k2
  have x2 := k22 2
  have x3 := k22 3
  rw [t2] at x2
  rw [t3] at x3
  obtain ⟨r2, hr2, e2'⟩ := V.ptr_inv x2
  obtain ⟨r3, hr3, e3'⟩ := V.ptr_inv x3
  apply Go.wp_seq
  refine mid16_wp hs1 e2' e3' ?_
  show Code.wp _ _ _ _ w1
  have hfr : FR ρ1 (fr1.set 7 (.func 42 [] [.ptr h.next 0, .ptr (h.next + 1) 0])) (a1.tmps.setIfInBounds 7 (.func (.func 42) #[] #[.pointer (some ⟨r2.b, 0 + r2.d, none⟩), .pointer (some ⟨r3.b, 0 + r3.d, none⟩)])) :=
    k22.set (by omega) (.func rfl .nil (.cons (.ptr hr2) (.cons (.ptr hr3) .nil)))
  refine Go.wp_mono (hpan K W0 ρ1 w1 { tmps := a1.tmps.setIfInBounds 7 (.func (.func 42) #[] #[.pointer (some ⟨r2.b, 0 + r2.d, none⟩), .pointer (some ⟨r3.b, 0 + r3.d, none⟩)]), defers := { target := .fn (.func 42) #[.pointer (some ⟨r2.b, 0 + r2.d, none⟩), .pointer (some ⟨r3.b, 0 + r3.d, none⟩)], args := #[] } :: a1.defers } (by simpa using hs1) hfr k3) fun e a2 w2 hq2 => ?_
  obtain ⟨rfl, hd2, ρ2, m1, m2, fr5, ⟨u2, u3⟩, m3⟩ := hq2
  have hd3 : a2.defers = { target := .fn (.func 42) #[.pointer (some ⟨r2.b, 0 + r2.d, none⟩), .pointer (some ⟨r3.b, 0 + r3.d, none⟩)], args := #[] } :: [] := by rw [hd2, hd]
  show Leaves Tryz.prog Tryz.f16 a2.tmps (CPost Tryz.prog K W0 ρ (.tup [.nilslice, .int .i64 4]) h4) a2.defers (.panicking chain1) w2
  rw [hd3]
  refine leaves_cons (f := 42) (args := #[.pointer (some ⟨r2.b, 0 + r2.d, none⟩), .pointer (some ⟨r3.b, 0 + r3.d, none⟩)]) (by simp) (invoke42 _ _ _) ?_
  refine parse1_saves _ _ _ _ ?_
  rw [tmps42]
  have hfr42 : FR ρ2 (((mkFrame [.ptr h.next 0, .ptr (h.next + 1) 0] 0 .nil).set 5 (.iface 75 (.agg []))).set 2 (.iface 75 (.agg []))) (((#[Value.pointer (some ⟨r2.b, 0 + r2.d, none⟩), Value.pointer (some ⟨r3.b, 0 + r3.d, none⟩)] ++ Array.replicate 14 undef).setIfInBounds 5 failV).setIfInBounds 2 failV) := by
    exact fr42 ((V.ptr hr2).mono m1) ((V.ptr hr3).mono m1)
  have hT := sz42 (Value.pointer (some ⟨r2.b, 0 + r2.d, none⟩)) (Value.pointer (some ⟨r3.b, 0 + r3.d, none⟩))
  generalize ((#[Value.pointer (some ⟨r2.b, 0 + r2.d, none⟩), Value.pointer (some ⟨r3.b, 0 + r3.d, none⟩)] ++ Array.replicate 14 undef).setIfInBounds 5 failV).setIfInBounds 2 failV = T at hfr42 hT ⊢
  refine Go.wp_mono (exec_sound env2 (call2 N2 N2) (drawnS env2 (call2 N2 N2)) N2 (nt := 16) (seqB b42) k42b (a := { tmps := T, defers := [] }) hT hfr42 m2 (hN2 N2 N2 (Nat.le_refl _) (Nat.le_refl _))) fun e a3 w3 hq3 => ?_
  obtain ⟨ρ3, p1, p2, p3⟩ := hq3.rest
  have he3 : e = .normal := hq3.e
  refine ⟨.inl he3, hq3.defers, ?_⟩
  show Leaves Tryz.prog Tryz.f16 a2.tmps _ [] (settle saved) w3
  rw [settle_saved]
  have a2' : resultA E2 h4 fr5 (.cell 2 22) = some .nilslice := resultA_one agg22 size22 (by rw [evC_t, u2]; rfl) q1
  have a3' : resultA E2 h4 fr5 (.cell 3 23) = some (.int .i64 4) := resultA_one agg23 size23 (by rw [evC_t, u3]; rfl) q2
  have hr : resultsA E2 h4 fr5 Tryz.f16.results.toList = some (.tup [.nilslice, .int .i64 4]) := by
    rw [res16]
    show (ob (ob (resultA E2 h4 fr5 (.cell 2 22)) fun v => ob (ob (resultA E2 h4 fr5 (.cell 3 23)) fun v => some [v]) fun vs => some (v :: vs)) fun vs => match vs with
      | [v] => some v
      | vs => some (.tup vs)) = _
    rw [a2', a3']
  obtain ⟨v', q5, q6⟩ := results_sound env2 (m3.mono p1) p3 hr
  exact ⟨v', q5, v', ρ3, rfl, Ren.le_trans k1 (Ren.le_trans m1 p1), q6, p3⟩
end
end Go.AX
namespace Go.AX
open Go Go.Proofs Go.RowKit Go.WideShapes Go.ChangeShapes
noncomputable section
end
end Go.AX
namespace Go.AX
open Go Go.Proofs
noncomputable section
set_option linter.unusedSimpArgs false
set_option linter.unusedVariables false
attribute [local go_sem] b_seq wp_skip wp_exit wp_ret wp_region b_block wops_nil b_ops b_opsg b_cond condV_lite wo_mv b_bin wo_call callV_func wo_pick b_box wo_load1 wo_loadN wo_store wo_nilCheck wo_not wo_lenStr' wo_lenSl wo_ixStr' wo_ixSl wo_fAddr wo_part1 wo_partN wo_extract wo_cInt wo_cStr wo_mkMap wo_mkIface wo_mkFunc wo_lookup pickV_bool ifT_true ifT_false b_loadV b_loadNV b_storeV nilV_ptr nilV_func nilV_iface notV_bool lenStrV_str lenSlV_nil lenSlV_slice b_ixStrV ixSlV_slice fAddrV_ptr b_part1V partNV_agg b_extractV convV_int strV_str evC_tm evC_cn T.get_set putA_some putA_none onO_some evCs_nil evCs_cons appL_nil appL_cons guardOk_true guardOk_false cellsV_bool cellsV_int cellsV_str cellsV_nilptr cellsV_ptr cellsV_nilslice cellsV_slice cellsV_nilmap cellsV_map cellsV_func cellsV_nilfunc cellsV_iface cellsV_niliface cellsV_agg bin_lss bin_gtr bin_leq bin_geq bin_eql bin_neq bin_add bin_sub bin_eqlS bin_neqS mkFrame_nil mkFrame_cons resA_one resA_two resA_three over_0 over_1 over_2 over_3 over_4 over_5 over0_nil over0_cons Option.getD_some if_true if_false AHeap.next_push AVal.bool.injEq decide_eq_true_eq decide_eq_false_iff_not Bool.not_eq_true' Bool.not_eq_false' Bool.not_eq_true decide_true decide_false Bool.not_true Bool.not_false Int.toNat_natCast Int.natCast_nonneg true_and and_true wo_mapPut wp_drawn' wsts_nil b_pure b_read b_new b_wr wor_none b_org rer_nil rer_load1 rer_loadN wo_append AHeap.next_skip AHeap.next_put' AHeap.mk_push_t AHeap.mk_eta AHeap.mk_skip ldA_skip ldN_skip Nat.add_zero Nat.zero_add b_lite_true b_lite_false eq_self_iff_true not_true_eq_false not_false_eq_true bx_k bx_q bx_x bx_1 undefA_bool putAt_push List.length_cons List.length_nil Nat.le_refl ldA_push_new ldN_push_new List.getElem?_cons_zero List.getElem?_cons_succ List.drop_zero List.drop_succ_cons List.take_succ_cons List.take_zero b_build b_buildSlice evParts_nil evParts_cons b_fillA_nil b_fillA nbeq nble natadd natmul lenL_eq repL_1 repL_2 repL_3 wo_sliceData sdV_nil sdV_slice wo_unsafeStr usV_nil wo_slStr slStrV_str evCo_none evCo_some boundA_none Bool.and_true Bool.true_and wo_minmax2' mm2V_int
end
end Go.AX
namespace Go.AX
open Go Go.Proofs
def c44_l0 : CCode :=
 (.seq
  (.seq
   (.region [⟨some 9, none, .mv (.t 6)⟩, ⟨some 10, none, .mv (.t 0)⟩, ⟨some 11, none, .len .str (.t 10)⟩, ⟨some 12, none, .bin .leq .none (.t 9) (.t 11)⟩])
   (.cond (.t 12)
    .skip
    (.exit 0)))
  (.seq
   (.block 1
    (.seq
     (.seq
      (.region [⟨some 15, none, .mv (.t 6)⟩, ⟨some 16, none, .mv (.t 0)⟩, ⟨some 17, none, .len .str (.t 16)⟩, ⟨some 18, none, .bin .lss .none (.t 15) (.t 17)⟩, ⟨some 19, none, .mv (.t 18)⟩, ⟨some 20, some (19, true), .mv (.t 0)⟩, ⟨some 21, some (19, true), .mv (.t 6)⟩, ⟨some 22, some (19, true), .ixStr (.t 20) (.t 21)⟩, ⟨some 23, some (19, true), .bin .neq .none (.t 22) (.c (.int .u8 124))⟩, ⟨some 24, none, .pick (.t 19) (.t 23) (.c (.bool false))⟩])
      (.cond (.t 24)
       (.exit 1)
       .skip))
     (.seq
      (.region [⟨some 26, none, .mv (.t 0)⟩, ⟨some 27, none, .mv (.t 5)⟩, ⟨some 28, none, .mv (.t 6)⟩, ⟨some 29, none, .slStr (.t 26) (some (.t 27)) (some (.t 28))⟩, ⟨some 30, none, .call (.c (.func 59 [] [])) [(.t 29)]⟩, ⟨some 25, none, .mv (.t 30)⟩, ⟨some 31, none, .extract 0 (.t 25)⟩, ⟨some 32, none, .extract 1 (.t 25)⟩, ⟨some 7, none, .box 57 (.c (.agg [(.str []), (.int .i64 0)]))⟩, ⟨none, none, .store 2 (.t 7) (.t 31)⟩, ⟨some 8, none, .mv (.t 32)⟩])
      (.seq
       (.seq
        (.region [⟨some 33, none, .mv (.t 8)⟩, ⟨some 34, none, .not (.t 33)⟩])
        (.cond (.t 34)
         (.seq
          (.region [⟨some 35, none, .build [.nilslice] []⟩, ⟨none, none, .store 1 (.t 2) (.t 35)⟩, ⟨some 3, none, .mv (.c (.bool false))⟩])
          .ret)
         .skip))
       (.seq
        (.region [⟨some 36, none, .fAddr 0 (.t 4)⟩, ⟨some 37, none, .load1 (.t 36)⟩, ⟨some 38, none, .loadN 2 (.t 7)⟩, ⟨some 39, none, .buildSlice 57 1 [(.str []), (.int .i64 0)] [(0, 2, (.t 38))]⟩, ⟨some 40, none, .append 57 2 (.t 37) (.t 39)⟩, ⟨some 41, none, .fAddr 0 (.t 4)⟩, ⟨none, none, .store 1 (.t 41) (.t 40)⟩])
        (.region [⟨some 42, none, .mv (.t 6)⟩, ⟨some 43, none, .bin .add .none (.t 42) (.c (.int .i64 1))⟩, ⟨some 5, none, .mv (.t 43)⟩]))))))
   (.region [⟨some 13, none, .mv (.t 6)⟩, ⟨some 14, none, .bin .add .none (.t 13) (.c (.int .i64 1))⟩, ⟨some 6, none, .mv (.t 14)⟩])))
def c44 : CCode :=
 (.seq
  (.region [⟨some 2, none, .box 55 (.c (.agg [.nilslice]))⟩, ⟨some 3, none, .mv (.c (.bool false))⟩])
  (.seq
   (.region [⟨some 4, none, .box 55 (.c (.agg [.nilslice]))⟩])
   (.seq
    (.region [⟨some 5, none, .mv (.c (.int .i64 0))⟩])
    (.seq
     (.seq
      (.region [⟨some 6, none, .mv (.c (.int .i64 0))⟩])
      (.block 0
       (.loop c44_l0)))
     (.seq
      (.region [⟨some 44, none, .loadN 1 (.t 4)⟩, ⟨none, none, .store 1 (.t 2) (.t 44)⟩, ⟨some 3, none, .mv (.c (.bool true))⟩])
      .ret)))))
theorem code44 : E2.code 44 = some (c44, [.cell 2 55, .tmp 3]) := by kernel_rfl
def c59_l0 : CCode :=
 (.seq
  (.seq
   (.region [⟨some 6, none, .mv (.t 4)⟩, ⟨some 7, none, .mv (.t 0)⟩, ⟨some 8, none, .len .str (.t 7)⟩, ⟨some 9, none, .bin .lss .none (.t 6) (.t 8)⟩])
   (.cond (.t 9)
    .skip
    (.exit 0)))
  (.seq
   (.block 1
    (.seq
     (.region [⟨some 12, none, .mv (.t 0)⟩, ⟨some 13, none, .mv (.t 4)⟩, ⟨some 14, none, .ixStr (.t 12) (.t 13)⟩, ⟨some 15, none, .bin .eql .none (.t 14) (.c (.int .u8 58))⟩])
     (.cond (.t 15)
      (.seq
       (.region [⟨some 16, none, .mv (.t 0)⟩, ⟨some 17, none, .mv (.t 4)⟩, ⟨some 18, none, .bin .add .none (.t 17) (.c (.int .i64 1))⟩, ⟨some 19, none, .slStr (.t 16) (some (.t 18)) none⟩, ⟨some 20, none, .call (.c (.func 74 [] [])) [(.t 19)]⟩, ⟨some 5, none, .mv (.t 20)⟩])
       (.seq
        (.region [⟨some 21, none, .mv (.t 0)⟩, ⟨some 22, none, .mv (.t 4)⟩, ⟨some 23, none, .slStr (.t 21) none (some (.t 22))⟩, ⟨some 24, none, .mv (.t 5)⟩, ⟨some 25, none, .build [(.str []), (.int .i64 0)] [(0, 1, (.t 23)), (1, 1, (.t 24))]⟩, ⟨some 26, none, .mv (.t 5)⟩, ⟨some 27, none, .bin .geq .none (.t 26) (.c (.int .i64 1))⟩, ⟨none, none, .store 2 (.t 2) (.t 25)⟩, ⟨some 3, none, .mv (.t 27)⟩])
        .ret))
      .skip)))
   (.region [⟨some 10, none, .mv (.t 4)⟩, ⟨some 11, none, .bin .add .none (.t 10) (.c (.int .i64 1))⟩, ⟨some 4, none, .mv (.t 11)⟩])))
def c59 : CCode :=
 (.seq
  (.region [⟨some 2, none, .box 57 (.c (.agg [(.str []), (.int .i64 0)]))⟩, ⟨some 3, none, .mv (.c (.bool false))⟩])
  (.seq
   (.seq
    (.region [⟨some 4, none, .mv (.c (.int .i64 0))⟩])
    (.block 0
     (.loop c59_l0)))
   (.seq
    (.region [⟨some 28, none, .mv (.t 0)⟩, ⟨some 29, none, .build [(.str []), (.int .i64 0)] [(0, 1, (.t 28))]⟩, ⟨none, none, .store 2 (.t 2) (.t 29)⟩, ⟨some 3, none, .mv (.c (.bool true))⟩])
    .ret)))
theorem code59 : E2.code 59 = some (c59, [.cell 2 57, .tmp 3]) := by kernel_rfl
def c74_l0 : CCode :=
 (.seq
  (.seq
   (.region [⟨some 18, none, .mv (.t 4)⟩, ⟨some 19, none, .mv (.t 0)⟩, ⟨some 20, none, .len .str (.t 19)⟩, ⟨some 21, none, .bin .lss .none (.t 18) (.t 20)⟩])
   (.cond (.t 21)
    .skip
    (.exit 0)))
  (.seq
   (.block 1
    (.seq
     (.seq
      (.region [⟨some 24, none, .mv (.t 0)⟩, ⟨some 25, none, .mv (.t 4)⟩, ⟨some 26, none, .ixStr (.t 24) (.t 25)⟩, ⟨some 27, none, .bin .lss .none (.t 26) (.c (.int .u8 48))⟩, ⟨some 28, none, .mv (.t 27)⟩, ⟨some 29, some (28, false), .mv (.t 0)⟩, ⟨some 30, some (28, false), .mv (.t 4)⟩, ⟨some 31, some (28, false), .ixStr (.t 29) (.t 30)⟩, ⟨some 32, some (28, false), .bin .gtr .none (.t 31) (.c (.int .u8 57))⟩, ⟨some 33, none, .pick (.t 28) (.c (.bool true)) (.t 32)⟩])
      (.cond (.t 33)
       (.seq
        (.region [⟨some 2, none, .mv (.c (.int .i64 (-1)))⟩])
        .ret)
       .skip))
     (.region [⟨some 34, none, .mv (.t 3)⟩, ⟨some 35, none, .bin .mul .none (.t 34) (.c (.int .i64 10))⟩, ⟨some 36, none, .mv (.t 0)⟩, ⟨some 37, none, .mv (.t 4)⟩, ⟨some 38, none, .ixStr (.t 36) (.t 37)⟩, ⟨some 39, none, .bin .sub .none (.t 38) (.c (.int .u8 48))⟩, ⟨some 40, none, .cInt .i64 (.t 39)⟩, ⟨some 41, none, .bin .add .none (.t 35) (.t 40)⟩, ⟨some 3, none, .mv (.t 41)⟩])))
   (.region [⟨some 22, none, .mv (.t 4)⟩, ⟨some 23, none, .bin .add .none (.t 22) (.c (.int .i64 1))⟩, ⟨some 4, none, .mv (.t 23)⟩])))
def c74 : CCode :=
 (.seq
  (.region [⟨some 2, none, .mv (.c (.int .i64 0))⟩])
  (.seq
   (.seq
    (.region [⟨some 5, none, .mv (.t 0)⟩, ⟨some 6, none, .len .str (.t 5)⟩, ⟨some 7, none, .bin .lss .none (.t 6) (.c (.int .i64 1))⟩, ⟨some 8, none, .mv (.t 7)⟩, ⟨some 9, some (8, false), .mv (.t 0)⟩, ⟨some 10, some (8, false), .len .str (.t 9)⟩, ⟨some 11, some (8, false), .bin .gtr .none (.t 10) (.c (.int .i64 4))⟩, ⟨some 12, none, .pick (.t 8) (.c (.bool true)) (.t 11)⟩, ⟨some 13, none, .mv (.t 12)⟩, ⟨some 14, some (13, false), .mv (.t 0)⟩, ⟨some 15, some (13, false), .ixStr (.t 14) (.c (.int .i64 0))⟩, ⟨some 16, some (13, false), .bin .eql .none (.t 15) (.c (.int .u8 48))⟩, ⟨some 17, none, .pick (.t 13) (.c (.bool true)) (.t 16)⟩])
    (.cond (.t 17)
     (.seq
      (.region [⟨some 2, none, .mv (.c (.int .i64 (-1)))⟩])
      .ret)
     .skip))
   (.seq
    (.region [⟨some 3, none, .mv (.c (.int .i64 0))⟩])
    (.seq
     (.seq
      (.region [⟨some 4, none, .mv (.c (.int .i64 0))⟩])
      (.block 0
       (.loop c74_l0)))
     (.seq
      (.region [⟨some 42, none, .mv (.t 3)⟩, ⟨some 2, none, .mv (.t 42)⟩])
      .ret)))))
theorem code74 : E2.code 74 = some (c74, [.tmp 2]) := by kernel_rfl
end Go.AX

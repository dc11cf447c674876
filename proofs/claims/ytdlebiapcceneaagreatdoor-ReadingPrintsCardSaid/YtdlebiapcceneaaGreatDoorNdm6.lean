/-
  Contracts of functions of this seat, for every input that each theorem names.
-/
import Derived.Test.YtdlebiapcceneaaGreatDoorNdm5
import Derived.Test.YtdlebiapcceneaaGreatDoorNdm4
import Derived.Test.YtdlebiapcceneaaGreatDoorNdb1
import Derived.Test.YtdlebiapcceneaaGreatDoorNdm1
set_option linter.unusedVariables false
set_option linter.unusedSimpArgs false
set_option linter.unusedSectionVars false
namespace Go.AX
open Go Go.Proofs
noncomputable section
set_option linter.unusedSimpArgs false
set_option linter.unusedVariables false
attribute [local go_sem] b_seq wp_skip wp_exit wp_ret wp_region b_block wops_nil b_ops b_opsg b_cond condV_lite wo_mv b_bin wo_call callV_func wo_pick b_box wo_load1 wo_loadN wo_store wo_nilCheck wo_not wo_lenStr' wo_lenSl wo_ixStr' wo_ixSl wo_fAddr wo_part1 wo_partN wo_extract wo_cInt wo_cStr wo_mkMap wo_mkIface wo_mkFunc wo_lookup pickV_bool ifT_true ifT_false b_loadV b_loadNV b_storeV nilV_ptr nilV_func nilV_iface notV_bool lenStrV_str lenSlV_nil lenSlV_slice b_ixStrV ixSlV_slice fAddrV_ptr b_part1V partNV_agg b_extractV convV_int strV_str evC_tm evC_cn T.get_set putA_some putA_none onO_some evCs_nil evCs_cons appL_nil appL_cons guardOk_true guardOk_false cellsV_bool cellsV_int cellsV_str cellsV_nilptr cellsV_ptr cellsV_nilslice cellsV_slice cellsV_nilmap cellsV_map cellsV_func cellsV_nilfunc cellsV_iface cellsV_niliface cellsV_agg bin_lss bin_gtr bin_leq bin_geq bin_eql bin_neq bin_add bin_sub bin_eqlS bin_neqS mkFrame_nil mkFrame_cons resA_one resA_two resA_three over_0 over_1 over_2 over_3 over_4 over_5 over0_nil over0_cons Option.getD_some if_true if_false AHeap.next_push AVal.bool.injEq decide_eq_true_eq decide_eq_false_iff_not Bool.not_eq_true' Bool.not_eq_false' Bool.not_eq_true decide_true decide_false Bool.not_true Bool.not_false Int.toNat_natCast Int.natCast_nonneg true_and and_true wo_mapPut wp_drawn' wsts_nil b_pure b_read b_new b_wr wor_none b_org rer_nil rer_load1 rer_loadN wo_append AHeap.next_skip AHeap.next_put' AHeap.mk_push_t AHeap.mk_eta AHeap.mk_skip ldA_skip ldN_skip Nat.add_zero Nat.zero_add b_lite_true b_lite_false eq_self_iff_true not_true_eq_false not_false_eq_true bx_k bx_q bx_x bx_1 undefA_bool putAt_push List.length_cons List.length_nil Nat.le_refl ldA_push_new ldN_push_new List.getElem?_cons_zero List.getElem?_cons_succ List.drop_zero List.drop_succ_cons List.take_succ_cons List.take_zero b_build b_buildSlice evParts_nil evParts_cons b_fillA_nil b_fillA nbeq nble natadd natmul lenL_eq repL_1 repL_2 repL_3 wo_sliceData sdV_nil sdV_slice wo_unsafeStr usV_nil wo_slStr slStrV_str evCo_none evCo_some boundA_none Bool.and_true Bool.true_and wo_minmax2' mm2V_int
theorem code16a : cCode E2 39 ((E2.plans.get 16).getD []) (seqA c16) = some c16a := by kernel_rfl
theorem code16b : cCode E2 39 ((E2.plans.get 16).getD []) (seqB (seqB c16)) = some c16b := by kernel_rfl
theorem res16 : Tryz.f16.results.toList = [.cell 2 22, .cell 3 23] := by kernel_rfl
def EvP (args : List AVal) (h : AHeap) (p : AVal × AHeap) : Prop := ∃ N, ∀ m n, N ≤ m → N ≤ n → parseR E2 (callN E2 m n) m args h = some p
theorem parse_ev (s : List Nat) (h : AHeap) (r : Option (List (List Alt))) (hs : s.length ≤ 2000000) (hr : pCells (s.length + 1) s 0 [] = some r) :
    ∃ v h', EvP [.str s] h (.tup [v, .int .i64 (parseE r s)], h') ∧ CellsA h' v (parseL r s) ∧ Hle h h' := by
  have w1 : wp E2 c16a (mkFrame [.str s] 0 .nil) h (bx (fun fr h1 => fr.get 0 = some (.str s) ∧ fr.get 2 = some (.ptr h.next 0) ∧ fr.get 3 = some (.ptr (h.next + 1) 0) ∧ Hle h h1 ∧ h1.next = h.next + 2 ∧ h1.get h.next = some (.cells [.nilslice] 22) ∧ h1.get (h.next + 1) = some (.cells [.int .i64 0] 23)) .mk) (fun _ _ _ => False) (fun _ _ => False) := by
    unfold c16a
    simp only [go_sem, Nat.reduceEqDiff, Int.reduceLT, Int.reduceLE, Int.reduceEq, Nat.reduceLT, Nat.reduceAdd, Nat.reduceMul, Int.reduceToNat, Nat.reduceLeDiff, reduceCtorEq]
    refine ⟨((Hle.refl h).push _).push _, ?_, AHeap.get_push_same _ _⟩
    rw [AHeap.get_push_ne _ _ (by simp [AHeap.next_push])]
    exact AHeap.get_push_same _ _
  obtain ⟨⟨e1, fr1, h1⟩, ⟨N1, hN1⟩, hq1⟩ := wp_W w1
  cases e1 with
  | exit id => exact hq1.elim
  | ret => exact hq1.elim
  | normal =>
  obtain ⟨t0, t2, t3, hle, hn, g2, g3⟩ := hq1
  have w2 := parse_wp s h h1 (fr1.set 7 (.func 42 [] [.ptr h.next 0, .ptr (h.next + 1) 0])) r hs hr hle hn g2 g3 (by simp [T.get_set, t0]) (by simp [T.get_set, t2]) (by simp [T.get_set, t3])
  obtain ⟨⟨e2, fr2, h2⟩, ⟨N2, hN2⟩, hq2⟩ := wp_W w2
  have hE : ∀ m n, N1 + N2 ≤ m → N1 + N2 ≤ n → parseR E2 (callN E2 m n) m [.str s] h = doRet E2 [.cell 2 22, .cell 3 23] ⟨e2, fr2, h2⟩ := by
    intro m n hm hn
    unfold parseR
    rw [code16a, code16b]
    show (ob (exec E2 (callN E2 m n) m c16a (mkFrame [.str s] 0 .nil) h) fun o0 => @AExit.rec (fun _ => R)
      (onPtr (evC (.t 2) o0.fr) fun b2 i2 => onPtr (evC (.t 3) o0.fr) fun b3 i3 =>
        ob (exec E2 (callN E2 m n) m c16b (o0.fr.set 7 (.func 42 [] [.ptr b2 i2, .ptr b3 i3])) o0.h) fun o2 => doRet E2 Tryz.f16.results.toList o2)
      (fun _ => none) none o0.e) = _
    rw [hN1 m n (by omega) (by omega), res16]
    show (onPtr (evC (.t 2) fr1) fun b2 i2 => onPtr (evC (.t 3) fr1) fun b3 i3 =>
        ob (exec E2 (callN E2 m n) m c16b (fr1.set 7 (.func 42 [] [.ptr b2 i2, .ptr b3 i3])) h1) fun o2 => doRet E2 [.cell 2 22, .cell 3 23] o2) = _
    have x2 : evC (.t 2) fr1 = .ptr h.next 0 := by rw [evC_t, t2]; rfl
    have x3 : evC (.t 3) fr1 = .ptr (h.next + 1) 0 := by rw [evC_t, t3]; rfl
    rw [x2, x3]
    show (ob (exec E2 (callN E2 m n) m c16b (fr1.set 7 (.func 42 [] [.ptr h.next 0, .ptr (h.next + 1) 0])) h1) fun o2 => doRet E2 [.cell 2 22, .cell 3 23] o2) = _
    rw [hN2 m n (by omega) (by omega)]
  have hres : ResP h (parseL r s) (parseE r s) fr2 h2 → ∃ v h', EvP [.str s] h (.tup [v, .int .i64 (parseE r s)], h') ∧ CellsA h' v (parseL r s) ∧ Hle h h' := by
    rintro ⟨v, t2, t3, l2, l3, hc, hle⟩
    have hd : e2 = .normal ∨ e2 = .ret → doRet E2 [.cell 2 22, .cell 3 23] ⟨e2, fr2, h2⟩ = some (.tup [v, .int .i64 (parseE r s)], h2) := by
      have a2 : resultA E2 h2 fr2 (.cell 2 22) = some v := resultA_one agg22 size22 (by rw [evC_t, t2]; rfl) l2
      have a3 : resultA E2 h2 fr2 (.cell 3 23) = some (.int .i64 (parseE r s)) := resultA_one agg23 size23 (by rw [evC_t, t3]; rfl) l3
      have hr : resultsA E2 h2 fr2 [.cell 2 22, .cell 3 23] = some (.tup [v, .int .i64 (parseE r s)]) := by
        show (ob (ob (resultA E2 h2 fr2 (.cell 2 22)) fun v => ob (ob (resultA E2 h2 fr2 (.cell 3 23)) fun v => some [v]) fun vs => some (v :: vs)) fun vs => match vs with
          | [v] => some v
          | vs => some (.tup vs)) = _
        rw [a2, a3]
      rintro (rfl | rfl)
      · show (ob (resultsA E2 h2 fr2 [.cell 2 22, .cell 3 23]) fun v => some (v, h2)) = _
        rw [hr]
      · show (ob (resultsA E2 h2 fr2 [.cell 2 22, .cell 3 23]) fun v => some (v, h2)) = _
        rw [hr]
    refine ⟨v, h2, ⟨N1 + N2, fun m n hm hn => ?_⟩, hc, hle⟩
    rw [hE m n hm hn, hd]
    cases e2 with
    | exit id => exact hq2.elim
    | ret => exact .inr rfl
    | normal => exact .inl rfl
  cases e2 with
  | exit id => exact hq2.elim
  | ret => exact hres hq2
  | normal => exact hres hq2
theorem EvP.inj {args : List AVal} {h : AHeap} {p q : AVal × AHeap} (hp : EvP args h p) (hq : EvP args h q) : p = q := by
  obtain ⟨N, hN⟩ := hp
  obtain ⟨M, hM⟩ := hq
  exact Option.some.inj ((hN (N + M) (N + M) (by omega) (by omega)).symm.trans (hM (N + M) (N + M) (by omega) (by omega)))
theorem Ev.inj {E : Env} {f : FuncId} {args : List AVal} {h : AHeap} {v w : AVal} {h1 h2 : AHeap} (hp : Ev E f args h v h1) (hq : Ev E f args h w h2) : v = w ∧ h1 = h2 := by
  obtain ⟨N, hN⟩ := hp
  obtain ⟨M, hM⟩ := hq
  have := Option.some.inj ((hN (N + M) (N + M) (by omega) (by omega)).symm.trans (hM (N + M) (N + M) (by omega) (by omega)))
  exact ⟨congrArg Prod.fst this, congrArg Prod.snd this⟩
def ecP (f : FuncId) (args : List AVal) (h : AHeap) : R := open Classical in if H : ∃ p : AVal × AHeap, Ev E2 f args h p.1 p.2 then some H.choose else none
def parseP (args : List AVal) (h : AHeap) : R := open Classical in if H : ∃ p : AVal × AHeap, EvP args h p then some H.choose else none
theorem ecP_ok (f : FuncId) : PrimOK f (.fn (ecP f)) := by
  intro args h v h' hp
  have hp' : ecP f args h = some (v, h') := hp
  unfold ecP at hp'
  split at hp'
  · rename_i H
    have hv := H.choose_spec
    rw [Option.some.inj hp'] at hv
    obtain ⟨N, hN⟩ := hv
    exact call2 N N f args h v h' (hN N N (Nat.le_refl _) (Nat.le_refl _))
  · cases hp'
theorem parse_ok : PrimOK 16 (.fn parseP) := by
  intro args h v h' hp
  have hp' : parseP args h = some (v, h') := hp
  unfold parseP at hp'
  split at hp'
  · rename_i H
    have hv := H.choose_spec
    rw [Option.some.inj hp'] at hv
    obtain ⟨N, hN⟩ := hv
    exact parse_sound env2 (call2 N N) N (hN N N (Nat.le_refl _) (Nat.le_refl _))
  · cases hp'
def prL3 : List (Nat × Prim) := [(11, .fn (ecP 11)), (12, .fn (ecP 12)), (13, .fn (ecP 13)), (14, .fn (ecP 14)), (16, .fn parseP), (17, .fn (ecP 17)), (18, .fn (ecP 18))]
def E3 : Env := ⟨prL3.foldl (fun t p => t.set p.1 p.2) .nil, tiT, fnT, eqT, plT⟩
theorem env3 : EnvOK E3 Tryz.prog := envOK rfl rfl rfl
theorem primS3 : PrimS E3 Tryz.prog := by
  refine primS_of (L := prL3) rfl fun f p hfp => ?_
  simp only [prL3, List.mem_cons, List.not_mem_nil, or_false, Prod.mk.injEq] at hfp
  rcases hfp with ⟨rfl, rfl⟩ | ⟨rfl, rfl⟩ | ⟨rfl, rfl⟩ | ⟨rfl, rfl⟩ | ⟨rfl, rfl⟩ | ⟨rfl, rfl⟩ | ⟨rfl, rfl⟩
  · exact ecP_ok 11
  · exact ecP_ok 12
  · exact ecP_ok 13
  · exact ecP_ok 14
  · exact parse_ok
  · exact ecP_ok 17
  · exact ecP_ok 18
theorem call3 (lf n : Nat) : CallS Tryz.prog (callN E3 lf n) := callN_sound' env3 (names_of rfl) primS3 lf n
theorem ec3 {f : FuncId} {args : List AVal} {h : AHeap} {Q : AVal → AHeap → Prop} (hf : E3.prim.get f = some (.fn (ecP f))) (hc : Ec E2 f args h Q) : Ec E3 f args h Q := by
  obtain ⟨v, h', hv, hq⟩ := hc
  refine Ec.of_prim (p := .fn (ecP f)) (v := v) (h' := h') hf ?_ hq
  show ecP f args h = _
  unfold ecP
  have H : ∃ p : AVal × AHeap, Ev E2 f args h p.1 p.2 := ⟨(v, h'), hv⟩
  rw [dif_pos H]
  obtain ⟨e1, e2⟩ := Ev.inj H.choose_spec hv
  congr 1
  exact Prod.ext e1 e2
theorem p3_11 : E3.prim.get 11 = some (.fn (ecP 11)) := by kernel_rfl
theorem p3_13 : E3.prim.get 13 = some (.fn (ecP 13)) := by kernel_rfl
theorem p3_14 : E3.prim.get 14 = some (.fn (ecP 14)) := by kernel_rfl
theorem p3_16 : E3.prim.get 16 = some (.fn parseP) := by kernel_rfl
theorem p3_18 : E3.prim.get 18 = some (.fn (ecP 18)) := by kernel_rfl
theorem parse_c (s : List Nat) (h : AHeap) (r : Option (List (List Alt))) (hs : s.length ≤ 2000000) (hr : pCells (s.length + 1) s 0 [] = some r) :
    Ec E3 16 [.str s] h fun u h' => ∃ v, u = .tup [v, .int .i64 (parseE r s)] ∧ CellsA h' v (parseL r s) ∧ Hle h h' := by
  obtain ⟨v, h', hv, hc, hle⟩ := parse_ev s h r hs hr
  refine Ec.of_prim (p := .fn parseP) (v := .tup [v, .int .i64 (parseE r s)]) (h' := h') p3_16 ?_ ⟨v, rfl, hc, hle⟩
  show parseP [.str s] h = _
  unfold parseP
  have H : ∃ p : AVal × AHeap, EvP [.str s] h p := ⟨_, hv⟩
  rw [dif_pos H]
  congr 1
  exact EvP.inj H.choose_spec hv
end
end Go.AX
namespace Go.AX
open Go Go.Proofs
noncomputable section
def chkN (n : Nat) : Bool := (itoaL ((n : Int) + 1)).all isDig && (match Lib.atoiAll ((itoaL ((n : Int) + 1)).map Nat.toUInt8) with | .ok v => decide (v = (n : Int) + 1) | _ => false)
theorem chkN_all : (List.range 1000).all chkN = true := by kernel_rfl
theorem numD_itoa {n : Int} (h1 : 1 ≤ n) (h2 : n ≤ 1000) : (∀ x, x ∈ itoaL n → isDig x = true) ∧ numD (itoaL n) = some n := by
  obtain ⟨k, rfl⟩ : ∃ k : Nat, n = (k : Int) + 1 := ⟨(n - 1).toNat, by omega⟩
  have hk := List.all_eq_true.1 chkN_all k (List.mem_range.2 (by omega))
  unfold chkN at hk
  rw [Bool.and_eq_true] at hk
  refine ⟨List.all_eq_true.1 hk.1, ?_⟩
  have h3 := hk.2
  unfold numD
  split at h3
  · rename_i v hv
    have hv2 : v = (k : Int) + 1 := by simpa using h3
    subst hv2
    rw [hv]
    simp only
    rw [if_pos ⟨h1, h2, trivial⟩]
  · cases h3
theorem runL_app {test : Nat → Bool} {s l rest : List Nat} {i : Nat} (hd : s.drop i = l ++ rest) (hl : ∀ x, x ∈ l → test x = true) (hr : ∀ x, rest.head? = some x → test x = false) : runL test s i = l := by
  unfold runL
  rw [hd, List.takeWhile_append_of_pos hl]
  cases rest with
  | nil => simp
  | cons x r => rw [List.takeWhile_cons_of_neg (by rw [hr x rfl]; simp)]; simp
theorem drop_at {s l rest : List Nat} {i : Nat} (hd : s.drop i = l ++ rest) : s.drop (i + l.length) = rest := by
  rw [← List.drop_drop, hd]; simp
theorem drop_head {s rest : List Nat} {i x : Nat} (hd : s.drop i = x :: rest) : s[i]? = some x := by
  have : (s.drop i)[0]? = some x := by rw [hd]; rfl
  simpa using this
theorem pAlt_print {s rest : List Nat} {i x : Nat} {a : Alt} (ha : altOk a) (hx : x = 124 ∨ x = 41) (hd : s.drop i = altT a ++ x :: rest) : pAlt s i = some (a, i + (altT a).length) := by
  obtain ⟨l, n⟩ := a
  have hll : ∀ x, x ∈ l → isL x = true := by
    have := ha.2.1
    unfold lettered at this
    exact List.all_eq_true.1 this
  have h3 : 0 ≤ n := ha.2.2.1
  have h4 : n ≤ 1000 := ha.2.2.2
  unfold pAlt
  by_cases hn : n = 0
  · subst hn
    have e : altT (l, 0) = l := if_pos rfl
    rw [e] at hd ⊢
    have hr : runL isL s i = l := runL_app hd hll (fun y hy => by cases hy; rcases hx with rfl | rfl <;> rfl)
    have h0 := drop_head (drop_at hd)
    rw [hr, h0, if_neg (by rcases hx with rfl | rfl <;> simp)]
  · have e : altT (l, n) = l ++ 58 :: itoaL n := if_neg hn
    rw [e] at hd ⊢
    have hd2 : s.drop i = l ++ (58 :: (itoaL n ++ x :: rest)) := by rw [hd]; simp
    have hr : runL isL s i = l := runL_app hd2 hll (fun y hy => by cases hy; rfl)
    have hd3 := drop_at hd2
    have h0 := drop_head hd3
    have hd4 : s.drop (i + l.length + 1) = itoaL n ++ x :: rest := by rw [← List.drop_drop, hd3]; rfl
    obtain ⟨hdg, hnum⟩ := numD_itoa (n := n) (by omega) h4
    have hr2 : runL isDig s (i + l.length + 1) = itoaL n := runL_app hd4 hdg (fun y hy => by cases hy; rcases hx with rfl | rfl <;> rfl)
    rw [hr, h0, if_pos (by simp), hr2, hnum]
    simp only [Option.map_some, List.length_append, List.length_cons, Option.some.injEq, Prod.mk.injEq, true_and]
    omega
theorem pAlts_print : ∀ (l : List Alt) (a : Alt) {s rest : List Nat} {i x n : Nat} {acc : List Alt}, (∀ y, y ∈ a :: l → altOk y) → l.length + 1 ≤ n → s.drop i = x :: (altT a ++ (l.flatMap fun b => 124 :: altT b) ++ 41 :: rest) →
    pAlts n s i acc = some (acc ++ a :: l, i + 1 + (altT a ++ (l.flatMap fun b => 124 :: altT b)).length + 1)
  | [], a, s, rest, i, x, n + 1, acc, ho, hn, hd => by
    have hd1 : s.drop (i + 1) = altT a ++ 41 :: rest := by rw [← List.drop_drop, hd]; simp
    have h1 := pAlt_print (ho a (by simp)) (.inr rfl) hd1
    have h2 := drop_head (drop_at hd1)
    unfold pAlts
    rw [h1]
    simp only
    rw [h2, if_neg (by simp), if_pos (by simp)]
    simp
  | b :: l, a, s, rest, i, x, n + 1, acc, ho, hn, hd => by
    have hd1 : s.drop (i + 1) = altT a ++ 124 :: (altT b ++ (l.flatMap fun b => 124 :: altT b) ++ 41 :: rest) := by rw [← List.drop_drop, hd]; simp
    have h1 := pAlt_print (ho a (by simp)) (.inl rfl) hd1
    have hd2 := drop_at hd1
    have h2 := drop_head hd2
    have ih := pAlts_print l b (n := n) (acc := acc ++ [a]) (fun y hy => ho y (List.mem_cons_of_mem _ hy)) (by simp at hn; omega) hd2
    unfold pAlts
    rw [h1]
    simp only
    rw [h2, if_pos (by simp), ih]
    refine congrArg some (Prod.ext (by simp) ?_)
    show _ + 1 = _ + 1
    rw [List.flatMap_cons]
    simp only [List.length_append, List.length_cons]
    omega
theorem flat_len (l : List Alt) : l.length ≤ (l.flatMap fun b => 124 :: altT b).length := by
  induction l with
  | nil => simp
  | cons a l ih => rw [List.flatMap_cons]; simp only [List.length_append, List.length_cons]; omega
theorem pCell_print {s rest : List Nat} {i : Nat} {c : List Alt} (hv : validP c) (hd : s.drop i = printC c ++ rest) : pCell s i = some (c, i + (printC c).length) := by
  unfold pCell
  by_cases ho : isOne c = true
  · obtain ⟨⟨l, n⟩, rfl, hl, hn⟩ := isOne_inv ho
    have hn : n = 0 := hn
    subst hn
    have hl : l.length = 1 := hl
    obtain ⟨x, rfl⟩ : ∃ x, l = [x] := by
      match l, hl with
      | [x], _ => exact ⟨x, rfl⟩
    have e : printC [([x], 0)] = [x] := by unfold printC; rw [if_pos ho]; rfl
    rw [e] at hd ⊢
    have h0 := drop_head hd
    have hx : isL x = true := by
      have := (hv.2.2.1 ([x], 0) (by simp)).2.1
      unfold lettered at this
      simpa using this
    rw [h0]
    simp [hx]
  · have e : printC c = 40 :: (joinA c ++ [41]) := by unfold printC; rw [if_neg ho]
    rw [e] at hd ⊢
    have h0 := drop_head (rest := joinA c ++ [41] ++ rest) hd
    match c, hv with
    | [], hv => have := hv.1; simp at this
    | a :: l, hv =>
    rw [h0, if_neg (by simp; rfl), if_pos (by simp)]
    have hd2 : s.drop i = 40 :: (altT a ++ (l.flatMap fun b => 124 :: altT b) ++ 41 :: rest) := by rw [hd]; simp [joinA]
    have hlen := congrArg List.length hd2
    have hfl := flat_len l
    rw [List.length_drop] at hlen
    simp only [List.length_cons, List.length_append] at hlen
    rw [pAlts_print l a hv.2.2.1 (by omega) hd2]
    refine congrArg some (Prod.ext (by simp) ?_)
    show _ + 1 = _
    simp only [joinA, List.length_append, List.length_cons, List.length_nil]
    omega
theorem printC_ne (c : List Alt) (hv : validP c) : 1 ≤ (printC c).length := by
  unfold printC
  split
  · rename_i ho
    obtain ⟨⟨l, n⟩, rfl, hl, hn⟩ := isOne_inv ho
    have hl : l.length = 1 := hl
    simp [hl]
  · simp
theorem printS_ne {cells : List (List Alt)} (hv : allV cells) : cells.length ≤ (printS cells).length := by
  induction cells with
  | nil => simp
  | cons c l ih =>
    have h1 := printC_ne c (hv c (by simp))
    have h2 := ih fun y hy => hv y (by simp [hy])
    unfold printS at h2 ⊢
    rw [List.flatMap_cons, List.length_append, List.length_cons]
    omega
theorem pCells_print : ∀ (cs : List (List Alt)) {s : List Nat} {i n : Nat} {acc : List (List Alt)}, allV cs → acc.length + cs.length ≤ 32 → cs.length + 1 ≤ n → s.drop i = printS cs → pCells n s i acc = some (some (acc ++ cs))
  | [], s, i, n + 1, acc, hv, hl, hn, hd => by
    have h0 : s.length ≤ i := by
      have : s.drop i = [] := hd
      exact List.drop_eq_nil_iff.1 this
    unfold pCells
    rw [if_neg (by omega)]; simp
  | c :: cs, s, i, n + 1, acc, hv, hl, hn, hd => by
    have hd' : s.drop i = printC c ++ printS cs := hd
    have h1 := printC_ne c (hv c (by simp))
    have hi : i < s.length := by
      have := congrArg List.length hd'
      simp at this
      omega
    have hc := pCell_print (hv c (by simp)) hd'
    have ih := pCells_print cs (n := n) (acc := acc ++ [c]) (fun y hy => hv y (by simp [hy])) (by simp at hl ⊢; omega) (by simp at hn; omega) (drop_at hd')
    unfold pCells
    rw [if_pos hi, if_neg (by simp at hl; omega), hc]
    simp only
    rw [ih]; simp
theorem parse_print {cells : List (List Alt)} (hE : checkE cells = 0) : pCells ((printS cells).length + 1) (printS cells) 0 [] = some (some cells) := by
  obtain ⟨hl, hv⟩ := checkE_ok hE
  have := printS_ne hv
  simpa using pCells_print cells (s := printS cells) (i := 0) (n := (printS cells).length + 1) (acc := []) hv (by simpa using hl) (by omega) (by simp)
end
end Go.AX
namespace Go.AX
open Go Go.Proofs Go.RowKit Go.WideShapes Go.ChangeShapes
noncomputable section
theorem oc3 : Tryz.prog.cellsOf 3 = 1 := by kernel_rfl
theorem oc9 : Tryz.prog.cellsOf 9 = 1 := by kernel_rfl
theorem oc53 : Tryz.prog.cellsOf 53 = 1 := by kernel_rfl
theorem oc55 : Tryz.prog.cellsOf 55 = 1 := by kernel_rfl
theorem oc57 : Tryz.prog.cellsOf 57 = 2 := by kernel_rfl
theorem oc22 : Tryz.prog.cellsOf 22 = 1 := by kernel_rfl
theorem len1 {α : Type} {l : List α} (h : l.length = 1) : ∃ a, l = [a] := by
  match l, h with
  | [a], _ => exact ⟨a, rfl⟩
theorem len2 {α : Type} {l : List α} (h : l.length = 2) : ∃ a b, l = [a, b] := by
  match l, h with
  | [a, b], _ => exact ⟨a, b, rfl⟩
theorem opn57 : Opn Tryz.prog 57 2 (fun _ (a : Alt) l => l = altC a ∧ a.1.length ≤ 9223372036854775807) := by
  refine ⟨oc57, fun {H enc w base held fuel cs x} h => ?_⟩
  obtain ⟨hl, n, hf⟩ := trod_fields Tryz.underlying57 oc57 (fun i f hi => by
    match i, hi with
    | 0, hi => cases hi; exact ⟨rfl, oc9⟩
    | 1, hi => cases hi; exact ⟨rfl, oc3⟩
    | (i + 2), hi => simp at hi) h
  obtain ⟨c0, c1, rfl⟩ := len2 hl
  obtain ⟨y0, g0⟩ := hf 0 _ c0 rfl rfl
  obtain ⟨y1, g1⟩ := hf 1 _ c1 rfl rfl
  obtain ⟨s, e0, _, w0⟩ := DataW.trod_string Tryz.underlying9 g0
  obtain ⟨k, e1, _, w1⟩ := DataW.trod_int Tryz.underlying3 g1
  cases e0; cases e1
  refine ⟨(s.data.toList.map UInt8.toNat, k), ⟨rfl, ?_⟩, fun c hc => ?_, rfl⟩
  · have : (s.data.toList.map UInt8.toNat).length = s.size := by rw [List.length_map, Array.length_toList]; rfl
    show (s.data.toList.map UInt8.toNat).length ≤ _
    unfold maxLen at w0
    omega
  · simp at hc
    rcases hc with rfl | rfl <;> rfl
theorem opn53 : Opn Tryz.prog 53 1 (fun w (xs : List Alt) l => ∃ v, l = [v] ∧ AltsA (absW w) v xs) := by
  have h0 := opn_slice opn57 (by omega) Tryz.underlying53 oc53
  refine ⟨h0.1, fun h => ?_⟩
  obtain ⟨xs, ⟨v, rows, e, hs, ⟨hl, h2⟩, _⟩, hf, hlen⟩ := h0.2 h
  refine ⟨xs, ⟨v, e, ?_, fun a ha => ?_⟩, hf, hlen⟩
  · have : rows = xs.map altC := by
      apply List.ext_getElem?
      intro i
      rw [List.getElem?_map]
      cases hx : xs[i]? with
      | none =>
        have := List.getElem?_eq_none_iff.1 hx
        rw [List.getElem?_eq_none (by omega)]
        rfl
      | some a =>
        have hi := (List.getElem?_eq_some_iff.1 hx).1
        obtain ⟨r, hr⟩ : ∃ r, rows[i]? = some r := ⟨_, List.getElem?_eq_getElem (by omega)⟩
        rw [hr, (h2 i a r hx hr).1]
        rfl
    rw [← this]
    exact hs
  · obtain ⟨i, hi⟩ := List.mem_iff_getElem?.1 ha
    have hil := (List.getElem?_eq_some_iff.1 hi).1
    obtain ⟨r, hr⟩ : ∃ r, rows[i]? = some r := ⟨_, List.getElem?_eq_getElem (by omega)⟩
    exact (h2 i a r hi hr).2
theorem opn55 : Opn Tryz.prog 55 1 (fun w (xs : List Alt) l => ∃ v, l = [v] ∧ AltsA (absW w) v xs) := by
  refine ⟨oc55, fun {H enc w base held fuel cs x} h => ?_⟩
  obtain ⟨hl, n, hf⟩ := trod_fields Tryz.underlying55 oc55 (fun i f hi => by
    match i, hi with
    | 0, hi => cases hi; exact ⟨rfl, oc53⟩
    | (i + 1), hi => simp at hi) h
  obtain ⟨c0, rfl⟩ := len1 hl
  obtain ⟨y0, g0⟩ := hf 0 _ c0 rfl rfl
  exact opn53.2 g0
theorem opn22 : Opn Tryz.prog 22 1 (fun w (cells : List (List Alt)) l => ∃ v, l = [v] ∧ CellsA (absW w) v cells) := by
  have h0 := opn_slice opn55 (by omega) Tryz.underlying22 oc22
  refine ⟨h0.1, fun h => ?_⟩
  obtain ⟨xs, ⟨v, rows, e, hs, ⟨hl, h2⟩, _⟩, hf, hlen⟩ := h0.2 h
  have hrow : ∀ (i : Nat) r, rows[i]? = some r → r = [r.headD undefA] := by
    intro i r hr
    have hi := (List.getElem?_eq_some_iff.1 hr).1
    obtain ⟨a, ha⟩ : ∃ a, xs[i]? = some a := ⟨_, List.getElem?_eq_getElem (by omega)⟩
    obtain ⟨x, hx, _⟩ := h2 i a r ha hr
    rw [hx]; rfl
  refine ⟨xs, ⟨v, e, rows.map (·.headD undefA), ?_, by simp [hl], fun i y a hy ha => ?_⟩, hf, hlen⟩
  · have : (rows.map (·.headD undefA)).map (fun x => [x]) = rows := by
      apply List.ext_getElem?
      intro i
      rw [List.getElem?_map, List.getElem?_map]
      cases hr : rows[i]? with
      | none => rfl
      | some r => exact congrArg some (hrow i r hr).symm
    rw [this]
    exact hs
  · rw [List.getElem?_map, Option.map_eq_some_iff] at hy
    obtain ⟨r, hr, rfl⟩ := hy
    obtain ⟨x, hx, hA⟩ := h2 i a r ha hr
    rw [hx]
    exact hA
end
end Go.AX
namespace Go.AX
open Go Go.Proofs
noncomputable section
set_option linter.unusedSimpArgs false
set_option linter.unusedVariables false
attribute [local go_sem] b_seq wp_skip wp_exit wp_ret wp_region b_block wops_nil b_ops b_opsg b_cond condV_lite wo_mv b_bin wo_call callV_func wo_pick b_box wo_load1 wo_loadN wo_store wo_nilCheck wo_not wo_lenStr' wo_lenSl wo_ixStr' wo_ixSl wo_fAddr wo_part1 wo_partN wo_extract wo_cInt wo_cStr wo_mkMap wo_mkIface wo_mkFunc wo_lookup pickV_bool ifT_true ifT_false b_loadV b_loadNV b_storeV nilV_ptr nilV_func nilV_iface notV_bool lenStrV_str lenSlV_nil lenSlV_slice b_ixStrV ixSlV_slice fAddrV_ptr b_part1V partNV_agg b_extractV convV_int strV_str evC_tm evC_cn T.get_set putA_some putA_none onO_some evCs_nil evCs_cons appL_nil appL_cons guardOk_true guardOk_false cellsV_bool cellsV_int cellsV_str cellsV_nilptr cellsV_ptr cellsV_nilslice cellsV_slice cellsV_nilmap cellsV_map cellsV_func cellsV_nilfunc cellsV_iface cellsV_niliface cellsV_agg bin_lss bin_gtr bin_leq bin_geq bin_eql bin_neq bin_add bin_sub bin_eqlS bin_neqS mkFrame_nil mkFrame_cons resA_one resA_two resA_three over_0 over_1 over_2 over_3 over_4 over_5 over0_nil over0_cons Option.getD_some if_true if_false AHeap.next_push AVal.bool.injEq decide_eq_true_eq decide_eq_false_iff_not Bool.not_eq_true' Bool.not_eq_false' Bool.not_eq_true decide_true decide_false Bool.not_true Bool.not_false Int.toNat_natCast Int.natCast_nonneg true_and and_true wo_mapPut wp_drawn' wsts_nil b_pure b_read b_new b_wr wor_none b_org rer_nil rer_load1 rer_loadN wo_append AHeap.next_skip AHeap.next_put' AHeap.mk_push_t AHeap.mk_eta AHeap.mk_skip ldA_skip ldN_skip Nat.add_zero Nat.zero_add b_lite_true b_lite_false eq_self_iff_true not_true_eq_false not_false_eq_true bx_k bx_q bx_x bx_1 undefA_bool putAt_push List.length_cons List.length_nil Nat.le_refl ldA_push_new ldN_push_new List.getElem?_cons_zero List.getElem?_cons_succ List.drop_zero List.drop_succ_cons List.take_succ_cons List.take_zero b_build b_buildSlice evParts_nil evParts_cons b_fillA_nil b_fillA nbeq nble natadd natmul lenL_eq repL_1 repL_2 repL_3 wo_sliceData sdV_nil sdV_slice wo_unsafeStr usV_nil wo_slStr slStrV_str evCo_none evCo_some boundA_none Bool.and_true Bool.true_and wo_minmax2' mm2V_int
theorem code5e : E3.code 5 = some (c5, [.tmp 2]) := by kernel_rfl
theorem p3_5 : E3.prim.get 5 = none := by kernel_rfl
theorem printS_len_ok {cells : List (List Alt)} (hE : checkE cells = 0) : (printS cells).length ≤ 6720 := by
  obtain ⟨hl, hv⟩ := checkE_ok hE
  have := printS_take_len hv hl cells.length
  rwa [List.take_length] at this
theorem prints_law (cells : List (List Alt)) (v : AVal) (h : AHeap) (H : CellsA h v cells) : Ec E3 5 [v] h fun r _ => r = .bool true := by
  refine Ec.of_wpb p3_5 code5e ?_
  unfold c5
  simp only [go_sem, Nat.reduceEqDiff, Int.reduceLT, Int.reduceLE, Int.reduceEq, Nat.reduceLT, Nat.reduceAdd, Nat.reduceMul, Int.reduceToNat, Nat.reduceLeDiff, reduceCtorEq]
  refine ⟨by decide, ?_⟩
  refine (ec3 p3_11 (print_c cells v h H)).mono ?_
  rintro r h1 ⟨rfl, hle1⟩
  unfold printR
  by_cases hE : checkE cells = 0
  · simp only [go_sem, Nat.reduceEqDiff, Int.reduceLT, Int.reduceLE, Int.reduceEq, Nat.reduceLT, Nat.reduceAdd, Nat.reduceMul, Int.reduceToNat, Nat.reduceLeDiff, reduceCtorEq, hE]
    refine ⟨by decide, ?_⟩
    have hlen := printS_len_ok hE
    obtain ⟨hl32, hv⟩ := checkE_ok hE
    have hpe : parseE (some cells) (printS cells) = 0 := if_pos ⟨hE, rfl⟩
    have hpl : parseL (some cells) (printS cells) = cells := if_pos ⟨hE, rfl⟩
    refine (parse_c (printS cells) h1 (some cells) (by omega) (parse_print hE)).mono ?_
    rintro r h2 ⟨u, rfl, hu, hle2⟩
    rw [hpe]
    rw [hpl] at hu
    simp only [go_sem, Nat.reduceEqDiff, Int.reduceLT, Int.reduceLE, Int.reduceEq, Nat.reduceLT, Nat.reduceAdd, Nat.reduceMul, Int.reduceToNat, Nat.reduceLeDiff, reduceCtorEq]
    refine ⟨by decide, ?_⟩
    refine (ec3 p3_13 (alive_c h2)).mono ?_
    rintro r h3 ⟨rfl, rfl⟩
    simp only [go_sem, Nat.reduceEqDiff, Int.reduceLT, Int.reduceLE, Int.reduceEq, Nat.reduceLT, Nat.reduceAdd, Nat.reduceMul, Int.reduceToNat, Nat.reduceLeDiff, reduceCtorEq]
    refine ⟨by decide, ?_⟩
    refine (ec3 p3_18 (sameCells_c cells u v h3 hu (H.mono (hle1.trans hle2)) (by omega) (fun c hc => by have := (hv c hc).2.1; omega))).mono ?_
    rintro r h4 ⟨rfl, _⟩
    simp only [go_sem, Nat.reduceEqDiff, Int.reduceLT, Int.reduceLE, Int.reduceEq, Nat.reduceLT, Nat.reduceAdd, Nat.reduceMul, Int.reduceToNat, Nat.reduceLeDiff, reduceCtorEq]
  · simp only [go_sem, Nat.reduceEqDiff, Int.reduceLT, Int.reduceLE, Int.reduceEq, Nat.reduceLT, Nat.reduceAdd, Nat.reduceMul, Int.reduceToNat, Nat.reduceLeDiff, reduceCtorEq, hE]
    refine ⟨by decide, ?_⟩
    refine (ec3 p3_13 (alive_c h1)).mono ?_
    rintro r h3 ⟨rfl, rfl⟩
    simp only [go_sem, Nat.reduceEqDiff, Int.reduceLT, Int.reduceLE, Int.reduceEq, Nat.reduceLT, Nat.reduceAdd, Nat.reduceMul, Int.reduceToNat, Nat.reduceLeDiff, reduceCtorEq]
    refine ⟨by decide, ?_⟩
    refine (ec3 p3_14 (checkCells_c cells v h3 (H.mono hle1))).mono ?_
    rintro r h4 ⟨rfl, _⟩
    simp only [go_sem, Nat.reduceEqDiff, Int.reduceLT, Int.reduceLE, Int.reduceEq, Nat.reduceLT, Nat.reduceAdd, Nat.reduceMul, Int.reduceToNat, Nat.reduceLeDiff, reduceCtorEq]
end
end Go.AX

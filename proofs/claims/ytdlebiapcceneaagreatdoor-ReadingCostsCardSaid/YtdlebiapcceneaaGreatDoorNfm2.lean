/-
  Contracts of functions of this seat, for every input that each theorem names.
-/
import Derived.Test.YtdlebiapcceneaaGreatDoorNfm1
import Derived.Lib.ItoaLen
set_option linter.unusedVariables false
set_option linter.unusedSimpArgs false
set_option linter.unusedSectionVars false
namespace Go.AX
open Go Go.Proofs
noncomputable section
set_option linter.unusedSimpArgs false
set_option linter.unusedVariables false
attribute [local go_sem] b_seq wp_skip wp_exit wp_ret wp_region b_block wops_nil b_ops b_opsg b_cond condV_lite wo_mv b_bin wo_call callV_func wo_pick b_box wo_load1 wo_loadN wo_store wo_nilCheck wo_not wo_lenStr' wo_lenSl wo_ixStr' wo_ixSl wo_fAddr wo_part1 wo_partN wo_extract wo_cInt wo_cStr wo_mkMap wo_mkIface wo_mkFunc wo_lookup pickV_bool ifT_true ifT_false b_loadV b_loadNV b_storeV nilV_ptr nilV_func nilV_iface notV_bool lenStrV_str lenSlV_nil lenSlV_slice b_ixStrV ixSlV_slice fAddrV_ptr b_part1V partNV_agg b_extractV convV_int strV_str evC_tm evC_cn T.get_set putA_some putA_none onO_some evCs_nil evCs_cons appL_nil appL_cons guardOk_true guardOk_false cellsV_bool cellsV_int cellsV_str cellsV_nilptr cellsV_ptr cellsV_nilslice cellsV_slice cellsV_nilmap cellsV_map cellsV_func cellsV_nilfunc cellsV_iface cellsV_niliface cellsV_agg bin_lss bin_gtr bin_leq bin_geq bin_eql bin_neq bin_add bin_sub bin_eqlS bin_neqS mkFrame_nil mkFrame_cons resA_one resA_two resA_three over_0 over_1 over_2 over_3 over_4 over_5 over0_nil over0_cons Option.getD_some if_true if_false AHeap.next_push AVal.bool.injEq decide_eq_true_eq decide_eq_false_iff_not Bool.not_eq_true' Bool.not_eq_false' Bool.not_eq_true decide_true decide_false Bool.not_true Bool.not_false Int.toNat_natCast Int.natCast_nonneg true_and and_true wo_mapPut wp_drawn' wsts_nil b_pure b_read b_new b_wr wor_none b_org rer_nil rer_load1 rer_loadN wo_append AHeap.next_skip AHeap.next_put' AHeap.mk_push_t AHeap.mk_eta AHeap.mk_skip ldA_skip ldN_skip Nat.add_zero Nat.zero_add b_lite_true b_lite_false eq_self_iff_true not_true_eq_false not_false_eq_true bx_k bx_q bx_x bx_1 undefA_bool putAt_push List.length_cons List.length_nil Nat.le_refl ldA_push_new ldN_push_new List.getElem?_cons_zero List.getElem?_cons_succ List.drop_zero List.drop_succ_cons List.take_succ_cons List.take_zero b_build b_buildSlice evParts_nil evParts_cons b_fillA_nil b_fillA nbeq nble natadd natmul lenL_eq repL_1 repL_2 repL_3 wo_sliceData sdV_nil sdV_slice wo_unsafeStr usV_nil wo_slStr slStrV_str evCo_none evCo_some boundA_none Bool.and_true Bool.true_and wo_minmax2' mm2V_int
structure ArcS where
  fr : Int
  to : Int
  l : Nat
  c : Int
structure EndS where
  st : Int
  c : Int
structure AutoS where
  n : Int
  arcs : List ArcS
  ends : List EndS
def arcC (x : ArcS) : List AVal := [.int .i64 x.fr, .int .i64 x.to, .int .u8 (x.l : Int), .int .i64 x.c]
def endC (x : EndS) : List AVal := [.int .i64 x.st, .int .i64 x.c]
def ArcsA (h : AHeap) (v : AVal) (l : List ArcS) : Prop := SlA h 4 v (l.map arcC)
def EndsA (h : AHeap) (v : AVal) (l : List EndS) : Prop := SlA h 2 v (l.map endC)
def AutoA (h : AHeap) (v : AVal) (A : AutoS) : Prop := ∃ va ve, v = .agg [.int .i64 A.n, va, ve] ∧ ArcsA h va A.arcs ∧ EndsA h ve A.ends ∧ A.arcs.length ≤ 9223372036854775807 ∧ A.ends.length ≤ 9223372036854775807
theorem ArcsA.mono {h h' : AHeap} (hle : Hle h h') {v : AVal} {l : List ArcS} (H : ArcsA h v l) : ArcsA h' v l := SlA.mono hle H
theorem EndsA.mono {h h' : AHeap} (hle : Hle h h') {v : AVal} {l : List EndS} (H : EndsA h v l) : EndsA h' v l := SlA.mono hle H
theorem AutoA.mono {h h' : AHeap} (hle : Hle h h') {v : AVal} {A : AutoS} (H : AutoA h v A) : AutoA h' v A := by
  obtain ⟨va, ve, e, h1, h2, h3⟩ := H
  exact ⟨va, ve, e, h1.mono hle, h2.mono hle, h3⟩
theorem ArcsA.len {h : AHeap} {v : AVal} {l : List ArcS} (H : ArcsA h v l) (h' : AHeap) (K : AVal → AHeap → Prop) : lenSlV v h' K = K (.int .i64 (l.length : Int)) h' := by
  have := SlA.len H h' K
  rwa [List.length_map] at this
theorem EndsA.len {h : AHeap} {v : AVal} {l : List EndS} (H : EndsA h v l) (h' : AHeap) (K : AVal → AHeap → Prop) : lenSlV v h' K = K (.int .i64 (l.length : Int)) h' := by
  have := SlA.len H h' K
  rwa [List.length_map] at this
theorem SlA.flat {h : AHeap} {size : Nat} {v : AVal} {xs : List (List AVal)} (H : SlA h size v xs) : v.flat = true := by
  rcases H.2 with ⟨_, rfl⟩ | ⟨b, o, c, ex, rfl, _⟩ <;> rfl
theorem ArcsA.cells {h : AHeap} {v : AVal} {l : List ArcS} (H : ArcsA h v l) : cellsV v = some [v] := cellsV_flat (SlA.flat H)
theorem EndsA.cells {h : AHeap} {v : AVal} {l : List EndS} (H : EndsA h v l) : cellsV v = some [v] := cellsV_flat (SlA.flat H)
theorem ArcsA.ix {h : AHeap} {v : AVal} {l : List ArcS} (H : ArcsA h v l) {j : Nat} {x : ArcS} (hx : l[j]? = some x) :
    ∃ b o, RowA h b o (arcC x) ∧ ∀ (k : IntKind) (i : Int) (h' : AHeap) (K : AVal → AHeap → Prop), i = (j : Int) → ixSlV 4 v (.int k i) h' K = K (.ptr b o) h' :=
  SlA.ix H (by rw [List.getElem?_map, hx]; rfl)
theorem EndsA.ix {h : AHeap} {v : AVal} {l : List EndS} (H : EndsA h v l) {j : Nat} {x : EndS} (hx : l[j]? = some x) :
    ∃ b o, RowA h b o (endC x) ∧ ∀ (k : IntKind) (i : Int) (h' : AHeap) (K : AVal → AHeap → Prop), i = (j : Int) → ixSlV 2 v (.int k i) h' K = K (.ptr b o) h' :=
  SlA.ix H (by rw [List.getElem?_map, hx]; rfl)
def cmpZ (a b : Int) : Int := if a < b then -1 else if b < a then 1 else 0
theorem isNaNI_c (a : Int) (h : AHeap) : Ec E2 75 [.int .i64 a] h fun r h' => r = .bool false ∧ h' = h := by
  refine Ec.of_wpb (prim2_none (by decide)) codeisNaNI ?_
  unfold cisNaNI
  simp only [go_sem, Nat.reduceEqDiff, Int.reduceLT, Int.reduceLE, Int.reduceEq, Nat.reduceLT, Nat.reduceAdd, Nat.reduceMul, Int.reduceToNat, Nat.reduceLeDiff, reduceCtorEq]
theorem isNaNB_c (a : Int) (h : AHeap) : Ec E2 76 [.int .u8 a] h fun r h' => r = .bool false ∧ h' = h := by
  refine Ec.of_wpb (prim2_none (by decide)) codeisNaNB ?_
  unfold cisNaNB
  simp only [go_sem, Nat.reduceEqDiff, Int.reduceLT, Int.reduceLE, Int.reduceEq, Nat.reduceLT, Nat.reduceAdd, Nat.reduceMul, Int.reduceToNat, Nat.reduceLeDiff, reduceCtorEq]
theorem cmpI_c (a b : Int) (h : AHeap) : Ec E2 61 [.int .i64 a, .int .i64 b] h fun r h' => r = .int .i64 (cmpZ a b) ∧ h' = h := by
  refine Ec.of_wpb (prim2_none (by decide)) codecmpI ?_
  unfold ccmpI
  simp only [go_sem, Nat.reduceEqDiff, Int.reduceLT, Int.reduceLE, Int.reduceEq, Nat.reduceLT, Nat.reduceAdd, Nat.reduceMul, Int.reduceToNat, Nat.reduceLeDiff, reduceCtorEq]
  refine ⟨by decide, ?_⟩
  refine (isNaNI_c a h).mono ?_
  rintro r h1 ⟨rfl, rfl⟩
  simp only [go_sem, Nat.reduceEqDiff, Int.reduceLT, Int.reduceLE, Int.reduceEq, Nat.reduceLT, Nat.reduceAdd, Nat.reduceMul, Int.reduceToNat, Nat.reduceLeDiff, reduceCtorEq]
  refine ⟨by decide, ?_⟩
  refine (isNaNI_c b h1).mono ?_
  rintro r h2 ⟨rfl, rfl⟩
  unfold cmpZ
  by_cases h1 : a < b
  · simp only [go_sem, Nat.reduceEqDiff, Int.reduceLT, Int.reduceLE, Int.reduceEq, Nat.reduceLT, Nat.reduceAdd, Nat.reduceMul, Int.reduceToNat, Nat.reduceLeDiff, reduceCtorEq, h1]
  · by_cases h2 : b < a
    · simp only [go_sem, Nat.reduceEqDiff, Int.reduceLT, Int.reduceLE, Int.reduceEq, Nat.reduceLT, Nat.reduceAdd, Nat.reduceMul, Int.reduceToNat, Nat.reduceLeDiff, reduceCtorEq, h1, h2]
    · simp only [go_sem, Nat.reduceEqDiff, Int.reduceLT, Int.reduceLE, Int.reduceEq, Nat.reduceLT, Nat.reduceAdd, Nat.reduceMul, Int.reduceToNat, Nat.reduceLeDiff, reduceCtorEq, h1, h2]
theorem cmpB_c (a b : Int) (h : AHeap) : Ec E2 62 [.int .u8 a, .int .u8 b] h fun r h' => r = .int .i64 (cmpZ a b) ∧ h' = h := by
  refine Ec.of_wpb (prim2_none (by decide)) codecmpB ?_
  unfold ccmpB
  simp only [go_sem, Nat.reduceEqDiff, Int.reduceLT, Int.reduceLE, Int.reduceEq, Nat.reduceLT, Nat.reduceAdd, Nat.reduceMul, Int.reduceToNat, Nat.reduceLeDiff, reduceCtorEq]
  refine ⟨by decide, ?_⟩
  refine (isNaNB_c a h).mono ?_
  rintro r h1 ⟨rfl, rfl⟩
  simp only [go_sem, Nat.reduceEqDiff, Int.reduceLT, Int.reduceLE, Int.reduceEq, Nat.reduceLT, Nat.reduceAdd, Nat.reduceMul, Int.reduceToNat, Nat.reduceLeDiff, reduceCtorEq]
  refine ⟨by decide, ?_⟩
  refine (isNaNB_c b h1).mono ?_
  rintro r h2 ⟨rfl, rfl⟩
  unfold cmpZ
  by_cases h1 : a < b
  · simp only [go_sem, Nat.reduceEqDiff, Int.reduceLT, Int.reduceLE, Int.reduceEq, Nat.reduceLT, Nat.reduceAdd, Nat.reduceMul, Int.reduceToNat, Nat.reduceLeDiff, reduceCtorEq, h1]
  · by_cases h2 : b < a
    · simp only [go_sem, Nat.reduceEqDiff, Int.reduceLT, Int.reduceLE, Int.reduceEq, Nat.reduceLT, Nat.reduceAdd, Nat.reduceMul, Int.reduceToNat, Nat.reduceLeDiff, reduceCtorEq, h1, h2]
    · simp only [go_sem, Nat.reduceEqDiff, Int.reduceLT, Int.reduceLE, Int.reduceEq, Nat.reduceLT, Nat.reduceAdd, Nat.reduceMul, Int.reduceToNat, Nat.reduceLeDiff, reduceCtorEq, h1, h2]
def firstNZ : List Int → Int
  | [] => 0
  | x :: l => if x = 0 then firstNZ l else x
theorem firstNZ_drop {l : List Int} {i : Nat} {x : Int} (hx : l[i]? = some x) : firstNZ (l.drop i) = if x = 0 then firstNZ (l.drop (i + 1)) else x := by
  have hi := (List.getElem?_eq_some_iff.1 hx).1
  rw [List.drop_eq_getElem_cons hi]
  have : l[i] = x := (List.getElem?_eq_some_iff.1 hx).2
  rw [this]; rfl
theorem cmpOr_c (l : List Int) (v : AVal) (h : AHeap) (H : SlA h 1 v (l.map fun n => [.int .i64 n])) (hl : l.length ≤ 9223372036854775807) : Ec E2 60 [v] h fun r h' => r = .int .i64 (firstNZ l) ∧ h' = h := by
  refine Ec.of_wpb (prim2_none (by decide)) codecmpOr ?_
  have hlen := SlA.len H
  rw [List.length_map] at hlen
  unfold ccmpOr
  simp only [go_sem, Nat.reduceEqDiff, Int.reduceLT, Int.reduceLE, Int.reduceEq, Nat.reduceLT, Nat.reduceAdd, Nat.reduceMul, Int.reduceToNat, Nat.reduceLeDiff, reduceCtorEq, hlen]
  refine b_loop (fun d fr h' => h' = h ∧ fr.get 3 = some (.int .i64 0) ∧ fr.get 6 = some v ∧ fr.get 7 = some (.int .i64 (l.length : Int)) ∧ ∃ i : Nat, fr.get 8 = some (.int .i64 (i : Int)) ∧ d + i = l.length ∧ firstNZ l = firstNZ (l.drop i)) l.length ?_ ?_
  · exact ⟨rfl, by simp [T.get_set], by simp [T.get_set], by simp [T.get_set], 0, by simp [T.get_set], by omega, by simp⟩
  rintro d fr h' ⟨rfl, t3, t6, t7, i, t8, hd, hf⟩
  unfold ccmpOr_l0
  by_cases hc : (i : Int) < (l.length : Int)
  · obtain ⟨x, hx⟩ : ∃ x, l[i]? = some x := ⟨_, List.getElem?_eq_getElem (by omega)⟩
    obtain ⟨b, o, hr, hix⟩ := SlA.ix H (j := i) (x := [.int .i64 x]) (by rw [List.getElem?_map, hx]; rfl)
    have hix := hix .i64 (i : Int) h'
    have hld : ldA h' b o = some (.int .i64 x) := hr.ldA (i := 0) rfl
    have hw : IntKind.i64.wrap ((i : Int) + 1) = ((i + 1 : Nat) : Int) := by rw [wrap_i64 (by omega) (by omega)]; push_cast; rfl
    rw [firstNZ_drop hx] at hf
    by_cases hz : x = 0
    · subst hz
      rw [if_pos rfl] at hf
      simp only [go_sem, Nat.reduceEqDiff, Int.reduceLT, Int.reduceLE, Int.reduceEq, Nat.reduceLT, Nat.reduceAdd, Nat.reduceMul, Int.reduceToNat, Nat.reduceLeDiff, reduceCtorEq, t3, t6, t7, t8, hc, hix _ rfl, hld, hw]
      exact ⟨d - 1, by omega, i + 1, rfl, by omega, hf⟩
    · rw [if_neg hz] at hf
      simp only [go_sem, Nat.reduceEqDiff, Int.reduceLT, Int.reduceLE, Int.reduceEq, Nat.reduceLT, Nat.reduceAdd, Nat.reduceMul, Int.reduceToNat, Nat.reduceLeDiff, reduceCtorEq, t3, t6, t7, t8, hc, hix _ rfl, hld, hw, hz, hf]
  · rw [List.drop_eq_nil_of_le (by omega)] at hf
    simp only [go_sem, Nat.reduceEqDiff, Int.reduceLT, Int.reduceLE, Int.reduceEq, Nat.reduceLT, Nat.reduceAdd, Nat.reduceMul, Int.reduceToNat, Nat.reduceLeDiff, reduceCtorEq, t3, t6, t7, t8, hc, hf]
    rfl
def arcCmp (a b : ArcS) : Int := firstNZ [cmpZ a.fr b.fr, cmpZ a.to b.to, cmpZ (a.l : Int) (b.l : Int)]
theorem cmpArcs_c (a b : ArcS) (h : AHeap) : Ec E2 45 [.agg (arcC a), .agg (arcC b)] h fun r h' => r = .int .i64 (arcCmp a b) ∧ Hle h h' := by
  refine Ec.of_wpb (prim2_none (by decide)) codecmpArcs ?_
  unfold ccmpArcs
  unfold arcC
  simp only [go_sem, Nat.reduceEqDiff, Int.reduceLT, Int.reduceLE, Int.reduceEq, Nat.reduceLT, Nat.reduceAdd, Nat.reduceMul, Int.reduceToNat, Nat.reduceLeDiff, reduceCtorEq]
  have e1 : ∀ i, ldA ((h.push (.cells [.int .i64 a.fr, .int .i64 a.to, .int .u8 (a.l : Int), .int .i64 a.c] 84)).push (.cells [.int .i64 b.fr, .int .i64 b.to, .int .u8 (b.l : Int), .int .i64 b.c] 84)) h.next i = (arcC a)[i]? := fun i => by rw [ldA_push_old (by simp [AHeap.next_push]), ldA_push_new]; rfl
  have e2 : ∀ i, ldA ((h.push (.cells [.int .i64 a.fr, .int .i64 a.to, .int .u8 (a.l : Int), .int .i64 a.c] 84)).push (.cells [.int .i64 b.fr, .int .i64 b.to, .int .u8 (b.l : Int), .int .i64 b.c] 84)) (h.next + 1) i = (arcC b)[i]? := fun i => by
    rw [show h.next + 1 = (h.push (.cells [.int .i64 a.fr, .int .i64 a.to, .int .u8 (a.l : Int), .int .i64 a.c] 84)).next from rfl, ldA_push_new]; rfl
  have hle : Hle h ((h.push (.cells [.int .i64 a.fr, .int .i64 a.to, .int .u8 (a.l : Int), .int .i64 a.c] 84)).push (.cells [.int .i64 b.fr, .int .i64 b.to, .int .u8 (b.l : Int), .int .i64 b.c] 84)) := ((Hle.refl h).push _).push _
  have hn : ((h.push (.cells [.int .i64 a.fr, .int .i64 a.to, .int .u8 (a.l : Int), .int .i64 a.c] 84)).push (.cells [.int .i64 b.fr, .int .i64 b.to, .int .u8 (b.l : Int), .int .i64 b.c] 84)).next = h.next + 2 := rfl
  generalize (h.push (.cells [.int .i64 a.fr, .int .i64 a.to, .int .u8 (a.l : Int), .int .i64 a.c] 84)).push (.cells [.int .i64 b.fr, .int .i64 b.to, .int .u8 (b.l : Int), .int .i64 b.c] 84) = h1 at e1 e2 hle hn ⊢
  have a0 := e1 0
  have a1 := e1 1
  have a2 := e1 2
  have b0 := e2 0
  have b1 := e2 1
  have b2 := e2 2
  simp only [arcC, List.getElem?_cons_zero, List.getElem?_cons_succ] at a0 a1 a2 b0 b1 b2
  clear e1 e2
  simp only [go_sem, Nat.reduceEqDiff, Int.reduceLT, Int.reduceLE, Int.reduceEq, Nat.reduceLT, Nat.reduceAdd, Nat.reduceMul, Int.reduceToNat, Nat.reduceLeDiff, reduceCtorEq, a0, a1, a2, b0, b1, b2]
  refine ⟨by decide, ?_⟩
  refine (cmpI_c _ _ _).mono ?_
  rintro r h2 ⟨rfl, rfl⟩
  simp only [go_sem, Nat.reduceEqDiff, Int.reduceLT, Int.reduceLE, Int.reduceEq, Nat.reduceLT, Nat.reduceAdd, Nat.reduceMul, Int.reduceToNat, Nat.reduceLeDiff, reduceCtorEq, a0, a1, a2, b0, b1, b2]
  refine ⟨⟨sameA_int _ _ _, sameA_int _ _ _, sameA_int _ _ _, sameA_int _ _ _⟩, by decide, ?_⟩
  refine (cmpI_c _ _ _).mono ?_
  rintro r h2 ⟨rfl, rfl⟩
  simp only [go_sem, Nat.reduceEqDiff, Int.reduceLT, Int.reduceLE, Int.reduceEq, Nat.reduceLT, Nat.reduceAdd, Nat.reduceMul, Int.reduceToNat, Nat.reduceLeDiff, reduceCtorEq, a0, a1, a2, b0, b1, b2]
  refine ⟨⟨sameA_int _ _ _, sameA_int _ _ _⟩, by decide, ?_⟩
  refine (cmpB_c _ _ _).mono ?_
  rintro r h2 ⟨rfl, rfl⟩
  simp only [go_sem, Nat.reduceEqDiff, Int.reduceLT, Int.reduceLE, Int.reduceEq, Nat.reduceLT, Nat.reduceAdd, Nat.reduceMul, Int.reduceToNat, Nat.reduceLeDiff, reduceCtorEq, a0, a1, a2, b0, b1, b2]
  refine ⟨by decide, ?_⟩
  refine (cmpOr_c [cmpZ a.fr b.fr, cmpZ a.to b.to, cmpZ (a.l : Int) (b.l : Int)] _ _ ⟨by simp, .inr ⟨_, _, _, _, rfl, .inr (RowA.of_cells (e := 3) (by simp [AHeap.next_put]; omega) (AHeap.get_put_same _ _ _) (by simp [AVal.flat]))⟩⟩ (by simp)).mono ?_
  rintro r h2 ⟨rfl, rfl⟩
  simp only [go_sem, Nat.reduceEqDiff, Int.reduceLT, Int.reduceLE, Int.reduceEq, Nat.reduceLT, Nat.reduceAdd, Nat.reduceMul, Int.reduceToNat, Nat.reduceLeDiff, reduceCtorEq]
  exact ⟨rfl, (hle.skip 18).put (by omega) _⟩
def arcLt (a b : ArcS) : Bool := decide (a.fr < b.fr ∨ a.fr = b.fr ∧ (a.to < b.to ∨ a.to = b.to ∧ a.l < b.l))
theorem cmpZ_cases (a b : Int) : (a < b ∧ cmpZ a b = -1) ∨ (b < a ∧ cmpZ a b = 1) ∨ (a = b ∧ cmpZ a b = 0) := by
  unfold cmpZ
  by_cases h1 : a < b
  · exact .inl ⟨h1, if_pos h1⟩
  · by_cases h2 : b < a
    · exact .inr (.inl ⟨h2, by rw [if_neg h1, if_pos h2]⟩)
    · exact .inr (.inr ⟨by omega, by rw [if_neg h1, if_neg h2]⟩)
theorem arcCmp_lt (a b : ArcS) : arcLt a b = decide (arcCmp a b < 0) := by
  unfold arcLt arcCmp firstNZ firstNZ firstNZ firstNZ
  rw [decide_eq_decide]
  rcases cmpZ_cases a.fr b.fr with ⟨h1, e1⟩ | ⟨h1, e1⟩ | ⟨h1, e1⟩ <;> rw [e1]
  · simp; omega
  · simp; omega
  · rcases cmpZ_cases a.to b.to with ⟨h2, e2⟩ | ⟨h2, e2⟩ | ⟨h2, e2⟩ <;> rw [e2]
    · simp; omega
    · simp; omega
    · rcases cmpZ_cases (a.l : Int) (b.l : Int) with ⟨h3, e3⟩ | ⟨h3, e3⟩ | ⟨h3, e3⟩ <;> rw [e3] <;> simp <;> omega
theorem before_c (a b : ArcS) (h : AHeap) : Ec E2 47 [.agg (arcC a), .agg (arcC b)] h fun r h' => r = .bool (arcLt a b) ∧ Hle h h' := by
  refine Ec.of_wpb (prim2_none (by decide)) codebefore ?_
  unfold cbefore
  unfold arcC
  simp only [go_sem, Nat.reduceEqDiff, Int.reduceLT, Int.reduceLE, Int.reduceEq, Nat.reduceLT, Nat.reduceAdd, Nat.reduceMul, Int.reduceToNat, Nat.reduceLeDiff, reduceCtorEq]
  have e1 : ∀ i, ldA ((h.push (.cells [.int .i64 a.fr, .int .i64 a.to, .int .u8 (a.l : Int), .int .i64 a.c] 84)).push (.cells [.int .i64 b.fr, .int .i64 b.to, .int .u8 (b.l : Int), .int .i64 b.c] 84)) h.next i = (arcC a)[i]? := fun i => by rw [ldA_push_old (by simp [AHeap.next_push]), ldA_push_new]; rfl
  have e2 : ∀ i, ldA ((h.push (.cells [.int .i64 a.fr, .int .i64 a.to, .int .u8 (a.l : Int), .int .i64 a.c] 84)).push (.cells [.int .i64 b.fr, .int .i64 b.to, .int .u8 (b.l : Int), .int .i64 b.c] 84)) (h.next + 1) i = (arcC b)[i]? := fun i => by
    rw [show h.next + 1 = (h.push (.cells [.int .i64 a.fr, .int .i64 a.to, .int .u8 (a.l : Int), .int .i64 a.c] 84)).next from rfl, ldA_push_new]; rfl
  have hle : Hle h ((h.push (.cells [.int .i64 a.fr, .int .i64 a.to, .int .u8 (a.l : Int), .int .i64 a.c] 84)).push (.cells [.int .i64 b.fr, .int .i64 b.to, .int .u8 (b.l : Int), .int .i64 b.c] 84)) := ((Hle.refl h).push _).push _
  generalize (h.push (.cells [.int .i64 a.fr, .int .i64 a.to, .int .u8 (a.l : Int), .int .i64 a.c] 84)).push (.cells [.int .i64 b.fr, .int .i64 b.to, .int .u8 (b.l : Int), .int .i64 b.c] 84) = h1 at e1 e2 hle ⊢
  have a0 := e1 0
  have a1 := e1 1
  have a2 := e1 2
  have b0 := e2 0
  have b1 := e2 1
  have b2 := e2 2
  simp only [arcC, List.getElem?_cons_zero, List.getElem?_cons_succ] at a0 a1 a2 b0 b1 b2
  clear e1 e2
  by_cases q1 : a.fr = b.fr
  · by_cases q2 : a.to = b.to
    · simp only [go_sem, Nat.reduceEqDiff, Int.reduceLT, Int.reduceLE, Int.reduceEq, Nat.reduceLT, Nat.reduceAdd, Nat.reduceMul, Int.reduceToNat, Nat.reduceLeDiff, reduceCtorEq, a0, a1, a2, b0, b1, b2, q1, q2]
      exact ⟨by unfold arcLt; simp [q1, q2], hle⟩
    · simp only [go_sem, Nat.reduceEqDiff, Int.reduceLT, Int.reduceLE, Int.reduceEq, Nat.reduceLT, Nat.reduceAdd, Nat.reduceMul, Int.reduceToNat, Nat.reduceLeDiff, reduceCtorEq, a0, a1, a2, b0, b1, b2, q1, q2]
      exact ⟨by unfold arcLt; simp [q1, q2], hle⟩
  · simp only [go_sem, Nat.reduceEqDiff, Int.reduceLT, Int.reduceLE, Int.reduceEq, Nat.reduceLT, Nat.reduceAdd, Nat.reduceMul, Int.reduceToNat, Nat.reduceLeDiff, reduceCtorEq, a0, a1, a2, b0, b1, b2, q1]
    exact ⟨by unfold arcLt; simp [q1], hle⟩
end
end Go.AX
namespace Go.AX
open Go Go.Proofs
noncomputable section
set_option linter.unusedSimpArgs false
set_option linter.unusedVariables false
attribute [local go_sem] b_seq wp_skip wp_exit wp_ret wp_region b_block wops_nil b_ops b_opsg b_cond condV_lite wo_mv b_bin wo_call callV_func wo_pick b_box wo_load1 wo_loadN wo_store wo_nilCheck wo_not wo_lenStr' wo_lenSl wo_ixStr' wo_ixSl wo_fAddr wo_part1 wo_partN wo_extract wo_cInt wo_cStr wo_mkMap wo_mkIface wo_mkFunc wo_lookup pickV_bool ifT_true ifT_false b_loadV b_loadNV b_storeV nilV_ptr nilV_func nilV_iface notV_bool lenStrV_str lenSlV_nil lenSlV_slice b_ixStrV ixSlV_slice fAddrV_ptr b_part1V partNV_agg b_extractV convV_int strV_str evC_tm evC_cn T.get_set putA_some putA_none onO_some evCs_nil evCs_cons appL_nil appL_cons guardOk_true guardOk_false cellsV_bool cellsV_int cellsV_str cellsV_nilptr cellsV_ptr cellsV_nilslice cellsV_slice cellsV_nilmap cellsV_map cellsV_func cellsV_nilfunc cellsV_iface cellsV_niliface cellsV_agg bin_lss bin_gtr bin_leq bin_geq bin_eql bin_neq bin_add bin_sub bin_eqlS bin_neqS mkFrame_nil mkFrame_cons resA_one resA_two resA_three over_0 over_1 over_2 over_3 over_4 over_5 over0_nil over0_cons Option.getD_some if_true if_false AHeap.next_push AVal.bool.injEq decide_eq_true_eq decide_eq_false_iff_not Bool.not_eq_true' Bool.not_eq_false' Bool.not_eq_true decide_true decide_false Bool.not_true Bool.not_false Int.toNat_natCast Int.natCast_nonneg true_and and_true wo_mapPut wp_drawn' wsts_nil b_pure b_read b_new b_wr wor_none b_org rer_nil rer_load1 rer_loadN wo_append AHeap.next_skip AHeap.next_put' AHeap.mk_push_t AHeap.mk_eta AHeap.mk_skip ldA_skip ldN_skip Nat.add_zero Nat.zero_add b_lite_true b_lite_false eq_self_iff_true not_true_eq_false not_false_eq_true bx_k bx_q bx_x bx_1 undefA_bool putAt_push List.length_cons List.length_nil Nat.le_refl ldA_push_new ldN_push_new List.getElem?_cons_zero List.getElem?_cons_succ List.drop_zero List.drop_succ_cons List.take_succ_cons List.take_zero b_build b_buildSlice evParts_nil evParts_cons b_fillA_nil b_fillA nbeq nble natadd natmul lenL_eq repL_1 repL_2 repL_3 wo_sliceData sdV_nil sdV_slice wo_unsafeStr usV_nil wo_slStr slStrV_str evCo_none evCo_some boundA_none Bool.and_true Bool.true_and wo_minmax2' mm2V_int
def arcOk (n : Int) (x : ArcS) : Prop := 0 ≤ x.fr ∧ x.fr < x.to ∧ x.to < n ∧ isL x.l = true ∧ 0 ≤ x.c ∧ x.c ≤ 1000000
def endOk (n : Int) (x : EndS) : Prop := 0 ≤ x.st ∧ x.st < n ∧ 0 ≤ x.c ∧ x.c ≤ 1000000
def arcAt (n : Int) (l : List ArcS) (j : Nat) : Prop := ∀ x, l[j]? = some x → arcOk n x ∧ ∀ y, 0 < j → l[j - 1]? = some y → arcLt y x = true
def endAt (n : Int) (l : List EndS) (j : Nat) : Prop := ∀ x, l[j]? = some x → endOk n x ∧ ∀ y, 0 < j → l[j - 1]? = some y → y.st < x.st
def ArcsP (n : Int) (l : List ArcS) : Prop := ∀ j, arcAt n l j
def EndsP (n : Int) (l : List EndS) : Prop := ∀ j, endAt n l j
open Classical in
def checkZ (A : AutoS) : Int := if 400 < A.n ∨ 4000 < A.arcs.length ∨ 400 < A.ends.length then 2 else if A.n < 1 then 1 else if ArcsP A.n A.arcs ∧ EndsP A.n A.ends then 0 else 1
theorem ArcsP.of {n : Int} {l : List ArcS} (h : ∀ j, j < l.length → arcAt n l j) : ArcsP n l := fun j x hx => h j (List.getElem?_eq_some_iff.1 hx).1 x hx
theorem EndsP.of {n : Int} {l : List EndS} (h : ∀ j, j < l.length → endAt n l j) : EndsP n l := fun j x hx => h j (List.getElem?_eq_some_iff.1 hx).1 x hx
theorem ldA_p2a {h : AHeap} {c : List AVal} {e : TypeId} {o : AObj} {i : Nat} : ldA ((h.push (.cells c e)).push o) h.next i = c[i]? := by rw [ldA_push_old (by simp [AHeap.next_push]), ldA_push_new]
set_option maxHeartbeats 1000000 in
theorem check_l0 {Qn Qr : Fr → AHeap → Prop} {Qx : Nat → Fr → AHeap → Prop} (A : AutoS) (p : Nat) (va : AVal) (fr : Fr) (h : AHeap) (hp : p < h.next) (hn : ldA h p 0 = some (.int .i64 A.n)) (h1 : ldA h p 1 = some va) (hv : ArcsA h va A.arcs) (hl : A.arcs.length ≤ 9223372036854775807)
    (t1 : fr.get 1 = some (.ptr p 0)) (t26 : fr.get 26 = some va) (t27 : fr.get 27 = some (.int .i64 (A.arcs.length : Int))) (t28 : fr.get 28 = some (.int .i64 0))
    (hq : ∀ fr h', Hle h h' → fr.get 1 = some (.ptr p 0) → ArcsP A.n A.arcs → Qx 0 fr h') (hr : ∀ fr h', Hle h h' → fr.get 2 = some (.int .i64 1) → ¬ ArcsP A.n A.arcs → Qr fr h') : wp E2 (.loop cCheck_l0) fr h Qn Qx Qr := by
  refine b_loop (fun d fr h' => Hle h h' ∧ fr.get 1 = some (.ptr p 0) ∧ fr.get 26 = some va ∧ fr.get 27 = some (.int .i64 (A.arcs.length : Int)) ∧ ∃ i : Nat, fr.get 28 = some (.int .i64 (i : Int)) ∧ d + i = A.arcs.length ∧ ∀ j, j < i → arcAt A.n A.arcs j) A.arcs.length ?_ ?_
  · exact ⟨Hle.refl h, t1, t26, t27, 0, t28, by omega, fun j hj => by omega⟩
  clear t1 t26 t27 t28
  rintro d fr h' ⟨hle, t1, t26, t27, i, t28, hd, hok⟩
  have hn := (hle.ldA hp 0).trans hn
  have h1 := (hle.ldA hp 1).trans h1
  have hv := hv.mono hle
  have hp' := hle.next
  unfold cCheck_l0
  by_cases hc : (i : Int) < (A.arcs.length : Int)
  · obtain ⟨x, hx⟩ : ∃ x, A.arcs[i]? = some x := ⟨_, List.getElem?_eq_getElem (by omega)⟩
    obtain ⟨b, o, hrow, hix⟩ := hv.ix hx
    have hix := hix .i64 (i : Int) h'
    have hld : ldN h' b o 4 = some (arcC x) := by
      have := hrow.ldN (i := 0) (n := 4) (by simp [arcC])
      simpa [arcC] using this
    have hbad : ¬ arcOk A.n x → ¬ ArcsP A.n A.arcs := fun hb hA => hb (hA i x hx).1
    have hle2 : Hle h (h'.push (.cells (arcC x) 84)) := hle.push _
    have q0 : ldA (h'.push (.cells (arcC x) 84)) h'.next 0 = some (.int .i64 x.fr) := by rw [ldA_push_new]; rfl
    have q1 : ldA (h'.push (.cells (arcC x) 84)) h'.next 1 = some (.int .i64 x.to) := by rw [ldA_push_new]; rfl
    have q2 : ldA (h'.push (.cells (arcC x) 84)) h'.next 2 = some (.int .u8 (x.l : Int)) := by rw [ldA_push_new]; rfl
    have q3 : ldA (h'.push (.cells (arcC x) 84)) h'.next 3 = some (.int .i64 x.c) := by rw [ldA_push_new]; rfl
    have qn : ldN (h'.push (.cells (arcC x) 84)) h'.next 0 4 = some (arcC x) := by rw [ldN_push_new _ _ _ (by simp [arcC])]; rfl
    have r0 : ldA (h'.push (.cells (arcC x) 84)) p 0 = some (.int .i64 A.n) := by rw [ldA_push_old (by omega)]; exact hn
    have r1 : ldA (h'.push (.cells (arcC x) 84)) p 1 = some va := by rw [ldA_push_old (by omega)]; exact h1
    have hov : over [AVal.int .i64 0, .int .i64 0, .int .u8 0, .int .i64 0] 0 (arcC x) = arcC x := rfl
    have hln : (arcC x).length = 4 := rfl
    have hvv : ArcsA (h'.push (.cells (arcC x) 84)) va A.arcs := hv.mono ((Hle.refl h').push _)
    have hnn : (h'.push (.cells (arcC x) 84)).next = h'.next + 1 := rfl
    have e4 : (arcC x).length ≤ [AVal.int .i64 0, .int .i64 0, .int .u8 0, .int .i64 0].length := Nat.le_refl _
    by_cases c1 : x.fr < 0
    · simp only [go_sem, Nat.reduceEqDiff, Int.reduceLT, Int.reduceLE, Int.reduceEq, Nat.reduceLT, Nat.reduceAdd, Nat.reduceMul, Int.reduceToNat, Nat.reduceLeDiff, reduceCtorEq, t1, t26, t27, t28, hc, hix _ rfl, hld, hov, hln, q0, c1]
      exact hr _ _ hle2 (by simp [T.get_set]) (hbad fun ⟨a, _⟩ => by omega)
    by_cases c2 : x.fr < x.to
    rotate_left
    · simp only [go_sem, Nat.reduceEqDiff, Int.reduceLT, Int.reduceLE, Int.reduceEq, Nat.reduceLT, Nat.reduceAdd, Nat.reduceMul, Int.reduceToNat, Nat.reduceLeDiff, reduceCtorEq, t1, t26, t27, t28, hc, hix _ rfl, hld, hov, hln, q0, q1, c1, c2]
      exact hr _ _ hle2 (by simp [T.get_set]) (hbad fun ⟨_, a, _⟩ => by omega)
    by_cases c3 : x.to < A.n
    rotate_left
    · simp only [go_sem, Nat.reduceEqDiff, Int.reduceLT, Int.reduceLE, Int.reduceEq, Nat.reduceLT, Nat.reduceAdd, Nat.reduceMul, Int.reduceToNat, Nat.reduceLeDiff, reduceCtorEq, t1, t26, t27, t28, hc, hix _ rfl, hld, hov, hln, q0, q1, r0, c1, c2, c3]
      exact hr _ _ hle2 (by simp [T.get_set]) (hbad fun ⟨_, _, a, _⟩ => by omega)
    simp only [go_sem, Nat.reduceEqDiff, Int.reduceLT, Int.reduceLE, Int.reduceEq, Nat.reduceLT, Nat.reduceAdd, Nat.reduceMul, Int.reduceToNat, Nat.reduceLeDiff, reduceCtorEq, t1, t26, t27, t28, hc, hix _ rfl, hld, hov, hln, q0, q1, q2, r0, c1, c2, c3]
    refine ⟨by decide, ?_⟩
    refine (isLetter_c x.l _).mono ?_
    rintro r h2 ⟨rfl, rfl⟩
    by_cases c4 : isL x.l = true
    rotate_left
    · simp only [go_sem, Nat.reduceEqDiff, Int.reduceLT, Int.reduceLE, Int.reduceEq, Nat.reduceLT, Nat.reduceAdd, Nat.reduceMul, Int.reduceToNat, Nat.reduceLeDiff, reduceCtorEq, t1, t26, t27, t28, hc, hix _ rfl, hld, hov, hln, q0, q1, r0, c1, c2, c3, c4]
      exact hr _ _ hle2 (by simp [T.get_set]) (hbad fun ⟨_, _, _, a, _⟩ => c4 a)
    by_cases c5 : x.c < 0
    · simp only [go_sem, Nat.reduceEqDiff, Int.reduceLT, Int.reduceLE, Int.reduceEq, Nat.reduceLT, Nat.reduceAdd, Nat.reduceMul, Int.reduceToNat, Nat.reduceLeDiff, reduceCtorEq, t1, t26, t27, t28, hc, hix _ rfl, hld, hov, hln, q0, q1, q3, r0, c1, c2, c3, c4, c5]
      exact hr _ _ hle2 (by simp [T.get_set]) (hbad fun ⟨_, _, _, _, a, _⟩ => by omega)
    by_cases c6 : 1000000 < x.c
    · simp only [go_sem, Nat.reduceEqDiff, Int.reduceLT, Int.reduceLE, Int.reduceEq, Nat.reduceLT, Nat.reduceAdd, Nat.reduceMul, Int.reduceToNat, Nat.reduceLeDiff, reduceCtorEq, t1, t26, t27, t28, hc, hix _ rfl, hld, hov, hln, q0, q1, q3, r0, c1, c2, c3, c4, c5, c6]
      exact hr _ _ hle2 (by simp [T.get_set]) (hbad fun ⟨_, _, _, _, _, a⟩ => by omega)
    have hgood : arcOk A.n x := ⟨by omega, c2, c3, c4, by omega, by omega⟩
    have hw : IntKind.i64.wrap ((i : Int) + 1) = ((i + 1 : Nat) : Int) := by rw [wrap_i64 (by omega) (by omega)]; push_cast; rfl
    by_cases c7 : (0 : Int) < (i : Int)
    · obtain ⟨y, hy⟩ : ∃ y, A.arcs[i - 1]? = some y := ⟨_, List.getElem?_eq_getElem (by omega)⟩
      obtain ⟨b2, o2, hrow2, hix2⟩ := hvv.ix hy
      have hix2 := hix2 .i64 ((i : Int) - 1)
      have hld2 : ldN (h'.push (.cells (arcC x) 84)) b2 o2 4 = some (arcC y) := by
        have := hrow2.ldN (i := 0) (n := 4) (by simp [arcC])
        simpa [arcC] using this
      have hw2 : IntKind.i64.wrap ((i : Int) - 1) = (i : Int) - 1 := wrap_i64 (by omega) (by omega)
      simp only [go_sem, Nat.reduceEqDiff, Int.reduceLT, Int.reduceLE, Int.reduceEq, Nat.reduceLT, Nat.reduceAdd, Nat.reduceMul, Int.reduceToNat, Nat.reduceLeDiff, reduceCtorEq, t1, t26, t27, t28, hc, hix _ rfl, hld, hov, hln, q0, q1, q3, r0, r1, c1, c2, c3, c4, c5, c6, c7, hw2, hix2 _ _ (by omega), hld2, qn]
      refine ⟨by decide, ?_⟩
      refine (cmpArcs_c y x _).mono ?_
      rintro r h3 ⟨rfl, hle3⟩
      have hle4 : Hle h h3 := (hle2.skip 13).trans hle3
      have hlt := arcCmp_lt y x
      by_cases c8 : arcCmp y x < 0
      · simp only [go_sem, Nat.reduceEqDiff, Int.reduceLT, Int.reduceLE, Int.reduceEq, Nat.reduceLT, Nat.reduceAdd, Nat.reduceMul, Int.reduceToNat, Nat.reduceLeDiff, reduceCtorEq, t1, t26, t27, t28, hc, hld, hov, hln, c1, c2, c3, c4, c5, c6, c7, c8, hw]
        refine ⟨d - 1, by omega, hle4, i + 1, rfl, by omega, fun k hk => ?_⟩
        by_cases e : k = i
        · subst e; intro x' hx'; rw [hx] at hx'; cases hx'
          exact ⟨hgood, fun y' _ hy' => by rw [hy] at hy'; cases hy'; rw [hlt]; simpa using c8⟩
        · exact hok k (by omega)
      · simp only [go_sem, Nat.reduceEqDiff, Int.reduceLT, Int.reduceLE, Int.reduceEq, Nat.reduceLT, Nat.reduceAdd, Nat.reduceMul, Int.reduceToNat, Nat.reduceLeDiff, reduceCtorEq, t1, t26, t27, t28, hc, hld, hov, hln, c1, c2, c3, c4, c5, c6, c7, c8, hw]
        exact hr _ _ hle4 (by simp [T.get_set]) fun hA => by have := (hA i x hx).2 y (by omega) hy; rw [hlt] at this; simp at this; omega
    · simp only [go_sem, Nat.reduceEqDiff, Int.reduceLT, Int.reduceLE, Int.reduceEq, Nat.reduceLT, Nat.reduceAdd, Nat.reduceMul, Int.reduceToNat, Nat.reduceLeDiff, reduceCtorEq, t1, t26, t27, t28, hc, hix _ rfl, hld, hov, hln, q0, q1, q3, r0, c1, c2, c3, c4, c5, c6, c7, hw]
      refine ⟨d - 1, by omega, (hle2.skip 13), i + 1, rfl, by omega, fun k hk => ?_⟩
      by_cases e : k = i
      · subst e; intro x' hx'; rw [hx] at hx'; cases hx'
        exact ⟨hgood, fun y' hy0 _ => by omega⟩
      · exact hok k (by omega)
  · simp only [go_sem, Nat.reduceEqDiff, Int.reduceLT, Int.reduceLE, Int.reduceEq, Nat.reduceLT, Nat.reduceAdd, Nat.reduceMul, Int.reduceToNat, Nat.reduceLeDiff, reduceCtorEq, t1, t26, t27, t28, hc]
    exact hq _ _ hle (by simp [T.get_set, t1]) (ArcsP.of fun j hj => hok j (by omega))
set_option maxHeartbeats 1000000 in
theorem check_l1 {Qn Qr : Fr → AHeap → Prop} {Qx : Nat → Fr → AHeap → Prop} (A : AutoS) (p : Nat) (ve : AVal) (fr : Fr) (h : AHeap) (hp : p < h.next) (hn : ldA h p 0 = some (.int .i64 A.n)) (h1 : ldA h p 2 = some ve) (hv : EndsA h ve A.ends) (hl : A.ends.length ≤ 9223372036854775807)
    (t1 : fr.get 1 = some (.ptr p 0)) (t26 : fr.get 81 = some ve) (t27 : fr.get 82 = some (.int .i64 (A.ends.length : Int))) (t28 : fr.get 83 = some (.int .i64 0))
    (hq : ∀ fr h', Hle h h' → EndsP A.n A.ends → Qx 2 fr h') (hr : ∀ fr h', Hle h h' → fr.get 2 = some (.int .i64 1) → ¬ EndsP A.n A.ends → Qr fr h') : wp E2 (.loop cCheck_l1) fr h Qn Qx Qr := by
  refine b_loop (fun d fr h' => Hle h h' ∧ fr.get 1 = some (.ptr p 0) ∧ fr.get 81 = some ve ∧ fr.get 82 = some (.int .i64 (A.ends.length : Int)) ∧ ∃ i : Nat, fr.get 83 = some (.int .i64 (i : Int)) ∧ d + i = A.ends.length ∧ ∀ j, j < i → endAt A.n A.ends j) A.ends.length ?_ ?_
  · exact ⟨Hle.refl h, t1, t26, t27, 0, t28, by omega, fun j hj => by omega⟩
  clear t1 t26 t27 t28
  rintro d fr h' ⟨hle, t1, t26, t27, i, t28, hd, hok⟩
  have hn := (hle.ldA hp 0).trans hn
  have h1 := (hle.ldA hp 2).trans h1
  have hv := hv.mono hle
  have hp' := hle.next
  unfold cCheck_l1
  by_cases hc : (i : Int) < (A.ends.length : Int)
  · obtain ⟨x, hx⟩ : ∃ x, A.ends[i]? = some x := ⟨_, List.getElem?_eq_getElem (by omega)⟩
    obtain ⟨b, o, hrow, hix⟩ := hv.ix hx
    have hix := hix .i64 (i : Int) h'
    have hld : ldN h' b o 2 = some (endC x) := by
      have := hrow.ldN (i := 0) (n := 2) (by simp [endC])
      simpa [endC] using this
    have hbad : ¬ endOk A.n x → ¬ EndsP A.n A.ends := fun hb hA => hb (hA i x hx).1
    have hle2 : Hle h ((h'.push (.cells (endC x) 87)).skip 36) := (hle.push _).skip 36
    have q0 : ldA (h'.push (.cells (endC x) 87)) h'.next 0 = some (.int .i64 x.st) := by rw [ldA_push_new]; rfl
    have q1 : ldA (h'.push (.cells (endC x) 87)) h'.next 1 = some (.int .i64 x.c) := by rw [ldA_push_new]; rfl
    have r0 : ldA (h'.push (.cells (endC x) 87)) p 0 = some (.int .i64 A.n) := by rw [ldA_push_old (by omega)]; exact hn
    have r1 : ldA (h'.push (.cells (endC x) 87)) p 2 = some ve := by rw [ldA_push_old (by omega)]; exact h1
    have hov : over [AVal.int .i64 0, .int .i64 0] 0 (endC x) = endC x := rfl
    have hln : (endC x).length = 2 := rfl
    have hvv : EndsA (h'.push (.cells (endC x) 87)) ve A.ends := hv.mono ((Hle.refl h').push _)
    have hw : IntKind.i64.wrap ((i : Int) + 1) = ((i + 1 : Nat) : Int) := by rw [wrap_i64 (by omega) (by omega)]; push_cast; rfl
    by_cases c1 : x.st < 0
    · simp only [go_sem, Nat.reduceEqDiff, Int.reduceLT, Int.reduceLE, Int.reduceEq, Nat.reduceLT, Nat.reduceAdd, Nat.reduceMul, Int.reduceToNat, Nat.reduceLeDiff, reduceCtorEq, t1, t26, t27, t28, hc, hix _ rfl, hld, hov, hln, q0, c1]
      exact hr _ _ hle2 (by simp [T.get_set]) (hbad fun ⟨a, _⟩ => by omega)
    by_cases c2 : x.st < A.n
    rotate_left
    · simp only [go_sem, Nat.reduceEqDiff, Int.reduceLT, Int.reduceLE, Int.reduceEq, Nat.reduceLT, Nat.reduceAdd, Nat.reduceMul, Int.reduceToNat, Nat.reduceLeDiff, reduceCtorEq, t1, t26, t27, t28, hc, hix _ rfl, hld, hov, hln, q0, q1, r0, c1, c2]
      exact hr _ _ hle2 (by simp [T.get_set]) (hbad fun ⟨_, a, _⟩ => by omega)
    by_cases c5 : x.c < 0
    · simp only [go_sem, Nat.reduceEqDiff, Int.reduceLT, Int.reduceLE, Int.reduceEq, Nat.reduceLT, Nat.reduceAdd, Nat.reduceMul, Int.reduceToNat, Nat.reduceLeDiff, reduceCtorEq, t1, t26, t27, t28, hc, hix _ rfl, hld, hov, hln, q0, q1, r0, c1, c2, c5]
      exact hr _ _ hle2 (by simp [T.get_set]) (hbad fun ⟨_, _, a, _⟩ => by omega)
    by_cases c6 : 1000000 < x.c
    · simp only [go_sem, Nat.reduceEqDiff, Int.reduceLT, Int.reduceLE, Int.reduceEq, Nat.reduceLT, Nat.reduceAdd, Nat.reduceMul, Int.reduceToNat, Nat.reduceLeDiff, reduceCtorEq, t1, t26, t27, t28, hc, hix _ rfl, hld, hov, hln, q0, q1, r0, c1, c2, c5, c6]
      exact hr _ _ hle2 (by simp [T.get_set]) (hbad fun ⟨_, _, _, a⟩ => by omega)
    have hgood : endOk A.n x := ⟨by omega, c2, by omega, by omega⟩
    by_cases c7 : (0 : Int) < (i : Int)
    · obtain ⟨y, hy⟩ : ∃ y, A.ends[i - 1]? = some y := ⟨_, List.getElem?_eq_getElem (by omega)⟩
      obtain ⟨b2, o2, hrow2, hix2⟩ := hvv.ix hy
      have hix2 := hix2 .i64 ((i : Int) - 1)
      have hld2 : ldA (h'.push (.cells (endC x) 87)) b2 o2 = some (.int .i64 y.st) := hrow2.ldA (i := 0) rfl
      have hw2 : IntKind.i64.wrap ((i : Int) - 1) = (i : Int) - 1 := wrap_i64 (by omega) (by omega)
      by_cases c8 : y.st < x.st
      · simp only [go_sem, Nat.reduceEqDiff, Int.reduceLT, Int.reduceLE, Int.reduceEq, Nat.reduceLT, Nat.reduceAdd, Nat.reduceMul, Int.reduceToNat, Nat.reduceLeDiff, reduceCtorEq, t1, t26, t27, t28, hc, hix _ rfl, hld, hov, hln, q0, q1, r0, r1, c1, c2, c5, c6, c7, hw2, hix2 _ _ (by omega), hld2, c8, hw]
        refine ⟨d - 1, by omega, hle2, i + 1, rfl, by omega, fun k hk => ?_⟩
        by_cases e : k = i
        · subst e; intro x' hx'; rw [hx] at hx'; cases hx'
          exact ⟨hgood, fun y' _ hy' => by rw [hy] at hy'; cases hy'; exact c8⟩
        · exact hok k (by omega)
      · simp only [go_sem, Nat.reduceEqDiff, Int.reduceLT, Int.reduceLE, Int.reduceEq, Nat.reduceLT, Nat.reduceAdd, Nat.reduceMul, Int.reduceToNat, Nat.reduceLeDiff, reduceCtorEq, t1, t26, t27, t28, hc, hix _ rfl, hld, hov, hln, q0, q1, r0, r1, c1, c2, c5, c6, c7, hw2, hix2 _ _ (by omega), hld2, c8]
        exact hr _ _ hle2 (by simp [T.get_set]) fun hA => c8 ((hA i x hx).2 y (by omega) hy)
    · simp only [go_sem, Nat.reduceEqDiff, Int.reduceLT, Int.reduceLE, Int.reduceEq, Nat.reduceLT, Nat.reduceAdd, Nat.reduceMul, Int.reduceToNat, Nat.reduceLeDiff, reduceCtorEq, t1, t26, t27, t28, hc, hix _ rfl, hld, hov, hln, q0, q1, r0, r1, c1, c2, c5, c6, c7, hw]
      refine ⟨d - 1, by omega, hle2, i + 1, rfl, by omega, fun k hk => ?_⟩
      by_cases e : k = i
      · subst e; intro x' hx'; rw [hx] at hx'; cases hx'
        exact ⟨hgood, fun y' hy0 _ => by omega⟩
      · exact hok k (by omega)
  · simp only [go_sem, Nat.reduceEqDiff, Int.reduceLT, Int.reduceLE, Int.reduceEq, Nat.reduceLT, Nat.reduceAdd, Nat.reduceMul, Int.reduceToNat, Nat.reduceLeDiff, reduceCtorEq, t1, t26, t27, t28, hc]
    exact hq _ _ hle (EndsP.of fun j hj => hok j (by omega))
set_option maxHeartbeats 1000000 in
theorem check_c (A : AutoS) (v : AVal) (h : AHeap) (H : AutoA h v A) : Ec E2 19 [v] h fun r h' => r = .int .i64 (checkZ A) ∧ Hle h h' := by
  obtain ⟨va, ve, rfl, ha, he, hla, hle⟩ := H
  refine Ec.of_wpb (prim2_none (by decide)) codeCheck ?_
  unfold cCheck
  have q0 : ldA (h.push (.cells [.int .i64 A.n, va, ve] 36)) h.next 0 = some (.int .i64 A.n) := by rw [ldA_push_new]; rfl
  have q1 : ldA (h.push (.cells [.int .i64 A.n, va, ve] 36)) h.next 1 = some va := by rw [ldA_push_new]; rfl
  have q2 : ldA (h.push (.cells [.int .i64 A.n, va, ve] 36)) h.next 2 = some ve := by rw [ldA_push_new]; rfl
  have hle1 : Hle h (h.push (.cells [.int .i64 A.n, va, ve] 36)) := (Hle.refl h).push _
  have ha1 := ha.mono hle1
  have he1 := he.mono hle1
  have hnx : (h.push (.cells [.int .i64 A.n, va, ve] 36)).next = h.next + 1 := rfl
  by_cases c1 : 400 < A.n
  · simp only [go_sem, Nat.reduceEqDiff, Int.reduceLT, Int.reduceLE, Int.reduceEq, Nat.reduceLT, Nat.reduceAdd, Nat.reduceMul, Int.reduceToNat, Nat.reduceLeDiff, reduceCtorEq, q0, c1]
    exact ⟨by unfold checkZ; rw [if_pos (.inl c1)], hle1⟩
  by_cases c2 : (4000 : Int) < (A.arcs.length : Int)
  · simp only [go_sem, Nat.reduceEqDiff, Int.reduceLT, Int.reduceLE, Int.reduceEq, Nat.reduceLT, Nat.reduceAdd, Nat.reduceMul, Int.reduceToNat, Nat.reduceLeDiff, reduceCtorEq, q0, q1, c1, ha.len, c2]
    exact ⟨by unfold checkZ; rw [if_pos (.inr (.inl (by omega)))], hle1⟩
  by_cases c3 : (400 : Int) < (A.ends.length : Int)
  · simp only [go_sem, Nat.reduceEqDiff, Int.reduceLT, Int.reduceLE, Int.reduceEq, Nat.reduceLT, Nat.reduceAdd, Nat.reduceMul, Int.reduceToNat, Nat.reduceLeDiff, reduceCtorEq, q0, q1, q2, c1, ha.len, c2, he.len, c3]
    exact ⟨by unfold checkZ; rw [if_pos (.inr (.inr (by omega)))], hle1⟩
  have hz : ¬ (400 < A.n ∨ 4000 < A.arcs.length ∨ 400 < A.ends.length) := by omega
  by_cases c4 : A.n < 1
  · simp only [go_sem, Nat.reduceEqDiff, Int.reduceLT, Int.reduceLE, Int.reduceEq, Nat.reduceLT, Nat.reduceAdd, Nat.reduceMul, Int.reduceToNat, Nat.reduceLeDiff, reduceCtorEq, q0, q1, q2, c1, ha.len, c2, he.len, c3, c4]
    exact ⟨by unfold checkZ; rw [if_neg hz, if_pos c4], hle1⟩
  simp only [go_sem, Nat.reduceEqDiff, Int.reduceLT, Int.reduceLE, Int.reduceEq, Nat.reduceLT, Nat.reduceAdd, Nat.reduceMul, Int.reduceToNat, Nat.reduceLeDiff, reduceCtorEq, q0, q1, q2, c1, ha.len, c2, he.len, c3, c4]
  refine check_l0 A h.next va _ _ (by omega) q0 q1 ha1 hla (by simp [T.get_set]) (by simp [T.get_set]) (by simp [T.get_set]) (by simp [T.get_set]) ?_ ?_
  · intro fr h2 hle2 t1 hA
    have q0 := (hle2.ldA (x := h.next) (by omega) 0).trans q0
    have q2 := (hle2.ldA (x := h.next) (by omega) 2).trans q2
    have he2 := he1.mono hle2
    have hn2 := hle2.next
    simp only [go_sem, Nat.reduceEqDiff, Int.reduceLT, Int.reduceLE, Int.reduceEq, Nat.reduceLT, Nat.reduceAdd, Nat.reduceMul, Int.reduceToNat, Nat.reduceLeDiff, reduceCtorEq, t1, q0, q2, he2.len]
    refine check_l1 A h.next ve _ _ (by omega) q0 q2 he2 hle (by simp [T.get_set, t1]) (by simp [T.get_set]) (by simp [T.get_set]) (by simp [T.get_set]) ?_ ?_
    · intro fr h3 hle3 hE
      simp only [go_sem, Nat.reduceEqDiff, Int.reduceLT, Int.reduceLE, Int.reduceEq, Nat.reduceLT, Nat.reduceAdd, Nat.reduceMul, Int.reduceToNat, Nat.reduceLeDiff, reduceCtorEq]
      exact ⟨by unfold checkZ; rw [if_neg hz, if_neg c4, if_pos ⟨hA, hE⟩], (hle1.trans hle2).trans hle3⟩
    · intro fr h3 hle3 t2 hE
      simp only [go_sem, Nat.reduceEqDiff, Int.reduceLT, Int.reduceLE, Int.reduceEq, Nat.reduceLT, Nat.reduceAdd, Nat.reduceMul, Int.reduceToNat, Nat.reduceLeDiff, reduceCtorEq, t2]
      exact ⟨by unfold checkZ; rw [if_neg hz, if_neg c4, if_neg fun hx => hE hx.2], (hle1.trans hle2).trans hle3⟩
  · intro fr h2 hle2 t2 hA
    simp only [go_sem, Nat.reduceEqDiff, Int.reduceLT, Int.reduceLE, Int.reduceEq, Nat.reduceLT, Nat.reduceAdd, Nat.reduceMul, Int.reduceToNat, Nat.reduceLeDiff, reduceCtorEq, t2]
    exact ⟨by unfold checkZ; rw [if_neg hz, if_neg c4, if_neg fun hx => hA hx.1], hle1.trans hle2⟩
end
end Go.AX
namespace Go.AX
open Go Go.Proofs
noncomputable section
set_option linter.unusedSimpArgs false
set_option linter.unusedVariables false
attribute [local go_sem] b_seq wp_skip wp_exit wp_ret wp_region b_block wops_nil b_ops b_opsg b_cond condV_lite wo_mv b_bin wo_call callV_func wo_pick b_box wo_load1 wo_loadN wo_store wo_nilCheck wo_not wo_lenStr' wo_lenSl wo_ixStr' wo_ixSl wo_fAddr wo_part1 wo_partN wo_extract wo_cInt wo_cStr wo_mkMap wo_mkIface wo_mkFunc wo_lookup pickV_bool ifT_true ifT_false b_loadV b_loadNV b_storeV nilV_ptr nilV_func nilV_iface notV_bool lenStrV_str lenSlV_nil lenSlV_slice b_ixStrV ixSlV_slice fAddrV_ptr b_part1V partNV_agg b_extractV convV_int strV_str evC_tm evC_cn T.get_set putA_some putA_none onO_some evCs_nil evCs_cons appL_nil appL_cons guardOk_true guardOk_false cellsV_bool cellsV_int cellsV_str cellsV_nilptr cellsV_ptr cellsV_nilslice cellsV_slice cellsV_nilmap cellsV_map cellsV_func cellsV_nilfunc cellsV_iface cellsV_niliface cellsV_agg bin_lss bin_gtr bin_leq bin_geq bin_eql bin_neq bin_add bin_sub bin_eqlS bin_neqS mkFrame_nil mkFrame_cons resA_one resA_two resA_three over_0 over_1 over_2 over_3 over_4 over_5 over0_nil over0_cons Option.getD_some if_true if_false AHeap.next_push AVal.bool.injEq decide_eq_true_eq decide_eq_false_iff_not Bool.not_eq_true' Bool.not_eq_false' Bool.not_eq_true decide_true decide_false Bool.not_true Bool.not_false Int.toNat_natCast Int.natCast_nonneg true_and and_true wo_mapPut wp_drawn' wsts_nil b_pure b_read b_new b_wr wor_none b_org rer_nil rer_load1 rer_loadN wo_append AHeap.next_skip AHeap.next_put' AHeap.mk_push_t AHeap.mk_eta AHeap.mk_skip ldA_skip ldN_skip Nat.add_zero Nat.zero_add b_lite_true b_lite_false eq_self_iff_true not_true_eq_false not_false_eq_true bx_k bx_q bx_x bx_1 undefA_bool putAt_push List.length_cons List.length_nil Nat.le_refl ldA_push_new ldN_push_new List.getElem?_cons_zero List.getElem?_cons_succ List.drop_zero List.drop_succ_cons List.take_succ_cons List.take_zero b_build b_buildSlice evParts_nil evParts_cons b_fillA_nil b_fillA nbeq nble natadd natmul lenL_eq repL_1 repL_2 repL_3 wo_sliceData sdV_nil sdV_slice wo_unsafeStr usV_nil wo_slStr slStrV_str evCo_none evCo_some boundA_none Bool.and_true Bool.true_and wo_minmax2' mm2V_int
end
end Go.AX
namespace Go.AX
open Go Go.Proofs
noncomputable section
set_option linter.unusedSimpArgs false
set_option linter.unusedVariables false
attribute [local go_sem] b_seq wp_skip wp_exit wp_ret wp_region b_block wops_nil b_ops b_opsg b_cond condV_lite wo_mv b_bin wo_call callV_func wo_pick b_box wo_load1 wo_loadN wo_store wo_nilCheck wo_not wo_lenStr' wo_lenSl wo_ixStr' wo_ixSl wo_fAddr wo_part1 wo_partN wo_extract wo_cInt wo_cStr wo_mkMap wo_mkIface wo_mkFunc wo_lookup pickV_bool ifT_true ifT_false b_loadV b_loadNV b_storeV nilV_ptr nilV_func nilV_iface notV_bool lenStrV_str lenSlV_nil lenSlV_slice b_ixStrV ixSlV_slice fAddrV_ptr b_part1V partNV_agg b_extractV convV_int strV_str evC_tm evC_cn T.get_set putA_some putA_none onO_some evCs_nil evCs_cons appL_nil appL_cons guardOk_true guardOk_false cellsV_bool cellsV_int cellsV_str cellsV_nilptr cellsV_ptr cellsV_nilslice cellsV_slice cellsV_nilmap cellsV_map cellsV_func cellsV_nilfunc cellsV_iface cellsV_niliface cellsV_agg bin_lss bin_gtr bin_leq bin_geq bin_eql bin_neq bin_add bin_sub bin_eqlS bin_neqS mkFrame_nil mkFrame_cons resA_one resA_two resA_three over_0 over_1 over_2 over_3 over_4 over_5 over0_nil over0_cons Option.getD_some if_true if_false AHeap.next_push AVal.bool.injEq decide_eq_true_eq decide_eq_false_iff_not Bool.not_eq_true' Bool.not_eq_false' Bool.not_eq_true decide_true decide_false Bool.not_true Bool.not_false Int.toNat_natCast Int.natCast_nonneg true_and and_true wo_mapPut wp_drawn' wsts_nil b_pure b_read b_new b_wr wor_none b_org rer_nil rer_load1 rer_loadN wo_append AHeap.next_skip AHeap.next_put' AHeap.mk_push_t AHeap.mk_eta AHeap.mk_skip ldA_skip ldN_skip Nat.add_zero Nat.zero_add b_lite_true b_lite_false eq_self_iff_true not_true_eq_false not_false_eq_true bx_k bx_q bx_x bx_1 undefA_bool putAt_push List.length_cons List.length_nil Nat.le_refl ldA_push_new ldN_push_new List.getElem?_cons_zero List.getElem?_cons_succ List.drop_zero List.drop_succ_cons List.take_succ_cons List.take_zero b_build b_buildSlice evParts_nil evParts_cons b_fillA_nil b_fillA nbeq nble natadd natmul lenL_eq repL_1 repL_2 repL_3 wo_sliceData sdV_nil sdV_slice wo_unsafeStr usV_nil wo_slStr slStrV_str evCo_none evCo_some boundA_none Bool.and_true Bool.true_and wo_minmax2' mm2V_int
set_option maxHeartbeats 1000000 in
theorem rcheck_l0 {Qn Qr : Fr → AHeap → Prop} {Qx : Nat → Fr → AHeap → Prop} (A : AutoS) (p : Nat) (va : AVal) (fr : Fr) (h : AHeap) (hp : p < h.next) (hn : ldA h p 0 = some (.int .i64 A.n)) (h1 : ldA h p 1 = some va) (hv : ArcsA h va A.arcs) (hl : A.arcs.length ≤ 9223372036854775807)
    (t1 : fr.get 1 = some (.ptr p 0)) (t3 : fr.get 3 = some (.int .i64 0))
    (hq : ∀ fr h', Hle h h' → fr.get 1 = some (.ptr p 0) → ArcsP A.n A.arcs → Qx 0 fr h') (hr : ∀ fr h', Hle h h' → fr.get 2 = some (.int .i64 1) → ¬ ArcsP A.n A.arcs → Qr fr h') : wp E2 (.loop cRCheck_l0) fr h Qn Qx Qr := by
  refine b_loop (fun d fr h' => Hle h h' ∧ fr.get 1 = some (.ptr p 0) ∧ ∃ i : Nat, fr.get 3 = some (.int .i64 (i : Int)) ∧ d + i = A.arcs.length ∧ ∀ j, j < i → arcAt A.n A.arcs j) A.arcs.length ?_ ?_
  · exact ⟨Hle.refl h, t1, 0, t3, by omega, fun j hj => by omega⟩
  clear t1 t3
  rintro d fr h' ⟨hle, t1, i, t3, hd, hok⟩
  have hn := (hle.ldA hp 0).trans hn
  have h1 := (hle.ldA hp 1).trans h1
  have hv := hv.mono hle
  have hp' := hle.next
  unfold cRCheck_l0
  by_cases hc : (i : Int) < (A.arcs.length : Int)
  · obtain ⟨x, hx⟩ : ∃ x, A.arcs[i]? = some x := ⟨_, List.getElem?_eq_getElem (by omega)⟩
    obtain ⟨b, o, hrow, hix⟩ := hv.ix hx
    have hix := hix .i64 (i : Int) h'
    have hld : ldN h' b o 4 = some (arcC x) := by
      have := hrow.ldN (i := 0) (n := 4) (by simp [arcC])
      simpa [arcC] using this
    have hbad : ¬ arcOk A.n x → ¬ ArcsP A.n A.arcs := fun hb hA => hb (hA i x hx).1
    have hle2 : Hle h (h'.push (.cells (arcC x) 84)) := hle.push _
    have q0 : ldA (h'.push (.cells (arcC x) 84)) h'.next 0 = some (.int .i64 x.fr) := by rw [ldA_push_new]; rfl
    have q1 : ldA (h'.push (.cells (arcC x) 84)) h'.next 1 = some (.int .i64 x.to) := by rw [ldA_push_new]; rfl
    have q2 : ldA (h'.push (.cells (arcC x) 84)) h'.next 2 = some (.int .u8 (x.l : Int)) := by rw [ldA_push_new]; rfl
    have q3 : ldA (h'.push (.cells (arcC x) 84)) h'.next 3 = some (.int .i64 x.c) := by rw [ldA_push_new]; rfl
    have qn : ldN (h'.push (.cells (arcC x) 84)) h'.next 0 4 = some (arcC x) := by rw [ldN_push_new _ _ _ (by simp [arcC])]; rfl
    have r0 : ldA (h'.push (.cells (arcC x) 84)) p 0 = some (.int .i64 A.n) := by rw [ldA_push_old (by omega)]; exact hn
    have r1 : ldA (h'.push (.cells (arcC x) 84)) p 1 = some va := by rw [ldA_push_old (by omega)]; exact h1
    have hov : over [AVal.int .i64 0, .int .i64 0, .int .u8 0, .int .i64 0] 0 (arcC x) = arcC x := rfl
    have hln : (arcC x).length = 4 := rfl
    have hvv : ArcsA (h'.push (.cells (arcC x) 84)) va A.arcs := hv.mono ((Hle.refl h').push _)
    by_cases c1 : x.fr < 0
    · simp only [go_sem, Nat.reduceEqDiff, Int.reduceLT, Int.reduceLE, Int.reduceEq, Nat.reduceLT, Nat.reduceAdd, Nat.reduceMul, Int.reduceToNat, Nat.reduceLeDiff, reduceCtorEq, t1, t3, h1, hv.len, hc, hix _ rfl, hld, hov, hln, q0, c1]
      exact hr _ _ hle2 (by simp [T.get_set]) (hbad fun ⟨a, _⟩ => by omega)
    by_cases c2 : x.fr < x.to
    rotate_left
    · simp only [go_sem, Nat.reduceEqDiff, Int.reduceLT, Int.reduceLE, Int.reduceEq, Nat.reduceLT, Nat.reduceAdd, Nat.reduceMul, Int.reduceToNat, Nat.reduceLeDiff, reduceCtorEq, t1, t3, h1, hv.len, hc, hix _ rfl, hld, hov, hln, q0, q1, c1, c2]
      exact hr _ _ hle2 (by simp [T.get_set]) (hbad fun ⟨_, a, _⟩ => by omega)
    by_cases c3 : x.to < A.n
    rotate_left
    · simp only [go_sem, Nat.reduceEqDiff, Int.reduceLT, Int.reduceLE, Int.reduceEq, Nat.reduceLT, Nat.reduceAdd, Nat.reduceMul, Int.reduceToNat, Nat.reduceLeDiff, reduceCtorEq, t1, t3, h1, hv.len, hc, hix _ rfl, hld, hov, hln, q0, q1, r0, c1, c2, c3]
      exact hr _ _ hle2 (by simp [T.get_set]) (hbad fun ⟨_, _, a, _⟩ => by omega)
    by_cases c5 : x.c < 0
    · simp only [go_sem, Nat.reduceEqDiff, Int.reduceLT, Int.reduceLE, Int.reduceEq, Nat.reduceLT, Nat.reduceAdd, Nat.reduceMul, Int.reduceToNat, Nat.reduceLeDiff, reduceCtorEq, t1, t3, h1, hv.len, hc, hix _ rfl, hld, hov, hln, q0, q1, q3, r0, c1, c2, c3, c5]
      exact hr _ _ hle2 (by simp [T.get_set]) (hbad fun ⟨_, _, _, _, a, _⟩ => by omega)
    by_cases c6 : 1000000 < x.c
    · simp only [go_sem, Nat.reduceEqDiff, Int.reduceLT, Int.reduceLE, Int.reduceEq, Nat.reduceLT, Nat.reduceAdd, Nat.reduceMul, Int.reduceToNat, Nat.reduceLeDiff, reduceCtorEq, t1, t3, h1, hv.len, hc, hix _ rfl, hld, hov, hln, q0, q1, q3, r0, c1, c2, c3, c5, c6]
      exact hr _ _ hle2 (by simp [T.get_set]) (hbad fun ⟨_, _, _, _, _, a⟩ => by omega)
    simp only [go_sem, Nat.reduceEqDiff, Int.reduceLT, Int.reduceLE, Int.reduceEq, Nat.reduceLT, Nat.reduceAdd, Nat.reduceMul, Int.reduceToNat, Nat.reduceLeDiff, reduceCtorEq, t1, t3, h1, hv.len, hc, hix _ rfl, hld, hov, hln, q0, q1, q2, q3, r0, c1, c2, c3, c5, c6]
    refine ⟨by decide, ?_⟩
    refine (place_c x.l _).mono ?_
    rintro r h2 ⟨⟨n, rfl, hn0, _⟩, rfl⟩
    by_cases c4 : n < 0
    · simp only [go_sem, Nat.reduceEqDiff, Int.reduceLT, Int.reduceLE, Int.reduceEq, Nat.reduceLT, Nat.reduceAdd, Nat.reduceMul, Int.reduceToNat, Nat.reduceLeDiff, reduceCtorEq, t1, t3, c4]
      exact hr _ _ hle2 (by simp [T.get_set]) (hbad fun ⟨_, _, _, a, _⟩ => by rw [← hn0] at a; simp at a; omega)
    have c4' : isL x.l = true := by rw [← hn0]; simp; omega
    have hgood : arcOk A.n x := ⟨by omega, c2, c3, c4', by omega, by omega⟩
    have hw : IntKind.i64.wrap ((i : Int) + 1) = ((i + 1 : Nat) : Int) := by rw [wrap_i64 (by omega) (by omega)]; push_cast; rfl
    by_cases c7 : (0 : Int) < (i : Int)
    · obtain ⟨y, hy⟩ : ∃ y, A.arcs[i - 1]? = some y := ⟨_, List.getElem?_eq_getElem (by omega)⟩
      obtain ⟨b2, o2, hrow2, hix2⟩ := hvv.ix hy
      have hix2 := hix2 .i64 ((i : Int) - 1)
      have hld2 : ldN (h'.push (.cells (arcC x) 84)) b2 o2 4 = some (arcC y) := by
        have := hrow2.ldN (i := 0) (n := 4) (by simp [arcC])
        simpa [arcC] using this
      have hw2 : IntKind.i64.wrap ((i : Int) - 1) = (i : Int) - 1 := wrap_i64 (by omega) (by omega)
      simp only [go_sem, Nat.reduceEqDiff, Int.reduceLT, Int.reduceLE, Int.reduceEq, Nat.reduceLT, Nat.reduceAdd, Nat.reduceMul, Int.reduceToNat, Nat.reduceLeDiff, reduceCtorEq, t1, t3, c4, c7, r1, hw2, hix2 _ _ (by omega), hld2, qn]
      refine ⟨by decide, ?_⟩
      refine (before_c y x _).mono ?_
      rintro r h3 ⟨rfl, hle3⟩
      have hle4 : Hle h h3 := (hle2.skip 9).trans hle3
      by_cases c8 : arcLt y x = true
      · simp only [go_sem, Nat.reduceEqDiff, Int.reduceLT, Int.reduceLE, Int.reduceEq, Nat.reduceLT, Nat.reduceAdd, Nat.reduceMul, Int.reduceToNat, Nat.reduceLeDiff, reduceCtorEq, t1, t3, c8, hw]
        refine ⟨d - 1, by omega, hle4, i + 1, rfl, by omega, fun k hk => ?_⟩
        by_cases e : k = i
        · subst e; intro x' hx'; rw [hx] at hx'; cases hx'
          exact ⟨hgood, fun y' _ hy' => by rw [hy] at hy'; cases hy'; exact c8⟩
        · exact hok k (by omega)
      · simp only [go_sem, Nat.reduceEqDiff, Int.reduceLT, Int.reduceLE, Int.reduceEq, Nat.reduceLT, Nat.reduceAdd, Nat.reduceMul, Int.reduceToNat, Nat.reduceLeDiff, reduceCtorEq, t1, t3, c8]
        exact hr _ _ hle4 (by simp [T.get_set]) fun hA => c8 ((hA i x hx).2 y (by omega) hy)
    · simp only [go_sem, Nat.reduceEqDiff, Int.reduceLT, Int.reduceLE, Int.reduceEq, Nat.reduceLT, Nat.reduceAdd, Nat.reduceMul, Int.reduceToNat, Nat.reduceLeDiff, reduceCtorEq, t1, t3, c4, c7, hw]
      refine ⟨d - 1, by omega, hle2, i + 1, rfl, by omega, fun k hk => ?_⟩
      by_cases e : k = i
      · subst e; intro x' hx'; rw [hx] at hx'; cases hx'
        exact ⟨hgood, fun y' hy0 _ => by omega⟩
      · exact hok k (by omega)
  · simp only [go_sem, Nat.reduceEqDiff, Int.reduceLT, Int.reduceLE, Int.reduceEq, Nat.reduceLT, Nat.reduceAdd, Nat.reduceMul, Int.reduceToNat, Nat.reduceLeDiff, reduceCtorEq, t1, t3, h1, hv.len, hc]
    exact hq _ _ hle (by simp [T.get_set, t1]) (ArcsP.of fun j hj => hok j (by omega))
set_option maxHeartbeats 1000000 in
theorem rcheck_l1 {Qn Qr : Fr → AHeap → Prop} {Qx : Nat → Fr → AHeap → Prop} (A : AutoS) (p : Nat) (ve : AVal) (fr : Fr) (h : AHeap) (hp : p < h.next) (hn : ldA h p 0 = some (.int .i64 A.n)) (h1 : ldA h p 2 = some ve) (hv : EndsA h ve A.ends) (hl : A.ends.length ≤ 9223372036854775807)
    (t1 : fr.get 1 = some (.ptr p 0)) (t6 : fr.get 6 = some (.int .i64 0))
    (hq : ∀ fr h', Hle h h' → EndsP A.n A.ends → Qx 2 fr h') (hr : ∀ fr h', Hle h h' → fr.get 2 = some (.int .i64 1) → ¬ EndsP A.n A.ends → Qr fr h') : wp E2 (.loop cRCheck_l1) fr h Qn Qx Qr := by
  refine b_loop (fun d fr h' => Hle h h' ∧ fr.get 1 = some (.ptr p 0) ∧ ∃ i : Nat, fr.get 6 = some (.int .i64 (i : Int)) ∧ d + i = A.ends.length ∧ ∀ j, j < i → endAt A.n A.ends j) A.ends.length ?_ ?_
  · exact ⟨Hle.refl h, t1, 0, t6, by omega, fun j hj => by omega⟩
  clear t1 t6
  rintro d fr h' ⟨hle, t1, i, t6, hd, hok⟩
  have hn := (hle.ldA hp 0).trans hn
  have h1 := (hle.ldA hp 2).trans h1
  have hv := hv.mono hle
  have hp' := hle.next
  unfold cRCheck_l1
  by_cases hc : (i : Int) < (A.ends.length : Int)
  · obtain ⟨x, hx⟩ : ∃ x, A.ends[i]? = some x := ⟨_, List.getElem?_eq_getElem (by omega)⟩
    obtain ⟨b, o, hrow, hix⟩ := hv.ix hx
    have hix := hix .i64 (i : Int) h'
    have hld : ldN h' b o 2 = some (endC x) := by
      have := hrow.ldN (i := 0) (n := 2) (by simp [endC])
      simpa [endC] using this
    have hbad : ¬ endOk A.n x → ¬ EndsP A.n A.ends := fun hb hA => hb (hA i x hx).1
    have hle2 : Hle h ((h'.push (.cells (endC x) 87)).skip 36) := (hle.push _).skip 36
    have q0 : ldA (h'.push (.cells (endC x) 87)) h'.next 0 = some (.int .i64 x.st) := by rw [ldA_push_new]; rfl
    have q1 : ldA (h'.push (.cells (endC x) 87)) h'.next 1 = some (.int .i64 x.c) := by rw [ldA_push_new]; rfl
    have r0 : ldA (h'.push (.cells (endC x) 87)) p 0 = some (.int .i64 A.n) := by rw [ldA_push_old (by omega)]; exact hn
    have r1 : ldA (h'.push (.cells (endC x) 87)) p 2 = some ve := by rw [ldA_push_old (by omega)]; exact h1
    have hov : over [AVal.int .i64 0, .int .i64 0] 0 (endC x) = endC x := rfl
    have hln : (endC x).length = 2 := rfl
    have hvv : EndsA (h'.push (.cells (endC x) 87)) ve A.ends := hv.mono ((Hle.refl h').push _)
    have hw : IntKind.i64.wrap ((i : Int) + 1) = ((i + 1 : Nat) : Int) := by rw [wrap_i64 (by omega) (by omega)]; push_cast; rfl
    by_cases c1 : x.st < 0
    · simp only [go_sem, Nat.reduceEqDiff, Int.reduceLT, Int.reduceLE, Int.reduceEq, Nat.reduceLT, Nat.reduceAdd, Nat.reduceMul, Int.reduceToNat, Nat.reduceLeDiff, reduceCtorEq, t1, t6, h1, hv.len, hc, hix _ rfl, hld, hov, hln, q0, c1]
      exact hr _ _ hle2 (by simp [T.get_set]) (hbad fun ⟨a, _⟩ => by omega)
    by_cases c2 : x.st < A.n
    rotate_left
    · simp only [go_sem, Nat.reduceEqDiff, Int.reduceLT, Int.reduceLE, Int.reduceEq, Nat.reduceLT, Nat.reduceAdd, Nat.reduceMul, Int.reduceToNat, Nat.reduceLeDiff, reduceCtorEq, t1, t6, h1, hv.len, hc, hix _ rfl, hld, hov, hln, q0, q1, r0, c1, c2]
      exact hr _ _ hle2 (by simp [T.get_set]) (hbad fun ⟨_, a, _⟩ => by omega)
    by_cases c5 : x.c < 0
    · simp only [go_sem, Nat.reduceEqDiff, Int.reduceLT, Int.reduceLE, Int.reduceEq, Nat.reduceLT, Nat.reduceAdd, Nat.reduceMul, Int.reduceToNat, Nat.reduceLeDiff, reduceCtorEq, t1, t6, h1, hv.len, hc, hix _ rfl, hld, hov, hln, q0, q1, r0, c1, c2, c5]
      exact hr _ _ hle2 (by simp [T.get_set]) (hbad fun ⟨_, _, a, _⟩ => by omega)
    by_cases c6 : 1000000 < x.c
    · simp only [go_sem, Nat.reduceEqDiff, Int.reduceLT, Int.reduceLE, Int.reduceEq, Nat.reduceLT, Nat.reduceAdd, Nat.reduceMul, Int.reduceToNat, Nat.reduceLeDiff, reduceCtorEq, t1, t6, h1, hv.len, hc, hix _ rfl, hld, hov, hln, q0, q1, r0, c1, c2, c5, c6]
      exact hr _ _ hle2 (by simp [T.get_set]) (hbad fun ⟨_, _, _, a⟩ => by omega)
    have hgood : endOk A.n x := ⟨by omega, c2, by omega, by omega⟩
    by_cases c7 : (0 : Int) < (i : Int)
    · obtain ⟨y, hy⟩ : ∃ y, A.ends[i - 1]? = some y := ⟨_, List.getElem?_eq_getElem (by omega)⟩
      obtain ⟨b2, o2, hrow2, hix2⟩ := hvv.ix hy
      have hix2 := hix2 .i64 ((i : Int) - 1)
      have hld2 : ldA (h'.push (.cells (endC x) 87)) b2 o2 = some (.int .i64 y.st) := hrow2.ldA (i := 0) rfl
      have hw2 : IntKind.i64.wrap ((i : Int) - 1) = (i : Int) - 1 := wrap_i64 (by omega) (by omega)
      by_cases c8 : y.st < x.st
      · simp only [go_sem, Nat.reduceEqDiff, Int.reduceLT, Int.reduceLE, Int.reduceEq, Nat.reduceLT, Nat.reduceAdd, Nat.reduceMul, Int.reduceToNat, Nat.reduceLeDiff, reduceCtorEq, t1, t6, h1, hv.len, hc, hix _ rfl, hld, hov, hln, q0, q1, r0, r1, c1, c2, c5, c6, c7, hw2, hix2 _ _ (by omega), hld2, c8, hw]
        refine ⟨d - 1, by omega, hle2, i + 1, rfl, by omega, fun k hk => ?_⟩
        by_cases e : k = i
        · subst e; intro x' hx'; rw [hx] at hx'; cases hx'
          exact ⟨hgood, fun y' _ hy' => by rw [hy] at hy'; cases hy'; exact c8⟩
        · exact hok k (by omega)
      · simp only [go_sem, Nat.reduceEqDiff, Int.reduceLT, Int.reduceLE, Int.reduceEq, Nat.reduceLT, Nat.reduceAdd, Nat.reduceMul, Int.reduceToNat, Nat.reduceLeDiff, reduceCtorEq, t1, t6, h1, hv.len, hc, hix _ rfl, hld, hov, hln, q0, q1, r0, r1, c1, c2, c5, c6, c7, hw2, hix2 _ _ (by omega), hld2, c8]
        exact hr _ _ hle2 (by simp [T.get_set]) fun hA => c8 ((hA i x hx).2 y (by omega) hy)
    · simp only [go_sem, Nat.reduceEqDiff, Int.reduceLT, Int.reduceLE, Int.reduceEq, Nat.reduceLT, Nat.reduceAdd, Nat.reduceMul, Int.reduceToNat, Nat.reduceLeDiff, reduceCtorEq, t1, t6, h1, hv.len, hc, hix _ rfl, hld, hov, hln, q0, q1, r0, r1, c1, c2, c5, c6, c7, hw]
      refine ⟨d - 1, by omega, hle2, i + 1, rfl, by omega, fun k hk => ?_⟩
      by_cases e : k = i
      · subst e; intro x' hx'; rw [hx] at hx'; cases hx'
        exact ⟨hgood, fun y' hy0 _ => by omega⟩
      · exact hok k (by omega)
  · simp only [go_sem, Nat.reduceEqDiff, Int.reduceLT, Int.reduceLE, Int.reduceEq, Nat.reduceLT, Nat.reduceAdd, Nat.reduceMul, Int.reduceToNat, Nat.reduceLeDiff, reduceCtorEq, t1, t6, h1, hv.len, hc]
    exact hq _ _ hle (EndsP.of fun j hj => hok j (by omega))
set_option maxHeartbeats 1000000 in
theorem rcheck_c (A : AutoS) (v : AVal) (h : AHeap) (H : AutoA h v A) : Ec E2 20 [v] h fun r h' => r = .int .i64 (checkZ A) ∧ Hle h h' := by
  obtain ⟨va, ve, rfl, ha, he, hla, hle⟩ := H
  refine Ec.of_wpb (prim2_none (by decide)) codeRCheck ?_
  unfold cRCheck
  have q0 : ldA (h.push (.cells [.int .i64 A.n, va, ve] 36)) h.next 0 = some (.int .i64 A.n) := by rw [ldA_push_new]; rfl
  have q1 : ldA (h.push (.cells [.int .i64 A.n, va, ve] 36)) h.next 1 = some va := by rw [ldA_push_new]; rfl
  have q2 : ldA (h.push (.cells [.int .i64 A.n, va, ve] 36)) h.next 2 = some ve := by rw [ldA_push_new]; rfl
  have hle1 : Hle h (h.push (.cells [.int .i64 A.n, va, ve] 36)) := (Hle.refl h).push _
  have ha1 := ha.mono hle1
  have he1 := he.mono hle1
  have hnx : (h.push (.cells [.int .i64 A.n, va, ve] 36)).next = h.next + 1 := rfl
  by_cases c1 : 400 < A.n
  · simp only [go_sem, Nat.reduceEqDiff, Int.reduceLT, Int.reduceLE, Int.reduceEq, Nat.reduceLT, Nat.reduceAdd, Nat.reduceMul, Int.reduceToNat, Nat.reduceLeDiff, reduceCtorEq, q0, c1]
    exact ⟨by unfold checkZ; rw [if_pos (.inl c1)], hle1⟩
  by_cases c2 : (4000 : Int) < (A.arcs.length : Int)
  · simp only [go_sem, Nat.reduceEqDiff, Int.reduceLT, Int.reduceLE, Int.reduceEq, Nat.reduceLT, Nat.reduceAdd, Nat.reduceMul, Int.reduceToNat, Nat.reduceLeDiff, reduceCtorEq, q0, q1, c1, ha.len, c2]
    exact ⟨by unfold checkZ; rw [if_pos (.inr (.inl (by omega)))], hle1⟩
  by_cases c3 : (400 : Int) < (A.ends.length : Int)
  · simp only [go_sem, Nat.reduceEqDiff, Int.reduceLT, Int.reduceLE, Int.reduceEq, Nat.reduceLT, Nat.reduceAdd, Nat.reduceMul, Int.reduceToNat, Nat.reduceLeDiff, reduceCtorEq, q0, q1, q2, c1, ha.len, c2, he.len, c3]
    exact ⟨by unfold checkZ; rw [if_pos (.inr (.inr (by omega)))], hle1⟩
  have hz : ¬ (400 < A.n ∨ 4000 < A.arcs.length ∨ 400 < A.ends.length) := by omega
  by_cases c4 : A.n < 1
  · simp only [go_sem, Nat.reduceEqDiff, Int.reduceLT, Int.reduceLE, Int.reduceEq, Nat.reduceLT, Nat.reduceAdd, Nat.reduceMul, Int.reduceToNat, Nat.reduceLeDiff, reduceCtorEq, q0, q1, q2, c1, ha.len, c2, he.len, c3, c4]
    exact ⟨by unfold checkZ; rw [if_neg hz, if_pos c4], hle1⟩
  simp only [go_sem, Nat.reduceEqDiff, Int.reduceLT, Int.reduceLE, Int.reduceEq, Nat.reduceLT, Nat.reduceAdd, Nat.reduceMul, Int.reduceToNat, Nat.reduceLeDiff, reduceCtorEq, q0, q1, q2, c1, ha.len, c2, he.len, c3, c4]
  refine rcheck_l0 A h.next va _ _ (by omega) q0 q1 ha1 hla (by simp [T.get_set]) (by simp [T.get_set]) ?_ ?_
  · intro fr h2 hle2 t1 hA
    have q0 := (hle2.ldA (x := h.next) (by omega) 0).trans q0
    have q2 := (hle2.ldA (x := h.next) (by omega) 2).trans q2
    have he2 := he1.mono hle2
    have hn2 := hle2.next
    simp only [go_sem, Nat.reduceEqDiff, Int.reduceLT, Int.reduceLE, Int.reduceEq, Nat.reduceLT, Nat.reduceAdd, Nat.reduceMul, Int.reduceToNat, Nat.reduceLeDiff, reduceCtorEq, t1, q0, q2, he2.len]
    refine rcheck_l1 A h.next ve _ _ (by omega) q0 q2 he2 hle (by simp [T.get_set, t1]) (by simp [T.get_set]) ?_ ?_
    · intro fr h3 hle3 hE
      simp only [go_sem, Nat.reduceEqDiff, Int.reduceLT, Int.reduceLE, Int.reduceEq, Nat.reduceLT, Nat.reduceAdd, Nat.reduceMul, Int.reduceToNat, Nat.reduceLeDiff, reduceCtorEq]
      exact ⟨by unfold checkZ; rw [if_neg hz, if_neg c4, if_pos ⟨hA, hE⟩], (hle1.trans hle2).trans hle3⟩
    · intro fr h3 hle3 t2 hE
      simp only [go_sem, Nat.reduceEqDiff, Int.reduceLT, Int.reduceLE, Int.reduceEq, Nat.reduceLT, Nat.reduceAdd, Nat.reduceMul, Int.reduceToNat, Nat.reduceLeDiff, reduceCtorEq, t2]
      exact ⟨by unfold checkZ; rw [if_neg hz, if_neg c4, if_neg fun hx => hE hx.2], (hle1.trans hle2).trans hle3⟩
  · intro fr h2 hle2 t2 hA
    simp only [go_sem, Nat.reduceEqDiff, Int.reduceLT, Int.reduceLE, Int.reduceEq, Nat.reduceLT, Nat.reduceAdd, Nat.reduceMul, Int.reduceToNat, Nat.reduceLeDiff, reduceCtorEq, t2]
    exact ⟨by unfold checkZ; rw [if_neg hz, if_neg c4, if_neg fun hx => hA hx.1], hle1.trans hle2⟩
end
end Go.AX
namespace Go.AX
open Go Go.Proofs
noncomputable section
set_option linter.unusedSimpArgs false
set_option linter.unusedVariables false
attribute [local go_sem] b_seq wp_skip wp_exit wp_ret wp_region b_block wops_nil b_ops b_opsg b_cond condV_lite wo_mv b_bin wo_call callV_func wo_pick b_box wo_load1 wo_loadN wo_store wo_nilCheck wo_not wo_lenStr' wo_lenSl wo_ixStr' wo_ixSl wo_fAddr wo_part1 wo_partN wo_extract wo_cInt wo_cStr wo_mkMap wo_mkIface wo_mkFunc wo_lookup pickV_bool ifT_true ifT_false b_loadV b_loadNV b_storeV nilV_ptr nilV_func nilV_iface notV_bool lenStrV_str lenSlV_nil lenSlV_slice b_ixStrV ixSlV_slice fAddrV_ptr b_part1V partNV_agg b_extractV convV_int strV_str evC_tm evC_cn T.get_set putA_some putA_none onO_some evCs_nil evCs_cons appL_nil appL_cons guardOk_true guardOk_false cellsV_bool cellsV_int cellsV_str cellsV_nilptr cellsV_ptr cellsV_nilslice cellsV_slice cellsV_nilmap cellsV_map cellsV_func cellsV_nilfunc cellsV_iface cellsV_niliface cellsV_agg bin_lss bin_gtr bin_leq bin_geq bin_eql bin_neq bin_add bin_sub bin_eqlS bin_neqS mkFrame_nil mkFrame_cons resA_one resA_two resA_three over_0 over_1 over_2 over_3 over_4 over_5 over0_nil over0_cons Option.getD_some if_true if_false AHeap.next_push AVal.bool.injEq decide_eq_true_eq decide_eq_false_iff_not Bool.not_eq_true' Bool.not_eq_false' Bool.not_eq_true decide_true decide_false Bool.not_true Bool.not_false Int.toNat_natCast Int.natCast_nonneg true_and and_true wo_mapPut wp_drawn' wsts_nil b_pure b_read b_new b_wr wor_none b_org rer_nil rer_load1 rer_loadN wo_append AHeap.next_skip AHeap.next_put' AHeap.mk_push_t AHeap.mk_eta AHeap.mk_skip ldA_skip ldN_skip Nat.add_zero Nat.zero_add b_lite_true b_lite_false eq_self_iff_true not_true_eq_false not_false_eq_true bx_k bx_q bx_x bx_1 undefA_bool putAt_push List.length_cons List.length_nil Nat.le_refl ldA_push_new ldN_push_new List.getElem?_cons_zero List.getElem?_cons_succ List.drop_zero List.drop_succ_cons List.take_succ_cons List.take_zero b_build b_buildSlice evParts_nil evParts_cons b_fillA_nil b_fillA nbeq nble natadd natmul lenL_eq repL_1 repL_2 repL_3 wo_sliceData sdV_nil sdV_slice wo_unsafeStr usV_nil wo_slStr slStrV_str evCo_none evCo_some boundA_none Bool.and_true Bool.true_and wo_minmax2' mm2V_int
def Bld (A : Nat → Prop) (h : AHeap) (b : Nat) (bs : List Nat) : Prop := b < h.next ∧ ¬ A b ∧ ∃ x buf, h.get b = some (.cells [x, buf] 52) ∧ (x = .nilptr ∨ x = .ptr b 0) ∧ OwnL h 1 5 buf (ofBytes bs) ∧ (∀ c, blkOf buf c → c ≠ b ∧ ¬ A c) ∧ (bs = [] → buf = .nilslice)
theorem Bld.push {A : Nat → Prop} {h : AHeap} {b : Nat} {bs : List Nat} (H : Bld A h b bs) (o : AObj) : Bld (fun c => A c ∨ c = h.next) (h.push o) b bs := by
  obtain ⟨h1, h2, x, buf, h3, h4, h5, h6, h7⟩ := H
  refine ⟨by simp [AHeap.next_push]; omega, fun e => e.elim h2 (fun e => by omega), x, buf, by rw [AHeap.get_push_ne _ _ (by omega)]; exact h3, h4, h5.frame (by simp [AHeap.next_push]) (fun c hc => AHeap.get_push_ne _ _ (by have := h5.blk hc; omega)), fun c hc => ⟨(h6 c hc).1, fun e => e.elim (h6 c hc).2 (fun e => by have := h5.blk hc; omega)⟩, h7⟩
theorem Bld.sub {A A' : Nat → Prop} {h : AHeap} {b : Nat} {bs : List Nat} (H : Bld A h b bs) (hA : ∀ c, A' c → A c) : Bld A' h b bs := by
  obtain ⟨h1, h2, x, buf, h3, h4, h5, h6, h7⟩ := H
  exact ⟨h1, fun e => h2 (hA _ e), x, buf, h3, h4, h5, fun c hc => ⟨(h6 c hc).1, fun e => (h6 c hc).2 (hA _ e)⟩, h7⟩
theorem Bld.new {A : Nat → Prop} {h : AHeap} (hA : ¬ A h.next) : Bld A (h.push (.cells [.nilptr, .nilslice] 52)) h.next [] :=
  ⟨by simp [AHeap.next_push], hA, _, _, AHeap.get_push_same _ _, .inl rfl, .inl ⟨rfl, rfl⟩, (fun c ⟨_, _, _, _, hc⟩ => by cases hc), fun _ => rfl⟩
end
end Go.AX
namespace Go.AX
open Go Go.Proofs
noncomputable section
set_option linter.unusedSimpArgs false
set_option linter.unusedVariables false
attribute [local go_sem] b_seq wp_skip wp_exit wp_ret wp_region b_block wops_nil b_ops b_opsg b_cond condV_lite wo_mv b_bin wo_call callV_func wo_pick b_box wo_load1 wo_loadN wo_store wo_nilCheck wo_not wo_lenStr' wo_lenSl wo_ixStr' wo_ixSl wo_fAddr wo_part1 wo_partN wo_extract wo_cInt wo_cStr wo_mkMap wo_mkIface wo_mkFunc wo_lookup pickV_bool ifT_true ifT_false b_loadV b_loadNV b_storeV nilV_ptr nilV_func nilV_iface notV_bool lenStrV_str lenSlV_nil lenSlV_slice b_ixStrV ixSlV_slice fAddrV_ptr b_part1V partNV_agg b_extractV convV_int strV_str evC_tm evC_cn T.get_set putA_some putA_none onO_some evCs_nil evCs_cons appL_nil appL_cons guardOk_true guardOk_false cellsV_bool cellsV_int cellsV_str cellsV_nilptr cellsV_ptr cellsV_nilslice cellsV_slice cellsV_nilmap cellsV_map cellsV_func cellsV_nilfunc cellsV_iface cellsV_niliface cellsV_agg bin_lss bin_gtr bin_leq bin_geq bin_eql bin_neq bin_add bin_sub bin_eqlS bin_neqS mkFrame_nil mkFrame_cons resA_one resA_two resA_three over_0 over_1 over_2 over_3 over_4 over_5 over0_nil over0_cons Option.getD_some if_true if_false AHeap.next_push AVal.bool.injEq decide_eq_true_eq decide_eq_false_iff_not Bool.not_eq_true' Bool.not_eq_false' Bool.not_eq_true decide_true decide_false Bool.not_true Bool.not_false Int.toNat_natCast Int.natCast_nonneg true_and and_true wo_mapPut wp_drawn' wsts_nil b_pure b_read b_new b_wr wor_none b_org rer_nil rer_load1 rer_loadN wo_append AHeap.next_skip AHeap.next_put' AHeap.mk_push_t AHeap.mk_eta AHeap.mk_skip ldA_skip ldN_skip Nat.add_zero Nat.zero_add b_lite_true b_lite_false eq_self_iff_true not_true_eq_false not_false_eq_true bx_k bx_q bx_x bx_1 undefA_bool putAt_push List.length_cons List.length_nil Nat.le_refl ldA_push_new ldN_push_new List.getElem?_cons_zero List.getElem?_cons_succ List.drop_zero List.drop_succ_cons List.take_succ_cons List.take_zero b_build b_buildSlice evParts_nil evParts_cons b_fillA_nil b_fillA nbeq nble natadd natmul lenL_eq repL_1 repL_2 repL_3 wo_sliceData sdV_nil sdV_slice wo_unsafeStr usV_nil wo_slStr slStrV_str evCo_none evCo_some boundA_none Bool.and_true Bool.true_and wo_minmax2' mm2V_int
def allV (cells : List (List Alt)) : Prop := ∀ c, c ∈ cells → validP c
instance (cells : List (List Alt)) : Decidable (allV cells) := Classical.propDecidable _
theorem allV.snoc {cells : List (List Alt)} {i : Nat} {c : List Alt} (hc : cells[i]? = some c) (h : allV (cells.take i)) (hv : validP c) : allV (cells.take (i + 1)) := by
  rw [List.take_add_one, hc]
  intro x hx
  rcases List.mem_append.1 hx with hx | hx
  · exact h x hx
  · simp at hx; subst hx; exact hv
end
end Go.AX

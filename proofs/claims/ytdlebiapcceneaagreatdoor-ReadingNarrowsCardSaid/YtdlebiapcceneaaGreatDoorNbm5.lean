/-
  Contracts of functions of this seat, for every input that each theorem names.
-/
import Derived.Test.YtdlebiapcceneaaGreatDoorNbm4
import Derived.Test.YtdlebiapcceneaaGreatDoorNbm1
set_option linter.unusedVariables false
set_option linter.unusedSimpArgs false
set_option linter.unusedSectionVars false
namespace Go.AX
open Go Go.Proofs
noncomputable section
set_option linter.unusedSimpArgs false
set_option linter.unusedVariables false
attribute [local go_sem] b_seq wp_skip wp_exit wp_ret wp_region b_block wops_nil b_ops b_opsg b_cond condV_lite wo_mv b_bin wo_call callV_func wo_pick b_box wo_load1 wo_loadN wo_store wo_nilCheck wo_not wo_lenStr' wo_lenSl wo_ixStr' wo_ixSl wo_fAddr wo_part1 wo_partN wo_extract wo_cInt wo_cStr wo_mkMap wo_mkIface wo_mkFunc wo_lookup pickV_bool ifT_true ifT_false b_loadV b_loadNV b_storeV nilV_ptr nilV_func nilV_iface notV_bool lenStrV_str lenSlV_nil lenSlV_slice b_ixStrV ixSlV_slice fAddrV_ptr b_part1V partNV_agg b_extractV convV_int strV_str evC_tm evC_cn T.get_set putA_some putA_none onO_some evCs_nil evCs_cons appL_nil appL_cons guardOk_true guardOk_false cellsV_bool cellsV_int cellsV_str cellsV_nilptr cellsV_ptr cellsV_nilslice cellsV_slice cellsV_nilmap cellsV_map cellsV_func cellsV_nilfunc cellsV_iface cellsV_niliface cellsV_agg bin_lss bin_gtr bin_leq bin_geq bin_eql bin_neq bin_add bin_sub bin_eqlS bin_neqS mkFrame_nil mkFrame_cons resA_one resA_two resA_three over_0 over_1 over_2 over_3 over_4 over_5 over0_nil over0_cons Option.getD_some if_true if_false AHeap.next_push AVal.bool.injEq decide_eq_true_eq decide_eq_false_iff_not Bool.not_eq_true' Bool.not_eq_false' Bool.not_eq_true decide_true decide_false Bool.not_true Bool.not_false Int.toNat_natCast Int.natCast_nonneg true_and and_true wo_mapPut wp_drawn' wsts_nil b_pure b_read b_new b_wr wor_none b_org rer_nil rer_load1 rer_loadN wo_append AHeap.next_skip AHeap.next_put' AHeap.mk_push_t AHeap.mk_eta AHeap.mk_skip ldA_skip ldN_skip Nat.add_zero Nat.zero_add b_lite_true b_lite_false eq_self_iff_true not_true_eq_false not_false_eq_true bx_k bx_q bx_x bx_1 undefA_bool putAt_push List.length_cons List.length_nil Nat.le_refl ldA_push_new ldN_push_new List.getElem?_cons_zero List.getElem?_cons_succ List.drop_zero List.drop_succ_cons List.take_succ_cons List.take_zero b_build b_buildSlice evParts_nil evParts_cons b_fillA_nil b_fillA nbeq nble natadd natmul lenL_eq repL_1 repL_2 repL_3 wo_sliceData sdV_nil sdV_slice wo_unsafeStr usV_nil wo_slStr slStrV_str evCo_none evCo_some boundA_none Bool.and_true Bool.true_and wo_minmax2' mm2V_int
set_option maxHeartbeats 1000000 in
theorem narrowR_l0 {Qn Qr : Fr → AHeap → Prop} {Qx : Nat → Fr → AHeap → Prop} (c d : List Alt) (wo cl : List (List Alt)) (g h1 : AHeap) (b : Nat) (v w out : AVal) (i : Nat) (fr : Fr) (hH : CellsA g v wo) (hG : CellsA g w cl) (hci : wo[i]? = some c) (hcl : cl[i]? = some d) (hc8 : c.length ≤ 8) (hvd : validP d) (hle : Hle g h1) (hb : BoxL (fun c => c < g.next) h1 b [])
    (t0 : fr.get 0 = some v) (t1 : fr.get 1 = some w) (t8 : fr.get 8 = some out) (t9 : fr.get 9 = some (.int .i64 (i : Int))) (t10 : fr.get 10 = some (.ptr b 0)) (t11 : fr.get 11 = some (.int .i64 0))
    (hq : ∀ fr h', fr.get 0 = some v → fr.get 1 = some w → fr.get 8 = some out → fr.get 9 = some (.int .i64 (i : Int)) → fr.get 10 = some (.ptr b 0) → Hle g h' → BoxL (fun c => c < g.next) h' b (narrowC c d) → Qx 2 fr h') : wp E2 (.loop c31_l0) fr h1 Qn Qx Qr := by
  refine b_loop (fun e fr h' => fr.get 0 = some v ∧ fr.get 1 = some w ∧ fr.get 8 = some out ∧ fr.get 9 = some (.int .i64 (i : Int)) ∧ fr.get 10 = some (.ptr b 0) ∧ ∃ k : Nat, fr.get 11 = some (.int .i64 (k : Int)) ∧ e + k = c.length ∧ Hle g h' ∧ BoxL (fun c => c < g.next) h' b (narrowC (c.take k) d)) c.length ?_ ?_
  · exact ⟨t0, t1, t8, t9, t10, 0, t11, by omega, hle, by simpa [narrowC] using hb⟩
  clear hle hb t0 t1 t8 t9 t10 t11
  rintro e fr h' ⟨t0, t1, t8, t9, t10, k, t11, he, hle, hb⟩
  obtain ⟨b2, o2, x, hb2, hix, hl0, _, hx, _⟩ := hH.at hci
  have hl0' : ldA h' b2 o2 = some x := (hle.ldA hb2 o2).trans hl0
  unfold c31_l0
  simp only [go_sem, Nat.reduceEqDiff, Int.reduceLT, Int.reduceLE, Int.reduceEq, Nat.reduceLT, Nat.reduceAdd, Nat.reduceMul, Int.reduceToNat, Nat.reduceLeDiff, reduceCtorEq, t0, t1, t8, t9, t10, t11, hix, hl0', hx.len]
  refine b_lite (fun hc => ?_) (fun hc => ?_)
  · obtain ⟨⟨s, z⟩, hak⟩ : ∃ a, c[k]? = some a := ⟨_, List.getElem?_eq_getElem (by omega)⟩
    obtain ⟨b4, o4, hb4, hiy, hm0, hm1, hN⟩ := (hx.mono hle).at hak
    obtain ⟨b3, o3, y, hb3, hiz, _, hlN0, hy, hyf⟩ := hG.at hcl
    have hn1 := narrowC_snoc (d := d) hak
    rw [narrow1_cost hvd] at hn1
    have hlen := narrowC_len (c.take k) d
    have hlen1 : (c.take k).length ≤ 8 := by rw [List.length_take]; omega
    have hlen2 : (c.take k).length * d.length ≤ 8 * 8 := Nat.mul_le_mul hlen1 hvd.2.1
    have hbp := hb.push (.cells [.str s, .int .i64 z] 57)
    have hw0 : ldA (h'.push (.cells [.str s, .int .i64 z] 57)) h'.next 0 = some (.str s) := by rw [ldA_push_new]; rfl
    have hw1 : ldA (h'.push (.cells [.str s, .int .i64 z] 57)) h'.next 1 = some (.int .i64 z) := by rw [ldA_push_new]; rfl
    have hnx : (h'.push (.cells [.str s, .int .i64 z] 57)).next = h'.next + 1 := rfl
    have hle2 : Hle g (h'.push (.cells [.str s, .int .i64 z] 57)) := hle.push _
    have hlN : ldN (h'.push (.cells [.str s, .int .i64 z] 57)) b3 o3 1 = some [y] := (hle2.ldN hb3 o3 1).trans hlN0
    simp only [go_sem, Nat.reduceEqDiff, Int.reduceLT, Int.reduceLE, Int.reduceEq, Nat.reduceLT, Nat.reduceAdd, Nat.reduceMul, Int.reduceToNat, Nat.reduceLeDiff, reduceCtorEq, t0, t1, t8, t9, t10, t11, hix, hl0', hiy, hN]
    generalize h'.push (.cells [.str s, .int .i64 z] 57) = h3 at *
    simp only [go_sem, Nat.reduceEqDiff, Int.reduceLT, Int.reduceLE, Int.reduceEq, Nat.reduceLT, Nat.reduceAdd, Nat.reduceMul, Int.reduceToNat, Nat.reduceLeDiff, reduceCtorEq, t0, t1, t8, t9, t10, t11, hiz, hlN, hw0]
    refine ⟨by decide, ?_⟩
    refine (cost_c d y s _ ?_ (by have := hvd.2.1; omega)).mono ?_
    · exact hy.mono (hle2.skip _)
    rintro r h4 ⟨rfl, hle4⟩
    have hle34 : Hle h3 h4 := ((Hle.refl h3).skip _).trans hle4
    have hb4 := hbp.mono hle34
    have hn34 := hle34.next
    obtain ⟨u, _, hu, _⟩ := hb4.ld
    have hw04 : ldA h4 h'.next 0 = some (.str s) := (hle34.ldA (by omega) 0).trans hw0
    have hw14 : ldA h4 h'.next 1 = some (.int .i64 z) := (hle34.ldA (by omega) 1).trans hw1
    by_cases hcp : 0 ≤ costOf d s
    · have hcn : ¬ costOf d s < 0 := by omega
      rw [if_pos hcp] at hn1
      simp only [go_sem, Nat.reduceEqDiff, Int.reduceLT, Int.reduceLE, Int.reduceEq, Nat.reduceLT, Nat.reduceAdd, Nat.reduceMul, Int.reduceToNat, Nat.reduceLeDiff, reduceCtorEq, t0, t1, t8, t9, t10, t11, hcn, hu, hw04, hw14]
      refine hb4.app (fun c hc => by rcases hc with hc | rfl <;> (have := hle2.next; omega)) s _ (by omega) hu ?_
      intro v' h5 h6 hcv hput hb6 hn6 hg6
      simp only [go_sem, Nat.reduceEqDiff, Int.reduceLT, Int.reduceLE, Int.reduceEq, Nat.reduceLT, Nat.reduceAdd, Nat.reduceMul, Int.reduceToNat, Nat.reduceLeDiff, reduceCtorEq, t10, hcv, hput]
      simp only [go_sem, Nat.reduceEqDiff, Int.reduceLT, Int.reduceLE, Int.reduceEq, Nat.reduceLT, Nat.reduceAdd, Nat.reduceMul, Int.reduceToNat, Nat.reduceLeDiff, reduceCtorEq, t0, t1, t8, t9, t10, t11]
      refine ⟨e - 1, by omega, k + 1, ?_, by omega, ?_, ?_⟩
      · rw [wrap_i64 (by omega) (by omega)]; rfl
      · have := hle2.trans hle34
        exact ⟨by have := this.next; omega, fun c hc => by rw [hg6 c (.inl hc)]; exact this.get c hc⟩
      · rw [hn1]
        exact hb6.sub fun c hc => .inl hc
    · have hcn : costOf d s < 0 := by omega
      rw [if_neg hcp] at hn1
      simp only [go_sem, Nat.reduceEqDiff, Int.reduceLT, Int.reduceLE, Int.reduceEq, Nat.reduceLT, Nat.reduceAdd, Nat.reduceMul, Int.reduceToNat, Nat.reduceLeDiff, reduceCtorEq, t0, t1, t8, t9, t10, t11, hcn]
      refine ⟨e - 1, by omega, k + 1, ?_, by omega, hle2.trans hle34, ?_⟩
      · rw [wrap_i64 (by omega) (by omega)]; rfl
      · rw [hn1, List.append_nil]
        exact hb4.sub fun c hc => .inl hc
  · simp only [go_sem, Nat.reduceEqDiff, Int.reduceLT, Int.reduceLE, Int.reduceEq, Nat.reduceLT, Nat.reduceAdd, Nat.reduceMul, Int.reduceToNat, Nat.reduceLeDiff, reduceCtorEq, t0, t1, t8, t9, t10, t11]
    have hk : k = c.length := by omega
    rw [hk, List.take_length] at hb
    exact hq _ _ (by simp [T.get_set, t0]) (by simp [T.get_set, t1]) (by simp [T.get_set, t8]) (by simp [T.get_set, t9]) (by simp [T.get_set, t10]) hle hb
set_option maxHeartbeats 1000000 in
theorem narrowRef_c (wo cl : List (List Alt)) (v w : AVal) (h : AHeap) (H : CellsA h v wo) (G : CellsA h w cl) : Ec E2 31 [v, w] h fun r h' => ∃ u, r = .tup [u, .int .i64 (narrowE wo cl)] ∧ Hle h h' ∧ CellsA h' u (narrowL wo cl) := by
  refine Ec.of_wpb (prim2_none (by decide)) code31 ?_
  unfold c31
  simp only [go_sem, Nat.reduceEqDiff, Int.reduceLT, Int.reduceLE, Int.reduceEq, Nat.reduceLT, Nat.reduceAdd, Nat.reduceMul, Int.reduceToNat, Nat.reduceLeDiff, reduceCtorEq]
  refine ⟨by decide, ?_⟩
  refine (checkCellsR_c wo v h H).mono ?_
  rintro r h1 ⟨rfl, hle1⟩
  by_cases hE : ¬ checkE wo = 0
  · simp only [go_sem, Nat.reduceEqDiff, Int.reduceLT, Int.reduceLE, Int.reduceEq, Nat.reduceLT, Nat.reduceAdd, Nat.reduceMul, Int.reduceToNat, Nat.reduceLeDiff, reduceCtorEq, hE]
    refine ⟨.nilslice, ?_, hle1, ?_⟩
    rotate_left
    · unfold narrowL narrowE
      rw [if_pos hE, if_neg hE]; exact CellsA.nil _
    · unfold narrowE; rw [if_pos hE]
  have hE' := hE
  have hE : checkE wo = 0 := Decidable.not_not.1 hE
  obtain ⟨hl32, hallV⟩ := checkE_ok hE
  simp only [go_sem, Nat.reduceEqDiff, Int.reduceLT, Int.reduceLE, Int.reduceEq, Nat.reduceLT, Nat.reduceAdd, Nat.reduceMul, Int.reduceToNat, Nat.reduceLeDiff, reduceCtorEq, hE]
  refine ⟨by decide, ?_⟩
  refine (checkCellsR_c cl w h1 (G.mono hle1)).mono ?_
  rintro r h2 ⟨rfl, hle2⟩
  by_cases hF : ¬ checkE cl = 0
  · simp only [go_sem, Nat.reduceEqDiff, Int.reduceLT, Int.reduceLE, Int.reduceEq, Nat.reduceLT, Nat.reduceAdd, Nat.reduceMul, Int.reduceToNat, Nat.reduceLeDiff, reduceCtorEq, hE, hF]
    refine ⟨.nilslice, ?_, hle1.trans hle2, ?_⟩
    rotate_left
    · unfold narrowL narrowE
      rw [if_neg hE', if_pos hF, if_neg hF]; exact CellsA.nil _
    · unfold narrowE; rw [if_neg hE', if_pos hF]
  have hF' := hF
  have hF : checkE cl = 0 := Decidable.not_not.1 hF
  obtain ⟨hm32, hcllV⟩ := checkE_ok hF
  by_cases hL : ¬ wo.length = cl.length
  · have hL2 : ¬ ((wo.length : Int) = (cl.length : Int)) := by omega
    simp only [go_sem, Nat.reduceEqDiff, Int.reduceLT, Int.reduceLE, Int.reduceEq, Nat.reduceLT, Nat.reduceAdd, Nat.reduceMul, Int.reduceToNat, Nat.reduceLeDiff, reduceCtorEq, hE, hF, H.len, G.len, hL2]
    refine ⟨.nilslice, ?_, hle1.trans hle2, ?_⟩
    rotate_left
    · unfold narrowL narrowE
      rw [if_neg hE', if_neg hF', if_pos hL, if_neg (by decide)]; exact CellsA.nil _
    · unfold narrowE; rw [if_neg hE', if_neg hF', if_pos hL]
  have hL' := hL
  have hL : wo.length = cl.length := Decidable.not_not.1 hL
  have hL2 : ((wo.length : Int) = (cl.length : Int)) := by omega
  simp only [go_sem, Nat.reduceEqDiff, Int.reduceLT, Int.reduceLE, Int.reduceEq, Nat.reduceLT, Nat.reduceAdd, Nat.reduceMul, Int.reduceToNat, Nat.reduceLeDiff, reduceCtorEq, hE, hF, H.len, G.len, hL2]
  have hzl := narrowZ_len hL
  refine b_loop (fun e fr h' => fr.get 0 = some v ∧ fr.get 1 = some w ∧ ∃ i : Nat, fr.get 9 = some (.int .i64 (i : Int)) ∧ e + i = cl.length ∧ Hle h h' ∧ [] ∉ (narrowZ wo cl).take i ∧ ∃ out, fr.get 8 = some out ∧ OutL h.next h' out ((narrowZ wo cl).take i)) cl.length ?_ ?_
  · exact ⟨by simp [T.get_set], by simp [T.get_set], 0, by simp [T.get_set], by omega, hle1.trans hle2, by simp, .nilslice, by simp [T.get_set], by simpa using OutL.nil _ _⟩
  clear hle1 hle2
  rintro e fr h' ⟨t0, t1, i, t9, he, hle, hno, out, t8, hout⟩
  unfold c31_l1
  simp only [go_sem, Nat.reduceEqDiff, Int.reduceLT, Int.reduceLE, Int.reduceEq, Nat.reduceLT, Nat.reduceAdd, Nat.reduceMul, Int.reduceToNat, Nat.reduceLeDiff, reduceCtorEq, t0, t1, t8, t9, H.len]
  refine b_lite (fun hc => ?_) (fun hc => ?_)
  · obtain ⟨c, hci⟩ : ∃ c, wo[i]? = some c := ⟨_, List.getElem?_eq_getElem (by omega)⟩
    obtain ⟨d, hdi⟩ : ∃ c, cl[i]? = some c := ⟨_, List.getElem?_eq_getElem (by omega)⟩
    have hvc : validP c := hallV c (List.mem_of_getElem? hci)
    have hvd : validP d := hcllV d (List.mem_of_getElem? hdi)
    have hleB : Hle h h' := hle
    have hout1 := hout
    have hbox : BoxL (fun c => c < h'.next) (h'.push (.cells [.nilslice] 55)) h'.next [] := BoxL.new (by omega)
    simp only [go_sem, Nat.reduceEqDiff, Int.reduceLT, Int.reduceLE, Int.reduceEq, Nat.reduceLT, Nat.reduceAdd, Nat.reduceMul, Int.reduceToNat, Nat.reduceLeDiff, reduceCtorEq, t0, t1, t8, t9]
    refine narrowR_l0 c d wo cl h' _ h'.next v w out i _ (H.mono hleB) (G.mono hleB) hci hdi hvc.2.1 hvd ((Hle.refl _).push _) hbox (by simp [T.get_set, t0]) (by simp [T.get_set, t1]) (by simp [T.get_set, t8]) (by simp [T.get_set, t9]) (by simp [T.get_set]) (by simp [T.get_set]) ?_
    intro fr2 h2 u0 u1 u8 u9 u10 hle2 hb2
    obtain ⟨u, _, hu, huN, hown, hblk⟩ := hb2.ld
    have hz := narrowZ_snoc hci hdi
    have hlet : ∀ a, a ∈ narrowC c d → a.1.length ≤ 9223372036854775807 := fun a ha => by
      obtain ⟨b, hb, e⟩ := narrowC_mem ha
      rw [e]
      have := (hvc.2.2.1 b hb).1
      omega
    have hua := hown.alts hlet
    by_cases hnil : narrowC c d = []
    · have hlen0 : ((narrowC c d).length : Int) = 0 := by rw [hnil]; rfl
      simp only [go_sem, Nat.reduceEqDiff, Int.reduceLT, Int.reduceLE, Int.reduceEq, Nat.reduceLT, Nat.reduceAdd, Nat.reduceMul, Int.reduceToNat, Nat.reduceLeDiff, reduceCtorEq, u0, u1, u8, u9, u10, hu, hua.len, hlen0]
      refine ⟨.nilslice, ?_, hleB.trans hle2, ?_⟩
      · have : narrowE wo cl = 8 := by
          have hmem : [] ∈ narrowZ wo cl := by
            have : narrowC c d ∈ (narrowZ wo cl).take (i + 1) := by rw [hz]; simp
            rw [hnil] at this
            exact List.mem_of_mem_take this
          unfold narrowE
          rw [if_neg hE', if_neg hF', if_neg hL', if_pos hmem]
        rw [this]
      · have : ¬ narrowE wo cl = 0 := by
          have hmem : [] ∈ narrowZ wo cl := by
            have : narrowC c d ∈ (narrowZ wo cl).take (i + 1) := by rw [hz]; simp
            rw [hnil] at this
            exact List.mem_of_mem_take this
          unfold narrowE
          rw [if_neg hE', if_neg hF', if_neg hL', if_pos hmem]; decide
        unfold narrowL
        rw [if_neg this]; exact CellsA.nil _
    · have hlen0 : ¬ ((narrowC c d).length : Int) = 0 := fun e => hnil (List.eq_nil_of_length_eq_zero (by omega))
      simp only [go_sem, Nat.reduceEqDiff, Int.reduceLT, Int.reduceLE, Int.reduceEq, Nat.reduceLT, Nat.reduceAdd, Nat.reduceMul, Int.reduceToNat, Nat.reduceLeDiff, reduceCtorEq, u0, u1, u8, u9, u10, hu, huN, hua.len, hlen0, hua.cells]
      refine OutL.app (hout1.keep hle2) (by have := (hleB.trans hle2).next; omega) hua (fun c hc ho => (hblk c hc).2 (hout1.blk ho)) (fun c hc => hown.blk hc) (by rw [List.length_take]; omega) ?_
      intro v' h4 ho4 hn4 hg4
      simp only [go_sem, Nat.reduceEqDiff, Int.reduceLT, Int.reduceLE, Int.reduceEq, Nat.reduceLT, Nat.reduceAdd, Nat.reduceMul, Int.reduceToNat, Nat.reduceLeDiff, reduceCtorEq, u0, u1, u8, u9, u10]
      refine ⟨e - 1, by omega, i + 1, ?_, by omega, ?_, ?_, ?_⟩
      · rw [wrap_i64 (by omega) (by omega)]; rfl
      · have hle3 := hleB.trans hle2
        exact ⟨by have := hle3.next; omega, fun c hc => by rw [hg4 c hc]; exact hle3.get c hc⟩
      · rw [hz]
        intro hm
        rcases List.mem_append.1 hm with hm | hm
        · exact hno hm
        · simp at hm; exact hnil hm
      · rw [hz]; exact ⟨v', rfl, ho4⟩
  · simp only [go_sem, Nat.reduceEqDiff, Int.reduceLT, Int.reduceLE, Int.reduceEq, Nat.reduceLT, Nat.reduceAdd, Nat.reduceMul, Int.reduceToNat, Nat.reduceLeDiff, reduceCtorEq, t0, t1, t8, t9, H.len]
    have hi : i = (narrowZ wo cl).length := by omega
    rw [hi, List.take_length] at hout hno
    have hE0 : narrowE wo cl = 0 := by
      unfold narrowE
      rw [if_neg hE', if_neg hF', if_neg hL', if_neg hno]
    refine ⟨out, by rw [hE0], hle, ?_⟩
    unfold narrowL
    rw [if_pos hE0]
    exact hout.cells
end
end Go.AX
namespace Go.AX
open Go Go.Proofs
noncomputable section
set_option linter.unusedSimpArgs false
set_option linter.unusedVariables false
attribute [local go_sem] b_seq wp_skip wp_exit wp_ret wp_region b_block wops_nil b_ops b_opsg b_cond condV_lite wo_mv b_bin wo_call callV_func wo_pick b_box wo_load1 wo_loadN wo_store wo_nilCheck wo_not wo_lenStr' wo_lenSl wo_ixStr' wo_ixSl wo_fAddr wo_part1 wo_partN wo_extract wo_cInt wo_cStr wo_mkMap wo_mkIface wo_mkFunc wo_lookup pickV_bool ifT_true ifT_false b_loadV b_loadNV b_storeV nilV_ptr nilV_func nilV_iface notV_bool lenStrV_str lenSlV_nil lenSlV_slice b_ixStrV ixSlV_slice fAddrV_ptr b_part1V partNV_agg b_extractV convV_int strV_str evC_tm evC_cn T.get_set putA_some putA_none onO_some evCs_nil evCs_cons appL_nil appL_cons guardOk_true guardOk_false cellsV_bool cellsV_int cellsV_str cellsV_nilptr cellsV_ptr cellsV_nilslice cellsV_slice cellsV_nilmap cellsV_map cellsV_func cellsV_nilfunc cellsV_iface cellsV_niliface cellsV_agg bin_lss bin_gtr bin_leq bin_geq bin_eql bin_neq bin_add bin_sub bin_eqlS bin_neqS mkFrame_nil mkFrame_cons resA_one resA_two resA_three over_0 over_1 over_2 over_3 over_4 over_5 over0_nil over0_cons Option.getD_some if_true if_false AHeap.next_push AVal.bool.injEq decide_eq_true_eq decide_eq_false_iff_not Bool.not_eq_true' Bool.not_eq_false' Bool.not_eq_true decide_true decide_false Bool.not_true Bool.not_false Int.toNat_natCast Int.natCast_nonneg true_and and_true wo_mapPut wp_drawn' wsts_nil b_pure b_read b_new b_wr wor_none b_org rer_nil rer_load1 rer_loadN wo_append AHeap.next_skip AHeap.next_put' AHeap.mk_push_t AHeap.mk_eta AHeap.mk_skip ldA_skip ldN_skip Nat.add_zero Nat.zero_add b_lite_true b_lite_false eq_self_iff_true not_true_eq_false not_false_eq_true bx_k bx_q bx_x bx_1 undefA_bool putAt_push List.length_cons List.length_nil Nat.le_refl ldA_push_new ldN_push_new List.getElem?_cons_zero List.getElem?_cons_succ List.drop_zero List.drop_succ_cons List.take_succ_cons List.take_zero b_build b_buildSlice evParts_nil evParts_cons b_fillA_nil b_fillA nbeq nble natadd natmul lenL_eq repL_1 repL_2 repL_3 wo_sliceData sdV_nil sdV_slice wo_unsafeStr usV_nil wo_slStr slStrV_str evCo_none evCo_some boundA_none Bool.and_true Bool.true_and wo_minmax2' mm2V_int
theorem narrowL_ok (wo cl : List (List Alt)) : (narrowL wo cl).length ≤ 32 ∧ ∀ c, c ∈ narrowL wo cl → c.length ≤ 64 := by
  unfold narrowL
  split
  · rename_i h
    unfold narrowE at h
    split at h
    · rename_i h2; exact absurd h h2
    · rename_i h2
      split at h
      · rename_i h3; exact absurd h h3
      · rename_i h3
        obtain ⟨hl, hv⟩ := checkE_ok (Decidable.not_not.1 h2)
        obtain ⟨hm, hw⟩ := checkE_ok (Decidable.not_not.1 h3)
        refine ⟨?_, fun c hc => ?_⟩
        · unfold narrowZ; rw [List.length_zipWith]; omega
        · unfold narrowZ at hc
          obtain ⟨i, hi⟩ := List.mem_iff_getElem?.1 hc
          rw [List.getElem?_zipWith] at hi
          split at hi
          · rename_i a b ha hb
            have e : narrowC a b = c := Option.some.inj hi
            subst e
            have h1 := (hv a (List.mem_of_getElem? ha)).2.1
            have h2 := (hw b (List.mem_of_getElem? hb)).2.1
            have := narrowC_len a b
            have : a.length * b.length ≤ 8 * 8 := Nat.mul_le_mul h1 h2
            omega
          · cases hi
  · exact ⟨by simp, fun c hc => by cases hc⟩
theorem narrows_law (wo cl : List (List Alt)) (v w : AVal) (h : AHeap) (H : CellsA h v wo) (G : CellsA h w cl) : Ec E2 10 [v, w] h fun r _ => r = .bool true := by
  refine Ec.of_wpb (prim2_none (by decide)) code10 ?_
  unfold c10
  obtain ⟨hok1, hok2⟩ := narrowL_ok wo cl
  simp only [go_sem, Nat.reduceEqDiff, Int.reduceLT, Int.reduceLE, Int.reduceEq, Nat.reduceLT, Nat.reduceAdd, Nat.reduceMul, Int.reduceToNat, Nat.reduceLeDiff, reduceCtorEq]
  refine ⟨by decide, ?_⟩
  refine (printRef_c wo v h H).mono ?_
  rintro r h1 ⟨rfl, hle1⟩
  unfold printR
  simp only [go_sem, Nat.reduceEqDiff, Int.reduceLT, Int.reduceLE, Int.reduceEq, Nat.reduceLT, Nat.reduceAdd, Nat.reduceMul, Int.reduceToNat, Nat.reduceLeDiff, reduceCtorEq]
  refine ⟨by decide, ?_⟩
  refine (printRef_c cl w h1 (G.mono hle1)).mono ?_
  rintro r h2 ⟨rfl, hle2⟩
  unfold printR
  simp only [go_sem, Nat.reduceEqDiff, Int.reduceLT, Int.reduceLE, Int.reduceEq, Nat.reduceLT, Nat.reduceAdd, Nat.reduceMul, Int.reduceToNat, Nat.reduceLeDiff, reduceCtorEq]
  have hle02 := hle1.trans hle2
  refine ⟨by decide, ?_⟩
  refine (narrow_c wo cl v w h2 (H.mono hle02) (G.mono hle02)).mono ?_
  rintro r h3 ⟨u1, rfl, hle3, hu1⟩
  have hle03 := hle02.trans hle3
  simp only [go_sem, Nat.reduceEqDiff, Int.reduceLT, Int.reduceLE, Int.reduceEq, Nat.reduceLT, Nat.reduceAdd, Nat.reduceMul, Int.reduceToNat, Nat.reduceLeDiff, reduceCtorEq]
  refine ⟨by decide, ?_⟩
  refine (narrowRef_c wo cl v w h3 (H.mono hle03) (G.mono hle03)).mono ?_
  rintro r h4 ⟨u2, rfl, hle4, hu2⟩
  have hle04 := hle03.trans hle4
  simp only [go_sem, Nat.reduceEqDiff, Int.reduceLT, Int.reduceLE, Int.reduceEq, Nat.reduceLT, Nat.reduceAdd, Nat.reduceMul, Int.reduceToNat, Nat.reduceLeDiff, reduceCtorEq]
  refine ⟨by decide, ?_⟩
  refine (printRef_c wo v h4 (H.mono hle04)).mono ?_
  rintro r h5 ⟨rfl, hle5⟩
  have hle05 := hle04.trans hle5
  unfold printR
  simp only [go_sem, Nat.reduceEqDiff, Int.reduceLT, Int.reduceLE, Int.reduceEq, Nat.reduceLT, Nat.reduceAdd, Nat.reduceMul, Int.reduceToNat, Nat.reduceLeDiff, reduceCtorEq]
  refine ⟨by decide, ?_⟩
  refine (printRef_c cl w h5 (G.mono hle05)).mono ?_
  rintro r h6 ⟨rfl, hle6⟩
  have hle06 := hle05.trans hle6
  unfold printR
  simp only [go_sem, Nat.reduceEqDiff, Int.reduceLT, Int.reduceLE, Int.reduceEq, Nat.reduceLT, Nat.reduceAdd, Nat.reduceMul, Int.reduceToNat, Nat.reduceLeDiff, reduceCtorEq]
  refine ⟨by decide, ?_⟩
  refine (alive_c h6).mono ?_
  rintro r h7 ⟨rfl, rfl⟩
  simp only [go_sem, Nat.reduceEqDiff, Int.reduceLT, Int.reduceLE, Int.reduceEq, Nat.reduceLT, Nat.reduceAdd, Nat.reduceMul, Int.reduceToNat, Nat.reduceLeDiff, reduceCtorEq]
  refine ⟨by decide, ?_⟩
  refine (sameCells_c (narrowL wo cl) u1 u2 h7 ((hu1.mono hle4).mono (hle5.trans hle6)) (hu2.mono (hle5.trans hle6)) (by omega) (fun c hc => by have := hok2 c hc; omega)).mono ?_
  rintro r h8 ⟨rfl, hle8⟩
  simp only [go_sem, Nat.reduceEqDiff, Int.reduceLT, Int.reduceLE, Int.reduceEq, Nat.reduceLT, Nat.reduceAdd, Nat.reduceMul, Int.reduceToNat, Nat.reduceLeDiff, reduceCtorEq]
end
end Go.AX
namespace Go.AX
open Go Go.Proofs Go.RowKit Go.WideShapes Go.ChangeShapes
noncomputable section
theorem oc3 : Tryz.prog.cellsOf 3 = 1 := by kernel_rfl
theorem oc9 : Tryz.prog.cellsOf 9 = 1 := by kernel_rfl
theorem oc53 : Tryz.prog.cellsOf 53 = 1 := by kernel_rfl
theorem oc55 : Tryz.prog.cellsOf 55 = 1 := by kernel_rfl
theorem oc57 : Tryz.prog.cellsOf 57 = 2 := by kernel_rfl
theorem oc22 : Tryz.prog.cellsOf 22 = 1 := by kernel_rfl
theorem len1 {α : Type} {l : List α} (h : l.length = 1) : ∃ a, l = [a] := by
  match l, h with
  | [a], _ => exact ⟨a, rfl⟩
theorem len2 {α : Type} {l : List α} (h : l.length = 2) : ∃ a b, l = [a, b] := by
  match l, h with
  | [a, b], _ => exact ⟨a, b, rfl⟩
theorem opn57 : Opn Tryz.prog 57 2 (fun _ (a : Alt) l => l = altC a ∧ a.1.length ≤ 9223372036854775807) := by
  refine ⟨oc57, fun {H enc w base held fuel cs x} h => ?_⟩
  obtain ⟨hl, n, hf⟩ := trod_fields Tryz.underlying57 oc57 (fun i f hi => by
    match i, hi with
    | 0, hi => cases hi; exact ⟨rfl, oc9⟩
    | 1, hi => cases hi; exact ⟨rfl, oc3⟩
    | (i + 2), hi => simp at hi) h
  obtain ⟨c0, c1, rfl⟩ := len2 hl
  obtain ⟨y0, g0⟩ := hf 0 _ c0 rfl rfl
  obtain ⟨y1, g1⟩ := hf 1 _ c1 rfl rfl
  obtain ⟨s, e0, _, w0⟩ := DataW.trod_string Tryz.underlying9 g0
  obtain ⟨k, e1, _, w1⟩ := DataW.trod_int Tryz.underlying3 g1
  cases e0; cases e1
  refine ⟨(s.data.toList.map UInt8.toNat, k), ⟨rfl, ?_⟩, fun c hc => ?_, rfl⟩
  · have : (s.data.toList.map UInt8.toNat).length = s.size := by rw [List.length_map, Array.length_toList]; rfl
    show (s.data.toList.map UInt8.toNat).length ≤ _
    unfold maxLen at w0
    omega
  · simp at hc
    rcases hc with rfl | rfl <;> rfl
theorem opn53 : Opn Tryz.prog 53 1 (fun w (xs : List Alt) l => ∃ v, l = [v] ∧ AltsA (absW w) v xs) := by
  have h0 := opn_slice opn57 (by omega) Tryz.underlying53 oc53
  refine ⟨h0.1, fun h => ?_⟩
  obtain ⟨xs, ⟨v, rows, e, hs, ⟨hl, h2⟩, _⟩, hf, hlen⟩ := h0.2 h
  refine ⟨xs, ⟨v, e, ?_, fun a ha => ?_⟩, hf, hlen⟩
  · have : rows = xs.map altC := by
      apply List.ext_getElem?
      intro i
      rw [List.getElem?_map]
      cases hx : xs[i]? with
      | none =>
        have := List.getElem?_eq_none_iff.1 hx
        rw [List.getElem?_eq_none (by omega)]
        rfl
      | some a =>
        have hi := (List.getElem?_eq_some_iff.1 hx).1
        obtain ⟨r, hr⟩ : ∃ r, rows[i]? = some r := ⟨_, List.getElem?_eq_getElem (by omega)⟩
        rw [hr, (h2 i a r hx hr).1]
        rfl
    rw [← this]
    exact hs
  · obtain ⟨i, hi⟩ := List.mem_iff_getElem?.1 ha
    have hil := (List.getElem?_eq_some_iff.1 hi).1
    obtain ⟨r, hr⟩ : ∃ r, rows[i]? = some r := ⟨_, List.getElem?_eq_getElem (by omega)⟩
    exact (h2 i a r hi hr).2
theorem opn55 : Opn Tryz.prog 55 1 (fun w (xs : List Alt) l => ∃ v, l = [v] ∧ AltsA (absW w) v xs) := by
  refine ⟨oc55, fun {H enc w base held fuel cs x} h => ?_⟩
  obtain ⟨hl, n, hf⟩ := trod_fields Tryz.underlying55 oc55 (fun i f hi => by
    match i, hi with
    | 0, hi => cases hi; exact ⟨rfl, oc53⟩
    | (i + 1), hi => simp at hi) h
  obtain ⟨c0, rfl⟩ := len1 hl
  obtain ⟨y0, g0⟩ := hf 0 _ c0 rfl rfl
  exact opn53.2 g0
theorem opn22 : Opn Tryz.prog 22 1 (fun w (cells : List (List Alt)) l => ∃ v, l = [v] ∧ CellsA (absW w) v cells) := by
  have h0 := opn_slice opn55 (by omega) Tryz.underlying22 oc22
  refine ⟨h0.1, fun h => ?_⟩
  obtain ⟨xs, ⟨v, rows, e, hs, ⟨hl, h2⟩, _⟩, hf, hlen⟩ := h0.2 h
  have hrow : ∀ (i : Nat) r, rows[i]? = some r → r = [r.headD undefA] := by
    intro i r hr
    have hi := (List.getElem?_eq_some_iff.1 hr).1
    obtain ⟨a, ha⟩ : ∃ a, xs[i]? = some a := ⟨_, List.getElem?_eq_getElem (by omega)⟩
    obtain ⟨x, hx, _⟩ := h2 i a r ha hr
    rw [hx]; rfl
  refine ⟨xs, ⟨v, e, rows.map (·.headD undefA), ?_, by simp [hl], fun i y a hy ha => ?_⟩, hf, hlen⟩
  · have : (rows.map (·.headD undefA)).map (fun x => [x]) = rows := by
      apply List.ext_getElem?
      intro i
      rw [List.getElem?_map, List.getElem?_map]
      cases hr : rows[i]? with
      | none => rfl
      | some r => exact congrArg some (hrow i r hr).symm
    rw [this]
    exact hs
  · rw [List.getElem?_map, Option.map_eq_some_iff] at hy
    obtain ⟨r, hr, rfl⟩ := hy
    obtain ⟨x, hx, hA⟩ := h2 i a r ha hr
    rw [hx]
    exact hA
end
end Go.AX

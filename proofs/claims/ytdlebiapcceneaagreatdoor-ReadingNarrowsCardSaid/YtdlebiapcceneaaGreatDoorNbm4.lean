/-
  Contracts of functions of this seat, for every input that each theorem names.
-/
import Derived.Test.YtdlebiapcceneaaGreatDoorNbm3
set_option linter.unusedVariables false
set_option linter.unusedSimpArgs false
set_option linter.unusedSectionVars false
namespace Go.AX
open Go Go.Proofs
noncomputable section
set_option linter.unusedSimpArgs false
set_option linter.unusedVariables false
attribute [local go_sem] b_seq wp_skip wp_exit wp_ret wp_region b_block wops_nil b_ops b_opsg b_cond condV_lite wo_mv b_bin wo_call callV_func wo_pick b_box wo_load1 wo_loadN wo_store wo_nilCheck wo_not wo_lenStr' wo_lenSl wo_ixStr' wo_ixSl wo_fAddr wo_part1 wo_partN wo_extract wo_cInt wo_cStr wo_mkMap wo_mkIface wo_mkFunc wo_lookup pickV_bool ifT_true ifT_false b_loadV b_loadNV b_storeV nilV_ptr nilV_func nilV_iface notV_bool lenStrV_str lenSlV_nil lenSlV_slice b_ixStrV ixSlV_slice fAddrV_ptr b_part1V partNV_agg b_extractV convV_int strV_str evC_tm evC_cn T.get_set putA_some putA_none onO_some evCs_nil evCs_cons appL_nil appL_cons guardOk_true guardOk_false cellsV_bool cellsV_int cellsV_str cellsV_nilptr cellsV_ptr cellsV_nilslice cellsV_slice cellsV_nilmap cellsV_map cellsV_func cellsV_nilfunc cellsV_iface cellsV_niliface cellsV_agg bin_lss bin_gtr bin_leq bin_geq bin_eql bin_neq bin_add bin_sub bin_eqlS bin_neqS mkFrame_nil mkFrame_cons resA_one resA_two resA_three over_0 over_1 over_2 over_3 over_4 over_5 over0_nil over0_cons Option.getD_some if_true if_false AHeap.next_push AVal.bool.injEq decide_eq_true_eq decide_eq_false_iff_not Bool.not_eq_true' Bool.not_eq_false' Bool.not_eq_true decide_true decide_false Bool.not_true Bool.not_false Int.toNat_natCast Int.natCast_nonneg true_and and_true wo_mapPut wp_drawn' wsts_nil b_pure b_read b_new b_wr wor_none b_org rer_nil rer_load1 rer_loadN wo_append AHeap.next_skip AHeap.next_put' AHeap.mk_push_t AHeap.mk_eta AHeap.mk_skip ldA_skip ldN_skip Nat.add_zero Nat.zero_add b_lite_true b_lite_false eq_self_iff_true not_true_eq_false not_false_eq_true bx_k bx_q bx_x bx_1 undefA_bool putAt_push List.length_cons List.length_nil Nat.le_refl ldA_push_new ldN_push_new List.getElem?_cons_zero List.getElem?_cons_succ List.drop_zero List.drop_succ_cons List.take_succ_cons List.take_zero b_build b_buildSlice evParts_nil evParts_cons b_fillA_nil b_fillA nbeq nble natadd natmul lenL_eq repL_1 repL_2 repL_3 wo_sliceData sdV_nil sdV_slice wo_unsafeStr usV_nil wo_slStr slStrV_str evCo_none evCo_some boundA_none Bool.and_true Bool.true_and wo_minmax2' mm2V_int
theorem RowA.keep {h h' : AHeap} {b o : Nat} {l : List AVal} (H : RowA h b o l) (hn : h.next ≤ h'.next) (hg : h'.get b = h.get b) : RowA h' b o l := H.get (Nat.lt_of_lt_of_le H.1 hn) hg
theorem SlA.keep {h h' : AHeap} {size : Nat} {v : AVal} {xs : List (List AVal)} (H : SlA h size v xs) (hn : h.next ≤ h'.next) (hg : ∀ c, blkOf v c → c < h.next → h'.get c = h.get c) : SlA h' size v xs := by
  obtain ⟨h1, h2⟩ := H
  refine ⟨h1, h2.imp id fun ⟨b, o, c, ex, e, hr⟩ => ⟨b, o, c, ex, e, hr.imp id fun hr => hr.keep hn (hg b ⟨_, _, _, _, e⟩ hr.1)⟩⟩
theorem AltsA.keep {h h' : AHeap} {v : AVal} {alts : List Alt} (H : AltsA h v alts) (hn : h.next ≤ h'.next) (hg : ∀ c, blkOf v c → c < h.next → h'.get c = h.get c) : AltsA h' v alts := ⟨H.1.keep hn hg, H.2⟩
def BoxL (A : Nat → Prop) (h : AHeap) (b : Nat) (l : List Alt) : Prop := b < h.next ∧ ¬ A b ∧ ∃ v, h.get b = some (.cells [v] 55) ∧ OwnL h 2 57 v (l.map altC).flatten ∧ (∀ c, blkOf v c → c ≠ b ∧ ¬ A c)
theorem BoxL.push {A : Nat → Prop} {h : AHeap} {b : Nat} {l : List Alt} (H : BoxL A h b l) (o : AObj) : BoxL (fun c => A c ∨ c = h.next) (h.push o) b l := by
  obtain ⟨h1, h2, v, h3, h5, h6⟩ := H
  exact ⟨by simp [AHeap.next_push]; omega, fun e => e.elim h2 (fun e => by omega), v, by rw [AHeap.get_push_ne _ _ (by omega)]; exact h3, h5.frame (by simp [AHeap.next_push]) (fun c hc => AHeap.get_push_ne _ _ (by have := h5.blk hc; omega)), fun c hc => ⟨(h6 c hc).1, fun e => e.elim (h6 c hc).2 (fun e => by have := h5.blk hc; omega)⟩⟩
theorem BoxL.mono {A : Nat → Prop} {h h' : AHeap} {b : Nat} {l : List Alt} (H : BoxL A h b l) (hle : Hle h h') : BoxL A h' b l := by
  obtain ⟨h1, h2, v, h3, h5, h6⟩ := H
  exact ⟨by have := hle.next; omega, h2, v, by rw [hle.get b h1]; exact h3, h5.frame hle.next (fun c hc => hle.get c (h5.blk hc)), h6⟩
theorem BoxL.sub {A A' : Nat → Prop} {h : AHeap} {b : Nat} {l : List Alt} (H : BoxL A h b l) (hA : ∀ c, A' c → A c) : BoxL A' h b l := by
  obtain ⟨h1, h2, v, h3, h5, h6⟩ := H
  exact ⟨h1, fun e => h2 (hA _ e), v, h3, h5, fun c hc => ⟨(h6 c hc).1, fun e => (h6 c hc).2 (hA _ e)⟩⟩
theorem BoxL.new {A : Nat → Prop} {h : AHeap} (hA : ¬ A h.next) : BoxL A (h.push (.cells [.nilslice] 55)) h.next [] :=
  ⟨by simp [AHeap.next_push], hA, _, AHeap.get_push_same _ _, .inl ⟨rfl, rfl⟩, fun c ⟨_, _, _, _, hc⟩ => by cases hc⟩
theorem OwnL.flatV {h : AHeap} {size : Nat} {elem : TypeId} {v : AVal} {l : List AVal} (H : OwnL h size elem v l) : v.flat = true := by
  rcases H.form with rfl | ⟨_, _, _, _, _, rfl⟩ <;> rfl
theorem BoxL.ld {A : Nat → Prop} {h : AHeap} {b : Nat} {l : List Alt} (H : BoxL A h b l) : ∃ v, h.get b = some (.cells [v] 55) ∧ ldA h b 0 = some v ∧ ldN h b 0 1 = some [v] ∧ OwnL h 2 57 v (l.map altC).flatten ∧ ∀ c, blkOf v c → c ≠ b ∧ ¬ A c := by
  obtain ⟨h1, h2, v, h3, h5, h6⟩ := H
  have hr : RowA h b 0 [v] := RowA.of_cells h1 h3 (fun x hx => by simp at hx; subst hx; exact h5.flatV)
  exact ⟨v, h3, hr.ldA (i := 0) rfl, hr.ldN (i := 0) (n := 1) (by simp), h5, h6⟩
theorem altC_len (l : List Alt) : (l.map altC).flatten.length = l.length * 2 := by
  have : ∀ x, x ∈ l.map altC → x.length = 2 := fun x hx => by obtain ⟨a, _, rfl⟩ := List.mem_map.1 hx; rfl
  rw [flatten_len this]; simp
theorem altC_flat (l : List Alt) : ∀ x, x ∈ (l.map altC).flatten → x.flat = true := by
  intro x hx
  obtain ⟨y, hy, hxy⟩ := List.mem_flatten.1 hx
  obtain ⟨a, _, rfl⟩ := List.mem_map.1 hy
  simp only [altC, List.mem_cons, List.not_mem_nil, or_false] at hxy
  rcases hxy with rfl | rfl <;> rfl
theorem OwnL.alts {h : AHeap} {v : AVal} {l : List Alt} (H : OwnL h 2 57 v (l.map altC).flatten) (hl : ∀ a, a ∈ l → a.1.length ≤ 9223372036854775807) : AltsA h v l :=
  ⟨H.SlA (fun x hx => by obtain ⟨a, _, rfl⟩ := List.mem_map.1 hx; rfl) (by omega) (altC_flat l), hl⟩
theorem BoxL.app {A : Nat → Prop} {h : AHeap} {b : Nat} {l : List Alt} (H : BoxL A h b l) (hA : ∀ c, A c → c < h.next) (s : List Nat) (n : Int) (hm : l.length ≤ 100000) {v : AVal} (hv : ldA h b 0 = some v) {K : AVal → AHeap → Prop}
    (hK : ∀ v' h' h'', cellsV v' = some [v'] → putAt h' b 0 1 [v'] = some h'' → BoxL A h'' b (l ++ [(s, n)]) → h.next ≤ h''.next → (∀ c, A c → h''.get c = h.get c) → K v' h') : appV 57 2 v (.slice h.next 0 1 1 true) (h.push (.cells [.str s, .int .i64 n] 57)) K := by
  obtain ⟨h1, h2, _⟩ := id H
  obtain ⟨v2, h3, hv2, _, h5, h6⟩ := H.ld
  obtain rfl : v = v2 := Option.some.inj (hv.symm.trans hv2)
  have hone : SlA (h.push (.cells [.str s, .int .i64 n] 57)) 2 (.slice h.next 0 1 1 true) [[.str s, .int .i64 n]] := ⟨by simp, .inr ⟨_, _, _, _, rfl, .inr (RowA.of_cells (e := 57) (by simp [AHeap.next_push]) (AHeap.get_push_same _ _) (by intro x hx; simp at hx; rcases hx with rfl | rfl <;> rfl))⟩⟩
  have own' := h5.frame (h' := h.push (.cells [.str s, .int .i64 n] 57)) (by simp [AHeap.next_push]) (fun c hc => AHeap.get_push_ne _ _ (by have := h5.blk hc; omega))
  refine appV_own own' (srcCells_SlA hone (by simp)) (by simp) (by simp) (by omega) (by rw [altC_len]; simp; omega) ?_
  intro v' h'' ho hn hf hb
  have hn' : h''.next = h.next + 1 + 1 := hn
  have hgb : h''.get b = some (.cells [v] 55) := by
    rw [hf b (by simp [AHeap.next_push]; omega) (fun hc => (h6 b hc).1 rfl), AHeap.get_push_ne _ _ (by omega)]; exact h3
  have hp : putAt h'' b 0 1 [v'] = some (h''.put b (.cells [v'] 55)) := putAt_cells (o := 0) (n := 1) (vs := [v']) hgb rfl (by simp)
  have hblk : ∀ c, blkOf v' c → c = h.next + 1 := by
    rintro c ⟨o, n, c2, e, rfl⟩
    obtain ⟨_, _, _, _, he⟩ := hb
    cases he; rfl
  refine hK v' h'' _ (cellsV_flat ho.flatV) hp ⟨by simp [AHeap.next_put]; omega, h2, v', AHeap.get_put_same _ _ _, ?_, fun c hc => ?_⟩ (by simp [AHeap.next_put]; omega) fun c hc => ?_
  · have e : ((l ++ [(s, n)]).map altC).flatten = (l.map altC).flatten ++ [[AVal.str s, AVal.int .i64 n]].flatten := by simp [altC]
    rw [e]
    exact ho.frame (by simp [AHeap.next_put]) fun c hc => AHeap.get_put_ne _ _ (fun e => by have := hblk c hc; omega)
  · have := hblk c hc
    exact ⟨by omega, fun e => by have := hA c e; omega⟩
  · have hcb : c ≠ b := fun e => h2 (e ▸ hc)
    have hcl := hA c hc
    rw [AHeap.get_put_ne _ _ (Ne.symm hcb), hf c (by simp [AHeap.next_push]; omega) (fun hk => (h6 c hk).2 hc), AHeap.get_push_ne _ _ (by omega)]
def OutL (n0 : Nat) (h : AHeap) (out : AVal) (done : List (List Alt)) : Prop := ∃ vs, OwnL h 1 55 out vs ∧ All2 (AltsA h) vs done ∧ (∀ x, x ∈ vs → ∀ c, blkOf x c → c < h.next ∧ ¬ blkOf out c) ∧ ∀ c, blkOf out c → n0 ≤ c
theorem OutL.nil (n0 : Nat) (h : AHeap) : OutL n0 h .nilslice [] := ⟨[], .inl ⟨rfl, rfl⟩, ⟨rfl, fun i x y hx => by simp at hx⟩, (fun x hx => by simp at hx), fun c ⟨_, _, _, _, hc⟩ => by cases hc⟩
theorem OutL.keep {n0 : Nat} {h h' : AHeap} {out : AVal} {done : List (List Alt)} (H : OutL n0 h out done) (hle : Hle h h') : OutL n0 h' out done := by
  obtain ⟨vs, h1, h2, h3⟩ := H
  exact ⟨vs, h1.frame hle.next (fun c hc => hle.get c (h1.blk hc)), ⟨h2.1, fun i x y hx hy => (h2.2 i x y hx hy).mono hle⟩, (fun x hx c hc => ⟨by have := (h3.1 x hx c hc).1; have := hle.next; omega, (h3.1 x hx c hc).2⟩), h3.2⟩
theorem flat_single (vs : List AVal) : (vs.map fun x => [x]).flatten = vs := by
  induction vs with
  | nil => rfl
  | cons a l ih => simp [ih]
theorem OutL.cells {n0 : Nat} {h : AHeap} {out : AVal} {done : List (List Alt)} (H : OutL n0 h out done) : CellsA h out done := by
  obtain ⟨vs, h1, h2, h3⟩ := H
  have e := flat_single vs
  refine ⟨vs, OwnL.SlA (elem := 55) (by rw [e]; exact h1) (fun x hx => by obtain ⟨a, _, rfl⟩ := List.mem_map.1 hx; rfl) (by omega) ?_, h2⟩
  rw [e]
  intro x hx
  obtain ⟨i, hi⟩ := List.mem_iff_getElem?.1 hx
  obtain ⟨y, hy⟩ : ∃ y, done[i]? = some y := ⟨_, List.getElem?_eq_getElem (by rw [← h2.1]; exact (List.getElem?_eq_some_iff.1 hi).1)⟩
  exact (h2.2 i x y hi hy).flat
theorem OutL.app {n0 : Nat} {h : AHeap} {out v : AVal} {done : List (List Alt)} {l : List Alt} (H : OutL n0 h out done) (hn0 : n0 ≤ h.next) (hv : AltsA h v l) (hd : ∀ c, blkOf v c → ¬ blkOf out c) (hvb : ∀ c, blkOf v c → c < h.next) (hm : done.length ≤ 100000) {K : AVal → AHeap → Prop}
    (hK : ∀ v' h', OutL n0 h' v' (done ++ [l]) → h.next ≤ h'.next → (∀ c, c < n0 → h'.get c = h.get c) → K v' h') : appV 55 1 out (.slice h.next 0 1 1 true) (h.push (.cells [v] 55)) K := by
  obtain ⟨vs, h1, h2, h3, h4⟩ := H
  have hone : SlA (h.push (.cells [v] 55)) 1 (.slice h.next 0 1 1 true) [[v]] := ⟨by simp, .inr ⟨_, _, _, _, rfl, .inr (RowA.of_cells (e := 55) (by simp [AHeap.next_push]) (AHeap.get_push_same _ _) (by intro x hx; simp at hx; subst hx; exact hv.flat))⟩⟩
  have own' := h1.frame (h' := h.push (.cells [v] 55)) (by simp [AHeap.next_push]) (fun c hc => AHeap.get_push_ne _ _ (by have := h1.blk hc; omega))
  refine appV_own own' (srcCells_SlA hone (by simp)) (by simp) (by simp) (by omega) (by rw [h2.1]; simp; omega) ?_
  intro v' h'' ho hn hf hb
  have hn' : h''.next = h.next + 1 + 1 := hn
  have hblk : ∀ c, blkOf v' c → c = h.next + 1 := by
    rintro c ⟨o, n, c2, e, rfl⟩
    obtain ⟨_, _, _, _, he⟩ := hb
    cases he; rfl
  have hkeep : ∀ x y, AltsA h x y → (∀ c, blkOf x c → ¬ blkOf out c) → AltsA h'' x y := fun x y hx hxo => hx.keep (by omega) fun c hc hcl => by
    rw [hf c (by simp [AHeap.next_push]; omega) (hxo c hc), AHeap.get_push_ne _ _ (by omega)]
  refine hK v' h'' ⟨vs ++ [v], by simpa using ho, ⟨by simp [h2.1], fun i x y hx hy => ?_⟩, fun x hx c hc => ?_, fun c hc => by have := hblk c hc; omega⟩ (by omega) fun c hc => ?_
  · by_cases hi : i < vs.length
    · rw [List.getElem?_append_left hi] at hx
      rw [List.getElem?_append_left (by rw [← h2.1]; exact hi)] at hy
      exact hkeep x y (h2.2 i x y hx hy) (fun c hc => (h3 x (List.mem_of_getElem? hx) c hc).2)
    · rw [List.getElem?_append_right (by omega)] at hx
      rw [List.getElem?_append_right (by rw [← h2.1]; omega), ← h2.1] at hy
      have : i - vs.length = 0 := by
        have := (List.getElem?_eq_some_iff.1 hx).1
        simp at this; omega
      rw [this] at hx hy
      simp at hx hy
      subst hx; subst hy
      exact hkeep _ _ hv hd
  · rcases List.mem_append.1 hx with hx | hx
    · exact ⟨by have := (h3 x hx c hc).1; omega, fun hc' => by have := hblk c hc'; have := (h3 x hx c hc).1; omega⟩
    · simp at hx; subst hx
      exact ⟨by have := hvb c hc; omega, fun hc' => by have := hblk c hc'; have := hvb c hc; omega⟩
  · rw [hf c (by simp [AHeap.next_push]; omega) (fun hk => by have := h4 c hk; omega), AHeap.get_push_ne _ _ (by omega)]
end
end Go.AX
namespace Go.AX
open Go Go.Proofs
noncomputable section
set_option linter.unusedSimpArgs false
set_option linter.unusedVariables false
attribute [local go_sem] b_seq wp_skip wp_exit wp_ret wp_region b_block wops_nil b_ops b_opsg b_cond condV_lite wo_mv b_bin wo_call callV_func wo_pick b_box wo_load1 wo_loadN wo_store wo_nilCheck wo_not wo_lenStr' wo_lenSl wo_ixStr' wo_ixSl wo_fAddr wo_part1 wo_partN wo_extract wo_cInt wo_cStr wo_mkMap wo_mkIface wo_mkFunc wo_lookup pickV_bool ifT_true ifT_false b_loadV b_loadNV b_storeV nilV_ptr nilV_func nilV_iface notV_bool lenStrV_str lenSlV_nil lenSlV_slice b_ixStrV ixSlV_slice fAddrV_ptr b_part1V partNV_agg b_extractV convV_int strV_str evC_tm evC_cn T.get_set putA_some putA_none onO_some evCs_nil evCs_cons appL_nil appL_cons guardOk_true guardOk_false cellsV_bool cellsV_int cellsV_str cellsV_nilptr cellsV_ptr cellsV_nilslice cellsV_slice cellsV_nilmap cellsV_map cellsV_func cellsV_nilfunc cellsV_iface cellsV_niliface cellsV_agg bin_lss bin_gtr bin_leq bin_geq bin_eql bin_neq bin_add bin_sub bin_eqlS bin_neqS mkFrame_nil mkFrame_cons resA_one resA_two resA_three over_0 over_1 over_2 over_3 over_4 over_5 over0_nil over0_cons Option.getD_some if_true if_false AHeap.next_push AVal.bool.injEq decide_eq_true_eq decide_eq_false_iff_not Bool.not_eq_true' Bool.not_eq_false' Bool.not_eq_true decide_true decide_false Bool.not_true Bool.not_false Int.toNat_natCast Int.natCast_nonneg true_and and_true wo_mapPut wp_drawn' wsts_nil b_pure b_read b_new b_wr wor_none b_org rer_nil rer_load1 rer_loadN wo_append AHeap.next_skip AHeap.next_put' AHeap.mk_push_t AHeap.mk_eta AHeap.mk_skip ldA_skip ldN_skip Nat.add_zero Nat.zero_add b_lite_true b_lite_false eq_self_iff_true not_true_eq_false not_false_eq_true bx_k bx_q bx_x bx_1 undefA_bool putAt_push List.length_cons List.length_nil Nat.le_refl ldA_push_new ldN_push_new List.getElem?_cons_zero List.getElem?_cons_succ List.drop_zero List.drop_succ_cons List.take_succ_cons List.take_zero b_build b_buildSlice evParts_nil evParts_cons b_fillA_nil b_fillA nbeq nble natadd natmul lenL_eq repL_1 repL_2 repL_3 wo_sliceData sdV_nil sdV_slice wo_unsafeStr usV_nil wo_slStr slStrV_str evCo_none evCo_some boundA_none Bool.and_true Bool.true_and wo_minmax2' mm2V_int
def narrow1 (a : Alt) (d : List Alt) : List Alt := (d.filter fun b => decide (a.1 = b.1)).map fun b => (a.1, max a.2 b.2)
def narrowC (c d : List Alt) : List Alt := c.flatMap fun a => narrow1 a d
theorem narrow1_snoc {a b : Alt} {d : List Alt} {j : Nat} (hb : d[j]? = some b) : narrow1 a (d.take (j + 1)) = narrow1 a (d.take j) ++ (if a.1 = b.1 then [(a.1, max a.2 b.2)] else []) := by
  unfold narrow1
  rw [List.take_add_one, hb, List.filter_append, List.map_append]
  congr 1
  by_cases e : a.1 = b.1
  · simp [e]
  · simp [e]
theorem narrowC_snoc {a : Alt} {c d : List Alt} {k : Nat} (ha : c[k]? = some a) : narrowC (c.take (k + 1)) d = narrowC (c.take k) d ++ narrow1 a d := by
  unfold narrowC
  rw [List.take_add_one, ha, List.flatMap_append]
  simp
theorem narrow1_len (a : Alt) (d : List Alt) : (narrow1 a d).length ≤ d.length := by
  unfold narrow1
  rw [List.length_map]
  exact List.length_filter_le _ _
theorem narrowC_len (c d : List Alt) : (narrowC c d).length ≤ c.length * d.length := by
  unfold narrowC
  induction c with
  | nil => simp
  | cons a c ih =>
    rw [List.flatMap_cons, List.length_append, List.length_cons, Nat.add_mul]
    have := narrow1_len a d
    omega
theorem narrow1_cost {a : Alt} {d : List Alt} (hd : validP d) : narrow1 a d = if 0 ≤ costOf d a.1 then [(a.1, max a.2 (costOf d a.1))] else [] := by
  have hok := hd.2.2.1
  have hnd := hd.2.2.2
  have hpos : ∀ b, b ∈ d → 0 ≤ b.2 := fun b hb => (hok b hb).2.2.1
  clear hok hd
  unfold narrow1 costOf
  induction d with
  | nil => simp
  | cons b d ih =>
    rw [List.map_cons, List.nodup_cons] at hnd
    by_cases e : b.1 = a.1
    · have hno : d.filter (fun b => decide (a.1 = b.1)) = [] := by
        rw [List.filter_eq_nil_iff]
        intro x hx hxe
        apply hnd.1
        rw [e]
        exact List.mem_map.2 ⟨x, hx, (by simpa using hxe : a.1 = x.1).symm⟩
      have := hpos b (by simp)
      rw [List.filter_cons_of_pos (by simp [e]), List.find?_cons_of_pos (by simp [e]), hno]
      simp [this]
    · rw [List.filter_cons_of_neg (by simp [Ne.symm e]), List.find?_cons_of_neg (by simp [e])]
      exact ih hnd.2 fun x hx => hpos x (by simp [hx])
def narrowZ (w c : List (List Alt)) : List (List Alt) := List.zipWith narrowC w c
def narrowE (w c : List (List Alt)) : Int :=
  if checkE w ≠ 0 then checkE w else if checkE c ≠ 0 then checkE c else if ¬ w.length = c.length then 1 else if [] ∈ narrowZ w c then 8 else 0
def narrowL (w c : List (List Alt)) : List (List Alt) := if narrowE w c = 0 then narrowZ w c else []
theorem narrowZ_snoc {w c : List (List Alt)} {i : Nat} {x y : List Alt} (hx : w[i]? = some x) (hy : c[i]? = some y) : (narrowZ w c).take (i + 1) = (narrowZ w c).take i ++ [narrowC x y] := by
  rw [List.take_add_one]
  congr 1
  unfold narrowZ
  rw [List.getElem?_zipWith, hx, hy]; rfl
theorem narrowZ_len {w c : List (List Alt)} (h : w.length = c.length) : (narrowZ w c).length = w.length := by unfold narrowZ; rw [List.length_zipWith, h, Nat.min_self]
theorem CellsA.nil (h : AHeap) : CellsA h .nilslice [] := ⟨[], ⟨by simp, .inl ⟨rfl, rfl⟩⟩, rfl, fun i x y hx => by simp at hx⟩
end
end Go.AX
namespace Go.AX
open Go Go.Proofs
noncomputable section
set_option linter.unusedSimpArgs false
set_option linter.unusedVariables false
attribute [local go_sem] b_seq wp_skip wp_exit wp_ret wp_region b_block wops_nil b_ops b_opsg b_cond condV_lite wo_mv b_bin wo_call callV_func wo_pick b_box wo_load1 wo_loadN wo_store wo_nilCheck wo_not wo_lenStr' wo_lenSl wo_ixStr' wo_ixSl wo_fAddr wo_part1 wo_partN wo_extract wo_cInt wo_cStr wo_mkMap wo_mkIface wo_mkFunc wo_lookup pickV_bool ifT_true ifT_false b_loadV b_loadNV b_storeV nilV_ptr nilV_func nilV_iface notV_bool lenStrV_str lenSlV_nil lenSlV_slice b_ixStrV ixSlV_slice fAddrV_ptr b_part1V partNV_agg b_extractV convV_int strV_str evC_tm evC_cn T.get_set putA_some putA_none onO_some evCs_nil evCs_cons appL_nil appL_cons guardOk_true guardOk_false cellsV_bool cellsV_int cellsV_str cellsV_nilptr cellsV_ptr cellsV_nilslice cellsV_slice cellsV_nilmap cellsV_map cellsV_func cellsV_nilfunc cellsV_iface cellsV_niliface cellsV_agg bin_lss bin_gtr bin_leq bin_geq bin_eql bin_neq bin_add bin_sub bin_eqlS bin_neqS mkFrame_nil mkFrame_cons resA_one resA_two resA_three over_0 over_1 over_2 over_3 over_4 over_5 over0_nil over0_cons Option.getD_some if_true if_false AHeap.next_push AVal.bool.injEq decide_eq_true_eq decide_eq_false_iff_not Bool.not_eq_true' Bool.not_eq_false' Bool.not_eq_true decide_true decide_false Bool.not_true Bool.not_false Int.toNat_natCast Int.natCast_nonneg true_and and_true wo_mapPut wp_drawn' wsts_nil b_pure b_read b_new b_wr wor_none b_org rer_nil rer_load1 rer_loadN wo_append AHeap.next_skip AHeap.next_put' AHeap.mk_push_t AHeap.mk_eta AHeap.mk_skip ldA_skip ldN_skip Nat.add_zero Nat.zero_add b_lite_true b_lite_false eq_self_iff_true not_true_eq_false not_false_eq_true bx_k bx_q bx_x bx_1 undefA_bool putAt_push List.length_cons List.length_nil Nat.le_refl ldA_push_new ldN_push_new List.getElem?_cons_zero List.getElem?_cons_succ List.drop_zero List.drop_succ_cons List.take_succ_cons List.take_zero b_build b_buildSlice evParts_nil evParts_cons b_fillA_nil b_fillA nbeq nble natadd natmul lenL_eq repL_1 repL_2 repL_3 wo_sliceData sdV_nil sdV_slice wo_unsafeStr usV_nil wo_slStr slStrV_str evCo_none evCo_some boundA_none Bool.and_true Bool.true_and wo_minmax2' mm2V_int
set_option maxHeartbeats 1000000 in
theorem narrow_l0 {Qn Qr : Fr → AHeap → Prop} {Qx : Nat → Fr → AHeap → Prop} (a : Alt) (acc d : List Alt) (g h1 : AHeap) (b p q : Nat) (v w out x y : AVal) (i k m n : Int) (fr : Fr) (hy : AltsA g y d) (hd : d.length ≤ 100) (hacc : acc.length ≤ 1000) (hle : Hle g h1) (hp : p < h1.next) (hpg : h1.get p = some (.cells [.str a.1, .int .i64 a.2] 57)) (hb : BoxL (fun c => c < g.next ∨ c = p) h1 b acc)
    (t1 : fr.get 1 = some w) (t8 : fr.get 8 = some out) (t9 : fr.get 9 = some (.int .i64 i)) (t11 : fr.get 11 = some (.ptr b 0)) (t13 : fr.get 13 = some (.ptr p 0)) (t31 : fr.get 31 = some v) (t32 : fr.get 32 = some (.int .i64 m)) (t33 : fr.get 33 = some (.int .i64 i)) (t39 : fr.get 39 = some x) (t40 : fr.get 40 = some (.int .i64 n)) (t41 : fr.get 41 = some (.int .i64 k)) (t49 : fr.get 49 = some y) (t50 : fr.get 50 = some (.int .i64 (d.length : Int))) (t51 : fr.get 51 = some (.int .i64 0))
    (hq : ∀ fr h', fr.get 1 = some w → fr.get 8 = some out → fr.get 9 = some (.int .i64 i) → fr.get 11 = some (.ptr b 0) → fr.get 31 = some v → fr.get 32 = some (.int .i64 m) → fr.get 33 = some (.int .i64 i) → fr.get 39 = some x → fr.get 40 = some (.int .i64 n) → fr.get 41 = some (.int .i64 k) → Hle g h' → BoxL (fun c => c < g.next) h' b (acc ++ narrow1 a d) → Qx 4 fr h') : wp E2 (.loop c30_l0) fr h1 Qn Qx Qr := by
  refine b_loop (fun e fr h' => fr.get 1 = some w ∧ fr.get 8 = some out ∧ fr.get 9 = some (.int .i64 i) ∧ fr.get 11 = some (.ptr b 0) ∧ fr.get 13 = some (.ptr p 0) ∧ fr.get 31 = some v ∧ fr.get 32 = some (.int .i64 m) ∧ fr.get 33 = some (.int .i64 i) ∧ fr.get 39 = some x ∧ fr.get 40 = some (.int .i64 n) ∧ fr.get 41 = some (.int .i64 k) ∧ fr.get 49 = some y ∧ fr.get 50 = some (.int .i64 (d.length : Int)) ∧ ∃ j : Nat, fr.get 51 = some (.int .i64 (j : Int)) ∧ e + j = d.length ∧ Hle g h' ∧ p < h'.next ∧ h'.get p = some (.cells [.str a.1, .int .i64 a.2] 57) ∧ BoxL (fun c => c < g.next ∨ c = p) h' b (acc ++ narrow1 a (d.take j))) d.length ?_ ?_
  · exact ⟨t1, t8, t9, t11, t13, t31, t32, t33, t39, t40, t41, t49, t50, 0, t51, by omega, hle, hp, hpg, by simpa [narrow1] using hb⟩
  clear hle hp hpg hb t1 t8 t9 t11 t13 t31 t32 t33 t39 t40 t41 t49 t50 t51
  rintro e fr h' ⟨t1, t8, t9, t11, t13, t31, t32, t33, t39, t40, t41, t49, t50, j, t51, he, hle, hp, hpg, hb⟩
  unfold c30_l0
  simp only [go_sem, Nat.reduceEqDiff, Int.reduceLT, Int.reduceLE, Int.reduceEq, Nat.reduceLT, Nat.reduceAdd, Nat.reduceMul, Int.reduceToNat, Nat.reduceLeDiff, reduceCtorEq, t1, t8, t9, t11, t13, t31, t32, t33, t39, t40, t41, t49, t50, t51]
  refine b_lite (fun hc => ?_) (fun hc => ?_)
  · obtain ⟨⟨s, z⟩, hbj⟩ : ∃ a, d[j]? = some a := ⟨_, List.getElem?_eq_getElem (by omega)⟩
    obtain ⟨b2, o2, hb2, hix, hm0, hm1, hN⟩ := (hy.mono hle).at hbj
    have hn1 := narrow1_snoc (a := a) hbj
    have hlen := narrow1_len a (d.take j)
    have hlen2 : (d.take j).length ≤ d.length := by simp; omega
    have hrp : RowA h' p 0 [.str a.1, .int .i64 a.2] := RowA.of_cells hp hpg (by intro x hx; simp at hx; rcases hx with rfl | rfl <;> rfl)
    have hbp := hb.push (.cells [.str s, .int .i64 z] 57)
    have hpg2 : (h'.push (.cells [.str s, .int .i64 z] 57)).get p = some (.cells [.str a.1, .int .i64 a.2] 57) := by rw [AHeap.get_push_ne _ _ (by omega)]; exact hpg
    have hp0 : ldA (h'.push (.cells [.str s, .int .i64 z] 57)) p 0 = some (.str a.1) := by rw [ldA_cells hpg2]; rfl
    have hp1 : ldA (h'.push (.cells [.str s, .int .i64 z] 57)) p 1 = some (.int .i64 a.2) := by rw [ldA_cells hpg2]; rfl
    have hw0 : ldA (h'.push (.cells [.str s, .int .i64 z] 57)) h'.next 0 = some (.str s) := by rw [ldA_push_new]; rfl
    have hw1 : ldA (h'.push (.cells [.str s, .int .i64 z] 57)) h'.next 1 = some (.int .i64 z) := by rw [ldA_push_new]; rfl
    have hnx : (h'.push (.cells [.str s, .int .i64 z] 57)).next = h'.next + 1 := rfl
    have hle2 : Hle g (h'.push (.cells [.str s, .int .i64 z] 57)) := hle.push _
    obtain ⟨u, _, hu, _⟩ := hbp.ld
    by_cases hs : a.1 = s
    · rw [if_pos hs] at hn1
      simp only [go_sem, Nat.reduceEqDiff, Int.reduceLT, Int.reduceLE, Int.reduceEq, Nat.reduceLT, Nat.reduceAdd, Nat.reduceMul, Int.reduceToNat, Nat.reduceLeDiff, reduceCtorEq, t1, t8, t9, t11, t13, t31, t32, t33, t39, t40, t41, t49, t50, t51, hix, hN, hpg2]
      generalize h'.push (.cells [.str s, .int .i64 z] 57) = h3 at *
      simp only [go_sem, Nat.reduceEqDiff, Int.reduceLT, Int.reduceLE, Int.reduceEq, Nat.reduceLT, Nat.reduceAdd, Nat.reduceMul, Int.reduceToNat, Nat.reduceLeDiff, reduceCtorEq, t1, t8, t9, t11, t13, t31, t32, t33, t39, t40, t41, t49, t50, t51, hix, hN, hp0, hp1, hw0, hw1, hs, hu]
      refine hbp.app (fun c hc => by rcases hc with (hc | rfl) | rfl <;> (have := hle.next; omega)) s _ (by rw [List.length_append]; omega) hu ?_
      intro v' h4 h5 hcv hput hb5 hn5 hg5
      simp only [go_sem, Nat.reduceEqDiff, Int.reduceLT, Int.reduceLE, Int.reduceEq, Nat.reduceLT, Nat.reduceAdd, Nat.reduceMul, Int.reduceToNat, Nat.reduceLeDiff, reduceCtorEq, t11, hcv, hput]
      simp only [go_sem, Nat.reduceEqDiff, Int.reduceLT, Int.reduceLE, Int.reduceEq, Nat.reduceLT, Nat.reduceAdd, Nat.reduceMul, Int.reduceToNat, Nat.reduceLeDiff, reduceCtorEq, t1, t8, t9, t11, t13, t31, t32, t33, t39, t40, t41, t49, t50, t51]
      refine ⟨e - 1, by omega, j + 1, ?_, by omega, ⟨by have := hle2.next; omega, fun c hc => by rw [hg5 c (.inl (.inl hc))]; exact hle2.get c hc⟩, by omega, by rw [hg5 p (.inl (.inr rfl))]; exact hpg2, ?_⟩
      · rw [wrap_i64 (by omega) (by omega)]; rfl
      · rw [hn1, ← List.append_assoc, hs]
        exact hb5.sub fun c hc => .inl hc
    · rw [if_neg hs] at hn1
      simp only [go_sem, Nat.reduceEqDiff, Int.reduceLT, Int.reduceLE, Int.reduceEq, Nat.reduceLT, Nat.reduceAdd, Nat.reduceMul, Int.reduceToNat, Nat.reduceLeDiff, reduceCtorEq, t1, t8, t9, t11, t13, t31, t32, t33, t39, t40, t41, t49, t50, t51, hix, hN, hpg2]
      generalize h'.push (.cells [.str s, .int .i64 z] 57) = h3 at *
      simp only [go_sem, Nat.reduceEqDiff, Int.reduceLT, Int.reduceLE, Int.reduceEq, Nat.reduceLT, Nat.reduceAdd, Nat.reduceMul, Int.reduceToNat, Nat.reduceLeDiff, reduceCtorEq, t1, t8, t9, t11, t13, t31, t32, t33, t39, t40, t41, t49, t50, t51, hix, hN, hp0, hp1, hw0, hw1, hs]
      refine ⟨e - 1, by omega, j + 1, ?_, by omega, hle2, by omega, hpg2, ?_⟩
      · rw [wrap_i64 (by omega) (by omega)]; rfl
      · rw [hn1, List.append_nil]
        exact hbp.sub fun c hc => .inl hc
  · simp only [go_sem, Nat.reduceEqDiff, Int.reduceLT, Int.reduceLE, Int.reduceEq, Nat.reduceLT, Nat.reduceAdd, Nat.reduceMul, Int.reduceToNat, Nat.reduceLeDiff, reduceCtorEq, t1, t8, t9, t11, t13, t31, t32, t33, t39, t40, t41, t49, t50, t51]
    have hj : j = d.length := by omega
    rw [hj, List.take_length] at hb
    exact hq _ _ (by simp [T.get_set, t1]) (by simp [T.get_set, t8]) (by simp [T.get_set, t9]) (by simp [T.get_set, t11]) (by simp [T.get_set, t31]) (by simp [T.get_set, t32]) (by simp [T.get_set, t33]) (by simp [T.get_set, t39]) (by simp [T.get_set, t40]) (by simp [T.get_set, t41]) hle (hb.sub fun c hc => .inl hc)
end
end Go.AX
namespace Go.AX
open Go Go.Proofs
noncomputable section
set_option linter.unusedSimpArgs false
set_option linter.unusedVariables false
attribute [local go_sem] b_seq wp_skip wp_exit wp_ret wp_region b_block wops_nil b_ops b_opsg b_cond condV_lite wo_mv b_bin wo_call callV_func wo_pick b_box wo_load1 wo_loadN wo_store wo_nilCheck wo_not wo_lenStr' wo_lenSl wo_ixStr' wo_ixSl wo_fAddr wo_part1 wo_partN wo_extract wo_cInt wo_cStr wo_mkMap wo_mkIface wo_mkFunc wo_lookup pickV_bool ifT_true ifT_false b_loadV b_loadNV b_storeV nilV_ptr nilV_func nilV_iface notV_bool lenStrV_str lenSlV_nil lenSlV_slice b_ixStrV ixSlV_slice fAddrV_ptr b_part1V partNV_agg b_extractV convV_int strV_str evC_tm evC_cn T.get_set putA_some putA_none onO_some evCs_nil evCs_cons appL_nil appL_cons guardOk_true guardOk_false cellsV_bool cellsV_int cellsV_str cellsV_nilptr cellsV_ptr cellsV_nilslice cellsV_slice cellsV_nilmap cellsV_map cellsV_func cellsV_nilfunc cellsV_iface cellsV_niliface cellsV_agg bin_lss bin_gtr bin_leq bin_geq bin_eql bin_neq bin_add bin_sub bin_eqlS bin_neqS mkFrame_nil mkFrame_cons resA_one resA_two resA_three over_0 over_1 over_2 over_3 over_4 over_5 over0_nil over0_cons Option.getD_some if_true if_false AHeap.next_push AVal.bool.injEq decide_eq_true_eq decide_eq_false_iff_not Bool.not_eq_true' Bool.not_eq_false' Bool.not_eq_true decide_true decide_false Bool.not_true Bool.not_false Int.toNat_natCast Int.natCast_nonneg true_and and_true wo_mapPut wp_drawn' wsts_nil b_pure b_read b_new b_wr wor_none b_org rer_nil rer_load1 rer_loadN wo_append AHeap.next_skip AHeap.next_put' AHeap.mk_push_t AHeap.mk_eta AHeap.mk_skip ldA_skip ldN_skip Nat.add_zero Nat.zero_add b_lite_true b_lite_false eq_self_iff_true not_true_eq_false not_false_eq_true bx_k bx_q bx_x bx_1 undefA_bool putAt_push List.length_cons List.length_nil Nat.le_refl ldA_push_new ldN_push_new List.getElem?_cons_zero List.getElem?_cons_succ List.drop_zero List.drop_succ_cons List.take_succ_cons List.take_zero b_build b_buildSlice evParts_nil evParts_cons b_fillA_nil b_fillA nbeq nble natadd natmul lenL_eq repL_1 repL_2 repL_3 wo_sliceData sdV_nil sdV_slice wo_unsafeStr usV_nil wo_slStr slStrV_str evCo_none evCo_some boundA_none Bool.and_true Bool.true_and wo_minmax2' mm2V_int
set_option maxHeartbeats 1000000 in
theorem narrow_l1 {Qn Qr : Fr → AHeap → Prop} {Qx : Nat → Fr → AHeap → Prop} (c d : List Alt) (cl : List (List Alt)) (g h1 : AHeap) (b : Nat) (v w out x : AVal) (i : Nat) (m : Int) (fr : Fr) (hx : AltsA g x c) (hG : CellsA g w cl) (hcl : cl[i]? = some d) (hc8 : c.length ≤ 8) (hd : d.length ≤ 8) (hle : Hle g h1) (hb : BoxL (fun c => c < g.next) h1 b [])
    (t1 : fr.get 1 = some w) (t8 : fr.get 8 = some out) (t9 : fr.get 9 = some (.int .i64 (i : Int))) (t11 : fr.get 11 = some (.ptr b 0)) (t31 : fr.get 31 = some v) (t32 : fr.get 32 = some (.int .i64 m)) (t33 : fr.get 33 = some (.int .i64 (i : Int))) (t39 : fr.get 39 = some x) (t40 : fr.get 40 = some (.int .i64 (c.length : Int))) (t41 : fr.get 41 = some (.int .i64 0))
    (hq : ∀ fr h', fr.get 1 = some w → fr.get 8 = some out → fr.get 11 = some (.ptr b 0) → fr.get 31 = some v → fr.get 32 = some (.int .i64 m) → fr.get 33 = some (.int .i64 (i : Int)) → Hle g h' → BoxL (fun c => c < g.next) h' b (narrowC c d) → Qx 2 fr h') : wp E2 (.loop c30_l1) fr h1 Qn Qx Qr := by
  refine b_loop (fun e fr h' => fr.get 1 = some w ∧ fr.get 8 = some out ∧ fr.get 9 = some (.int .i64 (i : Int)) ∧ fr.get 11 = some (.ptr b 0) ∧ fr.get 31 = some v ∧ fr.get 32 = some (.int .i64 m) ∧ fr.get 33 = some (.int .i64 (i : Int)) ∧ fr.get 39 = some x ∧ fr.get 40 = some (.int .i64 (c.length : Int)) ∧ ∃ k : Nat, fr.get 41 = some (.int .i64 (k : Int)) ∧ e + k = c.length ∧ Hle g h' ∧ BoxL (fun c => c < g.next) h' b (narrowC (c.take k) d)) c.length ?_ ?_
  · exact ⟨t1, t8, t9, t11, t31, t32, t33, t39, t40, 0, t41, by omega, hle, by simpa [narrowC] using hb⟩
  clear hle hb t1 t8 t9 t11 t31 t32 t33 t39 t40 t41
  rintro e fr h' ⟨t1, t8, t9, t11, t31, t32, t33, t39, t40, k, t41, he, hle, hb⟩
  unfold c30_l1
  simp only [go_sem, Nat.reduceEqDiff, Int.reduceLT, Int.reduceLE, Int.reduceEq, Nat.reduceLT, Nat.reduceAdd, Nat.reduceMul, Int.reduceToNat, Nat.reduceLeDiff, reduceCtorEq, t1, t8, t9, t11, t31, t32, t33, t39, t40, t41]
  refine b_lite (fun hc => ?_) (fun hc => ?_)
  · obtain ⟨⟨s, z⟩, hak⟩ : ∃ a, c[k]? = some a := ⟨_, List.getElem?_eq_getElem (by omega)⟩
    obtain ⟨b2, o2, hb2, hix, hm0, hm1, hN⟩ := (hx.mono hle).at hak
    obtain ⟨b3, o3, y, hb3, hiy, hl0, _, hy, _⟩ := hG.at hcl
    have hl0' : ldA (h'.push (.cells [.str s, .int .i64 z] 57)) b3 o3 = some y := ((hle.push _).ldA hb3 o3).trans hl0
    have hn1 := narrowC_snoc (d := d) hak
    have hlen := narrowC_len (c.take k) d
    have hlen1 : (c.take k).length ≤ 8 := by rw [List.length_take]; omega
    have hlen2 : (c.take k).length * d.length ≤ 8 * 8 := Nat.mul_le_mul hlen1 hd
    simp only [go_sem, Nat.reduceEqDiff, Int.reduceLT, Int.reduceLE, Int.reduceEq, Nat.reduceLT, Nat.reduceAdd, Nat.reduceMul, Int.reduceToNat, Nat.reduceLeDiff, reduceCtorEq, t1, t8, t9, t11, t31, t32, t33, t39, t40, t41, hix, hN, hiy, hl0', hy.len]
    refine narrow_l0 (s, z) (narrowC (c.take k) d) d g _ b h'.next 0 v w out x y i k m c.length _ hy (by omega) (by omega) (hle.push _) (by simp [AHeap.next_push]) (AHeap.get_push_same _ _) ?_ (by simp [T.get_set, t1]) (by simp [T.get_set, t8]) (by simp [T.get_set, t9]) (by simp [T.get_set, t11]) (by simp [T.get_set]) (by simp [T.get_set, t31]) (by simp [T.get_set, t32]) (by simp [T.get_set, t33]) (by simp [T.get_set, t39]) (by simp [T.get_set, t40]) (by simp [T.get_set, t41]) (by simp [T.get_set]) (by simp [T.get_set]) (by simp [T.get_set]) ?_
    · exact hb.push _
    intro fr2 h2 u1 u8 u9 u11 u31 u32 u33 u39 u40 u41 hle2 hb2
    simp only [go_sem, Nat.reduceEqDiff, Int.reduceLT, Int.reduceLE, Int.reduceEq, Nat.reduceLT, Nat.reduceAdd, Nat.reduceMul, Int.reduceToNat, Nat.reduceLeDiff, reduceCtorEq, u1, u8, u9, u11, u31, u32, u33, u39, u40, u41]
    refine ⟨e - 1, by omega, k + 1, ?_, by omega, hle2, ?_⟩
    · rw [wrap_i64 (by omega) (by omega)]; rfl
    · rw [hn1]; exact hb2
  · simp only [go_sem, Nat.reduceEqDiff, Int.reduceLT, Int.reduceLE, Int.reduceEq, Nat.reduceLT, Nat.reduceAdd, Nat.reduceMul, Int.reduceToNat, Nat.reduceLeDiff, reduceCtorEq, t1, t8, t9, t11, t31, t32, t33, t39, t40, t41]
    have hk : k = c.length := by omega
    rw [hk, List.take_length] at hb
    exact hq _ _ (by simp [T.get_set, t1]) (by simp [T.get_set, t8]) (by simp [T.get_set, t11]) (by simp [T.get_set, t31]) (by simp [T.get_set, t32]) (by simp [T.get_set, t33]) hle hb
theorem OutL.blk {n0 : Nat} {h : AHeap} {out : AVal} {done : List (List Alt)} (H : OutL n0 h out done) {c : Nat} (hc : blkOf out c) : c < h.next := by
  obtain ⟨vs, h1, _⟩ := H
  exact h1.blk hc
theorem narrowC_mem {a : Alt} {c d : List Alt} (h : a ∈ narrowC c d) : ∃ b, b ∈ c ∧ a.1 = b.1 := by
  unfold narrowC at h
  obtain ⟨b, hb, hab⟩ := List.mem_flatMap.1 h
  unfold narrow1 at hab
  obtain ⟨x, _, rfl⟩ := List.mem_map.1 hab
  exact ⟨b, hb, rfl⟩
set_option maxHeartbeats 1000000 in
theorem narrow_c (wo cl : List (List Alt)) (v w : AVal) (h : AHeap) (H : CellsA h v wo) (G : CellsA h w cl) : Ec E2 30 [v, w] h fun r h' => ∃ u, r = .tup [u, .int .i64 (narrowE wo cl)] ∧ Hle h h' ∧ CellsA h' u (narrowL wo cl) := by
  refine Ec.of_wpb (prim2_none (by decide)) code30 ?_
  unfold c30
  simp only [go_sem, Nat.reduceEqDiff, Int.reduceLT, Int.reduceLE, Int.reduceEq, Nat.reduceLT, Nat.reduceAdd, Nat.reduceMul, Int.reduceToNat, Nat.reduceLeDiff, reduceCtorEq]
  refine ⟨by decide, ?_⟩
  refine (checkCells_c wo v h H).mono ?_
  rintro r h1 ⟨rfl, hle1⟩
  by_cases hE : ¬ checkE wo = 0
  · simp only [go_sem, Nat.reduceEqDiff, Int.reduceLT, Int.reduceLE, Int.reduceEq, Nat.reduceLT, Nat.reduceAdd, Nat.reduceMul, Int.reduceToNat, Nat.reduceLeDiff, reduceCtorEq, hE]
    refine ⟨.nilslice, ?_, hle1, ?_⟩
    rotate_left
    · unfold narrowL narrowE
      rw [if_pos hE, if_neg hE]; exact CellsA.nil _
    · unfold narrowE; rw [if_pos hE]
  have hE' := hE
  have hE : checkE wo = 0 := Decidable.not_not.1 hE
  obtain ⟨hl32, hallV⟩ := checkE_ok hE
  simp only [go_sem, Nat.reduceEqDiff, Int.reduceLT, Int.reduceLE, Int.reduceEq, Nat.reduceLT, Nat.reduceAdd, Nat.reduceMul, Int.reduceToNat, Nat.reduceLeDiff, reduceCtorEq, hE]
  refine ⟨by decide, ?_⟩
  refine (checkCells_c cl w h1 (G.mono hle1)).mono ?_
  rintro r h2 ⟨rfl, hle2⟩
  by_cases hF : ¬ checkE cl = 0
  · simp only [go_sem, Nat.reduceEqDiff, Int.reduceLT, Int.reduceLE, Int.reduceEq, Nat.reduceLT, Nat.reduceAdd, Nat.reduceMul, Int.reduceToNat, Nat.reduceLeDiff, reduceCtorEq, hE, hF]
    refine ⟨.nilslice, ?_, hle1.trans hle2, ?_⟩
    rotate_left
    · unfold narrowL narrowE
      rw [if_neg hE', if_pos hF, if_neg hF]; exact CellsA.nil _
    · unfold narrowE; rw [if_neg hE', if_pos hF]
  have hF' := hF
  have hF : checkE cl = 0 := Decidable.not_not.1 hF
  obtain ⟨hm32, hcllV⟩ := checkE_ok hF
  by_cases hL : ¬ wo.length = cl.length
  · have hL2 : ¬ ((wo.length : Int) = (cl.length : Int)) := by omega
    simp only [go_sem, Nat.reduceEqDiff, Int.reduceLT, Int.reduceLE, Int.reduceEq, Nat.reduceLT, Nat.reduceAdd, Nat.reduceMul, Int.reduceToNat, Nat.reduceLeDiff, reduceCtorEq, hE, hF, H.len, G.len, hL2]
    refine ⟨.nilslice, ?_, hle1.trans hle2, ?_⟩
    rotate_left
    · unfold narrowL narrowE
      rw [if_neg hE', if_neg hF', if_pos hL, if_neg (by decide)]; exact CellsA.nil _
    · unfold narrowE; rw [if_neg hE', if_neg hF', if_pos hL]
  have hL' := hL
  have hL : wo.length = cl.length := Decidable.not_not.1 hL
  have hL2 : ((wo.length : Int) = (cl.length : Int)) := by omega
  simp only [go_sem, Nat.reduceEqDiff, Int.reduceLT, Int.reduceLE, Int.reduceEq, Nat.reduceLT, Nat.reduceAdd, Nat.reduceMul, Int.reduceToNat, Nat.reduceLeDiff, reduceCtorEq, hE, hF, H.len, G.len, hL2]
  have hzl := narrowZ_len hL
  refine b_loop (fun e fr h' => fr.get 1 = some w ∧ fr.get 31 = some v ∧ fr.get 32 = some (.int .i64 (cl.length : Int)) ∧ ∃ i : Nat, fr.get 33 = some (.int .i64 (i : Int)) ∧ e + i = cl.length ∧ Hle h h' ∧ [] ∉ (narrowZ wo cl).take i ∧ ∃ out, fr.get 8 = some out ∧ OutL h.next h' out ((narrowZ wo cl).take i)) cl.length ?_ ?_
  · exact ⟨by simp [T.get_set], by simp [T.get_set], by simp [T.get_set], 0, by simp [T.get_set], by omega, hle1.trans hle2, by simp, .nilslice, by simp [T.get_set], by simpa using OutL.nil _ _⟩
  clear hle1 hle2
  rintro e fr h' ⟨t1, t31, t32, i, t33, he, hle, hno, out, t8, hout⟩
  unfold c30_l2
  simp only [go_sem, Nat.reduceEqDiff, Int.reduceLT, Int.reduceLE, Int.reduceEq, Nat.reduceLT, Nat.reduceAdd, Nat.reduceMul, Int.reduceToNat, Nat.reduceLeDiff, reduceCtorEq, t1, t8, t31, t32, t33]
  refine b_lite (fun hc => ?_) (fun hc => ?_)
  · obtain ⟨c, hci⟩ : ∃ c, wo[i]? = some c := ⟨_, List.getElem?_eq_getElem (by omega)⟩
    obtain ⟨d, hdi⟩ : ∃ c, cl[i]? = some c := ⟨_, List.getElem?_eq_getElem (by omega)⟩
    have hvc : validP c := hallV c (List.mem_of_getElem? hci)
    have hvd : validP d := hcllV d (List.mem_of_getElem? hdi)
    obtain ⟨b2, o2, x, hb2, hix, _, hN0, hx, hxf⟩ := H.at hci
    have hN : ldN h' b2 o2 1 = some [x] := (hle.ldN hb2 o2 1).trans hN0
    have hout1 := hout.keep ((Hle.refl h').push (.cells [x] 55))
    have hleB : Hle h (h'.push (.cells [x] 55)) := hle.push _
    have hnx : (h'.push (.cells [x] 55)).next = h'.next + 1 := rfl
    simp only [go_sem, Nat.reduceEqDiff, Int.reduceLT, Int.reduceLE, Int.reduceEq, Nat.reduceLT, Nat.reduceAdd, Nat.reduceMul, Int.reduceToNat, Nat.reduceLeDiff, reduceCtorEq, t1, t8, t31, t32, t33, hix, hN, cellsV_flat hxf]
    have hl10 : ldA ((h'.push (.cells [x] 55)).push (.cells [.nilslice] 55)) h'.next 0 = some x := by
      have : (h'.push (.cells [x] 55)).get h'.next = some (.cells [x] 55) := AHeap.get_push_same _ _
      have h2 : ((h'.push (.cells [x] 55)).push (.cells [.nilslice] 55)).get h'.next = some (.cells [x] 55) := by rw [AHeap.get_push_ne _ _ (by rw [hnx]; omega)]; exact this
      rw [ldA_cells h2]
      rfl
    have hbox : BoxL (fun c => c < (h'.push (.cells [x] 55)).next) ((h'.push (.cells [x] 55)).push (.cells [.nilslice] 55)) (h'.next + 1) [] := BoxL.new (by omega)
    simp only [go_sem, Nat.reduceEqDiff, Int.reduceLT, Int.reduceLE, Int.reduceEq, Nat.reduceLT, Nat.reduceAdd, Nat.reduceMul, Int.reduceToNat, Nat.reduceLeDiff, reduceCtorEq, t1, t8, t31, t32, t33, hl10, hx.len]
    refine narrow_l1 c d cl (h'.push (.cells [x] 55)) _ (h'.next + 1) v w out x i cl.length _ (hx.mono hleB) (G.mono hleB) hdi hvc.2.1 hvd.2.1 ((Hle.refl _).push _) hbox (by simp [T.get_set, t1]) (by simp [T.get_set, t8]) (by simp [T.get_set]) (by simp [T.get_set]) (by simp [T.get_set, t31]) (by simp [T.get_set, t32]) (by simp [T.get_set, t33]) (by simp [T.get_set]) (by simp [T.get_set]) (by simp [T.get_set]) ?_
    intro fr2 h2 u1 u8 u11 u31 u32 u33 hle2 hb2
    obtain ⟨u, _, hu, huN, hown, hblk⟩ := hb2.ld
    have hz := narrowZ_snoc hci hdi
    have hlet : ∀ a, a ∈ narrowC c d → a.1.length ≤ 9223372036854775807 := fun a ha => by
      obtain ⟨b, hb, e⟩ := narrowC_mem ha
      rw [e]
      have := (hvc.2.2.1 b hb).1
      omega
    have hua := hown.alts hlet
    by_cases hnil : narrowC c d = []
    · have hlen0 : ((narrowC c d).length : Int) = 0 := by rw [hnil]; rfl
      simp only [go_sem, Nat.reduceEqDiff, Int.reduceLT, Int.reduceLE, Int.reduceEq, Nat.reduceLT, Nat.reduceAdd, Nat.reduceMul, Int.reduceToNat, Nat.reduceLeDiff, reduceCtorEq, u1, u8, u11, u31, u32, u33, hu, hua.len, hlen0]
      refine ⟨.nilslice, ?_, hleB.trans hle2, ?_⟩
      · have : narrowE wo cl = 8 := by
          have hmem : [] ∈ narrowZ wo cl := by
            have : narrowC c d ∈ (narrowZ wo cl).take (i + 1) := by rw [hz]; simp
            rw [hnil] at this
            exact List.mem_of_mem_take this
          unfold narrowE
          rw [if_neg hE', if_neg hF', if_neg hL', if_pos hmem]
        rw [this]
      · have : ¬ narrowE wo cl = 0 := by
          have hmem : [] ∈ narrowZ wo cl := by
            have : narrowC c d ∈ (narrowZ wo cl).take (i + 1) := by rw [hz]; simp
            rw [hnil] at this
            exact List.mem_of_mem_take this
          unfold narrowE
          rw [if_neg hE', if_neg hF', if_neg hL', if_pos hmem]; decide
        unfold narrowL
        rw [if_neg this]; exact CellsA.nil _
    · have hlen0 : ¬ ((narrowC c d).length : Int) = 0 := fun e => hnil (List.eq_nil_of_length_eq_zero (by omega))
      simp only [go_sem, Nat.reduceEqDiff, Int.reduceLT, Int.reduceLE, Int.reduceEq, Nat.reduceLT, Nat.reduceAdd, Nat.reduceMul, Int.reduceToNat, Nat.reduceLeDiff, reduceCtorEq, u1, u8, u11, u31, u32, u33, hu, huN, hua.len, hlen0, hua.cells]
      refine OutL.app (hout1.keep hle2) (by have := (hleB.trans hle2).next; omega) hua (fun c hc ho => (hblk c hc).2 (hout1.blk ho)) (fun c hc => hown.blk hc) (by rw [List.length_take]; omega) ?_
      intro v' h4 ho4 hn4 hg4
      simp only [go_sem, Nat.reduceEqDiff, Int.reduceLT, Int.reduceLE, Int.reduceEq, Nat.reduceLT, Nat.reduceAdd, Nat.reduceMul, Int.reduceToNat, Nat.reduceLeDiff, reduceCtorEq, u1, u8, u11, u31, u32, u33]
      refine ⟨e - 1, by omega, i + 1, ?_, by omega, ?_, ?_, ?_⟩
      · rw [wrap_i64 (by omega) (by omega)]; rfl
      · have hle3 := hleB.trans hle2
        exact ⟨by have := hle3.next; omega, fun c hc => by rw [hg4 c hc]; exact hle3.get c hc⟩
      · rw [hz]
        intro hm
        rcases List.mem_append.1 hm with hm | hm
        · exact hno hm
        · simp at hm; exact hnil hm
      · rw [hz]; exact ⟨v', rfl, ho4⟩
  · simp only [go_sem, Nat.reduceEqDiff, Int.reduceLT, Int.reduceLE, Int.reduceEq, Nat.reduceLT, Nat.reduceAdd, Nat.reduceMul, Int.reduceToNat, Nat.reduceLeDiff, reduceCtorEq, t1, t8, t31, t32, t33]
    have hi : i = (narrowZ wo cl).length := by omega
    rw [hi, List.take_length] at hout hno
    have hE0 : narrowE wo cl = 0 := by
      unfold narrowE
      rw [if_neg hE', if_neg hF', if_neg hL', if_neg hno]
    refine ⟨out, by rw [hE0], hle, ?_⟩
    unfold narrowL
    rw [if_pos hE0]
    exact hout.cells
end
end Go.AX

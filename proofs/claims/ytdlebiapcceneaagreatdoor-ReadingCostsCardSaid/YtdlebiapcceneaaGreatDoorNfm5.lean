/-
  Contracts of functions of this seat, for every input that each theorem names.
-/
import Derived.Test.YtdlebiapcceneaaGreatDoorNfm3
import Derived.Test.YtdlebiapcceneaaGreatDoorNfm4
set_option linter.unusedVariables false
set_option linter.unusedSimpArgs false
set_option linter.unusedSectionVars false
namespace Go.AX
open Go Go.Proofs
noncomputable section
set_option linter.unusedSimpArgs false
set_option linter.unusedVariables false
attribute [local go_sem] b_seq wp_skip wp_exit wp_ret wp_region b_block wops_nil b_ops b_opsg b_cond condV_lite wo_mv b_bin wo_call callV_func wo_pick b_box wo_load1 wo_loadN wo_store wo_nilCheck wo_not wo_lenStr' wo_lenSl wo_ixStr' wo_ixSl wo_fAddr wo_part1 wo_partN wo_extract wo_cInt wo_cStr wo_mkMap wo_mkIface wo_mkFunc wo_lookup pickV_bool ifT_true ifT_false b_loadV b_loadNV b_storeV nilV_ptr nilV_func nilV_iface notV_bool lenStrV_str lenSlV_nil lenSlV_slice b_ixStrV ixSlV_slice fAddrV_ptr b_part1V partNV_agg b_extractV convV_int strV_str evC_tm evC_cn T.get_set putA_some putA_none onO_some evCs_nil evCs_cons appL_nil appL_cons guardOk_true guardOk_false cellsV_bool cellsV_int cellsV_str cellsV_nilptr cellsV_ptr cellsV_nilslice cellsV_slice cellsV_nilmap cellsV_map cellsV_func cellsV_nilfunc cellsV_iface cellsV_niliface cellsV_agg bin_lss bin_gtr bin_leq bin_geq bin_eql bin_neq bin_add bin_sub bin_eqlS bin_neqS mkFrame_nil mkFrame_cons resA_one resA_two resA_three over_0 over_1 over_2 over_3 over_4 over_5 over0_nil over0_cons Option.getD_some if_true if_false AHeap.next_push AVal.bool.injEq decide_eq_true_eq decide_eq_false_iff_not Bool.not_eq_true' Bool.not_eq_false' Bool.not_eq_true decide_true decide_false Bool.not_true Bool.not_false Int.toNat_natCast Int.natCast_nonneg true_and and_true wo_mapPut wp_drawn' wsts_nil b_pure b_read b_new b_wr wor_none b_org rer_nil rer_load1 rer_loadN wo_append AHeap.next_skip AHeap.next_put' AHeap.mk_push_t AHeap.mk_eta AHeap.mk_skip ldA_skip ldN_skip Nat.add_zero Nat.zero_add b_lite_true b_lite_false eq_self_iff_true not_true_eq_false not_false_eq_true bx_k bx_q bx_x bx_1 undefA_bool putAt_push List.length_cons List.length_nil Nat.le_refl ldA_push_new ldN_push_new List.getElem?_cons_zero List.getElem?_cons_succ List.drop_zero List.drop_succ_cons List.take_succ_cons List.take_zero b_build b_buildSlice evParts_nil evParts_cons b_fillA_nil b_fillA nbeq nble natadd natmul lenL_eq repL_1 repL_2 repL_3 wo_sliceData sdV_nil sdV_slice wo_unsafeStr usV_nil wo_slStr slStrV_str evCo_none evCo_some boundA_none Bool.and_true Bool.true_and wo_minmax2' mm2V_int
abbrev EntI := Int × Int × Nat
def encE (e : EntI) : AVal × AVal × Nat := (.int .i64 e.1, .int .i64 e.2.1, e.2.2)
structure MapI (es : List EntI) (clock : Nat) : Prop where
  keys : (es.map (·.1)).Nodup
  borns : (es.map (·.2.2)).Nodup
  lt : ∀ e, e ∈ es → e.2.2 < clock
def valE (es : List EntI) (q : Int) : Option Int := (es.find? fun e => decide (e.1 = q)).map (·.2.1)
theorem beqA_int (a b : Int) : beqA (.one .i) (.int .i64 a) (.int .i64 b) = some (decide (a = b)) := by
  show ifT (eqK .i64 .i64) (some (eqI a b)) none = _
  rw [eqI_eq]; rfl
theorem findA_ent (q : Int) : ∀ (es : List EntI) (i : Nat), (∃ k p, valE es q = some k ∧ findA (.one .i) (.int .i64 q) (es.map encE) i = some (some (i + p, .int .i64 k)) ∧ ∃ n, es[p]? = some (q, k, n)) ∨ (valE es q = none ∧ findA (.one .i) (.int .i64 q) (es.map encE) i = some none)
  | [], i => .inr ⟨rfl, rfl⟩
  | e :: es, i => by
    have hs : findA (.one .i) (.int .i64 q) ((e :: es).map encE) i = ob (beqA (.one .i) (.int .i64 q) (.int .i64 e.1)) fun t => ifT t (some (some (i, .int .i64 e.2.1))) (findA (.one .i) (.int .i64 q) (es.map encE) (i + 1)) := rfl
    rw [beqA_int] at hs
    by_cases h : e.1 = q
    · left
      refine ⟨e.2.1, 0, by simp [valE, h], ?_, e.2.2, by rw [← h]; rfl⟩
      rw [hs]
      simp [ob, ifT, h]
    · have hv : valE (e :: es) q = valE es q := by simp [valE, h]
      have hd : decide (q = e.1) = false := by simp; exact fun x => h x.symm
      have hs2 : findA (.one .i) (.int .i64 q) ((e :: es).map encE) i = findA (.one .i) (.int .i64 q) (es.map encE) (i + 1) := by rw [hs, hd]
      rw [hv, hs2]
      rcases findA_ent q es (i + 1) with ⟨k, p, h1, h2, n, h3⟩ | h1
      · exact .inl ⟨k, p + 1, h1, by rw [h2, Nat.add_assoc, Nat.add_comm 1 p], n, by simpa using h3⟩
      · exact .inr h1
def putE (es : List EntI) (clock : Nat) (q k : Int) : List EntI := if (valE es q).isSome then es.map (fun e => if e.1 = q then (q, k, e.2.2) else e) else es ++ [(q, k, clock)]
def putC (es : List EntI) (clock : Nat) (q : Int) : Nat := if (valE es q).isSome then clock else clock + 1
theorem valE_none {es : List EntI} {q : Int} : valE es q = none ↔ ∀ e, e ∈ es → e.1 ≠ q := by
  unfold valE
  rw [Option.map_eq_none_iff, List.find?_eq_none]
  simp
theorem valE_mem {es : List EntI} {q k : Int} (h : valE es q = some k) : ∃ n, (q, k, n) ∈ es := by
  unfold valE at h
  rw [Option.map_eq_some_iff] at h
  obtain ⟨e, h1, rfl⟩ := h
  have h2 := List.find?_some h1
  have : e.1 = q := by simpa using h2
  exact ⟨e.2.2, by rw [← this]; exact List.mem_of_find?_eq_some h1⟩
theorem valE_of_mem : ∀ {es : List EntI} {e : EntI}, (es.map (·.1)).Nodup → e ∈ es → valE es e.1 = some e.2.1
  | x :: es, e, hn, he => by
    rw [List.map_cons, List.nodup_cons] at hn
    by_cases h : x.1 = e.1
    · rcases List.mem_cons.1 he with rfl | he
      · simp [valE]
      · exact absurd (List.mem_map.2 ⟨e, he, rfl⟩) (h ▸ hn.1)
    · rcases List.mem_cons.1 he with rfl | he
      · exact absurd rfl h
      · have := valE_of_mem hn.2 he
        simp only [valE, List.find?_cons, h, decide_false] at this ⊢
        exact this
theorem valE_put (es : List EntI) (clock : Nat) (q k q' : Int) : valE (putE es clock q k) q' = if q' = q then some k else valE es q' := by
  unfold putE
  split
  · rename_i hs
    have key : ∀ l : List EntI, valE (l.map (fun e => if e.1 = q then (q, k, e.2.2) else e)) q' = if q' = q then (if (valE l q).isSome then some k else none) else valE l q' := by
      intro l
      induction l with
      | nil => simp [valE]
      | cons e l ih =>
        have hc : ∀ (e : EntI) (l : List EntI) (q : Int), valE (e :: l) q = if e.1 = q then some e.2.1 else valE l q := by
          intro e l q
          by_cases h : e.1 = q <;> simp [valE, h]
        rw [List.map_cons, hc, ih, hc, hc]
        by_cases h1 : e.1 = q
        · rw [if_pos h1]
          by_cases h2 : q' = q
          · subst h2; simp [h1]
          · have : ¬ q = q' := fun x => h2 x.symm
            simp [h1, h2, this]
        · rw [if_neg h1]
          by_cases h2 : q' = q
          · subst h2; simp [h1]
          · simp [h2]
    rw [key es, if_pos hs]
  · rename_i hs
    have hs : valE es q = none := by simpa using hs
    by_cases h2 : q' = q
    · subst h2
      rw [if_pos rfl]
      unfold valE at hs ⊢
      rw [Option.map_eq_none_iff] at hs
      rw [List.find?_append, hs]
      simp
    · rw [if_neg h2]
      have : ¬ q = q' := fun x => h2 x.symm
      unfold valE
      rw [List.find?_append]
      cases es.find? (fun e => decide (e.1 = q')) with
      | some e => rfl
      | none => simp [this]
theorem MapI.nil : MapI [] 0 := ⟨by simp, by simp, by simp⟩
theorem MapI.put {es : List EntI} {clock : Nat} (H : MapI es clock) (q k : Int) : MapI (putE es clock q k) (putC es clock q) := by
  unfold putE putC
  split
  · rename_i hs
    have h1 : (es.map (fun e => if e.1 = q then (q, k, e.2.2) else e)).map (·.1) = es.map (·.1) := by
      rw [List.map_map]
      apply List.map_congr_left
      intro e _
      by_cases h : e.1 = q <;> simp [h]
    have h2 : (es.map (fun e => if e.1 = q then (q, k, e.2.2) else e)).map (·.2.2) = es.map (·.2.2) := by
      rw [List.map_map]
      apply List.map_congr_left
      intro e _
      by_cases h : e.1 = q <;> simp [h]
    refine ⟨by rw [h1]; exact H.keys, by rw [h2]; exact H.borns, fun e he => ?_⟩
    have : e.2.2 ∈ es.map (·.2.2) := by rw [← h2]; exact List.mem_map.2 ⟨e, he, rfl⟩
    obtain ⟨e', he', h⟩ := List.mem_map.1 this
    rw [← h]; exact H.lt e' he'
  · rename_i hs
    have hs : valE es q = none := by simpa using hs
    rw [valE_none] at hs
    refine ⟨?_, ?_, fun e he => ?_⟩
    · rw [List.map_append, List.nodup_append]
      refine ⟨H.keys, by simp, fun a ha b hb => ?_⟩
      obtain ⟨e, he, rfl⟩ := List.mem_map.1 ha
      simp at hb
      subst hb
      exact hs e he
    · rw [List.map_append, List.nodup_append]
      refine ⟨H.borns, by simp, fun a ha b hb => ?_⟩
      obtain ⟨e, he, rfl⟩ := List.mem_map.1 ha
      simp at hb
      subst hb
      have := H.lt e he
      omega
    · rcases List.mem_append.1 he with he | he
      · have := H.lt e he; omega
      · simp at he; subst he; exact Nat.lt_succ_self _
theorem keyOk_i (v : AVal) : keyOk (.one .i) v = true := rfl
theorem stays_one (k : FK) (a b : AVal) : stays (.one k) a b = true := rfl
theorem putV_ent {r : Nat} {q k : Int} {h : AHeap} {es : List EntI} {c : Nat} (H : MapI es c) (hg : h.get r = some (.map (es.map encE) c)) {K : AVal → AHeap → Prop} :
    putV (.one .i) (.map r) (.int .i64 q) (.int .i64 k) h K = K undefA (h.put r (.map ((putE es c q k).map encE) (putC es c q))) := by
  show putO (.one .i) r (.int .i64 q) (.int .i64 k) h K (h.get r) = _
  rw [hg]
  show (keyOk (.one .i) (.int .i64 q) = true ∧ onO (findA (.one .i) (.int .i64 q) (es.map encE) 0) fun i => match i with
    | none => K undefA (h.put r (.map (es.map encE ++ [(.int .i64 q, .int .i64 k, c)]) (c + 1)))
    | some p => onO ((es.map encE)[p.1]?) fun e => stays (.one .i) e.1 (.int .i64 q) = true ∧ K undefA (h.put r (.map ((es.map encE).modify p.1 fun e => (.int .i64 q, .int .i64 k, e.2.2)) c))) = _
  rw [keyOk_i]
  rcases findA_ent q es 0 with ⟨k', p, h1, h2, n, h3⟩ | ⟨h1, h2⟩
  · rw [h2]
    have hp : (es.map encE)[p]? = some (encE (q, k', n)) := by rw [List.getElem?_map, h3]; rfl
    have he : (es.map encE).modify p (fun e => (.int .i64 q, .int .i64 k, e.2.2)) = (es.map (fun e => if e.1 = q then (q, k, e.2.2) else e)).map encE := by
      apply List.ext_getElem?
      intro i
      rw [List.getElem?_modify, List.getElem?_map, List.getElem?_map, List.getElem?_map]
      cases hi : es[i]? with
      | none => simp
      | some e =>
        by_cases hip : p = i
        · subst hip
          rw [h3] at hi; cases hi
          simp [encE]
        · have hne : e.1 ≠ q := by
            intro he
            have hi' := (List.getElem?_eq_some_iff.1 hi)
            have hp' := (List.getElem?_eq_some_iff.1 h3)
            obtain ⟨a1, a2⟩ := hi'
            obtain ⟨b1, b2⟩ := hp'
            exact hip ((List.getElem?_inj (l := es.map (·.1)) (by simpa using b1) H.keys).1 (by rw [List.getElem?_map, List.getElem?_map, hi, h3]; simp [he]))
          simp [hip, hne]
    have hput : putE es c q k = es.map (fun e => if e.1 = q then (q, k, e.2.2) else e) := by unfold putE; rw [h1]; rfl
    have hc : putC es c q = c := by unfold putC; rw [h1]; rfl
    rw [hput, hc, ← he]
    simp only [onO_some, true_and, Nat.zero_add]
    rw [hp]
    simp only [onO_some, stays_one, true_and]
  · rw [h2]
    have hput : putE es c q k = es ++ [(q, k, c)] := by unfold putE; rw [h1]; rfl
    have hc : putC es c q = c + 1 := by unfold putC; rw [h1]; rfl
    rw [hput, hc]
    simp [onO_some, encE]
theorem lookV_ent {z : AVal} {r : Nat} {q : Int} {h : AHeap} {es : List EntI} {c : Nat} (hg : h.get r = some (.map (es.map encE) c)) {K : AVal → AHeap → Prop} :
    lookV (.one .i) z (.map r) (.int .i64 q) true h K = match valE es q with
      | none => K (.tup [z, .bool false]) h
      | some k => K (.tup [.int .i64 k, .bool true]) h := by
  unfold lookV
  rw [mapAt_map hg]
  simp only [onO_some, keyOk_i, true_and]
  rcases findA_ent q es 0 with ⟨k', p, h1, h2, n, h3⟩ | ⟨h1, h2⟩
  · rw [h1, h2]; rfl
  · rw [h1, h2]; rfl
def rangeV (v : AVal) (h : AHeap) (K : AVal → AHeap → Prop) : Prop := onO (I.range (.c v) .nil h) fun r => K r.1 r.2
theorem wo_range {E : Env} {fr : Fr} {h : AHeap} {K : AVal → AHeap → Prop} {x : COpd} : wo E (.range x) fr h K = rangeV (evC x fr) h K := propext Iff.rfl
theorem rangeV_map {r : Nat} {h : AHeap} {es : List (AVal × AVal × Nat)} {c : Nat} (hg : h.get r = some (.map es c)) {K : AVal → AHeap → Prop} : rangeV (.map r) h K = K (.ptr h.next 0) (h.push (.mapIter (some r) c [] c)) := by
  show onO (onMapO (h.get r) fun _ clock => some (AVal.ptr h.next 0, h.push (.mapIter (some r) clock [] clock))) _ = _
  rw [hg]; exact propext Iff.rfl
def entryV (v : AVal) (h : AHeap) (K : AVal → AHeap → Prop) : Prop := onO (I.entry (.c v) .nil h) fun r => K r.1 r.2
theorem wo_entry {E : Env} {fr : Fr} {h : AHeap} {K : AVal → AHeap → Prop} {x : COpd} : wo E (.entry x) fr h K = entryV (evC x fr) h K := propext Iff.rfl
theorem find_born {es : List EntI} (hn : (es.map (·.2.2)).Nodup) {e : EntI} (he : e ∈ es) : (es.map encE).find? (fun x => Nat.beq x.2.2 e.2.2) = some (encE e) := by
  induction es with
  | nil => cases he
  | cons x es ih =>
    rw [List.map_cons, List.nodup_cons] at hn
    rw [List.map_cons, List.find?_cons]
    by_cases h : x.2.2 = e.2.2
    · have hx : Nat.beq (encE x).2.2 e.2.2 = true := by rw [Nat.beq_eq]; exact h
      rw [hx]
      rcases List.mem_cons.1 he with rfl | he
      · rfl
      · exact absurd (List.mem_map.2 ⟨e, he, rfl⟩) (h ▸ hn.1)
    · have hx : Nat.beq (encE x).2.2 e.2.2 = false := by
        rw [Bool.eq_false_iff]; intro hc; rw [Nat.beq_eq] at hc; exact h hc
      rw [hx]
      rcases List.mem_cons.1 he with rfl | he
      · exact absurd rfl h
      · exact ih hn.2 he
theorem entryV_ent {r m since clock : Nat} {seen : List Nat} {es : List EntI} {e : EntI} {h : AHeap} (H : MapI es clock) (hr : h.get r = some (.mapIter (some m) since (seen ++ [e.2.2]) clock)) (hm : h.get m = some (.map (es.map encE) clock)) (he : e ∈ es) {K : AVal → AHeap → Prop} :
    entryV (.ptr r 0) h K = K (.tup [.int .i64 e.1, .int .i64 e.2.1]) h := by
  show onO (ifT (Nat.beq 0 0) (onIterO (h.get r) fun m _ seen stepped => ob m fun m => ob seen.getLast? fun stamp => onMapO (h.get m) fun es clock =>
    ifT (Nat.beq clock stepped) (ob (es.find? (fun e => Nat.beq e.2.2 stamp)) fun e => some (AVal.tup [e.1, e.2.1], h)) none) none) _ = _
  rw [hr]
  show onO (ob (seen ++ [e.2.2]).getLast? fun stamp => onMapO (h.get m) fun es c2 => ifT (Nat.beq c2 clock) (ob (es.find? (fun e => Nat.beq e.2.2 stamp)) fun e => some (AVal.tup [e.1, e.2.1], h)) none) _ = _
  rw [List.getLast?_append]
  show onO (onMapO (h.get m) fun es c2 => ifT (Nat.beq c2 clock) (ob (es.find? (fun x => Nat.beq x.2.2 e.2.2)) fun e => some (AVal.tup [e.1, e.2.1], h)) none) _ = _
  rw [hm]
  show onO (ifT (Nat.beq clock clock) (ob ((es.map encE).find? (fun x => Nat.beq x.2.2 e.2.2)) fun e => some (AVal.tup [e.1, e.2.1], h)) none) _ = _
  rw [find_born H.borns he, ifT_eq, if_pos (by simp)]
  exact propext Iff.rfl
theorem nextV_ent {r m clock : Nat} {seen : List Nat} {es : List EntI} {h : AHeap} (H : MapI es clock) (hr : h.get r = some (.mapIter (some m) clock seen clock)) (hm : h.get m = some (.map (es.map encE) clock)) {K : AVal → AHeap → Prop}
    (h0 : (∀ e, e ∈ es → e.2.2 ∈ seen) → K (.tup [.bool false]) h)
    (h1 : ∀ e, e ∈ es → e.2.2 ∉ seen → K (.tup [.bool true, .int .i64 e.1, .int .i64 e.2.1]) (h.put r (.mapIter (some m) clock (seen ++ [e.2.2]) clock))) : nextV (.ptr r 0) h K := by
  have hmem : ∀ x, x ∈ es.map encE → ∃ e, e ∈ es ∧ encE e = x := fun x hx => List.mem_map.1 hx
  refine ⟨r, m, clock, seen, clock, es.map encE, clock, rfl, hr, hm, ?_, ?_, ?_, ?_⟩
  · cases es with
    | nil => simp
    | cons e es =>
      have := H.lt e (by simp)
      have hb : Nat.ble clock (encE e).2.2 = false := by
        rw [Bool.eq_false_iff]; intro hc; rw [Nat.ble_eq] at hc; exact absurd this (by show ¬ e.2.2 < clock; have : clock ≤ e.2.2 := hc; omega)
      simp [hb]
  · rintro x hx _
    obtain ⟨e, he, rfl⟩ := hmem x hx
    exact H.lt e he
  · intro hall
    refine h0 fun e he => ?_
    have := hall (encE e) (List.mem_map.2 ⟨e, he, rfl⟩)
    simpa [encE] using this
  · intro x hx hs
    obtain ⟨e, he, rfl⟩ := hmem x hx
    refine h1 e he ?_
    have : seen.contains e.2.2 = false := hs
    intro hc
    rw [List.contains_iff_mem.2 hc] at this
    cases this
end
end Go.AX
namespace Go.AX
open Go Go.Proofs
noncomputable section
def Run (l : List ArcS) : Int → List Nat → Int → Int → Prop
  | q, [], q', k => q = q' ∧ k = 0
  | q, c :: s, q', k => ∃ x, x ∈ l ∧ x.fr = q ∧ x.l = c ∧ ∃ k', Run l x.to s q' k' ∧ k = x.c + k'
theorem Run.snoc {l : List ArcS} : ∀ {s : List Nat} {c : Nat} {q q' k : Int}, Run l q (s ++ [c]) q' k ↔ ∃ x, x ∈ l ∧ x.l = c ∧ x.to = q' ∧ ∃ k', Run l q s x.fr k' ∧ k = k' + x.c
  | [], c, q, q', k => by
    constructor
    · rintro ⟨x, hx, h1, h2, k', ⟨h3, h4⟩, h5⟩
      exact ⟨x, hx, h2, h3, 0, ⟨h1.symm, rfl⟩, by omega⟩
    · rintro ⟨x, hx, h1, h2, k', ⟨h3, h4⟩, h5⟩
      exact ⟨x, hx, h3.symm, h1, 0, ⟨h2, rfl⟩, by omega⟩
  | a :: s, c, q, q', k => by
    constructor
    · rintro ⟨x, hx, h1, h2, k', h3, h4⟩
      obtain ⟨y, hy, g1, g2, k2, g3, g4⟩ := Run.snoc.1 h3
      exact ⟨y, hy, g1, g2, x.c + k2, ⟨x, hx, h1, h2, k2, g3, rfl⟩, by omega⟩
    · rintro ⟨y, hy, g1, g2, k2, ⟨x, hx, h1, h2, k', h3, h4⟩, g4⟩
      exact ⟨x, hx, h1, h2, k' + y.c, Run.snoc.2 ⟨y, hy, g1, g2, k', h3, rfl⟩, by omega⟩
def LeastO (S : Int → Prop) : Option Int → Prop
  | none => ∀ k, ¬ S k
  | some m => S m ∧ ∀ k, S k → m ≤ k
theorem LeastO.uniq {S : Int → Prop} {a b : Option Int} (ha : LeastO S a) (hb : LeastO S b) : a = b := by
  cases a with
  | none => cases b with
    | none => rfl
    | some m => exact (ha m hb.1).elim
  | some n => cases b with
    | none => exact (hb n ha.1).elim
    | some m =>
      have := ha.2 m hb.1
      have := hb.2 n ha.1
      congr 1; omega
theorem LeastO.congr {S S' : Int → Prop} {a : Option Int} (h : ∀ k, S k ↔ S' k) (ha : LeastO S a) : LeastO S' a := by
  cases a with
  | none => exact fun k hk => ha k ((h k).2 hk)
  | some n => exact ⟨(h n).1 ha.1, fun k hk => ha.2 k ((h k).2 hk)⟩
def minO (o : Option Int) (k : Int) : Option Int := match o with
  | none => some k
  | some m => if k < m then some k else some m
theorem LeastO.add {S : Int → Prop} {a : Option Int} (ha : LeastO S a) (k1 : Int) : LeastO (fun k => S k ∨ k = k1) (minO a k1) := by
  cases a with
  | none => exact ⟨.inr rfl, fun k hk => by rcases hk with hk | rfl; exact (ha k hk).elim; exact Int.le_refl _⟩
  | some m =>
    show LeastO _ (if k1 < m then some k1 else some m)
    split
    · exact ⟨.inr rfl, fun k hk => by rcases hk with hk | rfl; have := ha.2 k hk; omega; exact Int.le_refl _⟩
    · exact ⟨.inl ha.1, fun k hk => by rcases hk with hk | rfl; exact ha.2 k hk; omega⟩
def AccS (A : AutoS) (s : List Nat) (k : Int) : Prop := ∃ e, e ∈ A.ends ∧ ∃ k', Run A.arcs 0 s e.st k' ∧ k = k' + e.c
theorem arcsP_mem {n : Int} {l : List ArcS} (H : ArcsP n l) {x : ArcS} (hx : x ∈ l) : arcOk n x := by
  obtain ⟨i, hi⟩ := List.mem_iff_getElem?.1 hx
  exact (H i x hi).1
theorem endsP_mem {n : Int} {l : List EndS} (H : EndsP n l) {x : EndS} (hx : x ∈ l) : endOk n x := by
  obtain ⟨i, hi⟩ := List.mem_iff_getElem?.1 hx
  exact (H i x hi).1
theorem Run.bound {n : Int} {l : List ArcS} (H : ArcsP n l) : ∀ {s : List Nat} {q q' k : Int}, Run l q s q' k → q + (s.length : Int) ≤ q' ∧ 0 ≤ k ∧ k ≤ 1000000 * (q' - q) ∧ (s = [] ∨ q' < n)
  | [], q, q', k, ⟨h1, h2⟩ => by subst h1; subst h2; simp
  | c :: s, q, q', k, ⟨x, hx, h1, h2, k', h3, h4⟩ => by
    obtain ⟨a1, a2, a3, a4, a5, a6⟩ := arcsP_mem H hx
    obtain ⟨b1, b2, b3, b4⟩ := Run.bound H h3
    subst h1
    refine ⟨?_, by omega, by omega, .inr ?_⟩
    · rw [List.length_cons]; push_cast; omega
    · rcases b4 with rfl | b4
      · obtain ⟨e, _⟩ := h3; omega
      · exact b4
theorem endOf_mem {n : Int} {l : List EndS} (H : EndsP n l) (i : Nat) : (endOf l i = -1 ∧ ∀ e, e ∈ l → e.st ≠ (i : Int)) ∨ (0 ≤ endOf l i ∧ endOf l i ≤ 1000000 ∧ ∃ e, e ∈ l ∧ e.st = (i : Int) ∧ e.c = endOf l i ∧ ∀ e', e' ∈ l → e'.st = (i : Int) → e' = e) := by
  unfold endOf
  cases h : l.find? (fun x => decide (x.st = (i : Int))) with
  | none =>
    left
    refine ⟨rfl, fun e he => ?_⟩
    have := List.find?_eq_none.1 h e he
    simpa using this
  | some e =>
    right
    have he := List.mem_of_find?_eq_some h
    have hs : e.st = (i : Int) := by simpa using List.find?_some h
    obtain ⟨a1, a2, a3, a4⟩ := endsP_mem H he
    refine ⟨a3, a4, e, he, hs, rfl, fun e' he' hs' => ?_⟩
    obtain ⟨j, hj⟩ := List.mem_iff_getElem?.1 he
    obtain ⟨j', hj'⟩ := List.mem_iff_getElem?.1 he'
    rcases Nat.lt_trichotomy j j' with h1 | h1 | h1
    · have := H.lt j' j e' e hj' hj h1; omega
    · subst h1; rw [hj] at hj'; cases hj'; rfl
    · have := H.lt j j' e e' hj hj' h1; omega
end
end Go.AX
namespace Go.AX
open Go Go.Proofs
noncomputable section
set_option linter.unusedSimpArgs false
set_option linter.unusedVariables false
attribute [local go_sem] b_seq wp_skip wp_exit wp_ret wp_region b_block wops_nil b_ops b_opsg b_cond condV_lite wo_mv b_bin wo_call callV_func wo_pick b_box wo_load1 wo_loadN wo_store wo_nilCheck wo_not wo_lenStr' wo_lenSl wo_ixStr' wo_ixSl wo_fAddr wo_part1 wo_partN wo_extract wo_cInt wo_cStr wo_mkMap wo_mkIface wo_mkFunc wo_lookup pickV_bool ifT_true ifT_false b_loadV b_loadNV b_storeV nilV_ptr nilV_func nilV_iface notV_bool lenStrV_str lenSlV_nil lenSlV_slice b_ixStrV ixSlV_slice fAddrV_ptr b_part1V partNV_agg b_extractV convV_int strV_str evC_tm evC_cn T.get_set putA_some putA_none onO_some evCs_nil evCs_cons appL_nil appL_cons guardOk_true guardOk_false cellsV_bool cellsV_int cellsV_str cellsV_nilptr cellsV_ptr cellsV_nilslice cellsV_slice cellsV_nilmap cellsV_map cellsV_func cellsV_nilfunc cellsV_iface cellsV_niliface cellsV_agg bin_lss bin_gtr bin_leq bin_geq bin_eql bin_neq bin_add bin_sub bin_eqlS bin_neqS mkFrame_nil mkFrame_cons resA_one resA_two resA_three over_0 over_1 over_2 over_3 over_4 over_5 over0_nil over0_cons Option.getD_some if_true if_false AHeap.next_push AVal.bool.injEq decide_eq_true_eq decide_eq_false_iff_not Bool.not_eq_true' Bool.not_eq_false' Bool.not_eq_true decide_true decide_false Bool.not_true Bool.not_false Int.toNat_natCast Int.natCast_nonneg true_and and_true wo_mapPut wp_drawn' wsts_nil b_pure b_read b_new b_wr wor_none b_org rer_nil rer_load1 rer_loadN wo_append AHeap.next_skip AHeap.next_put' AHeap.mk_push_t AHeap.mk_eta AHeap.mk_skip ldA_skip ldN_skip Nat.add_zero Nat.zero_add b_lite_true b_lite_false eq_self_iff_true not_true_eq_false not_false_eq_true bx_k bx_q bx_x bx_1 undefA_bool putAt_push List.length_cons List.length_nil Nat.le_refl ldA_push_new ldN_push_new List.getElem?_cons_zero List.getElem?_cons_succ List.drop_zero List.drop_succ_cons List.take_succ_cons List.take_zero b_build b_buildSlice evParts_nil evParts_cons b_fillA_nil b_fillA nbeq nble natadd natmul lenL_eq repL_1 repL_2 repL_3 wo_sliceData sdV_nil sdV_slice wo_unsafeStr usV_nil wo_slStr slStrV_str evCo_none evCo_some boundA_none Bool.and_true Bool.true_and wo_minmax2' mm2V_int n_seq n_skip n_exit n_ret n_region n_block n_cond n_nil n_op n_opsg n_drawn nw_next nw_mv nw_pick nw_box nw_build nw_buildSlice nw_load1 nw_loadN nw_store nw_nilCheck nw_bin nw_not nw_neg nw_cInt nw_cStr nw_cStrBytes nw_cBytesStr nw_mkIface nw_mkFunc nw_mkMap nw_mkSlice nw_slStr nw_slSl nw_slArr nw_fAddr nw_part1 nw_partN nw_ixArr nw_ixSl nw_ixV1 nw_ixVN nw_ixStr nw_lookup nw_mapPut nw_mapEntry nw_entryStore nw_range nw_entry nw_assert nw_extract nw_len nw_append nw_copy nw_minmax nw_sliceData nw_unsafeStr nw_call nw_invoke wo_range wo_entry
theorem RowA.fz {h : AHeap} {b o : Nat} {l : List AVal} (H : RowA h b o l) : RowA h.fz b o l := by
  obtain ⟨hb, c, e, own, hr, h2⟩ := H
  refine ⟨hb, c, e, false, .inr ⟨rfl, ?_⟩, h2⟩
  rw [AHeap.get_fz]
  rcases hr with ⟨_, hr⟩ | ⟨_, hr⟩ <;> rw [hr] <;> rfl
theorem SlA.fz {h : AHeap} {size : Nat} {v : AVal} {xs : List (List AVal)} (H : SlA h size v xs) : SlA h.fz size v xs :=
  ⟨H.1, H.2.imp id fun ⟨b, o, c, ex, e, hr⟩ => ⟨b, o, c, ex, e, hr.imp id RowA.fz⟩⟩
theorem AutoA.fz {h : AHeap} {v : AVal} {A : AutoS} (H : AutoA h v A) : AutoA h.fz v A := by
  obtain ⟨va, ve, e, h1, h2, h3⟩ := H
  exact ⟨va, ve, e, SlA.fz h1, SlA.fz h2, h3⟩
def ContA (S : Int → Int → Prop) (l : List ArcS) (ch : Nat) (cst : Int) (q k : Int) : Prop := S q k ∨ ∃ x, x ∈ l ∧ x.l = ch ∧ x.to = q ∧ k = cst + x.c
theorem ContA.nil (S : Int → Int → Prop) (ch : Nat) (cst q k : Int) : ContA S [] ch cst q k ↔ S q k := by simp [ContA]
theorem ContA.snoc (S : Int → Int → Prop) (l : List ArcS) (x : ArcS) (ch : Nat) (cst q k : Int) : ContA S (l ++ [x]) ch cst q k ↔ ContA S l ch cst q k ∨ (x.l = ch ∧ x.to = q ∧ k = cst + x.c) := by
  unfold ContA
  constructor
  · rintro (h | ⟨y, hy, h⟩)
    · exact .inl (.inl h)
    · rcases List.mem_append.1 hy with hy | hy
      · exact .inl (.inr ⟨y, hy, h⟩)
      · simp at hy; subst hy; exact .inr h
  · rintro ((h | ⟨y, hy, h⟩) | h)
    · exact .inl h
    · exact .inr ⟨y, List.mem_append.2 (.inl hy), h⟩
    · exact .inr ⟨x, by simp, h⟩
set_option maxHeartbeats 1000000 in
theorem cost_l0 {Qn Qr : Fr → AHeap → Prop} {Qx : Nat → Fr → AHeap → Prop} (s : List Nat) (i ch : Nat) (r2 : Nat) (cst : Int) (l : List ArcS) (v p6 p7 p29 p35 : AVal) (S : Int → Int → Prop) (fr : Fr) (h : AHeap) (es : List EntI) (c2 : Nat)
    (hch : s[i]? = some ch) (hl : l.length ≤ 4000) (hr2 : r2 < h.next) (hc1 : 0 ≤ cst) (hc2 : cst ≤ 1000000000) (hlc : ∀ x, x ∈ l → 0 ≤ x.c ∧ x.c ≤ 1000000) {h0 : AHeap} (hle0 : Hle h0 h) (hb0 : h0.next ≤ r2) (hv : ArcsA h0 v l) (hM : MapI es c2) (hg2 : h.get r2 = some (.map (es.map encE) c2)) (hS : ∀ q, LeastO (S q) (valE es q))
    (t1 : fr.get 1 = some (.str s)) (t6 : fr.get 6 = some p6) (t7 : fr.get 7 = some p7) (t8 : fr.get 8 = some (.int .i64 (i : Int))) (t9 : fr.get 9 = some (.map r2)) (t11 : fr.get 11 = some (.int .i64 cst)) (t29 : fr.get 29 = some p29) (t30 : fr.get 30 = some (.int .i64 (i : Int))) (t35 : fr.get 35 = some p35)
    (t45 : fr.get 45 = some v) (t46 : fr.get 46 = some (.int .i64 (l.length : Int))) (t47 : fr.get 47 = some (.int .i64 0))
    (hq : ∀ fr h' es' c', fr.get 1 = some (.str s) → fr.get 6 = some p6 → fr.get 7 = some p7 → fr.get 8 = some (.int .i64 (i : Int)) → fr.get 9 = some (.map r2) → fr.get 29 = some p29 → fr.get 30 = some (.int .i64 (i : Int)) → fr.get 35 = some p35 →
      h.next ≤ h'.next → (∀ c, c < h.next → c ≠ r2 → h'.get c = h.get c) → MapI es' c' → h'.get r2 = some (.map (es'.map encE) c') → (∀ q, LeastO (ContA S l ch cst q) (valE es' q)) → Qx 4 fr h') : wpN E2 (.loop cCost_l0) fr h Qn Qx Qr := by
  refine n_loop (fun d fr h' => h.next ≤ h'.next ∧ (∀ c, c < h.next → c ≠ r2 → h'.get c = h.get c) ∧ fr.get 1 = some (.str s) ∧ fr.get 6 = some p6 ∧ fr.get 7 = some p7 ∧ fr.get 8 = some (.int .i64 (i : Int)) ∧ fr.get 9 = some (.map r2) ∧ fr.get 11 = some (.int .i64 cst) ∧ fr.get 29 = some p29 ∧ fr.get 30 = some (.int .i64 (i : Int)) ∧ fr.get 35 = some p35 ∧ fr.get 45 = some v ∧ fr.get 46 = some (.int .i64 (l.length : Int)) ∧
    ∃ (j : Nat) (es' : List EntI) (c' : Nat), fr.get 47 = some (.int .i64 (j : Int)) ∧ d + j = l.length ∧ MapI es' c' ∧ h'.get r2 = some (.map (es'.map encE) c') ∧ ∀ q, LeastO (ContA S (l.take j) ch cst q) (valE es' q)) l.length ?_ ?_
  · exact ⟨Nat.le_refl _, fun _ _ _ => rfl, t1, t6, t7, t8, t9, t11, t29, t30, t35, t45, t46, 0, es, c2, t47, by omega, hM, hg2, fun q => (hS q).congr fun k => (ContA.nil S ch cst q k).symm⟩
  clear t1 t6 t7 t8 t9 t11 t29 t30 t35 t45 t46 t47 hM hg2 hS
  rintro d fr h' ⟨hnx, hg, t1, t6, t7, t8, t9, t11, t29, t30, t35, t45, t46, j, es', c', t47, hd, hM, hg2, hS⟩
  have hle' : Hle h0 h' := ⟨by have := hle0.next; omega, fun c hc => (hg c (by have := hle0.next; omega) (by omega)).trans (hle0.get c hc)⟩
  have hv' := hv.mono hle'
  unfold cCost_l0
  by_cases hc : (j : Int) < (l.length : Int)
  · obtain ⟨x, hx⟩ : ∃ x, l[j]? = some x := ⟨_, List.getElem?_eq_getElem (by omega)⟩
    obtain ⟨b, o, hrow, hix⟩ := hv'.ix hx
    have hix := hix .i64 (j : Int) h'
    have hld : ldN h' b o 4 = some (arcC x) := by
      have := hrow.ldN (i := 0) (n := 4) (by simp [arcC])
      simpa [arcC] using this
    have q1 : ldA (h'.push (.cells (arcC x) 84)) h'.next 1 = some (.int .i64 x.to) := by rw [ldA_push_new]; rfl
    have q2 : ldA (h'.push (.cells (arcC x) 84)) h'.next 2 = some (.int .u8 (x.l : Int)) := by rw [ldA_push_new]; rfl
    have q3 : ldA (h'.push (.cells (arcC x) 84)) h'.next 3 = some (.int .i64 x.c) := by rw [ldA_push_new]; rfl
    have hov : over [AVal.int .i64 0, .int .i64 0, .int .u8 0, .int .i64 0] 0 (arcC x) = arcC x := rfl
    have hln : (arcC x).length = 4 := rfl
    have hw : IntKind.i64.wrap ((j : Int) + 1) = ((j + 1 : Nat) : Int) := by rw [wrap_i64 (by omega) (by omega)]; push_cast; rfl
    have hgp : ((h'.push (.cells (arcC x) 84)).skip 6).get r2 = some (.map (es'.map encE) c') := (AHeap.get_push_ne _ _ (by omega)).trans hg2
    have hxc := hlc x (List.mem_of_getElem? hx)
    have hws : IntKind.i64.wrap (cst + x.c) = cst + x.c := wrap_i64 (by omega) (by omega)
    have ht : l.take (j + 1) = l.take j ++ [x] := by rw [List.take_add_one, hx]; rfl
    have hnp : h.next ≤ ((h'.push (.cells (arcC x) 84)).skip 6).next := by show h.next ≤ h'.next + 1 + 6; omega
    have hgg : ∀ c, c < h.next → c ≠ r2 → ((h'.push (.cells (arcC x) 84)).skip 6).get c = h.get c := fun c hc1 hc2 => (AHeap.get_push_ne _ _ (by omega)).trans (hg c hc1 hc2)
    by_cases e : (x.l : Int) = (ch : Int)
    · have e' : x.l = ch := by omega
      have q1' : ldA ((h'.push (.cells (arcC x) 84)).skip 6) h'.next 1 = some (.int .i64 x.to) := q1
      have q3' : ldA ((h'.push (.cells (arcC x) 84)).skip 6) h'.next 3 = some (.int .i64 x.c) := q3
      have hdone : ∀ es2 c2', MapI es2 c2' → (∀ q, valE es2 q = if q = x.to then minO (valE es' x.to) (cst + x.c) else valE es' q) → ∀ q, LeastO (ContA S (l.take (j + 1)) ch cst q) (valE es2 q) := by
        intro es2 c2' _ hval q
        rw [hval q]
        by_cases hq : q = x.to
        · subst hq
          rw [if_pos rfl]
          refine ((hS x.to).add (cst + x.c)).congr fun k => ?_
          rw [ht, ContA.snoc]
          constructor
          · rintro (h | h)
            · exact .inl h
            · exact .inr ⟨e', rfl, h⟩
          · rintro (h | ⟨_, _, h⟩)
            · exact .inl h
            · exact .inr h
        · rw [if_neg hq]
          refine (hS q).congr fun k => ?_
          rw [ht, ContA.snoc]
          constructor
          · exact .inl
          · rintro (h | ⟨_, h, _⟩)
            · exact h
            · exact absurd h.symm hq
      cases hval : valE es' x.to with
      | none =>
        simp only [go_sem, Nat.reduceEqDiff, Int.reduceLT, Int.reduceLE, Int.reduceEq, Nat.reduceLT, Nat.reduceAdd, Nat.reduceMul, Int.reduceToNat, Nat.reduceLeDiff, reduceCtorEq, t1, t6, t7, t8, t9, t11, t29, t30, t35, t45, t46, t47, hc, hix _ rfl, hld, hov, hln, q2, hch, e, q1, q1', q3, q3', lookV_ent hgp, hval, hws, putV_ent hM hgp, hw]
        refine ⟨d - 1, by omega, hnp, fun c hc1 hc2 => by rw [AHeap.get_put_ne _ _ (Ne.symm hc2)]; exact hgg c hc1 hc2, j + 1, _, _, rfl, by omega, hM.put _ _, AHeap.get_put_same _ _ _, hdone _ _ (hM.put _ _) fun q => by rw [valE_put, hval]; rfl⟩
      | some m =>
        by_cases hlt : cst + x.c < m
        · simp only [go_sem, Nat.reduceEqDiff, Int.reduceLT, Int.reduceLE, Int.reduceEq, Nat.reduceLT, Nat.reduceAdd, Nat.reduceMul, Int.reduceToNat, Nat.reduceLeDiff, reduceCtorEq, t1, t6, t7, t8, t9, t11, t29, t30, t35, t45, t46, t47, hc, hix _ rfl, hld, hov, hln, q2, hch, e, q1, q1', q3, q3', lookV_ent hgp, hval, hws, hlt, putV_ent hM hgp, hw]
          refine ⟨d - 1, by omega, hnp, fun c hc1 hc2 => by rw [AHeap.get_put_ne _ _ (Ne.symm hc2)]; exact hgg c hc1 hc2, j + 1, _, _, rfl, by omega, hM.put _ _, AHeap.get_put_same _ _ _, hdone _ _ (hM.put _ _) fun q => by rw [valE_put, hval]; simp [minO, hlt]⟩
        · simp only [go_sem, Nat.reduceEqDiff, Int.reduceLT, Int.reduceLE, Int.reduceEq, Nat.reduceLT, Nat.reduceAdd, Nat.reduceMul, Int.reduceToNat, Nat.reduceLeDiff, reduceCtorEq, t1, t6, t7, t8, t9, t11, t29, t30, t35, t45, t46, t47, hc, hix _ rfl, hld, hov, hln, q2, hch, e, q1, q1', q3, q3', lookV_ent hgp, hval, hws, hlt, hw]
          refine ⟨d - 1, by omega, hnp, hgg, j + 1, es', c', rfl, by omega, hM, hgp, hdone es' c' hM fun q => ?_⟩
          by_cases hq : q = x.to
          · subst hq; rw [if_pos rfl, hval]; simp [minO, hlt]
          · rw [if_neg hq]
    · simp only [go_sem, Nat.reduceEqDiff, Int.reduceLT, Int.reduceLE, Int.reduceEq, Nat.reduceLT, Nat.reduceAdd, Nat.reduceMul, Int.reduceToNat, Nat.reduceLeDiff, reduceCtorEq, t1, t6, t7, t8, t9, t11, t29, t30, t35, t45, t46, t47, hc, hix _ rfl, hld, hov, hln, q2, hch, e, hw]
      refine ⟨d - 1, by omega, hnp, hgg, j + 1, es', c', rfl, by omega, hM, hgp, fun q => (hS q).congr fun k => ?_⟩
      rw [ht, ContA.snoc]
      constructor
      · exact .inl
      · rintro (h | ⟨h, _, _⟩)
        · exact h
        · omega
  · obtain rfl : j = l.length := by omega
    simp only [go_sem, Nat.reduceEqDiff, Int.reduceLT, Int.reduceLE, Int.reduceEq, Nat.reduceLT, Nat.reduceAdd, Nat.reduceMul, Int.reduceToNat, Nat.reduceLeDiff, reduceCtorEq, t1, t6, t7, t8, t9, t11, t29, t30, t35, t45, t46, t47, hc]
    rw [List.take_length] at hS
    exact hq _ _ es' c' (by simp [T.get_set, t1]) (by simp [T.get_set, t6]) (by simp [T.get_set, t7]) (by simp [T.get_set, t8]) (by simp [T.get_set, t9]) (by simp [T.get_set, t29]) (by simp [T.get_set, t30]) (by simp [T.get_set, t35]) hnx hg hM hg2 hS
def ContE (A : AutoS) (esn : List EntI) (seen : List Nat) (ch : Nat) (q k : Int) : Prop := ∃ e, e ∈ esn ∧ e.2.2 ∈ seen ∧ ∃ x, x ∈ outA A e.1.toNat ∧ x.l = ch ∧ x.to = q ∧ k = e.2.1 + x.c
def unseen (es : List EntI) (seen : List Nat) : Nat := (es.filter fun e => !seen.contains e.2.2).length
theorem filter_lt {α : Type} {p p' : α → Bool} (hp : ∀ a, p' a = true → p a = true) : ∀ {l : List α} {a : α}, a ∈ l → p a = true → p' a = false → (l.filter p').length < (l.filter p).length
  | b :: l, a, ha, h1, h2 => by
    have hle : ∀ l : List α, (l.filter p').length ≤ (l.filter p).length := by
      intro l
      induction l with
      | nil => simp
      | cons c l ih =>
        cases hc : p' c with
        | true => rw [List.filter_cons_of_pos (by simpa using hc), List.filter_cons_of_pos (by simpa using hp c hc)]; simp; exact ih
        | false =>
          rw [List.filter_cons_of_neg (by simp [hc])]
          cases hc2 : p c with
          | true => rw [List.filter_cons_of_pos (by simpa using hc2)]; simp; omega
          | false => rw [List.filter_cons_of_neg (by simp [hc2])]; exact ih
    rcases List.mem_cons.1 ha with rfl | ha
    · rw [List.filter_cons_of_neg (by simp [h2]), List.filter_cons_of_pos (by simpa using h1)]
      have := hle l
      simp; omega
    · have ih := filter_lt hp ha h1 h2
      cases hc : p' b with
      | true => rw [List.filter_cons_of_pos (by simpa using hc), List.filter_cons_of_pos (by simpa using hp b hc)]; simp; omega
      | false =>
        rw [List.filter_cons_of_neg (by simp [hc])]
        cases hc2 : p b with
        | true => rw [List.filter_cons_of_pos (by simpa using hc2)]; simp; omega
        | false => rw [List.filter_cons_of_neg (by simp [hc2])]; exact ih
theorem unseen_lt {es : List EntI} {seen : List Nat} {e : EntI} (he : e ∈ es) (hs : e.2.2 ∉ seen) : unseen es (seen ++ [e.2.2]) < unseen es seen := by
  unfold unseen
  refine filter_lt (fun a ha => ?_) he (by simpa using hs) (by simp)
  simp at ha ⊢
  exact ha.1
set_option maxHeartbeats 1000000 in
theorem cost_l1 {Qn Qr : Fr → AHeap → Prop} {Qx : Nat → Fr → AHeap → Prop} (A : AutoS) (n : Nat) (s : List Nat) (i ch : Nat) (r1 r2 it pg : Nat) (vo vf p29 : AVal) (fr : Fr) (h : AHeap) (esn : List EntI) (cn : Nat) (hAn : A.n = (n : Int)) (hP : ArcsP A.n A.arcs) (hl4 : A.arcs.length ≤ 4000)
    (hch : s[i]? = some ch) (hr1 : r1 < h.next) (hr2 : r2 < h.next) (hit : it < h.next) (hpg : pg < h.next) (d1 : r1 ≠ r2) (d2 : r1 ≠ it) (d3 : r2 ≠ it) (d4 : pg ≠ r2) (d5 : pg ≠ it) {h0 : AHeap} (hle0 : Hle h0 h) (hb0 : h0.next ≤ r2) (hb1 : h0.next ≤ it)
    {rows : List AVal} (hvo : SlA h0 1 vo (rows.map fun x => [x])) (hrl : rows.length = n) (hrow : ∀ (j : Nat) (x : AVal), rows[j]? = some x → ArcsA h0 x (outA A j)) (gpg : h.get pg = some (.cells [vo, vf] 93))
    (hMn : MapI esn cn) (hgn : h.get r1 = some (.map (esn.map encE) cn)) (hbn : ∀ e, e ∈ esn → 0 ≤ e.1 ∧ e.1 < (n : Int) ∧ 0 ≤ e.2.1 ∧ e.2.1 ≤ 1000000000) (hgi : h.get it = some (.mapIter (some r1) cn [] cn)) (hg2 : h.get r2 = some (.map [] 0))
    (t1 : fr.get 1 = some (.str s)) (t6 : fr.get 6 = some (.ptr pg 0)) (t7 : fr.get 7 = some (.map r1)) (t8 : fr.get 8 = some (.int .i64 (i : Int))) (t9 : fr.get 9 = some (.map r2)) (t29 : fr.get 29 = some p29) (t30 : fr.get 30 = some (.int .i64 (i : Int))) (t35 : fr.get 35 = some (.ptr it 0))
    (hq : ∀ fr h' es' c', fr.get 1 = some (.str s) → fr.get 6 = some (.ptr pg 0) → fr.get 8 = some (.int .i64 (i : Int)) → fr.get 9 = some (.map r2) → fr.get 29 = some p29 → fr.get 30 = some (.int .i64 (i : Int)) →
      h.next ≤ h'.next → (∀ c, c < h.next → c ≠ r2 → c ≠ it → h'.get c = h.get c) → MapI es' c' → h'.get r2 = some (.map (es'.map encE) c') → (∀ q, LeastO (fun k => ∃ e, e ∈ esn ∧ ∃ x, x ∈ outA A e.1.toNat ∧ x.l = ch ∧ x.to = q ∧ k = e.2.1 + x.c) (valE es' q)) → Qx 2 fr h') : wpN E2 (.loop cCost_l1) fr h Qn Qx Qr := by
  refine n_loop (fun d fr h' => h.next ≤ h'.next ∧ (∀ c, c < h.next → c ≠ r2 → c ≠ it → h'.get c = h.get c) ∧ fr.get 1 = some (.str s) ∧ fr.get 6 = some (.ptr pg 0) ∧ fr.get 7 = some (.map r1) ∧ fr.get 8 = some (.int .i64 (i : Int)) ∧ fr.get 9 = some (.map r2) ∧ fr.get 29 = some p29 ∧ fr.get 30 = some (.int .i64 (i : Int)) ∧ fr.get 35 = some (.ptr it 0) ∧
    ∃ (seen : List Nat) (es' : List EntI) (c' : Nat), d = unseen esn seen ∧ h'.get it = some (.mapIter (some r1) cn seen cn) ∧ MapI es' c' ∧ h'.get r2 = some (.map (es'.map encE) c') ∧ ∀ q, LeastO (ContE A esn seen ch q) (valE es' q)) (unseen esn []) ?_ ?_
  · refine ⟨Nat.le_refl _, fun _ _ _ _ => rfl, t1, t6, t7, t8, t9, t29, t30, t35, [], [], 0, rfl, hgi, MapI.nil, hg2, fun q k => ?_⟩
    rintro ⟨e, _, h, _⟩; cases h
  clear t1 t6 t7 t8 t9 t29 t30 t35 hgi hg2
  rintro d fr h' ⟨hnx, hg, t1, t6, t7, t8, t9, t29, t30, t35, seen, es', c', hd, hgi, hM, hg2, hS⟩
  unfold cCost_l1
  simp only [go_sem, Nat.reduceEqDiff, Int.reduceLT, Int.reduceLE, Int.reduceEq, Nat.reduceLT, Nat.reduceAdd, Nat.reduceMul, Int.reduceToNat, Nat.reduceLeDiff, reduceCtorEq, t35]
  refine nextV_ent hMn hgi ((hg r1 hr1 d1 d2).trans hgn) (fun hall => ?_) fun e he hs => ?_
  · simp only [go_sem, Nat.reduceEqDiff, Int.reduceLT, Int.reduceLE, Int.reduceEq, Nat.reduceLT, Nat.reduceAdd, Nat.reduceMul, Int.reduceToNat, Nat.reduceLeDiff, reduceCtorEq, t1]
    refine hq _ _ es' c' (by simp [T.get_set, t1]) (by simp [T.get_set, t6]) (by simp [T.get_set, t8]) (by simp [T.get_set, t9]) (by simp [T.get_set, t29]) (by simp [T.get_set, t30]) hnx hg hM hg2 fun q => (hS q).congr fun k => ?_
    constructor
    · rintro ⟨e, he, _, h⟩; exact ⟨e, he, h⟩
    · rintro ⟨e, he, h⟩; exact ⟨e, he, hall e he, h⟩
  · obtain ⟨b1, b2, b3, b4⟩ := hbn e he
    obtain ⟨j, hj⟩ : ∃ j : Nat, e.1 = (j : Int) := ⟨e.1.toNat, by omega⟩
    obtain ⟨row, hrj⟩ : ∃ row, rows[j]? = some row := ⟨_, List.getElem?_eq_getElem (by omega)⟩
    have hle' : Hle h0 (h'.put it (.mapIter (some r1) cn (seen ++ [e.2.2]) cn)) := ⟨by show h0.next ≤ h'.next; have := hle0.next; omega, fun c hc => by
      have := hle0.next
      rw [AHeap.get_put_ne _ _ (by omega)]
      exact (hg c (by omega) (by omega) (by omega)).trans (hle0.get c hc)⟩
    have gr1 : (h'.put it (.mapIter (some r1) cn (seen ++ [e.2.2]) cn)).get r1 = some (.map (esn.map encE) cn) := by rw [AHeap.get_put_ne _ _ (Ne.symm d2)]; exact (hg r1 hr1 d1 d2).trans hgn
    have gr2 : (h'.put it (.mapIter (some r1) cn (seen ++ [e.2.2]) cn)).get r2 = some (.map (es'.map encE) c') := by rw [AHeap.get_put_ne _ _ (Ne.symm d3)]; exact hg2
    have grp : (h'.put it (.mapIter (some r1) cn (seen ++ [e.2.2]) cn)).get pg = some (.cells [vo, vf] 93) := by rw [AHeap.get_put_ne _ _ (Ne.symm d5)]; exact (hg pg hpg d4 d5).trans gpg
    have gri : (h'.put it (.mapIter (some r1) cn (seen ++ [e.2.2]) cn)).get it = some (.mapIter (some r1) cn (seen ++ [e.2.2]) cn) := AHeap.get_put_same _ _ _
    have hgg : ∀ c, c < h.next → c ≠ r2 → c ≠ it → (h'.put it (.mapIter (some r1) cn (seen ++ [e.2.2]) cn)).get c = h.get c := fun c h1 h2 h3 => by rw [AHeap.get_put_ne _ _ (Ne.symm h3)]; exact hg c h1 h2 h3
    have hnn : (h'.put it (.mapIter (some r1) cn (seen ++ [e.2.2]) cn)).next = h'.next := rfl
    generalize h'.put it (.mapIter (some r1) cn (seen ++ [e.2.2]) cn) = h2 at hle' gr1 gr2 grp gri hgg hnn ⊢
    have l6 : ldA h2 pg 0 = some vo := by rw [ldA_cells grp]; rfl
    obtain ⟨bb, oo, hrr, hix⟩ := (hvo.mono hle').ix (j := j) (x := [row]) (by rw [List.getElem?_map, hrj]; rfl)
    have hix := hix .i64 e.1 h2
    have lrow : ldA h2 bb oo = some row := hrr.ldA (i := 0) rfl
    have hrow' := hrow j row hrj
    simp only [go_sem, Nat.reduceEqDiff, Int.reduceLT, Int.reduceLE, Int.reduceEq, Nat.reduceLT, Nat.reduceAdd, Nat.reduceMul, Int.reduceToNat, Nat.reduceLeDiff, reduceCtorEq, t1, t6, t7, t8, t9, t29, t30, t35, entryV_ent hMn gri gr1 he, l6, hix _ hj, lrow, (hrow'.mono hle').len]
    refine cost_l0 s i ch r2 e.2.1 (outA A j) row (.ptr pg 0) (.map r1) p29 (.ptr it 0) (ContE A esn seen ch) _ _ es' c' hch (Nat.le_trans (List.length_filter_le _ _) hl4) (by omega) b3 b4 (fun x hx => ?_) hle' (by omega) hrow' hM gr2 hS (by simp [T.get_set, t1]) (by simp [T.get_set, t6]) (by simp [T.get_set, t7]) (by simp [T.get_set, t8]) (by simp [T.get_set, t9]) (by simp [T.get_set]) (by simp [T.get_set, t29]) (by simp [T.get_set, t30]) (by simp [T.get_set, t35])
      (by simp [T.get_set]) (by simp [T.get_set]) (by simp [T.get_set]) ?_
    · have := arcsP_mem hP (List.mem_filter.1 hx).1
      exact ⟨this.2.2.2.2.1, this.2.2.2.2.2⟩
    · intro fr h3 es3 c3 u1 u6 u7 u8 u9 u29 u30 u35 hn3 hg3 hM3 hg23 hS3
      simp only [go_sem, Nat.reduceEqDiff, Int.reduceLT, Int.reduceLE, Int.reduceEq, Nat.reduceLT, Nat.reduceAdd, Nat.reduceMul, Int.reduceToNat, Nat.reduceLeDiff, reduceCtorEq]
      refine ⟨unseen esn (seen ++ [e.2.2]), by rw [hd]; exact unseen_lt he hs, by omega, fun c h1 h2 h3 => (hg3 c (by omega) h2).trans (hgg c h1 h2 h3), u1, u6, u7, u8, u9, u29, u30, u35, _, es3, c3, rfl, (hg3 it (by omega) (Ne.symm d3)).trans gri, hM3, hg23, fun q => (hS3 q).congr fun k => ?_⟩
      unfold ContA ContE
      constructor
      · rintro (⟨e', he', hs', h⟩ | ⟨x, hx, h⟩)
        · exact ⟨e', he', by simp [hs'], h⟩
        · exact ⟨e, he, by simp, x, by rw [hj]; exact hx, h⟩
      · rintro ⟨e', he', hs', x, hx, h⟩
        rcases List.mem_append.1 hs' with hs' | hs'
        · exact .inl ⟨e', he', hs', x, hx, h⟩
        · have hb : e'.2.2 = e.2.2 := by simpa using hs'
          have : e' = e := by
            obtain ⟨a, ha⟩ := List.mem_iff_getElem?.1 he
            obtain ⟨a', ha'⟩ := List.mem_iff_getElem?.1 he'
            have := (List.getElem?_inj (l := esn.map (·.2.2)) (i := a) (j := a') (by have := (List.getElem?_eq_some_iff.1 ha).1; simpa using this) hMn.borns).1 (by rw [List.getElem?_map, List.getElem?_map, ha, ha']; simp [hb])
            subst this
            rw [ha] at ha'; cases ha'; rfl
          subst this
          rw [hj] at hx
          exact .inr ⟨x, hx, h⟩
end
end Go.AX
namespace Go.AX
open Go Go.Proofs
noncomputable section
set_option linter.unusedSimpArgs false
set_option linter.unusedVariables false
attribute [local go_sem] b_seq wp_skip wp_exit wp_ret wp_region b_block wops_nil b_ops b_opsg b_cond condV_lite wo_mv b_bin wo_call callV_func wo_pick b_box wo_load1 wo_loadN wo_store wo_nilCheck wo_not wo_lenStr' wo_lenSl wo_ixStr' wo_ixSl wo_fAddr wo_part1 wo_partN wo_extract wo_cInt wo_cStr wo_mkMap wo_mkIface wo_mkFunc wo_lookup pickV_bool ifT_true ifT_false b_loadV b_loadNV b_storeV nilV_ptr nilV_func nilV_iface notV_bool lenStrV_str lenSlV_nil lenSlV_slice b_ixStrV ixSlV_slice fAddrV_ptr b_part1V partNV_agg b_extractV convV_int strV_str evC_tm evC_cn T.get_set putA_some putA_none onO_some evCs_nil evCs_cons appL_nil appL_cons guardOk_true guardOk_false cellsV_bool cellsV_int cellsV_str cellsV_nilptr cellsV_ptr cellsV_nilslice cellsV_slice cellsV_nilmap cellsV_map cellsV_func cellsV_nilfunc cellsV_iface cellsV_niliface cellsV_agg bin_lss bin_gtr bin_leq bin_geq bin_eql bin_neq bin_add bin_sub bin_eqlS bin_neqS mkFrame_nil mkFrame_cons resA_one resA_two resA_three over_0 over_1 over_2 over_3 over_4 over_5 over0_nil over0_cons Option.getD_some if_true if_false AHeap.next_push AVal.bool.injEq decide_eq_true_eq decide_eq_false_iff_not Bool.not_eq_true' Bool.not_eq_false' Bool.not_eq_true decide_true decide_false Bool.not_true Bool.not_false Int.toNat_natCast Int.natCast_nonneg true_and and_true wo_mapPut wp_drawn' wsts_nil b_pure b_read b_new b_wr wor_none b_org rer_nil rer_load1 rer_loadN wo_append AHeap.next_skip AHeap.next_put' AHeap.mk_push_t AHeap.mk_eta AHeap.mk_skip ldA_skip ldN_skip Nat.add_zero Nat.zero_add b_lite_true b_lite_false eq_self_iff_true not_true_eq_false not_false_eq_true bx_k bx_q bx_x bx_1 undefA_bool putAt_push List.length_cons List.length_nil Nat.le_refl ldA_push_new ldN_push_new List.getElem?_cons_zero List.getElem?_cons_succ List.drop_zero List.drop_succ_cons List.take_succ_cons List.take_zero b_build b_buildSlice evParts_nil evParts_cons b_fillA_nil b_fillA nbeq nble natadd natmul lenL_eq repL_1 repL_2 repL_3 wo_sliceData sdV_nil sdV_slice wo_unsafeStr usV_nil wo_slStr slStrV_str evCo_none evCo_some boundA_none Bool.and_true Bool.true_and wo_minmax2' mm2V_int n_seq n_skip n_exit n_ret n_region n_block n_cond n_nil n_op n_opsg n_drawn nw_next nw_mv nw_pick nw_box nw_build nw_buildSlice nw_load1 nw_loadN nw_store nw_nilCheck nw_bin nw_not nw_neg nw_cInt nw_cStr nw_cStrBytes nw_cBytesStr nw_mkIface nw_mkFunc nw_mkMap nw_mkSlice nw_slStr nw_slSl nw_slArr nw_fAddr nw_part1 nw_partN nw_ixArr nw_ixSl nw_ixV1 nw_ixVN nw_ixStr nw_lookup nw_mapPut nw_mapEntry nw_entryStore nw_range nw_entry nw_assert nw_extract nw_len nw_append nw_copy nw_minmax nw_sliceData nw_unsafeStr nw_call nw_invoke wo_range wo_entry
theorem LeastO.weaken {S S' : Int → Prop} {o : Option Int} (h : LeastO S' o) (h1 : ∀ k, S' k → S k) (h2 : ∀ k, S k → ∃ k', S' k' ∧ k' ≤ k) : LeastO S o := by
  cases o with
  | none => intro k hk; obtain ⟨k', hk', _⟩ := h2 k hk; exact h k' hk'
  | some m => exact ⟨h1 m h.1, fun k hk => by obtain ⟨k', hk', hle⟩ := h2 k hk; have := h.2 k' hk'; omega⟩
theorem outA_mem {A : AutoS} {i : Nat} {x : ArcS} : x ∈ outA A i ↔ x ∈ A.arcs ∧ x.fr = (i : Int) := by
  unfold outA; rw [List.mem_filter]; simp
def NowP (A : AutoS) (s : List Nat) (es : List EntI) : Prop := ∀ q, LeastO (Run A.arcs 0 s q) (valE es q)
theorem NowP.bnd {A : AutoS} {n : Nat} {s : List Nat} {es : List EntI} {c : Nat} (hAn : A.n = (n : Int)) (h1 : 1 ≤ n) (hn : n ≤ 400) (hP : ArcsP A.n A.arcs) (hM : MapI es c) (H : NowP A s es) {e : EntI} (he : e ∈ es) : 0 ≤ e.1 ∧ e.1 < (n : Int) ∧ 0 ≤ e.2.1 ∧ e.2.1 ≤ 1000000000 := by
  have hv := valE_of_mem hM.keys he
  have := H e.1
  rw [hv] at this
  have hr := this.1
  obtain ⟨b1, b2, b3, b4⟩ := Run.bound hP hr
  rcases b4 with rfl | b4
  · obtain ⟨e1, e2⟩ := hr; omega
  · omega
theorem NowP.step {A : AutoS} {s : List Nat} {es es' : List EntI} {c ch : Nat} (hP : ArcsP A.n A.arcs) (hM : MapI es c) (H : NowP A s es) (H' : ∀ q, LeastO (fun k => ∃ e, e ∈ es ∧ ∃ x, x ∈ outA A e.1.toNat ∧ x.l = ch ∧ x.to = q ∧ k = e.2.1 + x.c) (valE es' q)) : NowP A (s ++ [ch]) es' := by
  intro q
  refine (H' q).weaken (fun k hk => ?_) fun k hk => ?_
  · obtain ⟨e, he, x, hx, h1, h2, h3⟩ := hk
    have hv := valE_of_mem hM.keys he
    have hl := H e.1
    rw [hv] at hl
    have h0 := (Run.bound hP hl.1).1
    obtain ⟨hx1, hx2⟩ := outA_mem.1 hx
    refine Run.snoc.2 ⟨x, hx1, h1, h2, e.2.1, ?_, h3⟩
    rw [hx2, show ((e.1.toNat : Nat) : Int) = e.1 by omega]
    exact hl.1
  · obtain ⟨x, hx, h1, h2, k', h3, h4⟩ := Run.snoc.1 hk
    have hl := H x.fr
    cases hv : valE es x.fr with
    | none => rw [hv] at hl; exact (hl k' h3).elim
    | some m =>
      rw [hv] at hl
      have := hl.2 k' h3
      obtain ⟨nn, hmem⟩ := valE_mem hv
      have h0 := (arcsP_mem hP hx).1
      refine ⟨m + x.c, ⟨_, hmem, x, outA_mem.2 ⟨hx, ?_⟩, h1, h2, rfl⟩, by omega⟩
      show x.fr = ((x.fr.toNat : Nat) : Int)
      omega
structure Gr (A : AutoS) (n : Nat) (hG : AHeap) (pg : Nat) (vo vf : AVal) (rows : List AVal) : Prop where
  an : A.n = (n : Int)
  n1 : 1 ≤ n
  n4 : n ≤ 400
  arcs : ArcsP A.n A.arcs
  ends : EndsP A.n A.ends
  l4 : A.arcs.length ≤ 4000
  hvo : SlA hG 1 vo (rows.map fun x => [x])
  rl : rows.length = n
  row : ∀ (j : Nat) (x : AVal), rows[j]? = some x → ArcsA hG x (outA A j)
  hvf : SlA hG 1 vf ((List.range n).map fun i => [.int .i64 (endOf A.ends i)])
  hpg : pg < hG.next
  gpg : hG.get pg = some (.cells [vo, vf] 93)
set_option maxHeartbeats 1000000 in
theorem cost_l2 {Qn Qr : Fr → AHeap → Prop} {Qx : Nat → Fr → AHeap → Prop} (A : AutoS) (n : Nat) (s : List Nat) (r1 pg : Nat) (vo vf : AVal) (rows : List AVal) (fr : Fr) (hG h : AHeap) (es : List EntI) (c : Nat) (G : Gr A n hG pg vo vf rows) (hs : s.length ≤ 9223372036854775807)
    (hle : Hle hG h) (hr1 : hG.next ≤ r1) (hr2 : r1 < h.next) (hM : MapI es c) (hg : h.get r1 = some (.map (es.map encE) c)) (hN : NowP A [] es)
    (t1 : fr.get 1 = some (.str s)) (t6 : fr.get 6 = some (.ptr pg 0)) (t7 : fr.get 7 = some (.map r1)) (t29 : fr.get 29 = some (.int .i64 (s.length : Int))) (t30 : fr.get 30 = some (.int .i64 0))
    (hq : ∀ fr h' r es c, fr.get 6 = some (.ptr pg 0) → fr.get 7 = some (.map r) → Hle hG h' → hG.next ≤ r → r < h'.next → MapI es c → h'.get r = some (.map (es.map encE) c) → NowP A s es → Qx 0 fr h') : wpN E2 (.loop cCost_l2) fr h Qn Qx Qr := by
  refine n_loop (fun d fr h' => Hle hG h' ∧ fr.get 1 = some (.str s) ∧ fr.get 6 = some (.ptr pg 0) ∧ fr.get 29 = some (.int .i64 (s.length : Int)) ∧ ∃ (i r : Nat) (es : List EntI) (c : Nat), fr.get 30 = some (.int .i64 (i : Int)) ∧ d + i = s.length ∧ fr.get 7 = some (.map r) ∧ hG.next ≤ r ∧ r < h'.next ∧ MapI es c ∧ h'.get r = some (.map (es.map encE) c) ∧ NowP A (s.take i) es) s.length ?_ ?_
  · exact ⟨hle, t1, t6, t29, 0, r1, es, c, t30, by omega, t7, hr1, hr2, hM, hg, by simpa using hN⟩
  clear t1 t6 t7 t29 t30 hM hg hN hr1 hr2 hle
  rintro d fr h' ⟨hle, t1, t6, t29, i, r, es, c, t30, hd, t7, hr1, hr2, hM, hg, hN⟩
  have hln := hle.next
  unfold cCost_l2
  by_cases hc : (i : Int) < (s.length : Int)
  · obtain ⟨ch, hch⟩ : ∃ ch, s[i]? = some ch := ⟨_, List.getElem?_eq_getElem (by omega)⟩
    have hw : IntKind.i64.wrap ((i : Int) + 1) = ((i + 1 : Nat) : Int) := by rw [wrap_i64 (by omega) (by omega)]; push_cast; rfl
    have g1 : (h'.push (.map [] 0)).get r = some (.map (es.map encE) c) := (AHeap.get_push_ne _ _ (by omega)).trans hg
    simp only [go_sem, Nat.reduceEqDiff, Int.reduceLT, Int.reduceLE, Int.reduceEq, Nat.reduceLT, Nat.reduceAdd, Nat.reduceMul, Int.reduceToNat, Nat.reduceLeDiff, reduceCtorEq, t1, t6, t7, t29, t30, hc, rangeV_map g1]
    have hGt := G.hpg
    refine cost_l1 A n s i ch r h'.next (h'.next + 1) pg vo vf (.int .i64 (s.length : Int)) _ _ es c G.an G.arcs G.l4 hch (by show r < h'.next + 1 + 1; omega) (by show h'.next < h'.next + 1 + 1; omega) (by show h'.next + 1 < h'.next + 1 + 1; omega) (by show pg < h'.next + 1 + 1; omega) (by omega) (by omega) (by omega) (by omega) (by omega) (h0 := hG) ((hle.push _).push _) (by omega) (by omega) G.hvo G.rl G.row
      ((((hle.push _).push _).get pg G.hpg).trans G.gpg) hM ((AHeap.get_push_ne _ _ (by show h'.next + 1 ≠ r; omega)).trans g1) (fun e he => hN.bnd G.an G.n1 G.n4 G.arcs hM he) (AHeap.get_push_same _ _) ((AHeap.get_push_ne _ _ (by show h'.next + 1 ≠ h'.next; omega)).trans (AHeap.get_push_same _ _)) (by simp [T.get_set, t1]) (by simp [T.get_set, t6]) (by simp [T.get_set, t7]) (by simp [T.get_set]) (by simp [T.get_set]) (by simp [T.get_set, t29]) (by simp [T.get_set, t30]) (by simp [T.get_set]) ?_
    intro fr2 h2 es2 c2 u1 u6 u8 u9 u29 u30 hn2 hg2 hM2 hgr2 hS2
    have hn2' : h'.next + 1 + 1 ≤ h2.next := hn2
    have hle2 : Hle hG h2 := ⟨by omega, fun x hx => by
      rw [hg2 x (by show x < h'.next + 1 + 1; omega) (by omega) (by omega)]
      exact ((hle.push _).push _).get x hx⟩
    simp only [go_sem, Nat.reduceEqDiff, Int.reduceLT, Int.reduceLE, Int.reduceEq, Nat.reduceLT, Nat.reduceAdd, Nat.reduceMul, Int.reduceToNat, Nat.reduceLeDiff, reduceCtorEq, u9, u30, hw]
    refine ⟨d - 1, by omega, hle2, u1, u6, u29, i + 1, h'.next, es2, c2, rfl, by omega, rfl, by omega, by omega, hM2, hgr2, ?_⟩
    have ht : s.take (i + 1) = s.take i ++ [ch] := by rw [List.take_add_one, hch]; rfl
    rw [ht]
    exact hN.step G.arcs hM hS2
  · obtain rfl : i = s.length := by omega
    simp only [go_sem, Nat.reduceEqDiff, Int.reduceLT, Int.reduceLE, Int.reduceEq, Nat.reduceLT, Nat.reduceAdd, Nat.reduceMul, Int.reduceToNat, Nat.reduceLeDiff, reduceCtorEq, t1, t6, t7, t29, t30, hc]
    rw [List.take_length] at hN
    exact hq _ _ r es c (by simp [T.get_set, t6]) (by simp [T.get_set, t7]) hle hr1 hr2 hM hg hN
def EndE (A : AutoS) (es : List EntI) (seen : List Nat) (k : Int) : Prop := ∃ e, e ∈ es ∧ e.2.2 ∈ seen ∧ 0 ≤ endOf A.ends e.1.toNat ∧ k = e.2.1 + endOf A.ends e.1.toNat
theorem EndE.acc {A : AutoS} {n : Nat} {s : List Nat} {es : List EntI} {c : Nat} {seen : List Nat} {o : Option Int} (hAn : A.n = (n : Int)) (h1 : 1 ≤ n) (hn : n ≤ 400) (hP : ArcsP A.n A.arcs) (hE : EndsP A.n A.ends) (hM : MapI es c) (H : NowP A s es) (hall : ∀ e, e ∈ es → e.2.2 ∈ seen) (ho : LeastO (EndE A es seen) o) : LeastO (AccS A s) o := by
  refine ho.weaken (fun k hk => ?_) fun k hk => ?_
  · obtain ⟨e, he, _, h2, h3⟩ := hk
    obtain ⟨b1, b2, b3, b4⟩ := H.bnd hAn h1 hn hP hM he
    rcases endOf_mem hE e.1.toNat with ⟨h4, _⟩ | ⟨_, _, x, hx, h5, h6, _⟩
    · omega
    · have hv := valE_of_mem hM.keys he
      have hl := H e.1
      rw [hv] at hl
      refine ⟨x, hx, e.2.1, ?_, by omega⟩
      rw [h5, show ((e.1.toNat : Nat) : Int) = e.1 by omega]
      exact hl.1
  · obtain ⟨x, hx, k', h3, h4⟩ := hk
    have hl := H x.st
    cases hv : valE es x.st with
    | none => rw [hv] at hl; exact (hl k' h3).elim
    | some m =>
      rw [hv] at hl
      have := hl.2 k' h3
      obtain ⟨nn, hmem⟩ := valE_mem hv
      obtain ⟨a1, a2, a3, a4⟩ := endsP_mem hE hx
      have hc : endOf A.ends x.st.toNat = x.c := by
        rcases endOf_mem hE x.st.toNat with ⟨_, h5⟩ | ⟨_, _, y, hy, h5, h6, h7⟩
        · have := h5 x hx; omega
        · have := h7 x hx (by omega); subst this; omega
      exact ⟨m + x.c, ⟨_, hmem, hall _ hmem, by show 0 ≤ endOf A.ends x.st.toNat; omega, by show m + x.c = m + endOf A.ends x.st.toNat; omega⟩, by omega⟩
def oN (o : Option Int) : Int := o.getD 0
set_option maxHeartbeats 1000000 in
theorem cost_l3 {Qn Qr : Fr → AHeap → Prop} {Qx : Nat → Fr → AHeap → Prop} (A : AutoS) (n : Nat) (s : List Nat) (r it pg : Nat) (vo vf : AVal) (rows : List AVal) (fr : Fr) (hG h : AHeap) (es : List EntI) (c : Nat) (G : Gr A n hG pg vo vf rows)
    (hle : Hle hG h) (hr1 : hG.next ≤ r) (hr2 : r < h.next) (hit : r ≠ it) (hi0 : hG.next ≤ it) (hi1 : it < h.next) (hM : MapI es c) (hg : h.get r = some (.map (es.map encE) c)) (hgi : h.get it = some (.mapIter (some r) c [] c)) (hN : NowP A s es)
    (t6 : fr.get 6 = some (.ptr pg 0)) (t16 : fr.get 16 = some (.int .i64 0)) (t17 : fr.get 17 = some (.bool false)) (t85 : fr.get 85 = some (.ptr it 0))
    (hq : ∀ fr h' o, fr.get 16 = some (.int .i64 (oN o)) → fr.get 17 = some (.bool o.isSome) → LeastO (AccS A s) o → Qx 6 fr h') : wpN E2 (.loop cCost_l3) fr h Qn Qx Qr := by
  refine n_loop (fun d fr h' => Hle hG h' ∧ h'.get r = some (.map (es.map encE) c) ∧ fr.get 6 = some (.ptr pg 0) ∧ fr.get 85 = some (.ptr it 0) ∧ ∃ (seen : List Nat) (o : Option Int), d = unseen es seen ∧ fr.get 16 = some (.int .i64 (oN o)) ∧ fr.get 17 = some (.bool o.isSome) ∧ h'.get it = some (.mapIter (some r) c seen c) ∧ LeastO (EndE A es seen) o) (unseen es []) ?_ ?_
  · refine ⟨hle, hg, t6, t85, [], none, rfl, t16, t17, hgi, ?_⟩
    rintro k ⟨e, _, h, _⟩; cases h
  clear t6 t16 t17 t85 hg hgi hle
  rintro d fr h' ⟨hle, hg, t6, t85, seen, o, hd, t16, t17, hgi, ho⟩
  unfold cCost_l3
  simp only [go_sem, Nat.reduceEqDiff, Int.reduceLT, Int.reduceLE, Int.reduceEq, Nat.reduceLT, Nat.reduceAdd, Nat.reduceMul, Int.reduceToNat, Nat.reduceLeDiff, reduceCtorEq, t85]
  refine nextV_ent hM hgi hg (fun hall => ?_) fun e he hs => ?_
  · simp only [go_sem, Nat.reduceEqDiff, Int.reduceLT, Int.reduceLE, Int.reduceEq, Nat.reduceLT, Nat.reduceAdd, Nat.reduceMul, Int.reduceToNat, Nat.reduceLeDiff, reduceCtorEq, t85]
    exact hq _ _ o (by simp [T.get_set, t16]) (by simp [T.get_set, t17]) (EndE.acc G.an G.n1 G.n4 G.arcs G.ends hM hN hall ho)
  · obtain ⟨b1, b2, b3, b4⟩ := hN.bnd G.an G.n1 G.n4 G.arcs hM he
    obtain ⟨j, hj⟩ : ∃ j : Nat, e.1 = (j : Int) := ⟨e.1.toNat, by omega⟩
    have hle2 : Hle hG (h'.put it (.mapIter (some r) c (seen ++ [e.2.2]) c)) := hle.put hi0 _
    have gr1 : (h'.put it (.mapIter (some r) c (seen ++ [e.2.2]) c)).get r = some (.map (es.map encE) c) := by rw [AHeap.get_put_ne _ _ (Ne.symm hit)]; exact hg
    have gri : (h'.put it (.mapIter (some r) c (seen ++ [e.2.2]) c)).get it = some (.mapIter (some r) c (seen ++ [e.2.2]) c) := AHeap.get_put_same _ _ _
    generalize h'.put it (.mapIter (some r) c (seen ++ [e.2.2]) c) = h2 at hle2 gr1 gri ⊢
    have l6 : ldA h2 pg 1 = some vf := by rw [ldA_cells ((hle2.get pg G.hpg).trans G.gpg)]; rfl
    obtain ⟨bb, oo, hrr, hix⟩ := (G.hvf.mono hle2).ix (j := j) (x := [.int .i64 (endOf A.ends j)]) (by rw [List.getElem?_map, List.getElem?_range (by omega)]; rfl)
    have hix := hix .i64 e.1 h2
    have lrow : ldA h2 bb oo = some (.int .i64 (endOf A.ends j)) := hrr.ldA (i := 0) rfl
    have hej : e.1.toNat = j := by omega
    have hlt := unseen_lt he hs
    have hadd : ∀ o' : Option Int, o' = (if 0 ≤ endOf A.ends j then minO o (e.2.1 + endOf A.ends j) else o) → LeastO (EndE A es (seen ++ [e.2.2])) o' := by
      intro o' ho'
      have huniq : ∀ e', e' ∈ es → e'.2.2 = e.2.2 → e' = e := by
        intro e' he' hb
        obtain ⟨a, ha⟩ := List.mem_iff_getElem?.1 he
        obtain ⟨a', ha'⟩ := List.mem_iff_getElem?.1 he'
        have := (List.getElem?_inj (l := es.map (·.2.2)) (i := a) (j := a') (by have := (List.getElem?_eq_some_iff.1 ha).1; simpa using this) hM.borns).1 (by rw [List.getElem?_map, List.getElem?_map, ha, ha']; simp [hb])
        subst this
        rw [ha] at ha'; cases ha'; rfl
      by_cases hf : 0 ≤ endOf A.ends j
      · rw [if_pos hf] at ho'
        subst ho'
        refine (ho.add (e.2.1 + endOf A.ends j)).congr fun k => ?_
        constructor
        · rintro (⟨e', he', hs', h1, h2⟩ | hk)
          · exact ⟨e', he', by simp [hs'], h1, h2⟩
          · exact ⟨e, he, by simp, by rw [hej]; exact hf, by rw [hej]; exact hk⟩
        · rintro ⟨e', he', hs', h1, h2⟩
          rcases List.mem_append.1 hs' with hs' | hs'
          · exact .inl ⟨e', he', hs', h1, h2⟩
          · have := huniq e' he' (by simpa using hs')
            subst this
            rw [hej] at h2
            exact .inr h2
      · rw [if_neg hf] at ho'
        subst ho'
        refine ho.congr fun k => ?_
        constructor
        · rintro ⟨e', he', hs', h1, h2⟩; exact ⟨e', he', by simp [hs'], h1, h2⟩
        · rintro ⟨e', he', hs', h1, h2⟩
          rcases List.mem_append.1 hs' with hs' | hs'
          · exact ⟨e', he', hs', h1, h2⟩
          · have := huniq e' he' (by simpa using hs')
            subst this
            rw [hej] at h1
            exact absurd h1 hf
    have hfb : endOf A.ends j ≤ 1000000 := by
      rcases endOf_mem G.ends j with ⟨h4, _⟩ | ⟨_, h4, _⟩ <;> omega
    by_cases hf : endOf A.ends j < 0
    · simp only [go_sem, Nat.reduceEqDiff, Int.reduceLT, Int.reduceLE, Int.reduceEq, Nat.reduceLT, Nat.reduceAdd, Nat.reduceMul, Int.reduceToNat, Nat.reduceLeDiff, reduceCtorEq, t6, t85, t16, t17, entryV_ent hM gri gr1 he, l6, hix _ hj, lrow, hf]
      exact ⟨unseen es (seen ++ [e.2.2]), by omega, hle2, gr1, seen ++ [e.2.2], o, rfl, rfl, rfl, gri, hadd o (by rw [if_neg (by omega)])⟩
    have hws : IntKind.i64.wrap (e.2.1 + endOf A.ends j) = e.2.1 + endOf A.ends j := wrap_i64 (by omega) (by omega)
    cases o with
    | none =>
      have t17' : fr.get 17 = some (.bool false) := t17
      simp only [go_sem, Nat.reduceEqDiff, Int.reduceLT, Int.reduceLE, Int.reduceEq, Nat.reduceLT, Nat.reduceAdd, Nat.reduceMul, Int.reduceToNat, Nat.reduceLeDiff, reduceCtorEq, t6, t85, t16, t17', entryV_ent hM gri gr1 he, l6, hix _ hj, lrow, hf, hws]
      exact ⟨unseen es (seen ++ [e.2.2]), by omega, hle2, gr1, seen ++ [e.2.2], some (e.2.1 + endOf A.ends j), rfl, rfl, rfl, gri, hadd _ (by rw [if_pos (by omega)]; rfl)⟩
    | some m =>
      have t17' : fr.get 17 = some (.bool true) := t17
      have t16' : fr.get 16 = some (.int .i64 m) := t16
      by_cases hm : e.2.1 + endOf A.ends j < m
      · simp only [go_sem, Nat.reduceEqDiff, Int.reduceLT, Int.reduceLE, Int.reduceEq, Nat.reduceLT, Nat.reduceAdd, Nat.reduceMul, Int.reduceToNat, Nat.reduceLeDiff, reduceCtorEq, t6, t85, t16', t17', entryV_ent hM gri gr1 he, l6, hix _ hj, lrow, hf, hws, hm]
        exact ⟨unseen es (seen ++ [e.2.2]), by omega, hle2, gr1, seen ++ [e.2.2], some (e.2.1 + endOf A.ends j), rfl, rfl, rfl, gri, hadd _ (by rw [if_pos (by omega)]; simp [minO, hm])⟩
      · simp only [go_sem, Nat.reduceEqDiff, Int.reduceLT, Int.reduceLE, Int.reduceEq, Nat.reduceLT, Nat.reduceAdd, Nat.reduceMul, Int.reduceToNat, Nat.reduceLeDiff, reduceCtorEq, t6, t85, t16', t17', entryV_ent hM gri gr1 he, l6, hix _ hj, lrow, hf, hws, hm]
        exact ⟨unseen es (seen ++ [e.2.2]), by omega, hle2, gr1, seen ++ [e.2.2], some m, rfl, rfl, rfl, gri, hadd _ (by rw [if_pos (by omega)]; simp [minO, hm])⟩
end
end Go.AX
namespace Go.AX
open Go Go.Proofs
noncomputable section
set_option linter.unusedSimpArgs false
set_option linter.unusedVariables false
attribute [local go_sem] b_seq wp_skip wp_exit wp_ret wp_region b_block wops_nil b_ops b_opsg b_cond condV_lite wo_mv b_bin wo_call callV_func wo_pick b_box wo_load1 wo_loadN wo_store wo_nilCheck wo_not wo_lenStr' wo_lenSl wo_ixStr' wo_ixSl wo_fAddr wo_part1 wo_partN wo_extract wo_cInt wo_cStr wo_mkMap wo_mkIface wo_mkFunc wo_lookup pickV_bool ifT_true ifT_false b_loadV b_loadNV b_storeV nilV_ptr nilV_func nilV_iface notV_bool lenStrV_str lenSlV_nil lenSlV_slice b_ixStrV ixSlV_slice fAddrV_ptr b_part1V partNV_agg b_extractV convV_int strV_str evC_tm evC_cn T.get_set putA_some putA_none onO_some evCs_nil evCs_cons appL_nil appL_cons guardOk_true guardOk_false cellsV_bool cellsV_int cellsV_str cellsV_nilptr cellsV_ptr cellsV_nilslice cellsV_slice cellsV_nilmap cellsV_map cellsV_func cellsV_nilfunc cellsV_iface cellsV_niliface cellsV_agg bin_lss bin_gtr bin_leq bin_geq bin_eql bin_neq bin_add bin_sub bin_eqlS bin_neqS mkFrame_nil mkFrame_cons resA_one resA_two resA_three over_0 over_1 over_2 over_3 over_4 over_5 over0_nil over0_cons Option.getD_some if_true if_false AHeap.next_push AVal.bool.injEq decide_eq_true_eq decide_eq_false_iff_not Bool.not_eq_true' Bool.not_eq_false' Bool.not_eq_true decide_true decide_false Bool.not_true Bool.not_false Int.toNat_natCast Int.natCast_nonneg true_and and_true wo_mapPut wp_drawn' wsts_nil b_pure b_read b_new b_wr wor_none b_org rer_nil rer_load1 rer_loadN wo_append AHeap.next_skip AHeap.next_put' AHeap.mk_push_t AHeap.mk_eta AHeap.mk_skip ldA_skip ldN_skip Nat.add_zero Nat.zero_add b_lite_true b_lite_false eq_self_iff_true not_true_eq_false not_false_eq_true bx_k bx_q bx_x bx_1 undefA_bool putAt_push List.length_cons List.length_nil Nat.le_refl ldA_push_new ldN_push_new List.getElem?_cons_zero List.getElem?_cons_succ List.drop_zero List.drop_succ_cons List.take_succ_cons List.take_zero b_build b_buildSlice evParts_nil evParts_cons b_fillA_nil b_fillA nbeq nble natadd natmul lenL_eq repL_1 repL_2 repL_3 wo_sliceData sdV_nil sdV_slice wo_unsafeStr usV_nil wo_slStr slStrV_str evCo_none evCo_some boundA_none Bool.and_true Bool.true_and wo_minmax2' mm2V_int n_seq n_skip n_exit n_ret n_region n_block n_cond n_nil n_op n_opsg n_drawn nw_next nw_mv nw_pick nw_box nw_build nw_buildSlice nw_load1 nw_loadN nw_store nw_nilCheck nw_bin nw_not nw_neg nw_cInt nw_cStr nw_cStrBytes nw_cBytesStr nw_mkIface nw_mkFunc nw_mkMap nw_mkSlice nw_slStr nw_slSl nw_slArr nw_fAddr nw_part1 nw_partN nw_ixArr nw_ixSl nw_ixV1 nw_ixVN nw_ixStr nw_lookup nw_mapPut nw_mapEntry nw_entryStore nw_range nw_entry nw_assert nw_extract nw_len nw_append nw_copy nw_minmax nw_sliceData nw_unsafeStr nw_call nw_invoke wo_range wo_entry
theorem flatten_inj {α : Type} {size : Nat} (hsz : 0 < size) : ∀ {xs ys : List (List α)}, (∀ x, x ∈ xs → x.length = size) → (∀ x, x ∈ ys → x.length = size) → xs.flatten = ys.flatten → xs = ys
  | [], [], _, _, _ => rfl
  | [], y :: ys, _, h2, h => by
    have := h2 y (by simp)
    have h3 := congrArg List.length h
    simp at h3
    omega
  | x :: xs, [], h1, _, h => by
    have := h1 x (by simp)
    have h3 : (x ++ xs.flatten).length = 0 := by rw [← List.flatten_cons, h]; rfl
    rw [List.length_append] at h3
    omega
  | x :: xs, y :: ys, h1, h2, h => by
    rw [List.flatten_cons, List.flatten_cons] at h
    obtain ⟨e1, e2⟩ := List.append_inj h (by rw [h1 x (by simp), h2 y (by simp)])
    rw [e1, flatten_inj hsz (fun z hz => h1 z (by simp [hz])) (fun z hz => h2 z (by simp [hz])) e2]
theorem SlA.uniq {h : AHeap} {size : Nat} {v : AVal} {xs ys : List (List AVal)} (hsz : 0 < size) (H : SlA h size v xs) (G : SlA h size v ys) : xs = ys := by
  have hlen : xs.length = ys.length := by
    rcases H.2 with ⟨rfl, rfl⟩ | ⟨b, o, c, ex, rfl, _⟩
    · rcases G.2 with ⟨rfl, _⟩ | ⟨b, o, c, ex, e, _⟩
      · rfl
      · cases e
    · rcases G.2 with ⟨rfl, e⟩ | ⟨b', o', c', ex', e, _⟩
      · cases e
      · injection e
  by_cases hx : xs = []
  · subst hx
    have : ys.length = 0 := hlen.symm
    exact (List.eq_nil_of_length_eq_zero this).symm
  by_cases hy : ys = []
  · subst hy
    exact absurd (List.eq_nil_of_length_eq_zero hlen) hx
  rcases H.2 with ⟨h1, _⟩ | ⟨b, o, c, ex, rfl, hr⟩
  · exact absurd h1 hx
  rcases hr with h1 | ⟨_, c1, e1, own1, hr1, hl1, ht1, _⟩
  · exact absurd h1 hx
  rcases G.2 with ⟨h1, _⟩ | ⟨b', o', c', ex', e, gr⟩
  · exact absurd h1 hy
  obtain ⟨rfl, rfl⟩ : b = b' ∧ o = o' := by injection e; exact ⟨by assumption, by assumption⟩
  rcases gr with h1 | ⟨_, c2, e2, own2, gr1, gl1, gt1, _⟩
  · exact absurd h1 hy
  have hc : c1 = c2 := by
    rcases hr1 with ⟨_, a⟩ | ⟨_, a⟩ <;> rcases gr1 with ⟨_, b⟩ | ⟨_, b⟩ <;> (rw [a] at b; cases b; try rfl)
  subst hc
  refine flatten_inj hsz H.1 G.1 ?_
  rw [← ht1, ← gt1, flatten_len H.1, flatten_len G.1, hlen]
theorem arcC_inj {a b : ArcS} (h : arcC a = arcC b) : a = b := by
  obtain ⟨a1, a2, a3, a4⟩ := a
  obtain ⟨b1, b2, b3, b4⟩ := b
  simp only [arcC, List.cons.injEq, AVal.int.injEq, true_and, and_true] at h
  obtain ⟨h1, h2, h3, h4⟩ := h
  subst h1; subst h2; subst h4
  congr 1
  omega
theorem endC_inj {a b : EndS} (h : endC a = endC b) : a = b := by
  obtain ⟨a1, a2⟩ := a
  obtain ⟨b1, b2⟩ := b
  simp only [endC, List.cons.injEq, AVal.int.injEq, true_and, and_true] at h
  obtain ⟨h1, h2⟩ := h
  subst h1; subst h2; rfl
theorem map_inj {α β : Type} {f : α → β} (hf : ∀ a b, f a = f b → a = b) : ∀ {l m : List α}, l.map f = m.map f → l = m
  | [], [], _ => rfl
  | [], _ :: _, h => by simp at h
  | _ :: _, [], h => by simp at h
  | a :: l, b :: m, h => by
    simp only [List.map_cons, List.cons.injEq] at h
    rw [hf a b h.1, map_inj hf h.2]
theorem AutoA.uniq {h : AHeap} {v : AVal} {A B : AutoS} (H : AutoA h v A) (G : AutoA h v B) : A = B := by
  obtain ⟨va, ve, e, h1, h2, _⟩ := H
  obtain ⟨wa, we, e', g1, g2, _⟩ := G
  rw [e] at e'
  simp only [AVal.agg.injEq, List.cons.injEq, AVal.int.injEq, true_and, and_true] at e'
  obtain ⟨e1, rfl, rfl⟩ := e'
  obtain ⟨n, a, b⟩ := A
  obtain ⟨n', a', b'⟩ := B
  have e2 := map_inj (fun _ _ => arcC_inj) (SlA.uniq (by omega) h1 g1)
  have e3 := map_inj (fun _ _ => endC_inj) (SlA.uniq (by omega) h2 g2)
  simp only at e1 e2 e3
  subst e1; subst e2; subst e3; rfl
open Classical in
def costO (A : AutoS) (s : List Nat) : Option Int := if H : ∃ o, LeastO (AccS A s) o then H.choose else none
theorem costO_eq {A : AutoS} {s : List Nat} {o : Option Int} (h : LeastO (AccS A s) o) : costO A s = o := by
  have H : ∃ o, LeastO (AccS A s) o := ⟨o, h⟩
  unfold costO
  rw [dif_pos H]
  exact H.choose_spec.uniq h
def costV (A : AutoS) (s : List Nat) : AVal := if checkZ A = 0 then .tup [.int .i64 (oN (costO A s)), .bool (costO A s).isSome] else .tup [.int .i64 0, .bool false]
theorem checkZ_ok {A : AutoS} (hA : checkZ A = 0) : ∃ n : Nat, A.n = (n : Int) ∧ 1 ≤ n ∧ n ≤ 400 ∧ A.arcs.length ≤ 4000 ∧ A.ends.length ≤ 400 ∧ ArcsP A.n A.arcs ∧ EndsP A.n A.ends := by
  have hz : ¬ (400 < A.n ∨ 4000 < A.arcs.length ∨ 400 < A.ends.length) := fun hz => by unfold checkZ at hA; rw [if_pos hz] at hA; cases hA
  have hn1 : ¬ A.n < 1 := fun hc => by unfold checkZ at hA; rw [if_neg hz, if_pos hc] at hA; cases hA
  have hP : ArcsP A.n A.arcs ∧ EndsP A.n A.ends := by
    by_cases e : ArcsP A.n A.arcs ∧ EndsP A.n A.ends
    · exact e
    · unfold checkZ at hA; rw [if_neg hz, if_neg hn1, if_neg e] at hA; cases hA
  exact ⟨A.n.toNat, by omega, by omega, by omega, by omega, by omega, hP⟩
theorem now0 (A : AutoS) : NowP A [] [(0, 0, 0)] := by
  intro q
  by_cases h : q = 0
  · subst h
    exact ⟨⟨rfl, rfl⟩, fun k hk => by obtain ⟨_, rfl⟩ := hk; exact Int.le_refl _⟩
  · have : valE [(0, 0, 0)] q = none := by
      have h' : ¬ (0 : Int) = q := fun x => h x.symm
      simp [valE, h']
    rw [this]
    rintro k ⟨e, _⟩
    exact h e.symm
set_option maxHeartbeats 1000000 in
theorem cost_n (A : AutoS) (v : AVal) (s : List Nat) (h : AHeap) (H : AutoA h v A) (hs : s.length ≤ 9223372036854775807) : Nc Tryz.prog 21 [v, .str s] h fun u _ => u = costV A s := by
  refine Nc.of_wpN env2 call2 (fun m n => drawnS env2 (call2 m n)) (fn := Tryz.f21) (by kernel_rfl) (by kernel_rfl) codeCost ?_
  obtain ⟨va, ve, rfl, ha, he, hla, hlee⟩ := id H
  unfold cCost
  have ln : ldN (h.push (.cells [.int .i64 A.n, va, ve] 36)) h.next 0 3 = some [.int .i64 A.n, va, ve] := by rw [ldN_push_new _ _ _ (by simp)]; rfl
  simp only [go_sem, Nat.reduceEqDiff, Int.reduceLT, Int.reduceLE, Int.reduceEq, Nat.reduceLT, Nat.reduceAdd, Nat.reduceMul, Int.reduceToNat, Nat.reduceLeDiff, reduceCtorEq, ln]
  refine ⟨by decide, ?_⟩
  have hle1 : Hle h (h.push (.cells [.int .i64 A.n, va, ve] 36)) := (Hle.refl h).push _
  have hnx1 : (h.push (.cells [.int .i64 A.n, va, ve] 36)).next = h.next + 1 := rfl
  generalize h.push (.cells [.int .i64 A.n, va, ve] 36) = h1 at ln hle1 hnx1 ⊢
  refine (check_c A _ h1 (H.mono hle1)).mono ?_
  rintro r h2 ⟨rfl, hle2⟩
  have ln2 : ldN h2 h.next 0 3 = some [.int .i64 A.n, va, ve] := (hle2.ldN (x := h.next) (by omega) 0 3).trans ln
  by_cases hA : checkZ A = 0
  rotate_left
  · simp only [go_sem, Nat.reduceEqDiff, Int.reduceLT, Int.reduceLE, Int.reduceEq, Nat.reduceLT, Nat.reduceAdd, Nat.reduceMul, Int.reduceToNat, Nat.reduceLeDiff, reduceCtorEq, hA]
    unfold costV; rw [if_neg hA]
  simp only [go_sem, Nat.reduceEqDiff, Int.reduceLT, Int.reduceLE, Int.reduceEq, Nat.reduceLT, Nat.reduceAdd, Nat.reduceMul, Int.reduceToNat, Nat.reduceLeDiff, reduceCtorEq, hA, ln2]
  refine ⟨by decide, ?_⟩
  refine (open_c A _ h2 (H.mono (hle1.trans hle2)) hA).mono ?_
  rintro r h3 ⟨⟨vo, vf, rows, rfl, g1, g2, g3, g4⟩, hle3⟩
  obtain ⟨n, hn, n1, n4, l4, e4, hP, hE⟩ := checkZ_ok hA
  have hn3 := hle3.next
  have hn2 := hle2.next
  have hGle : Hle h3 (h3.push (.cells [vo, vf] 93)) := (Hle.refl h3).push _
  have G : Gr A n (h3.push (.cells [vo, vf] 93)) h3.next vo vf rows :=
    ⟨hn, n1, n4, hP, hE, l4, g1.mono hGle, by omega, fun j x hx => (g3 j x hx).mono hGle, by have := g4.mono hGle; rwa [show A.n.toNat = n by omega] at this, by simp [AHeap.next_push], AHeap.get_push_same _ _⟩
  have gm : ((h3.push (.cells [vo, vf] 93)).push (.map [] 0)).get (h3.next + 1) = some (.map (([] : List EntI).map encE) 0) := AHeap.get_push_same _ _
  have hM1 := MapI.nil.put 0 0
  have hp : putE [] 0 0 0 = [(0, 0, 0)] := rfl
  have hpc : putC [] 0 0 = 1 := rfl
  rw [hp, hpc] at hM1
  simp only [go_sem, Nat.reduceEqDiff, Int.reduceLT, Int.reduceLE, Int.reduceEq, Nat.reduceLT, Nat.reduceAdd, Nat.reduceMul, Int.reduceToNat, Nat.reduceLeDiff, reduceCtorEq, putV_ent MapI.nil gm, hp, hpc]
  refine cost_l2 A n s (h3.next + 1) h3.next vo vf rows _ (h3.push (.cells [vo, vf] 93)) _ [(0, 0, 0)] 1 G hs (((Hle.refl _).push _).put (by simp [AHeap.next_push]) _) (by simp [AHeap.next_push]) (by show h3.next + 1 < h3.next + 1 + 1; omega) hM1 (AHeap.get_put_same _ _ _) (now0 A) (by simp [T.get_set]) (by simp [T.get_set]) (by simp [T.get_set]) (by simp [T.get_set]) (by simp [T.get_set]) ?_
  intro fr h4 r es c u6 u7 hle4 hr1 hr2 hM4 hg4 hN4
  simp only [go_sem, Nat.reduceEqDiff, Int.reduceLT, Int.reduceLE, Int.reduceEq, Nat.reduceLT, Nat.reduceAdd, Nat.reduceMul, Int.reduceToNat, Nat.reduceLeDiff, reduceCtorEq, u6, u7, rangeV_map hg4]
  refine cost_l3 A n s r h4.next h3.next vo vf rows _ (h3.push (.cells [vo, vf] 93)) _ es c G (hle4.push _) hr1 (by show r < h4.next + 1; omega) (by omega) hle4.next (by show h4.next < h4.next + 1; omega) hM4 ((AHeap.get_push_ne _ _ (by omega)).trans hg4) (AHeap.get_push_same _ _) hN4 (by simp [T.get_set, u6]) (by simp [T.get_set]) (by simp [T.get_set]) (by simp [T.get_set]) ?_
  intro fr h5 o w16 w17 ho
  simp only [go_sem, Nat.reduceEqDiff, Int.reduceLT, Int.reduceLE, Int.reduceEq, Nat.reduceLT, Nat.reduceAdd, Nat.reduceMul, Int.reduceToNat, Nat.reduceLeDiff, reduceCtorEq, w16, w17]
  unfold costV
  rw [if_pos hA, costO_eq ho]
theorem VL.plain {ρ ρ' : Ren} : ∀ {l : List AVal} {l' : List Value}, (∀ x, x ∈ l → x.plain = true) → VL ρ l l' → VL ρ' l l'
  | _, _, _, .nil => .nil
  | _, _, hp, .cons h1 hl => .cons (h1.plain (hp _ (by simp))) (VL.plain (fun x hx => hp x (by simp [hx])) hl)
theorem V.tup_plain {ρ ρ' : Ren} {l : List AVal} {v' : Value} (hp : ∀ x, x ∈ l → x.plain = true) (hv : V ρ (.tup l) v') : V ρ' (.tup l) v' := by
  cases hv with
  | tup hl => exact .tup (hl.plain hp)
theorem V_costV {A : AutoS} {s : List Nat} (ρ ρ' : Ren) (v' : Value) (hv : V ρ (costV A s) v') : V ρ' (costV A s) v' := by
  unfold costV at hv ⊢
  split at hv
  · rename_i hA
    rw [if_pos hA]
    exact hv.tup_plain (by simp [AVal.plain])
  · rename_i hA
    rw [if_neg hA]
    exact hv.tup_plain (by simp [AVal.plain])
open Classical in
def costP (args : List AVal) (h : AHeap) : R := if H : ∃ (A : AutoS) (v : AVal) (s : List Nat), args = [v, .str s] ∧ AutoA h v A ∧ s.length ≤ 9223372036854775807 then some (costV H.choose H.choose_spec.choose_spec.choose, h) else none
theorem costP_eq {A : AutoS} {v : AVal} {s : List Nat} {h : AHeap} (H : AutoA h v A) (hs : s.length ≤ 9223372036854775807) : costP [v, .str s] h = some (costV A s, h) := by
  have hx : ∃ (A : AutoS) (v' : AVal) (s' : List Nat), [v, .str s] = [v', .str s'] ∧ AutoA h v' A ∧ s'.length ≤ 9223372036854775807 := ⟨A, v, s, rfl, H, hs⟩
  unfold costP
  rw [dif_pos hx]
  have h1 := hx.choose_spec.choose_spec.choose_spec
  generalize hx.choose_spec.choose_spec.choose = s' at h1 ⊢
  generalize hx.choose_spec.choose = v' at h1 ⊢
  generalize hx.choose = A' at h1 ⊢
  obtain ⟨e, hA', _⟩ := h1
  simp only [List.cons.injEq, AVal.str.injEq, and_true] at e
  obtain ⟨rfl, rfl⟩ := e
  rw [H.uniq hA']
theorem cost_ok : PrimOK 21 (.fn costP) := by
  intro args h v h' hp
  have hp' : costP args h = some (v, h') := hp
  unfold costP at hp'
  split at hp'
  · rename_i H
    have h1 := H.choose_spec.choose_spec.choose_spec
    generalize H.choose_spec.choose_spec.choose = s at h1 hp'
    generalize H.choose_spec.choose = w at h1
    generalize H.choose = A at h1 hp'
    obtain ⟨rfl, hA, hs⟩ := h1
    obtain ⟨rfl, rfl⟩ := Prod.mk.inj (Option.some.inj hp')
    exact Nc.still V_costV (cost_n A w s h.fz hA.fz hs)
  · cases hp'
end
end Go.AX
namespace Go.AX
open Go Go.Proofs
noncomputable section
set_option linter.unusedSimpArgs false
set_option linter.unusedVariables false
attribute [local go_sem] b_seq wp_skip wp_exit wp_ret wp_region b_block wops_nil b_ops b_opsg b_cond condV_lite wo_mv b_bin wo_call callV_func wo_pick b_box wo_load1 wo_loadN wo_store wo_nilCheck wo_not wo_lenStr' wo_lenSl wo_ixStr' wo_ixSl wo_fAddr wo_part1 wo_partN wo_extract wo_cInt wo_cStr wo_mkMap wo_mkIface wo_mkFunc wo_lookup pickV_bool ifT_true ifT_false b_loadV b_loadNV b_storeV nilV_ptr nilV_func nilV_iface notV_bool lenStrV_str lenSlV_nil lenSlV_slice b_ixStrV ixSlV_slice fAddrV_ptr b_part1V partNV_agg b_extractV convV_int strV_str evC_tm evC_cn T.get_set putA_some putA_none onO_some evCs_nil evCs_cons appL_nil appL_cons guardOk_true guardOk_false cellsV_bool cellsV_int cellsV_str cellsV_nilptr cellsV_ptr cellsV_nilslice cellsV_slice cellsV_nilmap cellsV_map cellsV_func cellsV_nilfunc cellsV_iface cellsV_niliface cellsV_agg bin_lss bin_gtr bin_leq bin_geq bin_eql bin_neq bin_add bin_sub bin_eqlS bin_neqS mkFrame_nil mkFrame_cons resA_one resA_two resA_three over_0 over_1 over_2 over_3 over_4 over_5 over0_nil over0_cons Option.getD_some if_true if_false AHeap.next_push AVal.bool.injEq decide_eq_true_eq decide_eq_false_iff_not Bool.not_eq_true' Bool.not_eq_false' Bool.not_eq_true decide_true decide_false Bool.not_true Bool.not_false Int.toNat_natCast Int.natCast_nonneg true_and and_true wo_mapPut wp_drawn' wsts_nil b_pure b_read b_new b_wr wor_none b_org rer_nil rer_load1 rer_loadN wo_append AHeap.next_skip AHeap.next_put' AHeap.mk_push_t AHeap.mk_eta AHeap.mk_skip ldA_skip ldN_skip Nat.add_zero Nat.zero_add b_lite_true b_lite_false eq_self_iff_true not_true_eq_false not_false_eq_true bx_k bx_q bx_x bx_1 undefA_bool putAt_push List.length_cons List.length_nil Nat.le_refl ldA_push_new ldN_push_new List.getElem?_cons_zero List.getElem?_cons_succ List.drop_zero List.drop_succ_cons List.take_succ_cons List.take_zero b_build b_buildSlice evParts_nil evParts_cons b_fillA_nil b_fillA nbeq nble natadd natmul lenL_eq repL_1 repL_2 repL_3 wo_sliceData sdV_nil sdV_slice wo_unsafeStr usV_nil wo_slStr slStrV_str evCo_none evCo_some boundA_none Bool.and_true Bool.true_and wo_minmax2' mm2V_int
attribute [local go_sem] wo_mkSlice AHeap.mk_put_t AHeap.mk_skip_t
def encO (o : Option Int) : Int := match o with
  | none => 0
  | some k => k + 1
def cellsG (n : Nat) (g : Nat → Option Int) : List AVal := (List.range n).map fun (j : Nat) => .int .i64 (encO (g j))
theorem cellsG_len (n : Nat) (g : Nat → Option Int) : (cellsG n g).length = n := by simp [cellsG]
theorem cellsG_at {n : Nat} {g : Nat → Option Int} {j : Nat} (hj : j < n) : (cellsG n g)[j]? = some (.int .i64 (encO (g j))) := by
  unfold cellsG; rw [List.getElem?_map, List.getElem?_range hj]; rfl
theorem cellsG_set {n : Nat} {g : Nat → Option Int} {j : Nat} (hj : j < n) (k : Int) : (cellsG n g).set j (.int .i64 (k + 1)) = cellsG n (fun i => if i = j then some k else g i) := by
  apply List.ext_getElem?
  intro i
  rw [List.getElem?_set, cellsG_len]
  by_cases hi : i < n
  · rw [cellsG_at hi, cellsG_at hi]
    by_cases e : j = i
    · subst e; rw [if_pos rfl, if_pos hj, if_pos rfl]; rfl
    · rw [if_neg e, if_neg (Ne.symm e)]
  · rw [List.getElem?_eq_none (by rw [cellsG_len]; omega), List.getElem?_eq_none (by rw [cellsG_len]; omega)]
    by_cases e : j = i
    · omega
    · rw [if_neg e]
def ContG (l : List ArcS) (g : Nat → Option Int) (ch : Nat) (q k : Int) : Prop := ∃ x, x ∈ l ∧ x.l = ch ∧ x.to = q ∧ ∃ m, g x.fr.toNat = some m ∧ k = m + x.c
theorem ContG.snoc (l : List ArcS) (x : ArcS) (g : Nat → Option Int) (ch : Nat) (q k : Int) : ContG (l ++ [x]) g ch q k ↔ ContG l g ch q k ∨ (x.l = ch ∧ x.to = q ∧ ∃ m, g x.fr.toNat = some m ∧ k = m + x.c) := by
  unfold ContG
  constructor
  · rintro ⟨y, hy, h⟩
    rcases List.mem_append.1 hy with hy | hy
    · exact .inl ⟨y, hy, h⟩
    · simp at hy; subst hy; exact .inr h
  · rintro (⟨y, hy, h⟩ | h)
    · exact ⟨y, List.mem_append.2 (.inl hy), h⟩
    · exact ⟨x, by simp, h⟩
def NowG (A : AutoS) (n : Nat) (s : List Nat) (g : Nat → Option Int) : Prop := ∀ j, j < n → LeastO (Run A.arcs 0 s (j : Int)) (g j)
theorem NowG.step {A : AutoS} {n : Nat} {s : List Nat} {ch : Nat} {g g' : Nat → Option Int} (hAn : A.n = (n : Int)) (hP : ArcsP A.n A.arcs) (H : NowG A n s g) (H' : ∀ j, j < n → LeastO (ContG A.arcs g ch (j : Int)) (g' j)) : NowG A n (s ++ [ch]) g' := by
  intro j hj
  refine (H' j hj).weaken (fun k hk => ?_) fun k hk => ?_
  · obtain ⟨x, hx, h1, h2, m, h3, h4⟩ := hk
    obtain ⟨a1, a2, a3, _⟩ := arcsP_mem hP hx
    have hl := H x.fr.toNat (by omega)
    rw [h3] at hl
    refine Run.snoc.2 ⟨x, hx, h1, h2, m, ?_, h4⟩
    have := hl.1
    rwa [show ((x.fr.toNat : Nat) : Int) = x.fr by omega] at this
  · obtain ⟨x, hx, h1, h2, k', h3, h4⟩ := Run.snoc.1 hk
    obtain ⟨a1, a2, a3, _⟩ := arcsP_mem hP hx
    have hl := H x.fr.toNat (by omega)
    rw [show ((x.fr.toNat : Nat) : Int) = x.fr by omega] at hl
    cases hv : g x.fr.toNat with
    | none => rw [hv] at hl; exact (hl k' h3).elim
    | some m =>
      rw [hv] at hl
      have := hl.2 k' h3
      exact ⟨m + x.c, ⟨x, hx, h1, h2, m, hv, rfl⟩, by omega⟩
theorem NowG.bnd {A : AutoS} {n : Nat} {s : List Nat} {g : Nat → Option Int} (hn : n ≤ 400) (hP : ArcsP A.n A.arcs) (H : NowG A n s g) {j : Nat} (hj : j < n) {m : Int} (hm : g j = some m) : 0 ≤ m ∧ m ≤ 400000000 := by
  have := H j hj
  rw [hm] at this
  obtain ⟨b1, b2, b3, b4⟩ := Run.bound hP this.1
  omega
set_option maxRecDepth 100000 in
set_option maxHeartbeats 2000000 in
theorem rcost_l0 {Qn Qr : Fr → AHeap → Prop} {Qx : Nat → Fr → AHeap → Prop} (A : AutoS) (n : Nat) (s : List Nat) (i ch p b b2 : Nat) (va : AVal) (g : Nat → Option Int) (fr : Fr) (h : AHeap) (hAn : A.n = (n : Int)) (hn : n ≤ 400) (hP : ArcsP A.n A.arcs) (hl4 : A.arcs.length ≤ 4000) (hch : s[i]? = some ch)
    (hb : b < h.next) (hb2 : b2 < h.next) (hbb : b ≠ b2) (hp : p < h.next) (hpb : p ≠ b2) {h0 : AHeap} (hle0 : Hle h0 h) (hb0 : h0.next ≤ b2) (hv : ArcsA h0 va A.arcs) (gp : ldA h p 1 = some va) (gb : h.get b = some (.cells (cellsG n g) 3)) (gb2 : h.get b2 = some (.cells (cellsG n fun _ => none) 3)) (hg : ∀ j, j < n → ∀ m, g j = some m → 0 ≤ m ∧ m ≤ 400000000)
    (t1 : fr.get 1 = some (.str s)) (t2 : fr.get 2 = some (.ptr p 0)) (t7 : fr.get 7 = some (.slice b 0 n n true)) (t8 : fr.get 8 = some (.int .i64 (i : Int))) (t9 : fr.get 9 = some (.slice b2 0 n n true)) (t10 : fr.get 10 = some (.int .i64 0))
    (hq : ∀ fr h' g', fr.get 1 = some (.str s) → fr.get 2 = some (.ptr p 0) → fr.get 8 = some (.int .i64 (i : Int)) → fr.get 9 = some (.slice b2 0 n n true) → h.next ≤ h'.next → (∀ c, c < h.next → c ≠ b2 → h'.get c = h.get c) → h'.get b2 = some (.cells (cellsG n g') 3) → (∀ j, j < n → LeastO (ContG A.arcs g ch (j : Int)) (g' j)) → Qx 2 fr h') : wp E2 (.loop cRCost_l0) fr h Qn Qx Qr := by
  refine b_loop (fun d fr h' => h.next ≤ h'.next ∧ (∀ c, c < h.next → c ≠ b2 → h'.get c = h.get c) ∧ fr.get 1 = some (.str s) ∧ fr.get 2 = some (.ptr p 0) ∧ fr.get 7 = some (.slice b 0 n n true) ∧ fr.get 8 = some (.int .i64 (i : Int)) ∧ fr.get 9 = some (.slice b2 0 n n true) ∧ ∃ (k : Nat) (g' : Nat → Option Int), fr.get 10 = some (.int .i64 (k : Int)) ∧ d + k = A.arcs.length ∧ h'.get b2 = some (.cells (cellsG n g') 3) ∧ ∀ j, j < n → LeastO (ContG (A.arcs.take k) g ch (j : Int)) (g' j)) A.arcs.length ?_ ?_
  · refine ⟨Nat.le_refl _, fun _ _ _ => rfl, t1, t2, t7, t8, t9, 0, _, t10, by omega, gb2, fun j _ k => ?_⟩
    rintro ⟨x, hx, _⟩; simp at hx
  clear t1 t2 t7 t8 t9 t10 gb2
  rintro d fr h' ⟨hnx, hgg, t1, t2, t7, t8, t9, k, g', t10, hd, gb2, hS⟩
  have hle' : Hle h0 h' := ⟨by have := hle0.next; omega, fun c hc => (hgg c (by have := hle0.next; omega) (by omega)).trans (hle0.get c hc)⟩
  have hv' := hv.mono hle'
  have gp' : ldA h' p 1 = some va := (ldA_get (hgg p hp hpb) 1).trans gp
  unfold cRCost_l0
  by_cases hc : (k : Int) < (A.arcs.length : Int)
  · obtain ⟨x, hx⟩ : ∃ x, A.arcs[k]? = some x := ⟨_, List.getElem?_eq_getElem (by omega)⟩
    obtain ⟨bb, o, hrow, hix⟩ := hv'.ix hx
    have hix := hix .i64 (k : Int) h'
    have hld : ldN h' bb o 4 = some (arcC x) := by
      have := hrow.ldN (i := 0) (n := 4) (by simp [arcC])
      simpa [arcC] using this
    obtain ⟨o1, o2, o3, o4, o5, o6⟩ := (hP k x hx).1
    obtain ⟨j, hj⟩ : ∃ j : Nat, x.fr = (j : Int) := ⟨x.fr.toNat, by omega⟩
    obtain ⟨q, hq⟩ : ∃ q : Nat, x.to = (q : Int) := ⟨x.to.toNat, by omega⟩
    have q0 : ldA (h'.push (.cells (arcC x) 84)) h'.next 0 = some (.int .i64 (j : Int)) := by rw [ldA_push_new, ← hj]; rfl
    have q1 : ldA (h'.push (.cells (arcC x) 84)) h'.next 1 = some (.int .i64 (q : Int)) := by rw [ldA_push_new, ← hq]; rfl
    have q2 : ldA (h'.push (.cells (arcC x) 84)) h'.next 2 = some (.int .u8 (x.l : Int)) := by rw [ldA_push_new]; rfl
    have q3 : ldA (h'.push (.cells (arcC x) 84)) h'.next 3 = some (.int .i64 x.c) := by rw [ldA_push_new]; rfl
    have lb : ldA (h'.push (.cells (arcC x) 84)) b j = some (.int .i64 (encO (g j))) := by rw [ldA_push_old (by omega), ldA_cells ((hgg b hb hbb).trans gb)]; exact cellsG_at (by omega)
    have lb2 : ldA (h'.push (.cells (arcC x) 84)) b2 q = some (.int .i64 (encO (g' q))) := by rw [ldA_push_old (by omega), ldA_cells gb2]; exact cellsG_at (by omega)
    have hov : over [AVal.int .i64 0, .int .i64 0, .int .u8 0, .int .i64 0] 0 (arcC x) = arcC x := rfl
    have hln : (arcC x).length = 4 := rfl
    have hw : IntKind.i64.wrap ((k : Int) + 1) = ((k + 1 : Nat) : Int) := by rw [wrap_i64 (by omega) (by omega)]; push_cast; rfl
    have ij : ∀ (h : AHeap) (K : AVal → AHeap → Prop), ixSlV 1 (.slice b 0 n n true) (.int .i64 (j : Int)) h K = K (.ptr b (0 + j * 1)) h := fun h K => ixSlV_at rfl (by omega)
    have iq : ∀ (h : AHeap) (K : AVal → AHeap → Prop), ixSlV 1 (.slice b2 0 n n true) (.int .i64 (q : Int)) h K = K (.ptr b2 (0 + q * 1)) h := fun h K => ixSlV_at rfl (by omega)
    have ht : A.arcs.take (k + 1) = A.arcs.take k ++ [x] := by rw [List.take_add_one, hx]; rfl
    have hfr : x.fr.toNat = j := by omega
    have hg2n : ∀ m, h.next ≤ ((h'.push (.cells (arcC x) 84)).skip m).next := fun m => by show h.next ≤ h'.next + 1 + m; omega
    have hgp : ∀ m c, c < h.next → c ≠ b2 → ((h'.push (.cells (arcC x) 84)).skip m).get c = h.get c := fun m c h1 h2 => (AHeap.get_push_ne _ _ (by omega)).trans (hgg c h1 h2)
    have hgb2 : ∀ m, ((h'.push (.cells (arcC x) 84)).skip m).get b2 = some (.cells (cellsG n g') 3) := fun m => (AHeap.get_push_ne _ _ (by omega)).trans gb2
    have hstay : ¬ (x.l = ch ∧ ∃ m, g j = some m) → ∀ jj, jj < n → LeastO (ContG (A.arcs.take (k + 1)) g ch (jj : Int)) (g' jj) := by
      intro hno jj hjj
      refine (hS jj hjj).congr fun κ => ?_
      rw [ht, ContG.snoc]
      constructor
      · exact .inl
      · rintro (h | ⟨h1, _, m, h3, _⟩)
        · exact h
        · exact absurd ⟨h1, m, by rw [← hfr]; exact h3⟩ hno
    by_cases c1 : (x.l : Int) = (ch : Int)
    rotate_left
    · simp only [go_sem, Nat.reduceEqDiff, Int.reduceLT, Int.reduceLE, Int.reduceEq, Nat.reduceLT, Nat.reduceAdd, Nat.reduceMul, Int.reduceToNat, Nat.reduceLeDiff, reduceCtorEq, t1, t2, t7, t8, t9, t10, hc, gp', hv'.len, hix _ rfl, hld, hov, hln, q2, hch, c1, hw]
      exact ⟨d - 1, by omega, hg2n 38, hgp 38, k + 1, g', rfl, by omega, hgb2 38, hstay fun h => c1 (by omega)⟩
    cases hm : g j with
    | none =>
      rw [hm] at lb
      have lb : ldA (h'.push (.cells (arcC x) 84)) b j = some (.int .i64 0) := lb
      simp only [go_sem, Nat.reduceEqDiff, Int.reduceLT, Int.reduceLE, Int.reduceEq, Nat.reduceLT, Nat.reduceAdd, Nat.reduceMul, Int.reduceToNat, Nat.reduceLeDiff, reduceCtorEq, t1, t2, t7, t8, t9, t10, hc, gp', hv'.len, hix _ rfl, hld, hov, hln, q0, q2, hch, c1, ij, Nat.mul_one, lb, hw]
      exact ⟨d - 1, by omega, hg2n 38, hgp 38, k + 1, g', rfl, by omega, hgb2 38, hstay fun h => by obtain ⟨_, m, h⟩ := h; rw [hm] at h; cases h⟩
    | some m =>
      rw [hm] at lb
      have lb : ldA (h'.push (.cells (arcC x) 84)) b j = some (.int .i64 (m + 1)) := lb
      obtain ⟨m0, m1⟩ := hg j (by omega) m hm
      have cm : (0 : Int) < m + 1 := by omega
      have hws : IntKind.i64.wrap (m + 1 + x.c) = m + x.c + 1 := by rw [wrap_i64 (by omega) (by omega)]; omega
      have hgb3 := putAt_cells (h := ((h'.push (.cells (arcC x) 84)).skip 38).skip 13) (o := q) (n := 1) (vs := [.int .i64 (m + x.c + 1)]) (hgb2 38) rfl (by rw [cellsG_len]; show q + 1 ≤ n; omega)
      rw [over_one, cellsG_set (by omega)] at hgb3
      have hadd : ∀ gg : Nat → Option Int, (∀ jj, jj < n → gg jj = if jj = q then minO (g' q) (m + x.c) else g' jj) → ∀ jj, jj < n → LeastO (ContG (A.arcs.take (k + 1)) g ch (jj : Int)) (gg jj) := by
        intro gg hval jj hjj
        rw [hval jj hjj]
        by_cases e : jj = q
        · subst e
          rw [if_pos rfl]
          refine ((hS jj hjj).add (m + x.c)).congr fun κ => ?_
          rw [ht, ContG.snoc]
          constructor
          · rintro (h | h)
            · exact .inl h
            · exact .inr ⟨by omega, hq, m, by rw [hfr]; exact hm, h⟩
          · rintro (h | ⟨_, _, m', h3, h4⟩)
            · exact .inl h
            · rw [hfr, hm] at h3; cases h3; exact .inr h4
        · rw [if_neg e]
          refine (hS jj hjj).congr fun κ => ?_
          rw [ht, ContG.snoc]
          constructor
          · exact .inl
          · rintro (h | ⟨_, h, _⟩)
            · exact h
            · omega
      cases hm2 : g' q with
      | none =>
        rw [hm2] at lb2
        have lb2 : ldA (h'.push (.cells (arcC x) 84)) b2 q = some (.int .i64 0) := lb2
        simp only [go_sem, Nat.reduceEqDiff, Int.reduceLT, Int.reduceLE, Int.reduceEq, Nat.reduceLT, Nat.reduceAdd, Nat.reduceMul, Int.reduceToNat, Nat.reduceLeDiff, reduceCtorEq, t1, t2, t7, t8, t9, t10, hc, gp', hv'.len, hix _ rfl, hld, hov, hln, q0, q1, q2, q3, hch, c1, ij, iq, Nat.mul_one, lb, lb2, cm, hws, hw, hgb3]
        refine ⟨d - 1, by omega, by show h.next ≤ h'.next + 1 + 38 + 13; omega, fun c h1 h2 => by rw [AHeap.get_put_ne _ _ (Ne.symm h2)]; exact hgp 38 c h1 h2, k + 1, _, rfl, by omega, AHeap.get_put_same _ _ _, hadd _ fun jj hjj => ?_⟩
        rw [hm2]; rfl
      | some m2 =>
        rw [hm2] at lb2
        have lb2 : ldA (h'.push (.cells (arcC x) 84)) b2 q = some (.int .i64 (m2 + 1)) := lb2
        have hz : ¬ m2 + 1 = 0 := by
          have h2 := hS q (by omega)
          rw [hm2] at h2
          obtain ⟨x', hx', _, _, m', h3, h4⟩ := h2.1
          have hx2 := arcsP_mem hP (List.mem_of_mem_take hx')
          have := hg x'.fr.toNat (by have := hx2.1; have := hx2.2.1; have := hx2.2.2.1; omega) m' h3
          have := hx2.2.2.2.2.1
          omega
        by_cases hlt : m + x.c + 1 < m2 + 1
        · simp only [go_sem, Nat.reduceEqDiff, Int.reduceLT, Int.reduceLE, Int.reduceEq, Nat.reduceLT, Nat.reduceAdd, Nat.reduceMul, Int.reduceToNat, Nat.reduceLeDiff, reduceCtorEq, t1, t2, t7, t8, t9, t10, hc, gp', hv'.len, hix _ rfl, hld, hov, hln, q0, q1, q2, q3, hch, c1, ij, iq, Nat.mul_one, lb, lb2, cm, hws, hw, hz, hlt, hgb3]
          refine ⟨d - 1, by omega, by show h.next ≤ h'.next + 1 + 38 + 13; omega, fun c h1 h2 => by rw [AHeap.get_put_ne _ _ (Ne.symm h2)]; exact hgp 38 c h1 h2, k + 1, _, rfl, by omega, AHeap.get_put_same _ _ _, hadd _ fun jj hjj => ?_⟩
          rw [hm2, show minO (some m2) (m + x.c) = some (m + x.c) from if_pos (by omega)]
        · simp only [go_sem, Nat.reduceEqDiff, Int.reduceLT, Int.reduceLE, Int.reduceEq, Nat.reduceLT, Nat.reduceAdd, Nat.reduceMul, Int.reduceToNat, Nat.reduceLeDiff, reduceCtorEq, t1, t2, t7, t8, t9, t10, hc, gp', hv'.len, hix _ rfl, hld, hov, hln, q0, q1, q2, q3, hch, c1, ij, iq, Nat.mul_one, lb, lb2, cm, hws, hw, hz, hlt]
          refine ⟨d - 1, by omega, hg2n 38, hgp 38, k + 1, g', rfl, by omega, hgb2 38, hadd _ fun jj hjj => ?_⟩
          rw [hm2, show minO (some m2) (m + x.c) = some m2 from if_neg (by omega)]
          by_cases e : jj = q
          · rw [if_pos e, e]; exact hm2
          · rw [if_neg e]
  · obtain rfl : k = A.arcs.length := by omega
    simp only [go_sem, Nat.reduceEqDiff, Int.reduceLT, Int.reduceLE, Int.reduceEq, Nat.reduceLT, Nat.reduceAdd, Nat.reduceMul, Int.reduceToNat, Nat.reduceLeDiff, reduceCtorEq, t1, t2, t7, t8, t9, t10, hc, gp', hv'.len]
    rw [List.take_length] at hS
    exact hq _ _ g' (by simp [T.get_set, t1]) (by simp [T.get_set, t2]) (by simp [T.get_set, t8]) (by simp [T.get_set, t9]) hnx hgg gb2 hS
end
end Go.AX
namespace Go.AX
open Go Go.Proofs
noncomputable section
set_option linter.unusedSimpArgs false
set_option linter.unusedVariables false
attribute [local go_sem] b_seq wp_skip wp_exit wp_ret wp_region b_block wops_nil b_ops b_opsg b_cond condV_lite wo_mv b_bin wo_call callV_func wo_pick b_box wo_load1 wo_loadN wo_store wo_nilCheck wo_not wo_lenStr' wo_lenSl wo_ixStr' wo_ixSl wo_fAddr wo_part1 wo_partN wo_extract wo_cInt wo_cStr wo_mkMap wo_mkIface wo_mkFunc wo_lookup pickV_bool ifT_true ifT_false b_loadV b_loadNV b_storeV nilV_ptr nilV_func nilV_iface notV_bool lenStrV_str lenSlV_nil lenSlV_slice b_ixStrV ixSlV_slice fAddrV_ptr b_part1V partNV_agg b_extractV convV_int strV_str evC_tm evC_cn T.get_set putA_some putA_none onO_some evCs_nil evCs_cons appL_nil appL_cons guardOk_true guardOk_false cellsV_bool cellsV_int cellsV_str cellsV_nilptr cellsV_ptr cellsV_nilslice cellsV_slice cellsV_nilmap cellsV_map cellsV_func cellsV_nilfunc cellsV_iface cellsV_niliface cellsV_agg bin_lss bin_gtr bin_leq bin_geq bin_eql bin_neq bin_add bin_sub bin_eqlS bin_neqS mkFrame_nil mkFrame_cons resA_one resA_two resA_three over_0 over_1 over_2 over_3 over_4 over_5 over0_nil over0_cons Option.getD_some if_true if_false AHeap.next_push AVal.bool.injEq decide_eq_true_eq decide_eq_false_iff_not Bool.not_eq_true' Bool.not_eq_false' Bool.not_eq_true decide_true decide_false Bool.not_true Bool.not_false Int.toNat_natCast Int.natCast_nonneg true_and and_true wo_mapPut wp_drawn' wsts_nil b_pure b_read b_new b_wr wor_none b_org rer_nil rer_load1 rer_loadN wo_append AHeap.next_skip AHeap.next_put' AHeap.mk_push_t AHeap.mk_eta AHeap.mk_skip ldA_skip ldN_skip Nat.add_zero Nat.zero_add b_lite_true b_lite_false eq_self_iff_true not_true_eq_false not_false_eq_true bx_k bx_q bx_x bx_1 undefA_bool putAt_push List.length_cons List.length_nil Nat.le_refl ldA_push_new ldN_push_new List.getElem?_cons_zero List.getElem?_cons_succ List.drop_zero List.drop_succ_cons List.take_succ_cons List.take_zero b_build b_buildSlice evParts_nil evParts_cons b_fillA_nil b_fillA nbeq nble natadd natmul lenL_eq repL_1 repL_2 repL_3 wo_sliceData sdV_nil sdV_slice wo_unsafeStr usV_nil wo_slStr slStrV_str evCo_none evCo_some boundA_none Bool.and_true Bool.true_and wo_minmax2' mm2V_int
attribute [local go_sem] wo_mkSlice AHeap.mk_put_t AHeap.mk_skip_t
set_option maxHeartbeats 2000000 in
theorem rcost_l1 {Qn Qr : Fr → AHeap → Prop} {Qx : Nat → Fr → AHeap → Prop} (A : AutoS) (n : Nat) (s : List Nat) (p b : Nat) (va : AVal) (g : Nat → Option Int) (fr : Fr) (hB h : AHeap) (hAn : A.n = (n : Int)) (hn : n ≤ 400) (hP : ArcsP A.n A.arcs) (hl4 : A.arcs.length ≤ 4000) (hs : s.length ≤ 9223372036854775807)
    (hle : Hle hB h) (hb : b < h.next) (hbB : hB.next ≤ b) (hp : p < hB.next) (hv : ArcsA hB va A.arcs) (gp : ldA hB p 1 = some va) (gn : ldA hB p 0 = some (.int .i64 A.n)) (gb : h.get b = some (.cells (cellsG n g) 3)) (hg : NowG A n [] g)
    (t1 : fr.get 1 = some (.str s)) (t2 : fr.get 2 = some (.ptr p 0)) (t7 : fr.get 7 = some (.slice b 0 n n true)) (t8 : fr.get 8 = some (.int .i64 0))
    (hq : ∀ fr h' b' g', fr.get 2 = some (.ptr p 0) → fr.get 7 = some (.slice b' 0 n n true) → Hle hB h' → b' < h'.next → h'.get b' = some (.cells (cellsG n g') 3) → NowG A n s g' → Qx 0 fr h') : wp E2 (.loop cRCost_l1) fr h Qn Qx Qr := by
  refine b_loop (fun d fr h' => Hle hB h' ∧ fr.get 1 = some (.str s) ∧ fr.get 2 = some (.ptr p 0) ∧ ∃ (i b : Nat) (g : Nat → Option Int), fr.get 8 = some (.int .i64 (i : Int)) ∧ d + i = s.length ∧ fr.get 7 = some (.slice b 0 n n true) ∧ hB.next ≤ b ∧ b < h'.next ∧ h'.get b = some (.cells (cellsG n g) 3) ∧ NowG A n (s.take i) g) s.length ?_ ?_
  · exact ⟨hle, t1, t2, 0, b, g, t8, by omega, t7, hbB, hb, gb, by simpa using hg⟩
  clear t1 t2 t7 t8 gb hg hb hbB hle
  rintro d fr h' ⟨hle, t1, t2, i, b, g, t8, hd, t7, hbB, hb, gb, hg⟩
  have hln := hle.next
  unfold cRCost_l1
  by_cases hc : (i : Int) < (s.length : Int)
  · obtain ⟨ch, hch⟩ : ∃ ch, s[i]? = some ch := ⟨_, List.getElem?_eq_getElem (by omega)⟩
    have hw : IntKind.i64.wrap ((i : Int) + 1) = ((i + 1 : Nat) : Int) := by rw [wrap_i64 (by omega) (by omega)]; push_cast; rfl
    have ln : ldA h' p 0 = some (.int .i64 A.n) := (hle.ldA hp 0).trans gn
    have hcell : List.replicate n (AVal.int .i64 0) = cellsG n fun _ => none := by unfold cellsG; rw [List.map_const' , List.length_range]; rfl
    simp only [go_sem, Nat.reduceEqDiff, Int.reduceLT, Int.reduceLE, Int.reduceEq, Nat.reduceLT, Nat.reduceAdd, Nat.reduceMul, Int.reduceToNat, Nat.reduceLeDiff, reduceCtorEq, t1, t2, t7, t8, hc, ln, mkV_ok hAn (show n * 8 ≤ 1073741824 by omega) (by omega), flat_rep1, hcell]
    refine rcost_l0 A n s i ch p b h'.next va g _ _ hAn hn hP hl4 hch (by show b < h'.next + 1; omega) (by show h'.next < h'.next + 1; omega) (by omega) (by show p < h'.next + 1; omega) (by omega) (hle.push _) (by omega) hv (((hle.push _).ldA hp 1).trans gp) ((AHeap.get_push_ne _ _ (by omega)).trans gb) (AHeap.get_push_same _ _) (fun j hj m hm => hg.bnd hn hP hj hm) (by simp [T.get_set, t1]) (by simp [T.get_set, t2]) (by simp [T.get_set, t7]) (by simp [T.get_set, t8]) (by simp [T.get_set]) (by simp [T.get_set]) ?_
    intro fr2 h2 g2 u1 u2 u8 u9 hn2 hg2 gb2 hS2
    have hn2' : h'.next + 1 ≤ h2.next := hn2
    have hle2 : Hle hB h2 := ⟨by omega, fun c hc => by
      rw [hg2 c (by show c < h'.next + 1; omega) (by omega)]
      exact (hle.push _).get c hc⟩
    simp only [go_sem, Nat.reduceEqDiff, Int.reduceLT, Int.reduceLE, Int.reduceEq, Nat.reduceLT, Nat.reduceAdd, Nat.reduceMul, Int.reduceToNat, Nat.reduceLeDiff, reduceCtorEq, u8, u9, hw]
    refine ⟨d - 1, by omega, hle2, u1, u2, i + 1, h'.next, g2, rfl, by omega, rfl, by omega, by omega, gb2, ?_⟩
    have ht : s.take (i + 1) = s.take i ++ [ch] := by rw [List.take_add_one, hch]; rfl
    rw [ht]
    exact hg.step hAn hP hS2
  · obtain rfl : i = s.length := by omega
    simp only [go_sem, Nat.reduceEqDiff, Int.reduceLT, Int.reduceLE, Int.reduceEq, Nat.reduceLT, Nat.reduceAdd, Nat.reduceMul, Int.reduceToNat, Nat.reduceLeDiff, reduceCtorEq, t1, t2, t7, t8, hc]
    rw [List.take_length] at hg
    exact hq _ _ b g (by simp [T.get_set, t2]) (by simp [T.get_set, t7]) hle hb gb hg
def AccG (l : List EndS) (g : Nat → Option Int) (k : Int) : Prop := ∃ e, e ∈ l ∧ ∃ m, g e.st.toNat = some m ∧ k = m + e.c
theorem AccG.snoc (l : List EndS) (x : EndS) (g : Nat → Option Int) (k : Int) : AccG (l ++ [x]) g k ↔ AccG l g k ∨ ∃ m, g x.st.toNat = some m ∧ k = m + x.c := by
  unfold AccG
  constructor
  · rintro ⟨y, hy, h⟩
    rcases List.mem_append.1 hy with hy | hy
    · exact .inl ⟨y, hy, h⟩
    · simp at hy; subst hy; exact .inr h
  · rintro (⟨y, hy, h⟩ | h)
    · exact ⟨y, List.mem_append.2 (.inl hy), h⟩
    · exact ⟨x, by simp, h⟩
theorem AccG.acc {A : AutoS} {n : Nat} {s : List Nat} {g : Nat → Option Int} {o : Option Int} (hAn : A.n = (n : Int)) (hE : EndsP A.n A.ends) (H : NowG A n s g) (ho : LeastO (AccG A.ends g) o) : LeastO (AccS A s) o := by
  refine ho.weaken (fun k hk => ?_) fun k hk => ?_
  · obtain ⟨e, he, m, h1, h2⟩ := hk
    obtain ⟨a1, a2, _⟩ := endsP_mem hE he
    have hl := H e.st.toNat (by omega)
    rw [h1, show ((e.st.toNat : Nat) : Int) = e.st by omega] at hl
    exact ⟨e, he, m, hl.1, h2⟩
  · obtain ⟨e, he, k', h1, h2⟩ := hk
    obtain ⟨a1, a2, _⟩ := endsP_mem hE he
    have hl := H e.st.toNat (by omega)
    rw [show ((e.st.toNat : Nat) : Int) = e.st by omega] at hl
    cases hv : g e.st.toNat with
    | none => rw [hv] at hl; exact (hl k' h1).elim
    | some m =>
      rw [hv] at hl
      have := hl.2 k' h1
      exact ⟨m + e.c, ⟨e, he, m, hv, rfl⟩, by omega⟩
set_option maxRecDepth 100000 in
set_option maxHeartbeats 2000000 in
theorem rcost_l2 {Qn Qr : Fr → AHeap → Prop} {Qx : Nat → Fr → AHeap → Prop} (A : AutoS) (n : Nat) (p b : Nat) (ve : AVal) (g : Nat → Option Int) (fr : Fr) (h : AHeap) (hAn : A.n = (n : Int)) (hn : n ≤ 400) (hE : EndsP A.n A.ends) (hl4 : A.ends.length ≤ 400) (hg : ∀ j, j < n → ∀ m, g j = some m → 0 ≤ m ∧ m ≤ 400000000)
    (hv : EndsA h ve A.ends) (gp : ldA h p 2 = some ve) (gb : h.get b = some (.cells (cellsG n g) 3))
    (t2 : fr.get 2 = some (.ptr p 0)) (t7 : fr.get 7 = some (.slice b 0 n n true)) (t12 : fr.get 12 = some (.int .i64 0)) (t13 : fr.get 13 = some (.int .i64 0))
    (hq : ∀ fr o, fr.get 12 = some (.int .i64 (encO o)) → LeastO (AccG A.ends g) o → Qx 4 fr h) : wp E2 (.loop cRCost_l2) fr h Qn Qx Qr := by
  refine b_loop (fun d fr h' => h' = h ∧ fr.get 2 = some (.ptr p 0) ∧ fr.get 7 = some (.slice b 0 n n true) ∧ ∃ (k : Nat) (o : Option Int), fr.get 13 = some (.int .i64 (k : Int)) ∧ fr.get 12 = some (.int .i64 (encO o)) ∧ d + k = A.ends.length ∧ LeastO (AccG (A.ends.take k) g) o) A.ends.length ?_ ?_
  · refine ⟨rfl, t2, t7, 0, none, t13, t12, by omega, ?_⟩
    rintro k ⟨x, hx, _⟩; simp at hx
  clear t2 t7 t12 t13
  rintro d fr h' ⟨rfl, t2, t7, k, o, t13, t12, hd, ho⟩
  unfold cRCost_l2
  by_cases hc : (k : Int) < (A.ends.length : Int)
  · obtain ⟨x, hx⟩ : ∃ x, A.ends[k]? = some x := ⟨_, List.getElem?_eq_getElem (by omega)⟩
    obtain ⟨bb, oo, hrow, hix⟩ := hv.ix hx
    have hix := hix .i64 (k : Int) h'
    obtain ⟨a1, a2, a3, a4⟩ := (hE k x hx).1
    obtain ⟨j, hj⟩ : ∃ j : Nat, x.st = (j : Int) := ⟨x.st.toNat, by omega⟩
    have q0 : ldA h' bb oo = some (.int .i64 (j : Int)) := by rw [← hj]; exact hrow.ldA (i := 0) rfl
    have q1 : ldA h' bb (oo + 1) = some (.int .i64 x.c) := hrow.ldA (i := 1) rfl
    have lb : ldA h' b j = some (.int .i64 (encO (g j))) := by rw [ldA_cells gb]; exact cellsG_at (by omega)
    have ij : ∀ (h : AHeap) (K : AVal → AHeap → Prop), ixSlV 1 (.slice b 0 n n true) (.int .i64 (j : Int)) h K = K (.ptr b (0 + j * 1)) h := fun h K => ixSlV_at rfl (by omega)
    have hw : IntKind.i64.wrap ((k : Int) + 1) = ((k + 1 : Nat) : Int) := by rw [wrap_i64 (by omega) (by omega)]; push_cast; rfl
    have ht : A.ends.take (k + 1) = A.ends.take k ++ [x] := by rw [List.take_add_one, hx]; rfl
    have hfr : x.st.toNat = j := by omega
    cases hm : g j with
    | none =>
      rw [hm] at lb
      have lb : ldA h' b j = some (.int .i64 0) := lb
      simp only [go_sem, Nat.reduceEqDiff, Int.reduceLT, Int.reduceLE, Int.reduceEq, Nat.reduceLT, Nat.reduceAdd, Nat.reduceMul, Int.reduceToNat, Nat.reduceLeDiff, reduceCtorEq, t2, t7, t12, t13, hc, gp, hv.len, hix _ rfl, q0, q1, ij, Nat.mul_one, lb, hw]
      refine ⟨d - 1, by omega, k + 1, o, rfl, rfl, by omega, ho.congr fun κ => ?_⟩
      rw [ht, AccG.snoc]
      constructor
      · exact .inl
      · rintro (h | ⟨m, h, _⟩)
        · exact h
        · rw [hfr, hm] at h; cases h
    | some m =>
      rw [hm] at lb
      have lb : ldA h' b j = some (.int .i64 (m + 1)) := lb
      obtain ⟨m0, m1⟩ := hg j (by omega) m hm
      have cm : (0 : Int) < m + 1 := by omega
      have hws : IntKind.i64.wrap (m + 1 + x.c) = m + x.c + 1 := by rw [wrap_i64 (by omega) (by omega)]; omega
      have hadd : LeastO (AccG (A.ends.take (k + 1)) g) (minO o (m + x.c)) := by
        refine (ho.add (m + x.c)).congr fun κ => ?_
        rw [ht, AccG.snoc]
        constructor
        · rintro (h | h)
          · exact .inl h
          · exact .inr ⟨m, by rw [hfr]; exact hm, h⟩
        · rintro (h | ⟨m', h3, h4⟩)
          · exact .inl h
          · rw [hfr, hm] at h3; cases h3; exact .inr h4
      cases o with
      | none =>
        have t12' : fr.get 12 = some (.int .i64 0) := t12
        simp only [go_sem, Nat.reduceEqDiff, Int.reduceLT, Int.reduceLE, Int.reduceEq, Nat.reduceLT, Nat.reduceAdd, Nat.reduceMul, Int.reduceToNat, Nat.reduceLeDiff, reduceCtorEq, t2, t7, t12', t13, hc, gp, hv.len, hix _ rfl, q0, q1, ij, Nat.mul_one, lb, cm, hws, hw]
        exact ⟨d - 1, by omega, k + 1, some (m + x.c), rfl, rfl, by omega, hadd⟩
      | some m2 =>
        have t12' : fr.get 12 = some (.int .i64 (m2 + 1)) := t12
        have hz : ¬ m2 + 1 = 0 := by
          obtain ⟨e, he, m', h3, h4⟩ := ho.1
          have he2 := endsP_mem hE (List.mem_of_mem_take he)
          have := hg e.st.toNat (by have := he2.1; have := he2.2.1; omega) m' h3
          have := he2.2.2.1
          omega
        by_cases hlt : m + x.c + 1 < m2 + 1
        · simp only [go_sem, Nat.reduceEqDiff, Int.reduceLT, Int.reduceLE, Int.reduceEq, Nat.reduceLT, Nat.reduceAdd, Nat.reduceMul, Int.reduceToNat, Nat.reduceLeDiff, reduceCtorEq, t2, t7, t12', t13, hc, gp, hv.len, hix _ rfl, q0, q1, ij, Nat.mul_one, lb, cm, hws, hw, hz, hlt]
          refine ⟨d - 1, by omega, k + 1, some (m + x.c), rfl, rfl, by omega, ?_⟩
          rw [show minO (some m2) (m + x.c) = some (m + x.c) from if_pos (by omega)] at hadd
          exact hadd
        · simp only [go_sem, Nat.reduceEqDiff, Int.reduceLT, Int.reduceLE, Int.reduceEq, Nat.reduceLT, Nat.reduceAdd, Nat.reduceMul, Int.reduceToNat, Nat.reduceLeDiff, reduceCtorEq, t2, t7, t12', t13, hc, gp, hv.len, hix _ rfl, q0, q1, ij, Nat.mul_one, lb, cm, hws, hw, hz, hlt]
          refine ⟨d - 1, by omega, k + 1, some m2, rfl, rfl, by omega, ?_⟩
          rw [show minO (some m2) (m + x.c) = some m2 from if_neg (by omega)] at hadd
          exact hadd
  · obtain rfl : k = A.ends.length := by omega
    simp only [go_sem, Nat.reduceEqDiff, Int.reduceLT, Int.reduceLE, Int.reduceEq, Nat.reduceLT, Nat.reduceAdd, Nat.reduceMul, Int.reduceToNat, Nat.reduceLeDiff, reduceCtorEq, t2, t7, t12, t13, hc, gp, hv.len]
    rw [List.take_length] at ho
    exact hq _ o (by simp [T.get_set, t12]) ho
set_option maxHeartbeats 1000000 in
theorem rcost_c (A : AutoS) (v : AVal) (s : List Nat) (h : AHeap) (H : AutoA h v A) (hs : s.length ≤ 9223372036854775807) : Ec E2 22 [v, .str s] h fun u h' => u = costV A s ∧ Hle h h' := by
  obtain ⟨va, ve, rfl, ha, he, hla, hlee⟩ := id H
  refine Ec.of_wpb (prim2_none (by decide)) codeRCost ?_
  unfold cRCost
  have ln : ldN (h.push (.cells [.int .i64 A.n, va, ve] 36)) h.next 0 3 = some [.int .i64 A.n, va, ve] := by rw [ldN_push_new _ _ _ (by simp)]; rfl
  have l0 : ldA (h.push (.cells [.int .i64 A.n, va, ve] 36)) h.next 0 = some (.int .i64 A.n) := by rw [ldA_push_new]; rfl
  have l1 : ldA (h.push (.cells [.int .i64 A.n, va, ve] 36)) h.next 1 = some va := by rw [ldA_push_new]; rfl
  have l2 : ldA (h.push (.cells [.int .i64 A.n, va, ve] 36)) h.next 2 = some ve := by rw [ldA_push_new]; rfl
  simp only [go_sem, Nat.reduceEqDiff, Int.reduceLT, Int.reduceLE, Int.reduceEq, Nat.reduceLT, Nat.reduceAdd, Nat.reduceMul, Int.reduceToNat, Nat.reduceLeDiff, reduceCtorEq, ln]
  refine ⟨by decide, ?_⟩
  have hle1 : Hle h (h.push (.cells [.int .i64 A.n, va, ve] 36)) := (Hle.refl h).push _
  have hnx1 : (h.push (.cells [.int .i64 A.n, va, ve] 36)).next = h.next + 1 := rfl
  generalize h.push (.cells [.int .i64 A.n, va, ve] 36) = h1 at ln l0 l1 l2 hle1 hnx1 ⊢
  refine (rcheck_c A _ h1 (H.mono hle1)).mono ?_
  rintro r h2 ⟨rfl, hle2⟩
  have l0 := (hle2.ldA (x := h.next) (by omega) 0).trans l0
  have l1 := (hle2.ldA (x := h.next) (by omega) 1).trans l1
  have l2 := (hle2.ldA (x := h.next) (by omega) 2).trans l2
  by_cases hA : checkZ A = 0
  rotate_left
  · simp only [go_sem, Nat.reduceEqDiff, Int.reduceLT, Int.reduceLE, Int.reduceEq, Nat.reduceLT, Nat.reduceAdd, Nat.reduceMul, Int.reduceToNat, Nat.reduceLeDiff, reduceCtorEq, hA]
    exact ⟨by unfold costV; rw [if_neg hA], hle1.trans hle2⟩
  obtain ⟨n, hn, n1, n4, l4, e4, hP, hE⟩ := checkZ_ok hA
  have hle02 := hle1.trans hle2
  have hn2 := hle2.next
  have hcell : List.replicate n (AVal.int .i64 0) = cellsG n fun _ => none := by unfold cellsG; rw [List.map_const', List.length_range]; rfl
  have i0 : ∀ (h : AHeap) (b : Nat) (K : AVal → AHeap → Prop), ixSlV 1 (.slice b 0 n n true) (.int .i64 0) h K = K (.ptr b (0 + 0 * 1)) h := fun h b K => ixSlV_at (j := 0) rfl (by omega)
  have hp1 := putAt_push (h := h2) (o := 0) (n := 1) (vs := [.int .i64 1]) (c := cellsG n fun _ => none) (e := 3) rfl (by rw [cellsG_len]; simpa using n1)
  have hcs : (cellsG n fun _ => none).set 0 (.int .i64 1) = cellsG n (fun i => if i = 0 then some 0 else none) := cellsG_set (by omega) 0
  rw [over_one, hcs] at hp1
  simp only [go_sem, Nat.reduceEqDiff, Int.reduceLT, Int.reduceLE, Int.reduceEq, Nat.reduceLT, Nat.reduceAdd, Nat.reduceMul, Int.reduceToNat, Nat.reduceLeDiff, reduceCtorEq, hA, l0, mkV_ok hn (show n * 8 ≤ 1073741824 by omega) (by omega), flat_rep1, hcell, i0, hp1]
  refine rcost_l1 A n s h.next h2.next va _ _ h2 _ hn n4 hP l4 hs ((Hle.refl h2).push _) (by show h2.next < h2.next + 1; omega) (by omega) (by omega) (ha.mono hle02) l1 l0 (AHeap.get_push_same _ _) ?_ (by simp [T.get_set]) (by simp [T.get_set]) (by simp [T.get_set]) (by simp [T.get_set]) ?_
  · intro j hj
    show LeastO _ (if j = 0 then some 0 else none)
    by_cases e : j = 0
    · subst e
      rw [if_pos rfl]
      exact ⟨⟨rfl, rfl⟩, fun k hk => by obtain ⟨_, rfl⟩ := hk; exact Int.le_refl _⟩
    · rw [if_neg e]
      rintro k ⟨h1, _⟩
      omega
  intro fr h3 b g u2 u7 hle3 hb3 gb3 hg3
  have l2 := (hle3.ldA (x := h.next) (by omega) 2).trans l2
  simp only [go_sem, Nat.reduceEqDiff, Int.reduceLT, Int.reduceLE, Int.reduceEq, Nat.reduceLT, Nat.reduceAdd, Nat.reduceMul, Int.reduceToNat, Nat.reduceLeDiff, reduceCtorEq, u2, u7]
  refine rcost_l2 A n h.next b ve g _ h3 hn n4 hE e4 (fun j hj m hm => hg3.bnd n4 hP hj hm) (he.mono (hle02.trans hle3)) l2 gb3 (by simp [T.get_set, u2]) (by simp [T.get_set, u7]) (by simp [T.get_set]) (by simp [T.get_set]) ?_
  intro fr o w12 ho
  have hacc := AccG.acc hn hE hg3 ho
  have hv : costV A s = .tup [.int .i64 (oN o), .bool o.isSome] := by unfold costV; rw [if_pos hA, costO_eq hacc]
  rw [hv]
  cases o with
  | none =>
    have w12' : fr.get 12 = some (.int .i64 0) := w12
    have hw : IntKind.i64.wrap (0 - 1) = -1 := by decide
    simp only [go_sem, Nat.reduceEqDiff, Int.reduceLT, Int.reduceLE, Int.reduceEq, Nat.reduceLT, Nat.reduceAdd, Nat.reduceMul, Int.reduceToNat, Nat.reduceLeDiff, reduceCtorEq, w12', hw]
    exact ⟨rfl, hle02.trans hle3⟩
  | some k =>
    have w12' : fr.get 12 = some (.int .i64 (k + 1)) := w12
    have hk : 0 ≤ k ∧ k ≤ 500000000 := by
      obtain ⟨e, he, m, h3, h4⟩ := ho.1
      obtain ⟨a1, a2, a3, a4⟩ := endsP_mem hE he
      have := hg3.bnd n4 hP (j := e.st.toNat) (by omega) h3
      omega
    have hw : IntKind.i64.wrap (k + 1 - 1) = k := by rw [wrap_i64 (by omega) (by omega)]; omega
    have hmx : max k 0 = k := by omega
    have hgt : (0 : Int) < k + 1 := by omega
    simp only [go_sem, Nat.reduceEqDiff, Int.reduceLT, Int.reduceLE, Int.reduceEq, Nat.reduceLT, Nat.reduceAdd, Nat.reduceMul, Int.reduceToNat, Nat.reduceLeDiff, reduceCtorEq, w12', hw, hmx, hgt]
    exact ⟨rfl, hle02.trans hle3⟩
end
end Go.AX

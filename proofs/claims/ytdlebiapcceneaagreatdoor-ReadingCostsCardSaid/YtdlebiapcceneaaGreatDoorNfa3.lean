/-
  The third part of the soundness of a verified executor of compiled code; no conditions but those that each lemma names.
-/
import Derived.Test.YtdlebiapcceneaaGreatDoorNfa2
import Derived.OwnWalkIn
import Derived.RangeFuncIn
import Derived.RangeFuncRecord
import Derived.RangeFuncLeaves
import Derived.LoopNIn
set_option linter.unusedVariables false
set_option linter.unusedSimpArgs false
set_option linter.unusedSectionVars false
namespace Go.AX
open Go.RowKit
section
variable {E : Env} {P : Program} [Lay P] {K : Keep} {W0 : World} {ρ : Ren} {w : World} {callf : CallF} {base n : Nat} {pre : Array Nat} {cops : List COper} {l : List CStep} {fr0 : Fr} {h0 : AHeap}
def Makes (E : Env) (callf : CallF) (base : Nat) (l : List CStep) (fr0 : Fr) (h0 : AHeap) (t : CStep) (ob : AObj) : Prop :=
  ∃ L R fr1 h1 v, l = L ++ t :: R ∧ runSteps E callf base L fr0 h0 = some (fr1, h1) ∧ runOp E callf t.o fr1 ⟨base + t.i, h1.t⟩ = some (v, AHeap.push ⟨base + t.i, h1.t⟩ ob) ∧ ob.own
structure HR (E : Env) (P : Program) [Lay P] (callf : CallF) (base n : Nat) (l : List CStep) (fr0 : Fr) (h0 : AHeap) (K : Keep) (W0 : World) (R : List CStep) (D : Nat → Prop) (ρ : Ren) (hB : AHeap) (w : World) : Prop where
  wr : WR P K W0 ρ hB w
  nx : base + n ≤ hB.next
  g1 : ∀ t, t ∈ R → t.cls = .new → D t.i → ∀ r, ρ (base + t.i) = some r → r.b < w.heap.size ∧ ¬ K r.b ∧ (∀ m p s, hB.get m = some p → p.live → ρ m = some s → s.b ≠ r.b) ∧
    ∀ u, u ∈ R → u.cls = .new → D u.i → u.i ≠ t.i → ∀ s, ρ (base + u.i) = some s → s.b ≠ r.b
  g2 : ∀ t, t ∈ R → t.cls = .new → D t.i → ∀ ob, Makes E callf base l fr0 h0 t ob → ∃ r, ρ (base + t.i) = some r ∧ ObjR P ρ r ob (w.heap[r.b]?)
  g3 : ∀ t, t ∈ R → t.cls = .new → ¬ D t.i → ρ (base + t.i) = none
  g4 : ∀ t, t ∈ R → t.cls = .new → D t.i → (∀ ob, ¬ Makes E callf base l fr0 h0 t ob) → ρ (base + t.i) = none
theorem adopt_step (hP : PlanOK pre cops n l) {L R : List CStep} {t : CStep} {D : Nat → Prop} (e : l = L ++ t :: R) {fr1 : Fr} {h1 : AHeap} (hL : runSteps E callf base L fr0 h0 = some (fr1, h1)) (H : HR E P callf base n l fr0 h0 K W0 (t :: R) D ρ h1 w)
    {fr2 : Fr} {h2 : AHeap} (hs : runStep E callf base t fr1 h1 = some (fr2, h2)) (hw : t.cls ≠ .wr) (hD : t.cls = .new → D t.i) : HR E P callf base n l fr0 h0 K W0 R D ρ h2 w := by
  have htl : t ∈ l := by rw [e]; simp
  have hcls := (hP.at htl).2
  have same : h2 = h1 → HR E P callf base n l fr0 h0 K W0 R D ρ h2 w := by
    rintro rfl
    exact ⟨H.wr, H.nx, fun u hu hc hd r hr => let ⟨a, b, c, d⟩ := H.g1 u (List.mem_cons_of_mem _ hu) hc hd r hr; ⟨a, b, c, fun x hx => d x (List.mem_cons_of_mem _ hx)⟩,
      fun u hu => H.g2 u (List.mem_cons_of_mem _ hu), fun u hu => H.g3 u (List.mem_cons_of_mem _ hu), fun u hu => H.g4 u (List.mem_cons_of_mem _ hu)⟩
  obtain ⟨v, hO, ef, hcase⟩ := runStep_inv hs
  rcases hcase with ⟨hc, hr, rfl⟩ | ⟨hc, hr, rfl⟩ | ⟨hc, _⟩
  · rcases hc with hc | hc
    · exact same (runOp_pure (by rw [← hcls]; exact hc) hr).1
    · exact same (runOp_read (by rw [← hcls]; exact hc) hr)
  · rcases runOp_new (by rw [← hcls]; exact hc) hr with ⟨_, _, rfl⟩ | ⟨_, _, ob, rfl, hown⟩
    · exact same rfl
    · have hd := hD hc
      have hmk : Makes E callf base l fr0 h0 t ob := ⟨L, R, fr1, h1, v, e, hL, hr, hown⟩
      obtain ⟨r, hr1, hr2⟩ := H.g2 t (by simp) hc hd ob hmk
      obtain ⟨a1, a2, a3, a4⟩ := H.g1 t (by simp) hc hd r hr1
      have hget : ∀ m, m ≠ base + t.i → (⟨h1.next, (AHeap.push ⟨base + t.i, h1.t⟩ ob).t⟩ : AHeap).get m = h1.get m := fun m hm => T.get_set_ne _ _ (Ne.symm hm)
      have hsame : (⟨h1.next, (AHeap.push ⟨base + t.i, h1.t⟩ ob).t⟩ : AHeap).get (base + t.i) = some ob := T.get_set_same _ _ _
      refine ⟨H.wr.adopt' hr1 hsame hget rfl a2 a3 hr2, H.nx, fun u hu hcu hdu s hs' => ?_, fun u hu => H.g2 u (List.mem_cons_of_mem _ hu), fun u hu => H.g3 u (List.mem_cons_of_mem _ hu), fun u hu => H.g4 u (List.mem_cons_of_mem _ hu)⟩
      obtain ⟨b1, b2, b3, b4⟩ := H.g1 u (List.mem_cons_of_mem _ hu) hcu hdu s hs'
      refine ⟨b1, b2, fun m p q hm hl hq => ?_, fun x hx => b4 x (List.mem_cons_of_mem _ hx)⟩
      by_cases em : m = base + t.i
      · subst em
        exact b4 t (by simp) hc hd (Ne.symm (hP.behind e hu)) q hq
      · rw [hget m em] at hm
        exact b3 m p q hm hl hq
  · exact absurd hc hw
theorem adopt_steps (hP : PlanOK pre cops n l) {R : List CStep} {D : Nat → Prop} : ∀ (M L : List CStep), l = L ++ (M ++ R) → ∀ {fr1 : Fr} {h1 : AHeap}, runSteps E callf base L fr0 h0 = some (fr1, h1) → HR E P callf base n l fr0 h0 K W0 (M ++ R) D ρ h1 w →
    ∀ {fr2 : Fr} {h2 : AHeap}, runSteps E callf base M fr1 h1 = some (fr2, h2) → (∀ t, t ∈ M → t.cls ≠ .wr) → (∀ t, t ∈ M → t.cls = .new → D t.i) → HR E P callf base n l fr0 h0 K W0 R D ρ h2 w := by
  intro M
  induction M with
  | nil => intro L e fr1 h1 hL H fr2 h2 hs _ _; cases hs; exact H
  | cons t M ih =>
    intro L e fr1 h1 hL H fr2 h2 hs hw hD
    rw [runSteps_cons, ob_some] at hs
    obtain ⟨⟨f, hh⟩, hs1, hs⟩ := hs
    have H1 := adopt_step hP (by simpa using e) hL H hs1 (hw t (by simp)) (hD t (by simp))
    have hL' : runSteps E callf base (L ++ [t]) fr0 h0 = some (f, hh) := by rw [runSteps_join hL, runSteps_cons, hs1]; rfl
    exact ih (L ++ [t]) (by rw [e]; simp) hL' H1 hs (fun u hu => hw u (List.mem_cons_of_mem _ hu)) (fun u hu => hD u (List.mem_cons_of_mem _ hu))
end
end Go.AX
namespace Go.AX
open Go.RowKit
theorem fold_bit' (acc : Array Nat) (j : Nat) : ∀ (es : List Edge) (s : Nat), s.testBit j = true ∨ (∃ e, e ∈ es ∧ Region.binds .any e = true ∧ e.on = j) →
    (es.foldl (fun s e => if Region.binds .any e then s ||| 2 ^ e.on ||| acc.getD e.on 0 else s) s).testBit j = true
  | [], s, h => by
    rcases h with h | ⟨e, he, _⟩
    · exact h
    · cases he
  | e :: es, s, h => by
    rw [List.foldl_cons]
    refine fold_bit' acc j es _ ?_
    rcases h with h | ⟨e', he, hb, hj⟩
    · left
      split
      · rw [Nat.testBit_or, testBit_or_pow, h]; rfl
      · exact h
    · rcases List.mem_cons.1 he with rfl | he
      · left
        rw [if_pos hb, Nat.testBit_or, testBit_or_pow, hj]
        simp
      · exact .inr ⟨e', he, hb, hj⟩
theorem before_edge {ops : Array Oper} {i : Nat} {o : Oper} (ho : ops[i]? = some o) {e : Edge} (he : e ∈ o.after) (hb : Region.binds .any e = true) : ((Region.before ops).getD i 0).testBit e.on = true := by
  have hl : ops.toList[i]? = some o := by simpa using ho
  obtain ⟨hi, hio⟩ := List.getElem?_eq_some_iff.1 hl
  have hsplit : ops.toList = ops.toList.take i ++ o :: ops.toList.drop (i + 1) := by
    rw [← hio, List.getElem_cons_drop, List.take_append_drop]
  have hlen : (ops.toList.take i).length = i := by rw [List.length_take]; omega
  have hval : (Region.before ops).getD i 0 = befF (befG #[] (ops.toList.take i)) o := by
    rw [before_eq, hsplit, befG_append]
    show (befG ((befG #[] (ops.toList.take i)).push (befF (befG #[] (ops.toList.take i)) o)) (ops.toList.drop (i + 1))).getD i 0 = _
    have hs : (befG #[] (ops.toList.take i)).size = i := by rw [befG_size, hlen]; simp
    rw [befG_keep _ _ _ (by simp [hs])]
    rw [← hsplit, Array.getD_eq_getD_getElem?, Array.getElem?_push, if_pos hs.symm]
    rfl
  rw [hval]
  unfold befF
  rw [← Array.foldl_toList]
  exact fold_bit' _ _ _ _ (.inr ⟨e, by simpa using he, hb, rfl⟩)
section
variable {E : Env} {P : Program} [Lay P] {K : Keep} {W0 : World} {ρ : Ren} {w : World} {callf : CallF} {base n nt : Nat} {ops : Array Oper} {pre : Array Nat} {cops : List COper} {l : List CStep} {fr0 fr' : Fr} {h0 h' : AHeap}
theorem ready_nil (hpre : pre = Region.before ops) (hn : n = ops.size) (hP : PlanOK pre cops n l) (hlt : ∀ t, t ∈ l → t.i < n) {listed : Array Bool} (hsize : listed.size = n) (hr : Region.ready .any ops listed = []) : ∀ j, j < n → listed.getD j false = true := by
  have key : ∀ (R L : List CStep), l = L ++ R → (∀ t, t ∈ L → listed.getD t.i false = true) → ∀ t, t ∈ l → listed.getD t.i false = true := by
    intro R
    induction R with
    | nil => intro L e h t ht; exact h t (by rw [e] at ht; simpa using ht)
    | cons s R ih =>
      intro L e h
      refine ih (L ++ [s]) (by rw [e]; simp) fun t ht => ?_
      rcases List.mem_append.1 ht with ht | ht
      · exact h t ht
      · simp at ht; subst ht
        have hok := hP.ok L t R e
        have hti := hlt t (by rw [e]; simp)
        cases hb : listed.getD t.i false with
        | true => rfl
        | false =>
          exfalso
          have ho : ∃ o, ops[t.i]? = some o := ⟨ops[t.i]'(by omega), Array.getElem?_eq_getElem (by omega)⟩
          obtain ⟨o, ho⟩ := ho
          have hmem : t.i ∈ Region.ready .any ops listed := by
            refine mem_ready.2 ⟨?_, o, ho, fun e' he' hb' => ?_⟩
            · have hlt' : t.i < listed.size := by omega
              rw [Array.getD_eq_getD_getElem?, Array.getElem?_eq_getElem hlt'] at hb ⊢
              exact hb
            · obtain ⟨u, hu, hui⟩ := hok.prd e'.on (by rw [hpre]; exact before_edge ho he' hb')
              rw [← hui]; exact h u hu
          rw [hr] at hmem
          cases hmem
  intro j hj
  obtain ⟨t, ht, rfl⟩ := hP.all j hj
  exact key l [] (by simp) (fun t ht => by cases ht) t ht
theorem mapM_get {α β : Type} {f : α → Option β} : ∀ {xs : List α} {ys : List β}, xs.mapM f = some ys → ∀ {i : Nat} {x : α}, xs[i]? = some x → ∃ y, ys[i]? = some y ∧ f x = some y
  | [], ys, h, i, x, hx => by simp at hx
  | a :: xs, ys, h, i, x, hx => by
    simp only [List.mapM_cons, Option.bind_eq_bind, Option.bind_eq_some_iff] at h
    obtain ⟨y, h1, ys', h2, h3⟩ := h
    cases h3
    cases i with
    | zero => simp at hx; subst hx; exact ⟨y, rfl, h1⟩
    | succ i => simp at hx ⊢; exact mapM_get h2 hx
theorem mapM_length {α β : Type} {f : α → Option β} : ∀ {xs : List α} {ys : List β}, xs.mapM f = some ys → ys.length = xs.length
  | [], ys, h => by simp at h; subst h; rfl
  | a :: xs, ys, h => by
    simp only [List.mapM_cons, Option.bind_eq_bind, Option.bind_eq_some_iff] at h
    obtain ⟨y, h1, ys', h2, h3⟩ := h
    cases h3
    simp [mapM_length h2]
def FrD (l : List CStep) (fr0 fr' : Fr) (D : Nat → Prop) (fr : Fr) : Prop :=
  ∀ d, ((∃ t, t ∈ l ∧ D t.i ∧ t.o.dst = some d) → fr.get d = fr'.get d) ∧ ((¬ ∃ t, t ∈ l ∧ D t.i ∧ t.o.dst = some d) → fr.get d = fr0.get d)
theorem same_of (hP : PlanOK pre cops n l) {L R : List CStep} {t : CStep} (e : l = L ++ t :: R) {fr1 : Fr} {h1 : AHeap} (hL : runSteps E callf base L fr0 h0 = some (fr1, h1)) (hR : runSteps E callf base (t :: R) fr1 h1 = some (fr', h'))
    {D : Nat → Prop} (hD : ∀ j, (pre.getD t.i 0).testBit j = true → D j) (hnt : ¬ D t.i) (hcl : ∀ k, D k → ∀ j, (pre.getD k 0).testBit j = true → D j) {frR : Fr} (hf : FrD l fr0 fr' D frR) : Same t.o fr1 frR := by
  have htl : t ∈ l := by rw [e]; simp
  intro d hd
  obtain ⟨p1, p2⟩ := plan_frames hP e hL hR d
  obtain ⟨q1, q2⟩ := hf d
  by_cases hw : ∃ u, u ∈ L ∧ u.o.dst = some d
  · obtain ⟨u, hu, hud⟩ := hw
    have hul : u ∈ l := by rw [e]; simp [hu]
    rw [p1 ⟨u, hu, hud⟩]
    symm
    refine q1 ⟨u, hul, ?_, hud⟩
    rcases hP.look t u htl hul d hd hud with h | ⟨h, _⟩
    · exact hD _ h
    · exfalso
      obtain ⟨L1, L2, eL⟩ := mem_split hu
      have hok := hP.ok L1 u (L2 ++ t :: R) (by rw [e, eL]; simp)
      obtain ⟨x, hx, hxi⟩ := hok.prd _ h
      exact hP.before e (by rw [eL]; simp [hx]) hxi
  · rw [p2 hw]
    symm
    refine q2 ?_
    rintro ⟨u, hul, hDu, hud⟩
    rcases hP.look t u htl hul d hd hud with h | ⟨h, _⟩
    · obtain ⟨x, hx, hxi⟩ := (hP.ok L t R e).prd _ h
      have : x = u := hP.inj (by rw [e]; simp [hx]) hul hxi
      exact hw ⟨u, this ▸ hx, hud⟩
    · exact hnt (hcl _ hDu _ h)
theorem FrD.put (hP : PlanOK pre cops n l) {L R : List CStep} {t : CStep} (e : l = L ++ t :: R) {fr1 : Fr} {v : AVal} {h2 : AHeap} (hR : runSteps E callf base R (putA t.o.dst fr1 v) h2 = some (fr', h'))
    {D : Nat → Prop} {frR : Fr} (hf : FrD l fr0 fr' D frR) : FrD l fr0 fr' (fun k => D k ∨ k = t.i) (putA t.o.dst frR v) := by
  have htl : t ∈ l := by rw [e]; simp
  intro d
  by_cases hd : t.o.dst = some d
  · refine ⟨fun _ => ?_, fun hno => absurd ⟨t, htl, .inr rfl, hd⟩ hno⟩
    have h1 : fr'.get d = (putA t.o.dst fr1 v).get d := runSteps_other hR fun u hu => hP.dst t u htl (by rw [e]; simp [hu]) (Ne.symm (hP.behind e hu)) d hd
    rw [h1, hd, putA_same, putA_same]
  · obtain ⟨q1, q2⟩ := hf d
    rw [putA_ne hd]
    refine ⟨?_, fun hno => q2 fun ⟨u, a, b, c⟩ => hno ⟨u, a, .inl b, c⟩⟩
    rintro ⟨u, hul, hu | hu, hud⟩
    · exact q1 ⟨u, hul, hu, hud⟩
    · have : u = t := hP.inj hul htl hu
      subst this
      exact absurd hud hd
end
end Go.AX
namespace Go.AX
open Go.RowKit
theorem tb_true {o : Option Bool} (h : tb o = true) : o = some true := by
  cases o with
  | none => cases h
  | some b => cases b <;> first | rfl | cases h
theorem sameL_sound {f : AVal → AVal → Bool} (hf : ∀ x y, f x y = true → x = y) : ∀ {a b : List AVal}, sameL f a b = true → a = b
  | [], [], _ => rfl
  | [], _ :: _, h => by cases h
  | _ :: _, [], h => by cases h
  | x :: a, y :: b, h => by
    have h' : ifT (f x y) (sameL f a b) false = true := h
    rw [ifT_eq] at h'
    split at h'
    · rename_i hxy
      rw [hf x y hxy, sameL_sound hf h']
    · cases h'
theorem sameA_sound : ∀ (n : Nat) (x y : AVal), sameA n x y = true → x = y := by
  intro n
  induction n with
  | zero => intro x y h; cases h
  | succ n ih =>
    intro x y h
    cases x with
    | bool a =>
      have h' := tb_true (show tb (onBool y fun b => some (ifT a b (not b))) = true from h)
      rw [onBool_some] at h'
      obtain ⟨b, rfl, hb⟩ := h'
      rw [Option.some.injEq, ifT_beq, beq_iff_eq] at hb
      rw [hb]
    | int k a =>
      have h' := tb_true (show tb (onInt y fun k' b => some (and (eqK k k') (eqI a b))) = true from h)
      rw [onInt_some] at h'
      obtain ⟨k', b, rfl, hb⟩ := h'
      rw [Option.some.injEq, Bool.and_eq_true, eqK_eq, decide_eq_true_iff, eqI_eq, beq_iff_eq] at hb
      rw [hb.1, hb.2]
    | str a =>
      have h' := tb_true (show tb (onStr y fun b => some (eqStr a b)) = true from h)
      rw [onStr_some] at h'
      obtain ⟨b, rfl, hb⟩ := h'
      rw [Option.some.injEq, eqStr_eq, decide_eq_true_iff] at hb
      rw [hb]
    | nilptr => cases y <;> first | rfl | cases h
    | nilslice => cases y <;> first | rfl | cases h
    | nilmap => cases y <;> first | rfl | cases h
    | nilfunc => cases y <;> first | rfl | cases h
    | niliface => cases y <;> first | rfl | cases h
    | ptr b o =>
      have h' := tb_true (show tb (onPtr y fun b' o' => some (and (Nat.beq b b') (Nat.beq o o'))) = true from h)
      rw [onPtr_some] at h'
      obtain ⟨b', o', rfl, hb⟩ := h'
      simp only [Option.some.injEq, Bool.and_eq_true, Nat.beq_eq] at hb
      rw [hb.1, hb.2]
    | slice b o m c e =>
      have h' := tb_true (show tb (onSlice y none fun b' o' n' c' e' => some (and (Nat.beq b b') (and (Nat.beq o o') (and (Nat.beq m n') (and (Nat.beq c c') (ifT e e' (not e'))))))) = true from h)
      rw [onSlice_some] at h'
      rcases h' with ⟨_, h'⟩ | ⟨b', o', n', c', e', rfl, hb⟩
      · cases h'
      · simp only [Option.some.injEq, Bool.and_eq_true, Nat.beq_eq] at hb
        obtain ⟨rfl, rfl, rfl, rfl, hb⟩ := hb
        rw [ifT_beq, beq_iff_eq] at hb
        rw [hb]
    | map r =>
      have h' := tb_true (show tb (onMap y none fun r' => some (Nat.beq r r')) = true from h)
      rw [onMap_some] at h'
      rcases h' with ⟨_, h'⟩ | ⟨r', rfl, hb⟩
      · cases h'
      · rw [Option.some.injEq, Nat.beq_eq] at hb
        rw [hb]
    | func f a c =>
      have h' := tb_true (show tb (onFunc y fun f' a' c' => some (and (Nat.beq f f') (and (sameL (sameA n) a a') (sameL (sameA n) c c')))) = true from h)
      rw [onFunc_some] at h'
      obtain ⟨f', a', c', rfl, hb⟩ := h'
      simp only [Option.some.injEq, Bool.and_eq_true] at hb
      obtain ⟨h1, h2, h3⟩ := hb
      have e1 : f = f' := Nat.eq_of_beq_eq_true h1
      rw [e1, sameL_sound ih h2, sameL_sound ih h3]
    | iface t v =>
      have h' := tb_true (show tb (onIface y none fun t' v' => some (and (Nat.beq t t') (sameA n v v'))) = true from h)
      rw [onIface_some] at h'
      rcases h' with ⟨_, h'⟩ | ⟨t', v', rfl, hb⟩
      · cases h'
      · simp only [Option.some.injEq, Bool.and_eq_true] at hb
        have e1 : t = t' := Nat.eq_of_beq_eq_true hb.1
        rw [e1, ih _ _ hb.2]
    | agg a =>
      have h' := tb_true (show tb (onAgg y fun b => some (sameL (sameA n) a b)) = true from h)
      rw [onAgg_some] at h'
      obtain ⟨b, rfl, hb⟩ := h'
      rw [Option.some.injEq] at hb
      rw [sameL_sound ih hb]
    | tup a =>
      have h' := tb_true (show tb (onTup y fun b => some (sameL (sameA n) a b)) = true from h)
      rw [onTup_some] at h'
      obtain ⟨b, rfl, hb⟩ := h'
      rw [Option.some.injEq] at hb
      rw [sameL_sound ih hb]
section
variable {E : Env} {P : Program} [Lay P] {K : Keep} {W0 : World} {ρ : Ren} {w : World} {callf : CallF} {base n nt : Nat} {ops : Array Oper} {pre : Array Nat} {cops : List COper} {l : List CStep} {fr0 fr' : Fr} {h0 h' : AHeap}
def Gset (base : Nat) (R : List CStep) (D : Nat → Prop) (ρ : Ren) (b : Nat) : Prop := ∃ u, u ∈ R ∧ u.cls = .new ∧ D u.i ∧ ∃ r, ρ (base + u.i) = some r ∧ r.b = b
theorem HR.start {R : List CStep} {D : Nat → Prop} {hX : AHeap} (H : HR E P callf base n l fr0 h0 K W0 R D ρ hX w) :
    WR P ⟨fun b => K b ∨ Gset base R D ρ b, base + n, ρ, fun b => K.g b ∨ Gset base R D ρ b⟩ w ρ hX w :=
  H.wr.restart H.nx (fun b ⟨u, h1, h2, h3, r, h4, h5⟩ => h5 ▸ (H.g1 u h1 h2 h3 r h4).1) fun m p s hm hl hs ⟨u, h1, h2, h3, r, h4, h5⟩ => (H.g1 u h1 h2 h3 r h4).2.2.1 m p s hm hl hs h5.symm
theorem HR.after {R : List CStep} {D D' : Nat → Prop} {hX hY : AHeap} {ρ' : Ren} {w' : World} (hlt : ∀ t, t ∈ R → t.i < n) (hK : K.n0 ≤ base + n) (H : HR E P callf base n l fr0 h0 K W0 R D ρ hX w)
    (H' : WR P ⟨fun b => K b ∨ Gset base R D ρ b, base + n, ρ, fun b => K.g b ∨ Gset base R D ρ b⟩ w ρ' hY w') (hle : ρ.le ρ') (hD : ∀ t, t ∈ R → t.cls = .new → (D' t.i ↔ D t.i)) :
    HR E P callf base n l fr0 h0 K W0 R D' ρ' hY w' := by
  have hold : ∀ t, t ∈ R → ρ' (base + t.i) = ρ (base + t.i) := fun t ht => H'.old _ (by have := hlt t ht; show base + t.i < base + n; omega)
  refine ⟨H.wr.rebase H' (fun b hb => .inl hb) (fun b hb => .inl hb) hK (fun _ _ => rfl), H'.nx, fun t ht hc hd r hr => ?_, fun t ht hc hd ob hm => ?_, fun t ht hc hd => ?_, fun t ht hc hd hno => by rw [hold t ht]; exact H.g4 t ht hc ((hD t ht hc).1 hd) hno⟩
  · rw [hold t ht] at hr
    have hd0 := (hD t ht hc).1 hd
    obtain ⟨a1, a2, a3, a4⟩ := H.g1 t ht hc hd0 r hr
    refine ⟨Nat.lt_of_lt_of_le a1 H'.size, a2, fun m p s hm hl hs e => H'.hid m p s hm hl hs (.inr ⟨t, ht, hc, hd0, r, hr, e.symm⟩), fun u hu hcu hdu hne s hs => ?_⟩
    rw [hold u hu] at hs
    exact a4 u hu hcu ((hD u hu hcu).1 hdu) hne s hs
  · have hd0 := (hD t ht hc).1 hd
    obtain ⟨r, hr, ho⟩ := H.g2 t ht hc hd0 ob hm
    refine ⟨r, hle _ _ hr, ?_⟩
    have hk : w'.heap[r.b]? = w.heap[r.b]? := H'.keep r.b (.inr ⟨t, ht, hc, hd0, r, hr, rfl⟩)
    rw [hk]; exact ho.mono hle
  · rw [hold t ht]
    exact H.g3 t ht hc fun h => hd ((hD t ht hc).2 h)
end
end Go.AX
namespace Go.AX
open Go.RowKit
section
variable {E : Env} {P : Program} [Lay P] {K : Keep} {W0 : World} {ρ : Ren} {w : World} {callf : CallF} {base n nt : Nat} {ops : Array Oper} {pre : Array Nat} {cops : List COper} {l : List CStep} {fr0 fr' : Fr} {h0 h' : AHeap}
theorem WR.upd (H : WR P K W0 ρ h' w) {m : Nat} {r : RB} (hm : ρ m = none) (hlt : m < h'.next) (hn : K.n0 ≤ m) : WR P K W0 (ρ.upd m r) h' w := by
  have hle := Ren.le_upd r hm
  have back : ∀ k o, h'.get k = some o → o.live → ∀ s, (ρ.upd m r) k = some s → ρ k = some s := by
    intro k o hk hl s hs
    obtain ⟨s', hs', _⟩ := H.obj k o hk hl
    have := hle _ _ hs'
    rw [this] at hs; cases hs; exact hs'
  exact ⟨H.os, H.tape, H.output, H.size, H.klt, H.keep, fun k hk => ⟨by rw [Ren.upd_ne _ _ (by omega)]; exact (H.fresh k hk).1, (H.fresh k hk).2⟩,
    fun k o hk hl => let ⟨s, h1, h2, h3⟩ := H.obj k o hk hl; ⟨s, hle _ _ h1, h2, h3.mono hle⟩,
    fun k k' p p' s s' hk hl hk' hl' hs hs' e => H.inj _ _ _ _ _ _ hk hl hk' hl' (back k p hk hl.live s hs) (back k' p' hk' hl' s' hs') e, H.nx,
    fun k hk => by rw [Ren.upd_ne _ _ (by omega)]; exact H.old k hk, H.gk, fun k o s hk hl hs => H.hid k o s hk hl (back k o hk hl s hs), H.lay⟩
structure Ctx (E : Env) (P : Program) [Lay P] (K : Keep) (callf : CallF) (base n nt : Nat) (ops : Array Oper) (pre : Array Nat) (cops : List COper) (l : List CStep) (fr0 fr' : Fr) (h0 h' : AHeap) : Prop where
  hE : EnvOK E P
  hcall : CallS P callf
  hpre : pre = Region.before ops
  hn : n = ops.size
  hcops : ops.toList.mapM (cOper E nt ops) = some cops
  hP : PlanOK pre cops n l
  hlt : ∀ t, t ∈ l → t.i < n
  hrun : runSteps E callf base l fr0 h0 = some (fr', h')
  hK : K.n0 ≤ base
def Dn (listed : Array Bool) (k : Nat) : Prop := listed.getD k false = true
structure Inv (E : Env) (P : Program) [Lay P] (K : Keep) (W0 : World) (callf : CallF) (base n nt : Nat) (pre : Array Nat) (l : List CStep) (fr0 fr' : Fr) (h0 : AHeap) (ρ0 : Ren) (a0 : Act)
    (L R : List CStep) (ρ : Ren) (frR frB : Fr) (hB : AHeap) (listed : Array Bool) (a : Act) (w : World) : Prop where
  e : l = L ++ R
  hL : runSteps E callf base L fr0 h0 = some (frB, hB)
  size : listed.size = n
  cl : ∀ k, Dn listed k → ∀ j, (pre.getD k 0).testBit j = true → Dn listed j
  i3 : ∀ t, t ∈ L → t.cls = .new ∨ t.cls = .wr → Dn listed t.i
  i4 : ∀ t, t ∈ R → t.cls = .wr → ¬ Dn listed t.i
  i5 : ∀ t, t ∈ L → t.cls = .read → ¬ Dn listed t.i → reread t.o frB hB = true
  frd : FrD l fr0 fr' (Dn listed) frR
  hf : FR ρ frR a.tmps
  hd : a.defers = a0.defers
  hs : nt ≤ a.tmps.size
  H : HR E P callf base n l fr0 h0 K W0 R (Dn listed) ρ hB w
  le : ρ0.le ρ
theorem Dn_set {listed : Array Bool} {i k : Nat} (hi : i < listed.size) : Dn (listed.setIfInBounds i true) k ↔ Dn listed k ∨ k = i := by
  unfold Dn
  rw [Array.getD_eq_getD_getElem?, Array.getElem?_setIfInBounds, Array.getD_eq_getD_getElem?]
  by_cases h : i = k
  · subst h; simp [hi]
  · rw [if_neg h]
    exact ⟨.inl, fun h' => h'.resolve_right (Ne.symm h)⟩
theorem inv_end (C : Ctx E P K callf base n nt ops pre cops l fr0 fr' h0 h') {ρ0 : Ren} {a0 : Act} {L R : List CStep} {frR frB : Fr} {hB : AHeap} {listed : Array Bool} {a : Act}
    (I : Inv E P K W0 callf base n nt pre l fr0 fr' h0 ρ0 a0 L R ρ frR frB hB listed a w) (hall : ∀ j, j < n → Dn listed j) : XQ P K W0 nt ρ0 a0 ⟨.normal, fr', h'⟩ .normal a w := by
  have hmem : ∀ t, t ∈ R → t ∈ l := fun t ht => by rw [I.e]; simp [ht]
  have hR : runSteps E callf base R frB hB = some (fr', h') := by
    have := C.hrun
    rw [I.e, runSteps_join I.hL] at this
    exact this
  have H1 := adopt_steps (R := []) C.hP R L (by rw [I.e]; simp) I.hL (by simpa using I.H) hR (fun t ht hc => I.i4 t ht hc (hall _ (C.hlt t (hmem t ht)))) (fun t ht _ => hall _ (C.hlt t (hmem t ht)))
  refine ⟨rfl, I.hd, I.hs, ρ, I.le, ?_, H1.wr⟩
  intro d
  have : frR.get d = fr'.get d := by
    obtain ⟨q1, q2⟩ := I.frd d
    by_cases hw : ∃ t, t ∈ l ∧ Dn listed t.i ∧ t.o.dst = some d
    · exact q1 hw
    · rw [q2 hw]
      symm
      exact runSteps_other C.hrun fun t ht hd => hw ⟨t, ht, hall _ (C.hlt t ht), hd⟩
  show V ρ ((fr'.get d).getD undefA) _
  rw [← this]
  exact I.hf d
end
end Go.AX
namespace Go.AX
open Go.RowKit
section
variable {E : Env} {P : Program} [Lay P] {K : Keep} {W0 : World} {ρ : Ren} {w : World} {callf : CallF} {base n nt : Nat} {ops : Array Oper} {pre : Array Nat} {cops : List COper} {l : List CStep} {fr0 fr' : Fr} {h0 h' : AHeap}
variable {ρ0 : Ren} {a0 : Act} {L R : List CStep} {frR frB : Fr} {hB : AHeap} {listed : Array Bool} {a : Act}
structure Rdy (E : Env) (callf : CallF) (base nt : Nat) (ops : Array Oper) (pre : Array Nat) (l : List CStep) (fr0 fr' : Fr) (h0 h' : AHeap) (frR : Fr) (listed : Array Bool) (t : CStep) (L1 R1 : List CStep) (o : Oper) (fr1 : Fr) (h1 : AHeap) (fr2 : Fr) (h2 : AHeap) : Prop where
  e : l = L1 ++ t :: R1
  ho : ops[t.i]? = some o
  hc : cOper E nt ops o = some t.o
  r1 : runSteps E callf base L1 fr0 h0 = some (fr1, h1)
  r2 : runStep E callf base t fr1 h1 = some (fr2, h2)
  r3 : runSteps E callf base R1 fr2 h2 = some (fr', h')
  nd : ¬ Dn listed t.i
  pr : ∀ j, (pre.getD t.i 0).testBit j = true → Dn listed j
  lt : t.i < listed.size
  same : Same t.o fr1 frR
theorem ready_facts (C : Ctx E P K callf base n nt ops pre cops l fr0 fr' h0 h') (I : Inv E P K W0 callf base n nt pre l fr0 fr' h0 ρ0 a0 L R ρ frR frB hB listed a w) {i : Nat} (hr : i ∈ Region.ready .any ops listed) :
    ∃ t L1 R1 o fr1 h1 fr2 h2, t.i = i ∧ Rdy E callf base nt ops pre l fr0 fr' h0 h' frR listed t L1 R1 o fr1 h1 fr2 h2 := by
  obtain ⟨h1, ⟨o, ho⟩, h2⟩ := ready_pre hr (by have := I.cl; rw [C.hpre] at this; exact this)
  have hi : i < ops.size := (Array.getElem?_eq_some_iff.1 ho).1
  have hin : i < n := by rw [C.hn]; exact hi
  obtain ⟨t, ht, rfl⟩ := C.hP.all i hin
  obtain ⟨L1, R1, e⟩ := mem_split ht
  have hrun := C.hrun
  rw [e] at hrun
  obtain ⟨fr1, hh1, k1, k2⟩ := runSteps_append L1 (t :: R1) _ _ hrun
  have k2' := k2
  rw [runSteps_cons, ob_some] at k2'
  obtain ⟨⟨fr2, hh2⟩, k3, k4⟩ := k2'
  have hlt : t.i < listed.size := by rw [I.size]; exact hin
  have hnd : ¬ Dn listed t.i := by
    unfold Dn
    rw [Array.getD_eq_getD_getElem?, Array.getElem?_eq_getElem hlt] at h1 ⊢
    simp only [Option.getD_some] at h1 ⊢
    rw [h1]; simp
  have hpr : ∀ j, (pre.getD t.i 0).testBit j = true → Dn listed j := by rw [C.hpre]; exact h2
  have hcop : cOper E nt ops o = some t.o := by
    obtain ⟨y, hy1, hy2⟩ := mapM_get C.hcops (i := t.i) (x := o) (by simpa using ho)
    rw [(C.hP.at ht).1] at hy1
    cases hy1; exact hy2
  exact ⟨t, L1, R1, o, fr1, hh1, fr2, hh2, rfl, e, ho, hcop, k1, k3, k4, hnd, hpr, hlt, same_of C.hP e k1 k2 hpr hnd I.cl I.frd⟩
theorem Inv.still (C : Ctx E P K callf base n nt ops pre cops l fr0 fr' h0 h') (I : Inv E P K W0 callf base n nt pre l fr0 fr' h0 ρ0 a0 L R ρ frR frB hB listed a w)
    {t : CStep} {L1 R1 : List CStep} {o : Oper} {fr1 : Fr} {h1 : AHeap} {fr2 : Fr} {h2 : AHeap} (D : Rdy E callf base nt ops pre l fr0 fr' h0 h' frR listed t L1 R1 o fr1 h1 fr2 h2)
    {v : AVal} (hv : fr2 = putA t.o.dst fr1 v) {v' : Value} {w' : World} {ρ' : Ren} (hle : ρ.le ρ') (hvv : V ρ' v v') (hw : t.cls ≠ .wr) (H : HR E P callf base n l fr0 h0 K W0 R (Dn (listed.setIfInBounds t.i true)) ρ' hB w') :
    Inv E P K W0 callf base n nt pre l fr0 fr' h0 ρ0 a0 L R ρ' (putA t.o.dst frR v) frB hB (listed.setIfInBounds t.i true) (a.put o.dst v') w' := by
  obtain ⟨hdst, hdlt, _⟩ := cOper_inv D.hc
  have hset := fun k => Dn_set (listed := listed) (i := t.i) (k := k) D.lt
  have htl : t ∈ l := by rw [D.e]; simp
  refine ⟨I.e, I.hL, by simp [I.size], fun k hk j hj => ?_, fun u hu hc => (hset _).2 (.inl (I.i3 u hu hc)), fun u hu hc hd => ?_, fun u hu hc hd => I.i5 u hu hc (fun h => hd ((hset _).2 (.inl h))), ?_, ?_, by rw [put_defs]; exact I.hd, by rw [put_size]; exact I.hs, H, Ren.le_trans I.le hle⟩
  · rcases (hset k).1 hk with h | h
    · exact (hset j).2 (.inl (I.cl k h j hj))
    · subst h; exact (hset j).2 (.inl (D.pr j hj))
  · rcases (hset _).1 hd with h | h
    · exact I.i4 u hu hc h
    · have : u = t := C.hP.inj (by rw [I.e]; simp [hu]) htl h
      subst this; exact hw hc
  · have hput := FrD.put C.hP D.e (by rw [← hv]; exact D.r3) I.frd (v := v)
    intro d
    obtain ⟨q1, q2⟩ := hput d
    exact ⟨fun ⟨u, x, y, z⟩ => q1 ⟨u, x, (hset _).1 y, z⟩, fun hno => q2 fun ⟨u, x, y, z⟩ => hno ⟨u, x, (hset _).2 y, z⟩⟩
  · rw [hdst]; exact FR.put (I.hf.mono hle) hdlt I.hs hvv
end
end Go.AX
namespace Go.AX
open Go.RowKit
section
variable {E : Env} {P : Program} [Lay P] {K : Keep} {W0 : World} {ρ : Ren} {w : World} {callf : CallF} {base n nt : Nat} {ops : Array Oper} {pre : Array Nat} {cops : List COper} {l : List CStep} {fr0 fr' : Fr} {h0 h' : AHeap}
variable {ρ0 : Ren} {a0 : Act} {L R : List CStep} {frR frB : Fr} {hB : AHeap} {listed : Array Bool} {a : Act}
variable {t : CStep} {L1 R1 : List CStep} {o : Oper} {fr1 : Fr} {h1 : AHeap} {fr2 : Fr} {h2 : AHeap} {Q : Exit → Act → World → Prop}
def InvX (E : Env) (P : Program) [Lay P] (K : Keep) (W0 : World) (callf : CallF) (base n nt : Nat) (pre : Array Nat) (l : List CStep) (fr0 fr' : Fr) (h0 : AHeap) (ρ0 : Ren) (a0 : Act) (listed : Array Bool) (a : Act) (w : World) : Prop :=
  ∃ L R ρ frR frB hB, Inv E P K W0 callf base n nt pre l fr0 fr' h0 ρ0 a0 L R ρ frR frB hB listed a w
theorem Inv.memR (I : Inv E P K W0 callf base n nt pre l fr0 fr' h0 ρ0 a0 L R ρ frR frB hB listed a w) {u : CStep} (h : u ∈ R) : u ∈ l := by rw [I.e]; simp [h]
theorem Inv.memL (I : Inv E P K W0 callf base n nt pre l fr0 fr' h0 ρ0 a0 L R ρ frR frB hB listed a w) {u : CStep} (h : u ∈ L) : u ∈ l := by rw [I.e]; simp [h]
theorem set_other (C : Ctx E P K callf base n nt ops pre cops l fr0 fr' h0 h') (D : Rdy E callf base nt ops pre l fr0 fr' h0 h' frR listed t L1 R1 o fr1 h1 fr2 h2) (hc : t.cls ≠ .new) {u : CStep} (hu : u ∈ l) (hcu : u.cls = .new) :
    Dn (listed.setIfInBounds t.i true) u.i ↔ Dn listed u.i := by
  rw [Dn_set D.lt]
  refine ⟨fun h => h.resolve_right fun e => ?_, .inl⟩
  have : u = t := C.hP.inj hu (by rw [D.e]; simp) e
  subst this; exact hc hcu
theorem inv_pure (C : Ctx E P K callf base n nt ops pre cops l fr0 fr' h0 h') (I : Inv E P K W0 callf base n nt pre l fr0 fr' h0 ρ0 a0 L R ρ frR frB hB listed a w)
    (D : Rdy E callf base nt ops pre l fr0 fr' h0 h' frR listed t L1 R1 o fr1 h1 fr2 h2) (hc : t.cls = .pure) :
    wpOp P ops Q t.i (InvX E P K W0 callf base n nt pre l fr0 fr' h0 ρ0 a0 (listed.setIfInBounds t.i true)) a w := by
  have htl : t ∈ l := by rw [D.e]; simp
  have hcls := (C.hP.at htl).2
  obtain ⟨v, hO, ef, hcase⟩ := runStep_inv D.r2
  rcases hcase with ⟨_, hr, _⟩ | ⟨hc', _⟩ | ⟨hc', _⟩
  case inr.inl => rw [hc] at hc'; cases hc'
  case inr.inr => rw [hc] at hc'; cases hc'
  have hB' := (runOp_pure (by rw [← hcls]; exact hc) hr).2 hB
  rw [runOp_congr D.same] at hB'
  refine runOp_sound C.hE C.hcall D.ho D.hc I.hf I.H.start hB' fun v' w' ρ' k1 k2 k3 => ⟨L, R, ρ', _, frB, hB, I.still C D ef k1 k2 (by rw [hc]; decide) ?_⟩
  exact I.H.after (fun u hu => C.hlt u (I.memR hu)) (by have := C.hK; omega) k3 k1 fun u hu hcu => set_other C D (by rw [hc]; decide) (I.memR hu) hcu
end
end Go.AX
namespace Go.AX
open Go.RowKit
section
variable {E : Env} {P : Program} [Lay P] {K : Keep} {W0 : World} {ρ : Ren} {w : World} {callf : CallF} {base n nt : Nat} {ops : Array Oper} {pre : Array Nat} {cops : List COper} {l : List CStep} {fr0 fr' : Fr} {h0 h' : AHeap}
variable {ρ0 : Ren} {a0 : Act} {L R : List CStep} {frR frB : Fr} {hB : AHeap} {listed : Array Bool} {a : Act}
variable {t : CStep} {L1 R1 : List CStep} {o : Oper} {fr1 : Fr} {h1 : AHeap} {fr2 : Fr} {h2 : AHeap} {Q : Exit → Act → World → Prop}
theorem split_unique (H : PlanOK pre cops n l) {L2 R2 : List CStep} (e1 : l = L1 ++ t :: R1) (e2 : l = L2 ++ t :: R2) : L1 = L2 ∧ R1 = R2 := by
  have e : L1 ++ t :: R1 = L2 ++ t :: R2 := e1 ▸ e2
  rcases List.append_eq_append_iff.1 e with ⟨x, hx1, hx2⟩ | ⟨x, hx1, hx2⟩
  · cases x with
    | nil => simp at hx1 hx2; exact ⟨hx1.symm, hx2⟩
    | cons y x =>
      simp only [List.cons_append, List.cons.injEq] at hx2
      obtain ⟨rfl, _⟩ := hx2
      exact absurd rfl (H.before e2 (u := t) (by rw [hx1]; simp))
  · cases x with
    | nil => simp at hx1 hx2; exact ⟨hx1, hx2.symm⟩
    | cons y x =>
      simp only [List.cons_append, List.cons.injEq] at hx2
      obtain ⟨rfl, _⟩ := hx2
      exact absurd rfl (H.before e1 (u := t) (by rw [hx1]; simp))
theorem inv_reach (C : Ctx E P K callf base n nt ops pre cops l fr0 fr' h0 h') (I : Inv E P K W0 callf base n nt pre l fr0 fr' h0 ρ0 a0 L R ρ frR frB hB listed a w)
    (D : Rdy E callf base nt ops pre l fr0 fr' h0 h' frR listed t L1 R1 o fr1 h1 fr2 h2) (hc : t.cls = .read ∨ t.cls = .wr) (ht : t ∈ R) :
    ∃ M, R = M ++ t :: R1 ∧ L1 = L ++ M ∧ runSteps E callf base M frB hB = some (fr1, h1) ∧ (∀ u, u ∈ M → u.cls ≠ .wr) ∧ (∀ u, u ∈ M → u.cls = .new → Dn listed u.i) ∧
      HR E P callf base n l fr0 h0 K W0 (t :: R1) (Dn listed) ρ h1 w := by
  obtain ⟨M, R', eR⟩ := mem_split ht
  obtain ⟨eL, rfl⟩ := split_unique C.hP D.e (show l = (L ++ M) ++ t :: R' by rw [I.e, eR]; simp)
  have hM : runSteps E callf base M frB hB = some (fr1, h1) := by
    have := D.r1
    rw [eL, runSteps_join I.hL] at this
    exact this
  have hord := fun u (hu : u ∈ M) (h : u.cls = .new ∨ u.cls = .wr) => D.pr _ ((C.hP.ok L1 t R1 D.e).ord hc u (by rw [eL]; simp [hu]) h)
  have hw : ∀ u, u ∈ M → u.cls ≠ .wr := fun u hu h => I.i4 u (by rw [eR]; simp [hu]) h (hord u hu (.inr h))
  have hn : ∀ u, u ∈ M → u.cls = .new → Dn listed u.i := fun u hu h => hord u hu (.inl h)
  refine ⟨M, eR, eL, hM, hw, hn, adopt_steps C.hP M L (by rw [I.e, eR]) I.hL (by rw [← eR]; exact I.H) hM hw hn⟩
theorem rereads_mem {re : List COper} {fr : Fr} {h : AHeap} (hs : rereads re fr h = true) : ∀ x, x ∈ re → reread x fr h = true := by
  induction re with
  | nil => intro x hx; cases hx
  | cons y re ih =>
    intro x hx
    have hs' : ifT (reread y fr h) (rereads re fr h) false = true := hs
    rw [ifT_eq] at hs'
    split at hs'
    · rename_i hy
      rcases List.mem_cons.1 hx with rfl | hx
      · exact hy
      · exact ih hs' x hx
    · cases hs'
theorem inv_wr (C : Ctx E P K callf base n nt ops pre cops l fr0 fr' h0 h') (I : Inv E P K W0 callf base n nt pre l fr0 fr' h0 ρ0 a0 L R ρ frR frB hB listed a w)
    (D : Rdy E callf base nt ops pre l fr0 fr' h0 h' frR listed t L1 R1 o fr1 h1 fr2 h2) (hc : t.cls = .wr) :
    wpOp P ops Q t.i (InvX E P K W0 callf base n nt pre l fr0 fr' h0 ρ0 a0 (listed.setIfInBounds t.i true)) a w := by
  have htl : t ∈ l := by rw [D.e]; simp
  have htR : t ∈ R := by
    have := htl
    rw [I.e] at this
    rcases List.mem_append.1 this with h | h
    · exact absurd (I.i3 t h (.inr hc)) D.nd
    · exact h
  obtain ⟨M, eR, eL, hM, hw, hn, H1⟩ := inv_reach C I D (.inr hc) htR
  obtain ⟨v, hO, ef, hcase⟩ := runStep_inv D.r2
  rcases hcase with ⟨hc', _⟩ | ⟨hc', _⟩ | ⟨_, hr, rfl, hre⟩
  case inl => rcases hc' with h | h <;> (rw [hc] at h; cases h)
  case inr.inl => rw [hc] at hc'; cases hc'
  rw [runOp_congr D.same] at hr
  have H2 : HR E P callf base n l fr0 h0 K W0 R1 (Dn listed) ρ h1 w := ⟨H1.wr, H1.nx, fun u hu hcu hdu r hr => let ⟨x, y, z, q⟩ := H1.g1 u (List.mem_cons_of_mem _ hu) hcu hdu r hr; ⟨x, y, z, fun p hp => q p (List.mem_cons_of_mem _ hp)⟩,
    fun u hu => H1.g2 u (List.mem_cons_of_mem _ hu), fun u hu => H1.g3 u (List.mem_cons_of_mem _ hu), fun u hu => H1.g4 u (List.mem_cons_of_mem _ hu)⟩
  have hmem1 : ∀ u, u ∈ R1 → u ∈ l := fun u hu => by rw [D.e]; simp [hu]
  have hset := fun k => Dn_set (listed := listed) (i := t.i) (k := k) D.lt
  refine runOp_sound C.hE C.hcall D.ho D.hc I.hf H2.start hr fun v' w' ρ' k1 k2 k3 => ⟨L ++ M ++ [t], R1, ρ', putA t.o.dst frR v, fr2, h2, ?_⟩
  have H3 := H2.after (D' := Dn (listed.setIfInBounds t.i true)) (fun u hu => C.hlt u (hmem1 u hu)) (by have := C.hK; omega) k3 k1 fun u hu hcu => set_other C D (by rw [hc]; decide) (hmem1 u hu) hcu
  obtain ⟨hdst, hdlt, _⟩ := cOper_inv D.hc
  refine ⟨by rw [D.e, eL]; simp, ?_, by simp [I.size], fun k hk j hj => ?_, fun u hu hcu => ?_, fun u hu hcu hd => ?_, fun u hu hcu hd => ?_, ?_, ?_, by rw [put_defs]; exact I.hd, by rw [put_size]; exact I.hs, H3, Ren.le_trans I.le k1⟩
  · rw [← eL, runSteps_join D.r1, runSteps_cons, D.r2]; rfl
  · rcases (hset k).1 hk with h | h
    · exact (hset j).2 (.inl (I.cl k h j hj))
    · subst h; exact (hset j).2 (.inl (D.pr j hj))
  · rcases List.mem_append.1 hu with hu | hu
    · rcases List.mem_append.1 hu with hu | hu
      · exact (hset _).2 (.inl (I.i3 u hu hcu))
      · rcases hcu with h | h
        · exact (hset _).2 (.inl (hn u hu h))
        · exact absurd h (hw u hu)
    · simp at hu; subst hu; exact (hset _).2 (.inr rfl)
  · rcases (hset _).1 hd with h | h
    · exact I.i4 u (by rw [eR]; simp [hu]) hcu h
    · exact absurd h (C.hP.behind D.e hu)
  · rcases List.mem_append.1 hu with hu | hu
    · have huL : u ∈ L1 := by rw [eL]; exact hu
      rcases (C.hP.ok L1 t R1 D.e).re hc u huL hcu with h | h
      · exact absurd ((hset _).2 (.inl (D.pr _ h))) hd
      · exact rereads_mem hre _ h
    · simp at hu; subst hu; rw [hc] at hcu; cases hcu
  · have hput := FrD.put C.hP D.e (by rw [← ef]; exact D.r3) I.frd (v := v)
    intro d
    obtain ⟨q1, q2⟩ := hput d
    exact ⟨fun ⟨u, x, y, z⟩ => q1 ⟨u, x, (hset _).1 y, z⟩, fun hno => q2 fun ⟨u, x, y, z⟩ => hno ⟨u, x, (hset _).2 y, z⟩⟩
  · rw [hdst]; exact FR.put (I.hf.mono k1) hdlt I.hs k2
end
end Go.AX
namespace Go.AX
open Go.RowKit
section
variable {E : Env} {P : Program} [Lay P] {K : Keep} {W0 : World} {ρ : Ren} {w : World} {callf : CallF} {base n nt : Nat} {ops : Array Oper} {pre : Array Nat} {cops : List COper} {l : List CStep} {fr0 fr' : Fr} {h0 h' : AHeap}
variable {ρ0 : Ren} {a0 : Act} {L R : List CStep} {frR frB : Fr} {hB : AHeap} {listed : Array Bool} {a : Act}
variable {t : CStep} {L1 R1 : List CStep} {o : Oper} {fr1 : Fr} {h1 : AHeap} {fr2 : Fr} {h2 : AHeap} {Q : Exit → Act → World → Prop}
theorem same_read (C : Ctx E P K callf base n nt ops pre cops l fr0 fr' h0 h') (I : Inv E P K W0 callf base n nt pre l fr0 fr' h0 ρ0 a0 L R ρ frR frB hB listed a w)
    (D : Rdy E callf base nt ops pre l fr0 fr' h0 h' frR listed t L1 R1 o fr1 h1 fr2 h2) (hc : t.cls = .read) (ht : t ∈ L) : Same t.o frB frR := by
  have htl : t ∈ l := by rw [D.e]; simp
  have hrun : runSteps E callf base R frB hB = some (fr', h') := by
    have := C.hrun
    rw [I.e, runSteps_join I.hL] at this
    exact this
  obtain ⟨L2, L3, eL⟩ := mem_split ht
  obtain ⟨e1, _⟩ := split_unique C.hP D.e (show l = L2 ++ t :: (L3 ++ R) by rw [I.e, eL]; simp)
  intro d hd
  obtain ⟨p1, p2⟩ := plan_frames C.hP I.e I.hL hrun d
  obtain ⟨q1, q2⟩ := I.frd d
  have hwr : ∀ u, u ∈ l → u.o.dst = some d → Dn listed u.i ∧ u ∈ L := by
    intro u hu hud
    rcases C.hP.look t u htl hu d hd hud with h | ⟨_, h⟩
    · refine ⟨D.pr _ h, ?_⟩
      obtain ⟨x, hx, hxi⟩ := (C.hP.ok L1 t R1 D.e).prd _ h
      have hxl : x ∈ l := by rw [D.e]; simp [hx]
      have : x = u := C.hP.inj hxl hu hxi
      rw [eL, ← this, ← e1]; simp [hx]
    · exact absurd hc h
  by_cases hw : ∃ u, u ∈ l ∧ u.o.dst = some d
  · obtain ⟨u, hu, hud⟩ := hw
    obtain ⟨g1, g2⟩ := hwr u hu hud
    rw [p1 ⟨u, g2, hud⟩, q1 ⟨u, hu, g1, hud⟩]
  · rw [p2 fun ⟨u, x, y⟩ => hw ⟨u, I.memL x, y⟩, q2 fun ⟨u, x, _, y⟩ => hw ⟨u, x, y⟩]
end
end Go.AX
namespace Go.AX
open Go.RowKit
section
variable {E : Env} {P : Program} [Lay P] {K : Keep} {W0 : World} {ρ : Ren} {w : World} {callf : CallF} {base n nt : Nat} {ops : Array Oper} {pre : Array Nat} {cops : List COper} {l : List CStep} {fr0 fr' : Fr} {h0 h' : AHeap}
variable {ρ0 : Ren} {a0 : Act} {L R : List CStep} {frR frB : Fr} {hB : AHeap} {listed : Array Bool} {a : Act}
variable {t : CStep} {L1 R1 : List CStep} {o : Oper} {fr1 : Fr} {h1 : AHeap} {fr2 : Fr} {h2 : AHeap} {Q : Exit → Act → World → Prop}
theorem inv_readL (C : Ctx E P K callf base n nt ops pre cops l fr0 fr' h0 h') (I : Inv E P K W0 callf base n nt pre l fr0 fr' h0 ρ0 a0 L R ρ frR frB hB listed a w)
    (D : Rdy E callf base nt ops pre l fr0 fr' h0 h' frR listed t L1 R1 o fr1 h1 fr2 h2) (hc : t.cls = .read) (ht : t ∈ L) :
    wpOp P ops Q t.i (InvX E P K W0 callf base n nt pre l fr0 fr' h0 ρ0 a0 (listed.setIfInBounds t.i true)) a w := by
  have htl : t ∈ l := by rw [D.e]; simp
  have hcls := (C.hP.at htl).2
  have hcr : clsOf t.o.op = .read := by rw [← hcls]; exact hc
  obtain ⟨v, hO, ef, hcase⟩ := runStep_inv D.r2
  rcases hcase with ⟨_, hr, _⟩ | ⟨hc', _⟩ | ⟨hc', _⟩
  case inr.inl => rw [hc] at hc'; cases hc'
  case inr.inr => rw [hc] at hc'; cases hc'
  have hsame := same_read C I D hc ht
  have hre := I.i5 t ht hc D.nd
  have hrun : runSteps E callf base R frB hB = some (fr', h') := by
    have := C.hrun
    rw [I.e, runSteps_join I.hL] at this
    exact this
  have hB' : runOp E callf t.o frR hB = some (v, hB) := by
    rw [← runOp_congr hsame]
    unfold runOp at hr ⊢
    rw [opF_step (by rw [hcr]; decide)] at hr ⊢
    have hg : guardOk t.o.guard frB = guardOk t.o.guard fr1 := by rw [hsame.guard, D.same.guard]
    rw [hg]
    unfold reread at hre
    rw [hg] at hre
    cases hgb : guardOk t.o.guard fr1 with
    | false => rw [hgb] at hr; cases hr; rfl
    | true =>
      rw [hgb] at hre
      have hre' := tb_true (show tb (ob (stepOp t.o.op frB hB) fun r => @Option.rec Nat (fun _ => Option Bool) none (fun d => some (sameA 20 r.1 (evC (.t d) frB))) t.o.dst) = true from hre)
      rw [ob_some] at hre'
      obtain ⟨⟨v2, hx⟩, hst, hd⟩ := hre'
      have hxe := read_step hcr hst
      subst hxe
      cases hdst : t.o.dst with
      | none => rw [hdst] at hd; cases hd
      | some d =>
        rw [hdst] at hd
        have hd' : some (sameA 20 v2 (evC (.t d) frB)) = some true := hd
        rw [Option.some.injEq] at hd'
        have e2 := sameA_sound _ _ _ hd'
        obtain ⟨p1, _⟩ := plan_frames C.hP I.e I.hL hrun d
        have e3 : frB.get d = fr'.get d := p1 ⟨t, ht, hdst⟩
        have e4 : fr'.get d = fr2.get d := runSteps_other D.r3 fun u hu => C.hP.dst t u htl (by rw [D.e]; simp [hu]) (Ne.symm (C.hP.behind D.e hu)) d hdst
        rw [evC_t, e3, e4, ef, hdst, putA_same] at e2
        have e5 : v2 = v := e2
        show stepOp t.o.op frB _ = _
        rw [hst, e5]
  refine runOp_sound C.hE C.hcall D.ho D.hc I.hf I.H.start hB' fun v' w' ρ' k1 k2 k3 => ⟨L, R, ρ', _, frB, hB, I.still C D ef k1 k2 (by rw [hc]; decide) ?_⟩
  exact I.H.after (fun u hu => C.hlt u (I.memR hu)) (by have := C.hK; omega) k3 k1 fun u hu hcu => set_other C D (by rw [hc]; decide) (I.memR hu) hcu
end
end Go.AX
namespace Go.AX
open Go.RowKit
section
variable {E : Env} {P : Program} [Lay P] {K : Keep} {W0 : World} {ρ ρ' : Ren} {w w' : World} {callf : CallF} {base n : Nat} {pre : Array Nat} {cops : List COper} {l : List CStep} {fr0 : Fr} {h0 : AHeap}
theorem push_inj {h : AHeap} {a b : AObj} (e : h.push a = h.push b) : a = b := by
  have := congrArg (fun x => AHeap.get x h.next) e
  simp only [AHeap.get_push_same, Option.some.injEq] at this
  exact this
theorem unadopt_step (hP : PlanOK pre cops n l) {L R : List CStep} {t : CStep} {D D' : Nat → Prop} (e : l = L ++ t :: R) {fr1 : Fr} {h1 : AHeap} (hL : runSteps E callf base L fr0 h0 = some (fr1, h1)) (H : HR E P callf base n l fr0 h0 K W0 (t :: R) D ρ h1 w)
    {fr2 : Fr} {h2 : AHeap} (hs : runStep E callf base t fr1 h1 = some (fr2, h2)) (hw : t.cls ≠ .wr) (hD : t.cls = .new → D t.i) (hD' : t.cls = .new → D' t.i) (hle : ρ.le ρ') (hold : ρ' (base + t.i) = ρ (base + t.i)) (H' : HR E P callf base n l fr0 h0 K W0 R D' ρ' h2 w') :
    HR E P callf base n l fr0 h0 K W0 (t :: R) D' ρ' h1 w' := by
  have htl : t ∈ l := by rw [e]; simp
  have hcls := (hP.at htl).2
  obtain ⟨v, hO, ef, hcase⟩ := runStep_inv hs
  have same : h2 = h1 → (t.cls = .new → ∀ ob, ¬ Makes E callf base l fr0 h0 t ob) → HR E P callf base n l fr0 h0 K W0 (t :: R) D' ρ' h1 w' := by
    intro e2 hno
    have hno2 : t.cls = .new → ρ' (base + t.i) = none := fun hc => by rw [hold]; exact H.g4 t (by simp) hc (hD hc) (hno hc)
    rw [e2] at H'
    refine ⟨H'.wr, H'.nx, fun u hu hc hd r hr => ?_, fun u hu hc hd ob hm => ?_, fun u hu hc hd => ?_, fun u hu hc hd hn => ?_⟩
    · rcases List.mem_cons.1 hu with rfl | hu
      · rw [hno2 hc] at hr; cases hr
      · obtain ⟨a1, a2, a3, a4⟩ := H'.g1 u hu hc hd r hr
        refine ⟨a1, a2, a3, fun x hx hcx hdx hne s hs' => ?_⟩
        rcases List.mem_cons.1 hx with rfl | hx
        · rw [hno2 hcx] at hs'; cases hs'
        · exact a4 x hx hcx hdx hne s hs'
    · rcases List.mem_cons.1 hu with rfl | hu
      · exact (hno hc ob hm).elim
      · exact H'.g2 u hu hc hd ob hm
    · rcases List.mem_cons.1 hu with rfl | hu
      · exact absurd (hD' hc) hd
      · exact H'.g3 u hu hc hd
    · rcases List.mem_cons.1 hu with rfl | hu
      · exact hno2 hc
      · exact H'.g4 u hu hc hd hn
  have uniq : ∀ ob, Makes E callf base l fr0 h0 t ob → ∃ v, runOp E callf t.o fr1 ⟨base + t.i, h1.t⟩ = some (v, AHeap.push ⟨base + t.i, h1.t⟩ ob) := by
    rintro ob ⟨L2, R2, f2, hh2, v2, e2, r2, r3, _⟩
    obtain ⟨rfl, _⟩ := split_unique hP e e2
    rw [hL] at r2; cases r2
    exact ⟨v2, r3⟩
  rcases hcase with ⟨hc, hr, rfl⟩ | ⟨hc, hr, rfl⟩ | ⟨hc, _⟩
  · rcases hc with hc | hc
    · exact same (runOp_pure (by rw [← hcls]; exact hc) hr).1 (fun h => by rw [hc] at h; cases h)
    · exact same (runOp_read (by rw [← hcls]; exact hc) hr) (fun h => by rw [hc] at h; cases h)
  · rcases runOp_new (by rw [← hcls]; exact hc) hr with ⟨_, _, rfl⟩ | ⟨_, _, ob, rfl, hown⟩
    · refine same rfl fun _ ob hm => ?_
      obtain ⟨v2, hr2⟩ := uniq ob hm
      rw [hr] at hr2
      simp only [Option.some.injEq, Prod.mk.injEq] at hr2
      have := congrArg AHeap.next hr2.2
      simp [AHeap.next_push] at this
    · have hd := hD hc
      have hmk : Makes E callf base l fr0 h0 t ob := ⟨L, R, fr1, h1, v, e, hL, hr, hown⟩
      obtain ⟨r, hr1, _⟩ := H.g2 t (by simp) hc hd ob hmk
      obtain ⟨_, _, a3, _⟩ := H.g1 t (by simp) hc hd r hr1
      have hdead : ∀ p, h1.get (base + t.i) = some p → p.live → False := fun p hp hl => a3 _ p r hp hl hr1 rfl
      have hget : ∀ m, m ≠ base + t.i → (⟨h1.next, (AHeap.push ⟨base + t.i, h1.t⟩ ob).t⟩ : AHeap).get m = h1.get m := fun m hm => T.get_set_ne _ _ (Ne.symm hm)
      have hsame : (⟨h1.next, (AHeap.push ⟨base + t.i, h1.t⟩ ob).t⟩ : AHeap).get (base + t.i) = some ob := T.get_set_same _ _ _
      have hsub : ∀ m p, h1.get m = some p → p.live → (⟨h1.next, (AHeap.push ⟨base + t.i, h1.t⟩ ob).t⟩ : AHeap).get m = some p := by
        intro m p hp hl
        rw [hget m (fun em => hdead p (em ▸ hp) hl)]; exact hp
      have hr' : ρ' (base + t.i) = some r := by rw [hold]; exact hr1
      obtain ⟨r2, b1, b2, b3⟩ := H'.wr.obj _ _ hsame hown.live
      rw [hr'] at b1; cases b1
      refine ⟨H'.wr.forget (h' := h1) rfl hsub (fun m hm => (H.wr.fresh m hm).2), H'.nx, fun u hu hcu hdu s hs' => ?_, fun u hu hcu hdu ob2 hm => ?_, fun u hu hcu hdu => ?_, fun u hu hcu hdu hn => ?_⟩
      · rcases List.mem_cons.1 hu with rfl | hu
        · rw [hr'] at hs'; cases hs'
          refine ⟨H'.wr.lt hsame hown.live hr', b2 hown, fun m p q hm hl hq eq => ?_, fun x hx hcx hdx hne q hq => ?_⟩
          · have em := H'.wr.inj _ _ _ _ _ _ hsame hown (hsub m p hm hl) hl hr' hq eq.symm
            exact hdead p (em ▸ hm) hl
          · rcases List.mem_cons.1 hx with rfl | hx
            · exact absurd rfl hne
            · exact fun eq => (H'.g1 x hx hcx hdx q hq).2.2.1 _ _ _ hsame hown.live hr' eq.symm
        · obtain ⟨c1, c2, c3, c4⟩ := H'.g1 u hu hcu hdu s hs'
          refine ⟨c1, c2, fun m p q hm hl hq => c3 m p q (hsub m p hm hl) hl hq, fun x hx hcx hdx hne q hq => ?_⟩
          rcases List.mem_cons.1 hx with rfl | hx
          · exact c3 _ _ _ hsame hown.live hq
          · exact c4 x hx hcx hdx hne q hq
      · rcases List.mem_cons.1 hu with rfl | hu
        · obtain ⟨v2, hr2⟩ := uniq ob2 hm
          rw [hr] at hr2
          simp only [Option.some.injEq, Prod.mk.injEq] at hr2
          have := push_inj hr2.2
          subst this
          exact ⟨r, hr', b3⟩
        · exact H'.g2 u hu hcu hdu ob2 hm
      · rcases List.mem_cons.1 hu with rfl | hu
        · exact absurd (hD' hcu) hdu
        · exact H'.g3 u hu hcu hdu
      · rcases List.mem_cons.1 hu with rfl | hu
        · exact absurd hmk (hn ob)
        · exact H'.g4 u hu hcu hdu hn
  · exact absurd hc hw
end
end Go.AX
namespace Go.AX
open Go.RowKit
section
variable {E : Env} {P : Program} [Lay P] {K : Keep} {W0 : World} {ρ ρ' : Ren} {w w' : World} {callf : CallF} {base n : Nat} {pre : Array Nat} {cops : List COper} {l : List CStep} {fr0 : Fr} {h0 : AHeap}
theorem unadopt_steps (hP : PlanOK pre cops n l) {R : List CStep} {D D' : Nat → Prop} : ∀ (M L : List CStep), l = L ++ (M ++ R) → ∀ {fr1 : Fr} {h1 : AHeap}, runSteps E callf base L fr0 h0 = some (fr1, h1) → HR E P callf base n l fr0 h0 K W0 (M ++ R) D ρ h1 w →
    ∀ {fr2 : Fr} {h2 : AHeap}, runSteps E callf base M fr1 h1 = some (fr2, h2) → (∀ t, t ∈ M → t.cls ≠ .wr) → (∀ t, t ∈ M → t.cls = .new → D t.i) → (∀ t, t ∈ M → t.cls = .new → D' t.i) → ρ.le ρ' → (∀ t, t ∈ M → ρ' (base + t.i) = ρ (base + t.i)) →
    HR E P callf base n l fr0 h0 K W0 R D' ρ' h2 w' → HR E P callf base n l fr0 h0 K W0 (M ++ R) D' ρ' h1 w' := by
  intro M
  induction M with
  | nil => intro L e fr1 h1 hL H fr2 h2 hs _ _ _ _ _ H'; cases hs; exact H'
  | cons t M ih =>
    intro L e fr1 h1 hL H fr2 h2 hs hw hD hD' hle hold H'
    rw [runSteps_cons, ob_some] at hs
    obtain ⟨⟨f, hh⟩, hs1, hs⟩ := hs
    have H1 := adopt_step hP (by simpa using e) hL H hs1 (hw t (by simp)) (hD t (by simp))
    have hL' : runSteps E callf base (L ++ [t]) fr0 h0 = some (f, hh) := by rw [runSteps_join hL, runSteps_cons, hs1]; rfl
    have H2 := ih (L ++ [t]) (by rw [e]; simp) hL' H1 hs (fun u hu => hw u (List.mem_cons_of_mem _ hu)) (fun u hu => hD u (List.mem_cons_of_mem _ hu)) (fun u hu => hD' u (List.mem_cons_of_mem _ hu)) hle (fun u hu => hold u (List.mem_cons_of_mem _ hu)) H'
    exact unadopt_step hP (by simpa using e) hL H hs1 (hw t (by simp)) (hD t (by simp)) (hD' t (by simp)) hle (hold t (by simp)) H2
end
end Go.AX
namespace Go.AX
open Go.RowKit
section
variable {E : Env} {P : Program} [Lay P] {K : Keep} {W0 : World} {ρ : Ren} {w : World} {callf : CallF} {base n nt : Nat} {ops : Array Oper} {pre : Array Nat} {cops : List COper} {l : List CStep} {fr0 fr' : Fr} {h0 h' : AHeap}
variable {ρ0 : Ren} {a0 : Act} {L R : List CStep} {frR frB : Fr} {hB : AHeap} {listed : Array Bool} {a : Act}
variable {t : CStep} {L1 R1 : List CStep} {o : Oper} {fr1 : Fr} {h1 : AHeap} {fr2 : Fr} {h2 : AHeap} {Q : Exit → Act → World → Prop}
theorem inv_readR (C : Ctx E P K callf base n nt ops pre cops l fr0 fr' h0 h') (I : Inv E P K W0 callf base n nt pre l fr0 fr' h0 ρ0 a0 L R ρ frR frB hB listed a w)
    (D : Rdy E callf base nt ops pre l fr0 fr' h0 h' frR listed t L1 R1 o fr1 h1 fr2 h2) (hc : t.cls = .read) (ht : t ∈ R) :
    wpOp P ops Q t.i (InvX E P K W0 callf base n nt pre l fr0 fr' h0 ρ0 a0 (listed.setIfInBounds t.i true)) a w := by
  have htl : t ∈ l := by rw [D.e]; simp
  have hcls := (C.hP.at htl).2
  obtain ⟨M, eR, eL, hM, hw, hn, H1⟩ := inv_reach C I D (.inl hc) ht
  obtain ⟨v, hO, ef, hcase⟩ := runStep_inv D.r2
  rcases hcase with ⟨_, hr, _⟩ | ⟨hc', _⟩ | ⟨hc', _⟩
  case inr.inl => rw [hc] at hc'; cases hc'
  case inr.inr => rw [hc] at hc'; cases hc'
  have hOe := runOp_read (by rw [← hcls]; exact hc) hr
  subst hOe
  rw [runOp_congr D.same] at hr
  have hmem : ∀ u, u ∈ M ++ t :: R1 → u ∈ l := fun u hu => I.memR (by rw [eR]; exact hu)
  have hset := fun k => Dn_set (listed := listed) (i := t.i) (k := k) D.lt
  refine runOp_sound C.hE C.hcall D.ho D.hc I.hf H1.start hr fun v' w' ρ' k1 k2 k3 => ⟨L, R, ρ', _, frB, hB, I.still C D ef k1 k2 (by rw [hc]; decide) ?_⟩
  have H2 := H1.after (D' := Dn (listed.setIfInBounds t.i true)) (fun u hu => C.hlt u (hmem u (by simp at hu ⊢; exact .inr hu))) (by have := C.hK; omega) k3 k1 fun u hu hcu => set_other C D (by rw [hc]; decide) (hmem u (by simp at hu ⊢; exact .inr hu)) hcu
  rw [eR]
  exact unadopt_steps C.hP M L (by rw [I.e, eR]) I.hL (by rw [← eR]; exact I.H) hM hw hn (fun u hu h => (hset _).2 (.inl (hn u hu h))) k1
    (fun u hu => k3.old _ (by have := C.hlt u (hmem u (by simp [hu])); show base + u.i < base + n; omega)) H2
end
end Go.AX
namespace Go.AX
open Go.RowKit
section
variable {E : Env} {P : Program} [Lay P] {K : Keep} {W0 : World} {ρ : Ren} {w : World} {callf : CallF} {base n nt : Nat} {ops : Array Oper} {pre : Array Nat} {cops : List COper} {l : List CStep} {fr0 fr' : Fr} {h0 h' : AHeap}
variable {ρ0 : Ren} {a0 : Act} {L R : List CStep} {frR frB : Fr} {hB : AHeap} {listed : Array Bool} {a : Act}
variable {t : CStep} {L1 R1 : List CStep} {o : Oper} {fr1 : Fr} {h1 : AHeap} {fr2 : Fr} {h2 : AHeap} {Q : Exit → Act → World → Prop}
theorem HR.add_none {D D' : Nat → Prop} (H : HR E P callf base n l fr0 h0 K W0 R D ρ hB w) (hP : PlanOK pre cops n l) (hR : ∀ u, u ∈ R → u ∈ l) (ht : t ∈ R) (hDD : ∀ k, D' k ↔ D k ∨ k = t.i) (hno : ∀ ob, ¬ Makes E callf base l fr0 h0 t ob) (hn : ρ (base + t.i) = none) :
    HR E P callf base n l fr0 h0 K W0 R D' ρ hB w := by
  have hcase : ∀ u, u ∈ R → D' u.i → D u.i ∨ u = t := fun u hu h => ((hDD _).1 h).imp id fun e => hP.inj (hR u hu) (hR t ht) e
  refine ⟨H.wr, H.nx, fun u hu hc hd r hr => ?_, fun u hu hc hd ob hm => ?_, fun u hu hc hd => H.g3 u hu hc fun h => hd ((hDD _).2 (.inl h)), fun u hu hc hd hno' => ?_⟩
  · rcases hcase u hu hd with h | rfl
    · obtain ⟨a1, a2, a3, a4⟩ := H.g1 u hu hc h r hr
      refine ⟨a1, a2, a3, fun x hx hcx hdx hne s hs => ?_⟩
      rcases hcase x hx hdx with h | rfl
      · exact a4 x hx hcx h hne s hs
      · rw [hn] at hs; cases hs
    · rw [hn] at hr; cases hr
  · rcases hcase u hu hd with h | rfl
    · exact H.g2 u hu hc h ob hm
    · exact (hno ob hm).elim
  · rcases hcase u hu hd with h | rfl
    · exact H.g4 u hu hc h hno'
    · exact hn
end
end Go.AX
namespace Go.AX
open Go.RowKit
section
variable {E : Env} {P : Program} [Lay P] {K : Keep} {W0 : World} {ρ : Ren} {w : World} {callf : CallF} {base n nt : Nat} {ops : Array Oper} {pre : Array Nat} {cops : List COper} {l : List CStep} {fr0 fr' : Fr} {h0 h' : AHeap}
variable {ρ0 : Ren} {a0 : Act} {L R : List CStep} {frR frB : Fr} {hB : AHeap} {listed : Array Bool} {a : Act}
variable {t : CStep} {L1 R1 : List CStep} {o : Oper} {fr1 : Fr} {h1 : AHeap} {fr2 : Fr} {h2 : AHeap} {Q : Exit → Act → World → Prop}
theorem HR.add_some {D D' : Nat → Prop} (H : HR E P callf base n l fr0 h0 K W0 R D ρ hB w) (hP : PlanOK pre cops n l) (hR : ∀ u, u ∈ R → u ∈ l) (hlt : ∀ u, u ∈ R → u.i < n) (hK : K.n0 ≤ base) (ht : t ∈ R) (hDD : ∀ k, D' k ↔ D k ∨ k = t.i) {ob : AObj}
    (hu : ∀ ob2, Makes E callf base l fr0 h0 t ob2 → ob2 = ob) (hmk : Makes E callf base l fr0 h0 t ob) (hn : ρ (base + t.i) = none) {d : Nat} {Ob : Obj} {k : Option (Nat × Nat)}
    (ho : ObjR P (ρ.upd (base + t.i) ⟨w.heap.size, 0, k, al0⟩) ⟨w.heap.size, 0, k, al0⟩ ob (some Ob)) :
    HR E P callf base n l fr0 h0 K W0 R D' (ρ.upd (base + t.i) ⟨w.heap.size, 0, k, al0⟩) hB { w with drawn := d, heap := w.heap.push Ob } := by
  have hcase : ∀ u, u ∈ R → D' u.i → D u.i ∨ u = t := fun u hu h => ((hDD _).1 h).imp id fun e => hP.inj (hR u hu) (hR t ht) e
  have hle := Ren.le_upd (⟨w.heap.size, 0, k, al0⟩ : RB) hn
  have hnx := H.nx
  have htn := hlt t ht
  have hne : ∀ u, u ∈ R → u ≠ t → (ρ.upd (base + t.i) ⟨w.heap.size, 0, k, al0⟩) (base + u.i) = ρ (base + u.i) := fun u hu hut =>
    Ren.upd_ne _ _ fun e => hut (hP.inj (hR u hu) (hR t ht) (by omega))
  have hback : ∀ m p s, hB.get m = some p → p.live → (ρ.upd (base + t.i) ⟨w.heap.size, 0, k, al0⟩) m = some s → ρ m = some s := by
    intro m p s hm hl hs
    obtain ⟨s', hs', _⟩ := H.wr.obj m p hm hl
    have := hle _ _ hs'
    rw [this] at hs; cases hs; exact hs'
  have hpush : ∀ b, b < w.heap.size → (w.heap.push Ob)[b]? = w.heap[b]? := fun b hb => by rw [Array.getElem?_push, if_neg (by omega)]
  refine ⟨((H.wr.alloc Ob).drawn d).upd hn (by omega) (by omega), H.nx, fun u hu' hc hd r hr => ?_, fun u hu' hc hd ob2 hm => ?_, fun u hu' hc hd => ?_, fun u hu' hc hd hno' => ?_⟩
  · by_cases hut : u = t
    · subst hut
      rw [Ren.upd_same] at hr; cases hr
      refine ⟨by simp, fun hk => by have := H.wr.klt _ hk; have := H.wr.size; simp at *; omega, fun m p s hm hl hs e => ?_, fun x hx hcx hdx hxn s hs e => ?_⟩
      · have := H.wr.lt hm hl (hback m p s hm hl hs)
        simp at e; omega
      · have hxu : x ≠ u := fun e => hxn (by rw [e])
        rw [hne x hx hxu] at hs
        have := (H.g1 x hx hcx ((hcase x hx hdx).resolve_right hxu) s hs).1
        simp at e; omega
    · have h := (hcase u hu' hd).resolve_right hut
      rw [hne u hu' hut] at hr
      obtain ⟨a1, a2, a3, a4⟩ := H.g1 u hu' hc h r hr
      refine ⟨by simp; omega, a2, fun m p s hm hl hs => a3 m p s hm hl (hback m p s hm hl hs), fun x hx hcx hdx hxn s hs => ?_⟩
      by_cases hxt : x = t
      · subst hxt
        rw [Ren.upd_same] at hs; cases hs
        simp; omega
      · rw [hne x hx hxt] at hs
        exact a4 x hx hcx ((hcase x hx hdx).resolve_right hxt) hxn s hs
  · by_cases hut : u = t
    · subst hut
      have := hu ob2 hm
      subst this
      refine ⟨_, Ren.upd_same _ _ _, ?_⟩
      show ObjR P _ _ _ ((w.heap.push Ob)[w.heap.size]?)
      rw [Array.getElem?_push, if_pos rfl]; exact ho
    · have h := (hcase u hu' hd).resolve_right hut
      obtain ⟨r, hr, hob⟩ := H.g2 u hu' hc h ob2 hm
      refine ⟨r, hle _ _ hr, ?_⟩
      show ObjR P _ _ _ ((w.heap.push Ob)[r.b]?)
      rw [hpush _ (H.g1 u hu' hc h r hr).1]; exact hob.mono hle
  · have hut : u ≠ t := fun e => hd ((hDD _).2 (.inr (by rw [e])))
    rw [hne u hu' hut]
    exact H.g3 u hu' hc fun h => hd ((hDD _).2 (.inl h))
  · have hut : u ≠ t := fun e => hno' ob (e ▸ hmk)
    rw [hne u hu' hut]
    exact H.g4 u hu' hc ((hcase u hu' hd).resolve_right hut) hno'
end
end Go.AX
namespace Go.AX
open Go.RowKit
section
variable {E : Env} {P : Program} [Lay P] {K : Keep} {W0 : World} {ρ : Ren} {w : World} {callf : CallF} {base n nt : Nat} {ops : Array Oper} {pre : Array Nat} {cops : List COper} {l : List CStep} {fr0 fr' : Fr} {h0 h' : AHeap}
variable {ρ0 : Ren} {a0 : Act} {L R : List CStep} {frR frB : Fr} {hB : AHeap} {listed : Array Bool} {a : Act}
variable {t : CStep} {L1 R1 : List CStep} {o : Oper} {fr1 : Fr} {h1 : AHeap} {fr2 : Fr} {h2 : AHeap} {Q : Exit → Act → World → Prop}
theorem inv_new (C : Ctx E P K callf base n nt ops pre cops l fr0 fr' h0 h') (I : Inv E P K W0 callf base n nt pre l fr0 fr' h0 ρ0 a0 L R ρ frR frB hB listed a w)
    (D : Rdy E callf base nt ops pre l fr0 fr' h0 h' frR listed t L1 R1 o fr1 h1 fr2 h2) (hc : t.cls = .new) :
    wpOp P ops Q t.i (InvX E P K W0 callf base n nt pre l fr0 fr' h0 ρ0 a0 (listed.setIfInBounds t.i true)) a w := by
  have htl : t ∈ l := by rw [D.e]; simp
  have hcls := (C.hP.at htl).2
  have hcn : clsOf t.o.op = .new := by rw [← hcls]; exact hc
  have htR : t ∈ R := by
    have := htl
    rw [I.e] at this
    rcases List.mem_append.1 this with h | h
    · exact absurd (I.i3 t h (.inl hc)) D.nd
    · exact h
  have hnone := I.H.g3 t htR hc D.nd
  have hset := fun k => Dn_set (listed := listed) (i := t.i) (k := k) D.lt
  have hRl : ∀ u, u ∈ R → u ∈ l := fun u hu => I.memR hu
  have hRlt : ∀ u, u ∈ R → u.i < n := fun u hu => C.hlt u (hRl u hu)
  obtain ⟨v, hO, ef, hcase⟩ := runStep_inv D.r2
  rcases hcase with ⟨hc', _⟩ | ⟨_, hr, _⟩ | ⟨hc', _⟩
  case inl => rcases hc' with h | h <;> (rw [hc] at h; cases h)
  case inr.inr => rw [hc] at hc'; cases hc'
  have uniq : ∀ ob, Makes E callf base l fr0 h0 t ob → hO = AHeap.push ⟨base + t.i, h1.t⟩ ob := by
    rintro ob ⟨L2, R2, f2, hh2, v2, e2, r2, r3, _⟩
    obtain ⟨rfl, _⟩ := split_unique C.hP D.e e2
    rw [D.r1] at r2; cases r2
    rw [hr] at r3
    simp only [Option.some.injEq, Prod.mk.injEq] at r3
    exact r3.2
  rcases runOp_new hcn hr with ⟨hg, rfl, rfl⟩ | ⟨hg, hst, ob, rfl, hown⟩
  ·
    have hB' : runOp E callf t.o frR hB = some (undefA, hB) := by
      unfold runOp
      rw [← D.same.guard, hg]
    refine runOp_sound C.hE C.hcall D.ho D.hc I.hf I.H.start hB' fun v' w' ρ' k1 k2 k3 => ⟨L, R, ρ', _, frB, hB, I.still C D ef k1 k2 (by rw [hc]; decide) ?_⟩
    have H2 := I.H.after (D' := Dn listed) hRlt (by have := C.hK; omega) k3 k1 fun _ _ _ => Iff.rfl
    refine H2.add_none C.hP hRl htR hset (fun ob hm => ?_) ?_
    · have := congrArg AHeap.next (uniq ob hm)
      simp [AHeap.next_push] at this
    · rw [k3.old _ (by have := C.hlt t htl; show base + t.i < base + n; omega)]
      exact hnone
  ·
    obtain ⟨hdst, hdlt, hop⟩ := cOper_inv D.hc
    have hwant : Region.wanted o (yielded ops a.tmps) = true := by rw [← guard_eq D.hc I.hf, ← D.same.guard, hg]
    cases hco : cOp E o.op with
    | none => rw [hco] at hop; rw [hop] at hcn; cases hcn
    | some c =>
      rw [hco] at hop
      have hop' : t.o.op = c := hop
      rw [hop'] at hcn hst
      have hst' : stepOp c frR ⟨base + t.i, h1.t⟩ = some (v, AHeap.push ⟨base + t.i, h1.t⟩ ob) := by
        rw [← hst]
        have := D.same.opds
        rw [hop'] at this
        exact (stepOp_congr this _).symm
      obtain ⟨ob', e1, _, hnew⟩ := new_sound (P := P) C.hE hco hcn I.hf hst'
      have e2 := push_inj e1
      subst e2
      obtain ⟨v', d, Ob, k, hrun, hfin⟩ := hnew w
      have hmk : Makes E callf base l fr0 h0 t ob := ⟨L1, R1, fr1, h1, v, D.e, D.r1, hr, hown⟩
      have hle := Ren.le_upd (⟨w.heap.size, 0, k, al0⟩ : RB) hnone
      obtain ⟨g1, g2⟩ := hfin _ hle (Ren.upd_same _ _ _)
      unfold wpOp
      simp only [D.ho]
      rw [if_pos hwant]
      left
      unfold Oper.wp
      rw [hrun, Oper.upon_value]
      refine ⟨L, R, _, _, frB, hB, I.still C D ef hle g1 (by rw [hc]; decide) ?_⟩
      exact I.H.add_some C.hP hRl hRlt C.hK htR hset (fun ob2 hm => (push_inj (uniq ob2 hm)).symm) hmk hnone g2
end
end Go.AX
namespace Go.AX
open Go.RowKit
theorem countP_lt {α : Type} {p q : α → Bool} {i : α} : ∀ {l : List α}, (∀ x, x ∈ l → q x = true → p x = true) → i ∈ l → p i = true → q i = false → l.countP q < l.countP p
  | [], _, h, _, _ => by cases h
  | x :: l, hpq, h, hp, hq => by
    have hle : l.countP q ≤ l.countP p := List.countP_mono_left fun y hy => hpq y (List.mem_cons_of_mem _ hy)
    rw [List.countP_cons, List.countP_cons]
    rcases List.mem_cons.1 h with rfl | h
    · rw [hp, hq]; simp; omega
    · have := countP_lt (fun y hy => hpq y (List.mem_cons_of_mem _ hy)) h hp hq
      have hx := hpq x List.mem_cons_self
      cases hqx : q x with
      | true => rw [hx hqx]; simp; omega
      | false => simp; omega
section
variable {E : Env} {P : Program} [Lay P] {K : Keep} {W0 : World} {ρ : Ren} {w : World} {callf : CallF} {base n nt : Nat} {ops : Array Oper} {pre : Array Nat} {cops : List COper} {l : List CStep} {fr0 fr' : Fr} {h0 h' : AHeap}
variable {ρ0 : Ren} {a0 : Act} {listed : Array Bool} {a : Act}
def left (listed : Array Bool) (n : Nat) : Nat := (List.range n).countP fun j => !listed.getD j false
theorem inv_any (C : Ctx E P K callf base n nt ops pre cops l fr0 fr' h0 h') : ∀ (fuel : Nat) (listed : Array Bool) (a : Act) (w : World), InvX E P K W0 callf base n nt pre l fr0 fr' h0 ρ0 a0 listed a w → left listed n ≤ fuel →
    wpAny P .any ops (XQ P K W0 nt ρ0 a0 ⟨.normal, fr', h'⟩) fuel listed a w := by
  intro fuel
  induction fuel with
  | zero =>
    rintro listed a w ⟨L, R, ρ, frR, frB, hB, I⟩ hle
    have hall : ∀ j, j < n → Dn listed j := by
      intro j hj
      have h0 : left listed n = 0 := by omega
      have := List.countP_eq_zero.1 h0 j (List.mem_range.2 hj)
      unfold Dn
      simpa using this
    refine ⟨?_, inv_end C I hall⟩
    refine List.eq_nil_iff_forall_not_mem.2 fun i hi => ?_
    obtain ⟨t, L1, R1, o, fr1, h1, fr2, h2, rfl, D⟩ := ready_facts C I hi
    exact D.nd (hall _ (by have := D.lt; rw [I.size] at this; exact this))
  | succ fuel ih =>
    rintro listed a w ⟨L, R, ρ, frR, frB, hB, I⟩ hle
    refine ⟨fun hr => inv_end C I fun j hj => ready_nil C.hpre C.hn C.hP C.hlt I.size hr j hj, fun i hi => ?_⟩
    obtain ⟨t, L1, R1, o, fr1, h1, fr2, h2, rfl, D⟩ := ready_facts C I hi
    have htn : t.i < n := by have := D.lt; rw [I.size] at this; exact this
    have hnd : listed.getD t.i false = false := by
      have := D.nd
      unfold Dn at this
      simpa using this
    have hlt : left (listed.setIfInBounds t.i true) n < left listed n := by
      unfold left
      refine countP_lt (i := t.i) (fun x _ hx => ?_) (List.mem_range.2 htn) (by rw [hnd]; rfl) ?_
      · cases hb : listed.getD x false with
        | false => rfl
        | true =>
          have := (Dn_set (k := x) D.lt).2 (.inl hb)
          unfold Dn at this
          rw [this] at hx; cases hx
      · have := (Dn_set (k := t.i) D.lt).2 (.inr rfl)
        unfold Dn at this
        rw [this]; rfl
    refine wpOp_mono (fun a' w' hx => ih _ a' w' hx (by omega)) ?_
    have htl : t ∈ l := by rw [D.e]; simp
    cases hc : t.cls with
    | pure => exact inv_pure C I D hc
    | read =>
      have := htl
      rw [I.e] at this
      rcases List.mem_append.1 this with h | h
      · exact inv_readL C I D hc h
      · exact inv_readR C I D hc h
    | new => exact inv_new C I D hc
    | wr => exact inv_wr C I D hc
theorem drawnS (hE : EnvOK E P) (hcall : CallS P callf) : DrawnS E P callf := by
  intro K W0 nt ops plan n l ρ fr h w a fr' h' hd hrun hn hf H
  simp only [cDrawn, Option.bind_eq_bind, Option.bind_eq_some_iff] at hd
  obtain ⟨cops, hcops, hd⟩ := hd
  split at hd
  case isFalse => cases hd
  rename_i ht
  simp only [Option.bind_eq_some_iff] at hd
  obtain ⟨l', hl, hd⟩ := hd
  cases hd
  have hP := planOK_of ht hl
  have hlt : ∀ t, t ∈ l → t.i < ops.size := by
    intro t htl
    have h1 := (List.getElem?_eq_some_iff.1 (hP.at htl).1).1
    rw [mapM_length hcops] at h1
    simpa using h1
  have C : Ctx E P K callf h.next ops.size nt ops (Region.before ops) cops l fr fr' ⟨h.next + ops.size, h.t⟩ h' := ⟨hE, hcall, rfl, rfl, hcops, hP, hlt, hrun, H.nx⟩
  have hD : ∀ k, ¬ Dn (Array.replicate ops.size false) k := by
    intro k hk
    unfold Dn at hk
    rw [Array.getD_eq_getD_getElem?, Array.getElem?_replicate] at hk
    split at hk <;> simp at hk
  have hW : WR P K W0 ρ ⟨h.next + ops.size, h.t⟩ w := by
    refine ⟨H.os, H.tape, H.output, H.size, H.klt, H.keep, fun m hm => ?_, H.obj, H.inj, ?_, H.old, H.gk, H.hid, H.lay⟩
    · have hm' : h.next + ops.size ≤ m := hm
      exact H.fresh m (by omega)
    · have := H.nx
      show K.n0 ≤ h.next + ops.size
      omega
  have I : Inv E P K W0 callf h.next ops.size nt (Region.before ops) l fr fr' ⟨h.next + ops.size, h.t⟩ ρ a [] l ρ fr fr ⟨h.next + ops.size, h.t⟩ (Array.replicate ops.size false) a w := by
    refine ⟨rfl, rfl, by simp, fun k hk => absurd hk (hD k), fun t ht => (by cases ht), fun t _ _ => hD _, fun t ht => (by cases ht), fun d => ⟨fun ⟨t, _, hk, _⟩ => absurd hk (hD _), fun _ => rfl⟩, hf, rfl, hn,
      ⟨hW, Nat.le_refl _, fun t _ _ hk => absurd hk (hD _), fun t _ _ hk => absurd hk (hD _), fun t _ _ _ => (H.fresh _ (by omega)).1, fun t _ _ hk => absurd hk (hD _)⟩, Ren.le_refl _⟩
  refine inv_any C ops.size _ a w ⟨_, _, _, _, _, _, I⟩ ?_
  unfold left
  exact Nat.le_trans (List.countP_le_length) (by simp)
theorem callN_sound' (hE : EnvOK E P) (hname : ∀ f x, E.fn.get f = some x → (x.name == "runtime.NumGoroutine") = false) (hprim : PrimS E P) (lf n : Nat) : CallS P (callN E lf n) :=
  callN_sound hE hname hprim (fun _ hcall => drawnS hE hcall) lf n
end
end Go.AX
namespace Go.AX
noncomputable def T.ofLA {α : Type} (l : List α) : Nat → T α → T α := @List.rec α (fun _ => Nat → T α → T α) (fun _ t => t) (fun x _ ih i t => ih (Nat.succ i) (t.set i x)) l
noncomputable def T.ofL {α : Type} (l : List α) : T α := T.ofLA l 0 .nil
theorem T.ofLA_get {α : Type} : ∀ (l : List α) (i : Nat) (t : T α) (k : Nat), (T.ofLA l i t).get k = if i ≤ k ∧ k < i + l.length then l[k - i]? else t.get k := by
  intro l
  induction l with
  | nil => intro i t k; simp [T.ofLA]; intro h1 h2; omega
  | cons x l ih =>
    intro i t k
    have e : T.ofLA (x :: l) i t = T.ofLA l (i + 1) (t.set i x) := rfl
    rw [e, ih]
    by_cases h1 : i + 1 ≤ k ∧ k < i + 1 + l.length
    · rw [if_pos h1, if_pos (by simp; omega)]
      have : k - i = (k - (i + 1)) + 1 := by omega
      rw [this]; rfl
    · rw [if_neg h1]
      by_cases h2 : k = i
      · subst h2
        rw [T.get_set_same, if_pos (by simp)]
        simp
      · rw [T.get_set_ne _ _ (Ne.symm h2), if_neg (by simp; omega)]
theorem T.ofL_get {α : Type} (l : List α) (k : Nat) : (T.ofL l).get k = l[k]? := by
  unfold T.ofL
  rw [T.ofLA_get]
  by_cases h : k < l.length
  · rw [if_pos (by omega)]; rfl
  · rw [if_neg (by omega), T.get_nil, List.getElem?_eq_none (by omega)]
theorem T.of_list {α : Type} {t : T α} {l : List α} (h : t = T.ofL l) {k : Nat} {x : α} (hx : t.get k = some x) : l[k]? = some x := by
  rw [h, T.ofL_get] at hx; exact hx
end Go.AX
namespace Go.AX
open Go.RowKit
noncomputable def flatF (E : Env) (f : Field) : Option (Nat × FK) :=
  if f.name = "_" then none else
  match E.und f.type with
  | some .bool => some (f.offset, .b)
  | some (.int _) => some (f.offset, .i)
  | some .string => some (f.offset, .s)
  | _ => none
noncomputable def flatS (E : Env) (t : TypeId) : Option (List (Nat × FK)) :=
  match E.und t with
  | some (.struct fs) => fs.toList.mapM (flatF E)
  | _ => none
section
variable {E : Env} {P : Program} [Lay P] (hE : ∀ t i, E.info t = some i → P.info? t = some i)
include hE
theorem und_of {t : TypeId} {d : TypeDesc} (h : E.und t = some d) : P.underlying t = some d := by
  unfold Env.und at h
  unfold Program.underlying
  cases hi : E.info t with
  | none => rw [hi] at h; cases h
  | some i =>
    rw [hi] at h; rw [hE _ _ hi]
    obtain ⟨desc, str, size, bytes, hp, al, fa, z, cmp, ms⟩ := i
    cases desc with
    | named n u =>
      simp only [Option.map_eq_some_iff] at h
      obtain ⟨j, hj, rfl⟩ := h
      simp [hE _ _ hj]
    | _ => simpa using h
omit hE in
theorem flatF_name {f : Field} {o : Nat × FK} (h : flatF E f = some o) : f.name ≠ "_" := by
  unfold flatF at h
  split at h
  · cases h
  · assumption
omit hE in
theorem flatF_off {f : Field} {o : Nat × FK} (h : flatF E f = some o) : o.1 = f.offset := by
  unfold flatF at h
  split at h
  · cases h
  · split at h <;> cases h <;> rfl
theorem flatF_part {f : Field} {o : Nat × FK} (h : flatF E f = some o) (w : World) (xs : Array Value) {x : Value} (hx : xs[o.1]? = some x) : (part f.type xs f.offset).run P w = .ok x w := by
  rw [flatF_off h] at hx
  have ha : (isAgg f.type).run P w = .ok false w := by
    unfold flatF at h
    split at h
    · cases h
    unfold isAgg
    split at h <;> first | (cases h; done) | (rename_i hu; simp only [Sem.run_bind, run_underlying (und_of hE hu), Result.andThen_ok]; rfl)
  unfold part
  simp only [Sem.run_bind, ha, Result.andThen_ok, Bool.false_eq_true, if_false, hx, Sem.run_pure]
theorem flatF_eq {f : Field} {o : Nat × FK} (h : flatF E f = some o) (w : World) (d : Nat) {x y : Value} {b : Bool} (hb : EqF o.2 x y b) : (Op.equalIn (d + 1) f.type x y).run P w = .ok b w := by
  unfold flatF at h
  split at h
  · cases h
  split at h
  · rename_i hu
    cases h
    obtain ⟨p, q, rfl, rfl, rfl⟩ := hb
    exact run_equalIn_bool' w d _ _ _ (und_of hE hu)
  · rename_i hu
    cases h
    obtain ⟨k, p, q, rfl, rfl, rfl⟩ := hb
    exact run_equalIn_int w d _ _ _ _ _ (und_of hE hu)
  · rename_i hu
    cases h
    obtain ⟨p, q, rfl, rfl, rfl⟩ := hb
    exact run_equalIn_string w d _ _ _ (und_of hE hu)
  · cases h
theorem flat_eqFields (w : World) (d : Nat) (xs ys : Array Value) : ∀ {fs : List Field} {offs : List (Nat × FK)} {b : Bool}, fs.mapM (flatF E) = some offs → EqOffs xs ys offs b → (Op.eqFields (d + 1) xs ys fs).run P w = .ok b w := by
  intro fs
  induction fs with
  | nil =>
    intro offs b hm he
    simp at hm; subst hm
    cases he
    rfl
  | cons f fs ih =>
    intro offs b hm he
    simp only [List.mapM_cons, Option.bind_eq_bind, Option.bind_eq_some_iff] at hm
    obtain ⟨o, ho, l, hl, hm⟩ := hm
    cases hm
    cases he with
    | no hx hy hq =>
      simp only [Op.eqFields, flatF_name ho, ne_eq, not_false_eq_true, if_true, Sem.run_bind, flatF_part hE ho w xs hx, Result.andThen_ok, flatF_part hE ho w ys hy, flatF_eq hE ho w d hq, Bool.not_false, Sem.run_pure]
    | yes hx hy hq hr =>
      simp only [Op.eqFields, flatF_name ho, ne_eq, not_false_eq_true, if_true, Sem.run_bind, flatF_part hE ho w xs hx, Result.andThen_ok, flatF_part hE ho w ys hy, flatF_eq hE ho w d hq, Bool.not_true, Bool.false_eq_true, if_false]
      exact ih hl hr
theorem flatF_key {f : Field} {o : Nat × FK} (h : flatF E f = some o) (w : World) (d : Nat) (e : Bool) (x : Value) : (Instr.checkKey e (d + 1) f.type x).run P w = .ok () w := by
  unfold flatF at h
  split at h
  · cases h
  unfold Instr.checkKey
  split at h
  all_goals first | (cases h; done) | skip
  all_goals (rename_i hu; simp only [Sem.run_bind, run_underlying (und_of hE hu), Result.andThen_ok, Sem.run_pure])
theorem structEq_flat {t : TypeId} {offs : List (Nat × FK)} (h : flatS E t = some offs) (hg : P.eqGuardType P.depth t = false) (hp : P.stoodInHeld t = false) : StructEq P t offs := by
  unfold flatS at h
  split at h
  case h_2 => cases h
  rename_i fs hu
  have hu := und_of hE hu
  have hf : P.fieldsOf t = fs := by unfold Program.fieldsOf; rw [hu]
  refine ⟨hg, fun w xs ys b hb => ?_, fun w xs e hs => ?_⟩
  · rw [show (10000 : Nat) = 9999 + 1 from rfl, run_equalIn_struct w 9999 t xs ys (by rw [hf]; exact hu) hp, hf]
    exact flat_eqFields hE w 9998 xs ys h hb
  · rw [show (10000 : Nat) = 9999 + 1 from rfl]
    unfold Instr.checkKey
    simp only [Sem.run_bind, run_underlying hu, Result.andThen_ok]
    rw [← Array.forIn_toList]
    replace h : fs.toList.mapM (flatF E) = some offs := h
    revert h hs
    generalize fs.toList = l
    clear hf hu
    intro hs h
    induction l generalizing offs with
    | nil => rfl
    | cons f l ih =>
      simp only [List.mapM_cons, Option.bind_eq_bind, Option.bind_eq_some_iff] at h
      obtain ⟨o, ho, l', hl, hm⟩ := h
      cases hm
      obtain ⟨x, hx⟩ := Option.isSome_iff_exists.1 (hs o (by simp))
      simp only [List.forIn_cons, flatF_name ho, ne_eq, not_false_eq_true, if_true, Sem.run_bind, flatF_part hE ho w xs hx, Result.andThen_ok, show (9999 : Nat) = 9998 + 1 from rfl, flatF_key hE ho w 9998 e x, Sem.run_pure]
      exact ih (fun o ho => hs o (by simp [ho])) hl
end
end Go.AX
namespace Go.AX
open Go.RowKit
section
variable {E : Env} {P : Program} [Lay P] {K : Keep} {W0 : World} {ρ : Ren} {fr : Fr} {h : AHeap} {w : World} {a : Act}
def FixS (P : Program) [Lay P] (f : FuncId) (x : Fix) : Prop :=
  Enters P f ∧ ∀ (w : World) (ρ : Ren) (args' : Array Value), VL ρ x.args args'.toList → (∀ b, Lay.dom P b → b < w.heap.size ∧ Lay.lay P b (w.heap[b]?)) → (∀ n, x.next ≤ n → ρ n = none) → (∀ p, p ∈ x.rows → p.1 < x.next ∧ ∃ r, ρ p.1 = some r ∧ RowH P ρ r p.2.1 p.2.2 (w.heap[r.b]?)) →
    Calls P f args' w fun e w' => ∃ v' ρ', e = .returned v' ∧ ρ.le ρ' ∧ V ρ' x.v v' ∧ w'.os = w.os ∧ w'.tape = w.tape ∧ w'.output = w.output ∧ w.heap.size ≤ w'.heap.size ∧ (∀ b, b < w.heap.size → w'.heap[b]? = w.heap[b]?) ∧
      (∀ n, n < x.next → ρ' n = ρ n) ∧ (∀ n, x.next' ≤ n → ρ' n = none) ∧ x.next ≤ x.next' ∧
      (∀ p, p ∈ x.new → x.next ≤ p.1 ∧ p.1 < x.next' ∧ ∃ r, ρ' p.1 = some r ∧ w.heap.size ≤ r.b ∧ ObjR P ρ' r (.cells p.2.1 p.2.2) (w'.heap[r.b]?)) ∧
      (∀ p q r s, p ∈ x.new → q ∈ x.new → ρ' p.1 = some r → ρ' q.1 = some s → r.b = s.b → p.1 = q.1)
theorem rowsSame_some : ∀ {l : List (Nat × List AVal × TypeId)} {h : AHeap}, rowsSame l h = true → ∀ p, p ∈ l → ∃ own, IsRow (h.get p.1) p.2.1 p.2.2 own := by
  intro l
  induction l with
  | nil => intro h _ p hp; cases hp
  | cons q l ih =>
    intro h hs p hp
    have hs' : ifT (tb (onRow (h.get q.1) fun c e _ => some (and (Nat.beq e q.2.2) (sameL (sameA 20) c q.2.1)))) (rowsSame l h) false = true := hs
    cases ht : tb (onRow (h.get q.1) fun c e _ => some (and (Nat.beq e q.2.2) (sameL (sameA 20) c q.2.1))) with
    | false => rw [ht] at hs'; cases hs'
    | true =>
      rw [ht] at hs'
      have hs' : rowsSame l h = true := hs'
      rcases List.mem_cons.1 hp with rfl | hp
      · obtain ⟨c, e, own, hrow, hk⟩ := onRow_row (tb_true ht)
        simp only [Option.some.injEq, Bool.and_eq_true, Nat.beq_eq] at hk
        obtain ⟨rfl, hc⟩ := hk
        have := sameL_sound (fun x y => sameA_sound 20 x y) hc
        exact ⟨own, by rw [← this]; exact hrow⟩
      · exact ih hs' p hp
theorem setRows_get : ∀ (l : List (Nat × List AVal × TypeId)) (t : T AObj) (n : Nat), (∃ p, p ∈ l ∧ p.1 = n ∧ (setRows l t).get n = some (.cells p.2.1 p.2.2)) ∨ ((∀ p, p ∈ l → p.1 ≠ n) ∧ (setRows l t).get n = t.get n) := by
  intro l
  induction l with
  | nil => intro t n; exact .inr ⟨(fun p hp => nomatch hp), rfl⟩
  | cons q l ih =>
    intro t n
    have e : setRows (q :: l) t = setRows l (t.set q.1 (.cells q.2.1 q.2.2)) := rfl
    rw [e]
    rcases ih (t.set q.1 (.cells q.2.1 q.2.2)) n with ⟨p, hp, hn, hg⟩ | ⟨hne, hg⟩
    · exact .inl ⟨p, List.mem_cons_of_mem _ hp, hn, hg⟩
    · by_cases hq : q.1 = n
      · refine .inl ⟨q, by simp, hq, ?_⟩
        rw [hg, ← hq, T.get_set_same]
      · refine .inr ⟨fun p hp => ?_, ?_⟩
        · rcases List.mem_cons.1 hp with rfl | hp
          · exact hq
          · exact hne p hp
        · rw [hg, T.get_set_ne _ _ hq]
theorem row_at (H : WR P K W0 ρ h w) {n : Nat} {l : List AVal} {e : TypeId} {own : Bool} (hr : IsRow (h.get n) l e own) : ∃ r, ρ n = some r ∧ RowH P ρ r l e (w.heap[r.b]?) := by
  rcases hr with ⟨rfl, hb⟩ | ⟨rfl, hb⟩
  · obtain ⟨r, h1, _, h2, _⟩ := H.obj n _ hb trivial
    exact ⟨r, h1, h2.hold⟩
  · obtain ⟨r, h1, _, h2⟩ := H.obj n _ hb trivial
    exact ⟨r, h1, h2⟩
theorem fix_prim {f : FuncId} {x : Fix} (hf : FixS P f x) {args : List AVal} {v : AVal} {h' : AHeap} (hp : primA (.fix x) args h = some (v, h')) :
    Enters P f ∧ ∀ (K : Keep) (W0 : World) (ρ : Ren) (w : World) (args' : Array Value), VL ρ args args'.toList → WR P K W0 ρ h w → Calls P f args' w (CPost P K W0 ρ v h') := by
  refine ⟨hf.1, fun K W0 ρ w args' hargs H => ?_⟩
  have hp' : ifT (and (sameL (sameA 20) args x.args) (and (Nat.beq h.next x.next) (rowsSame x.rows h))) (some (x.v, (⟨x.next', setRows x.new h.t⟩ : AHeap))) none = some (v, h') := hp
  rw [ifT_some] at hp'
  obtain ⟨hc, hp'⟩ := hp'
  simp only [Bool.and_eq_true, Nat.beq_eq] at hc
  obtain ⟨ha, hnext, hrows⟩ := hc
  cases hp'
  have ha := sameL_sound (fun x y => sameA_sound 20 x y) ha
  subst ha
  have hrows := rowsSame_some hrows
  refine (hf.2 w ρ args' hargs (fun b hl => ⟨Nat.lt_of_lt_of_le (H.klt b (H.lay b hl).1) H.size, by rw [H.keep b (H.lay b hl).1]; exact (H.lay b hl).2⟩) (fun n hn => (H.fresh n (by omega)).1) (fun p hp => ?_)).mono ?_
  · obtain ⟨own, hrow⟩ := hrows p hp
    obtain ⟨r, h1, h2⟩ := row_at H hrow
    refine ⟨?_, r, h1, h2⟩
    by_cases hlt : p.1 < x.next
    · exact hlt
    · have := (H.fresh p.1 (by omega)).1
      rw [h1] at this; cases this
  · rintro e w' ⟨v', ρ', rfl, hle, hv, hos, htape, hout, hsize, hkeep, hold, hfresh, hnn, hnew, hinj⟩
    refine ⟨v', ρ', rfl, hle, hv, ?_⟩
    have hget : ∀ n o, (setRows x.new h.t).get n = some o → (∃ p, p ∈ x.new ∧ p.1 = n ∧ o = .cells p.2.1 p.2.2) ∨ ((∀ p, p ∈ x.new → p.1 ≠ n) ∧ h.get n = some o) := by
      intro n o hn
      rcases setRows_get x.new h.t n with ⟨p, hp, hpn, hg⟩ | ⟨hne, hg⟩
      · rw [hg] at hn; cases hn; exact .inl ⟨p, hp, hpn, rfl⟩
      · rw [hg] at hn; exact .inr ⟨hne, hn⟩
    have hlive : ∀ n o, h.get n = some o → o.live → ∃ r, ρ n = some r ∧ ρ' n = some r ∧ r.b < w.heap.size := by
      intro n o hn hl
      obtain ⟨r, hr, _, _⟩ := H.obj n o hn hl
      exact ⟨r, hr, hle _ _ hr, H.lt hn hl hr⟩
    refine ⟨hos.trans H.os, htape.trans H.tape, hout.trans H.output, Nat.le_trans H.size hsize, H.klt, fun b hb => ?_, fun n hn => ?_, fun n o hn hl => ?_, fun n m o p r s hn ho hm hl hr hs e => ?_, ?_, fun n hn => ?_, H.gk, fun n o r hn hl hr hg => ?_, H.lay⟩
    · rw [hkeep b (Nat.lt_of_lt_of_le (H.klt b hb) H.size)]; exact H.keep b hb
    · refine ⟨hfresh n hn, ?_⟩
      show (setRows x.new h.t).get n = none
      rcases setRows_get x.new h.t n with ⟨p, hp, hpn, _⟩ | ⟨_, hg⟩
      · have hn' : x.next' ≤ n := hn
        have := (hnew p hp).2.1; omega
      · rw [hg]
        have hn' : x.next' ≤ n := hn
        exact (H.fresh n (by omega)).2
    · rcases hget n o hn with ⟨p, hp, rfl, rfl⟩ | ⟨_, hn⟩
      · obtain ⟨_, _, r, hr, hb, hob⟩ := hnew p hp
        exact ⟨r, hr, fun _ hk => by have := H.klt _ hk; have := H.size; omega, hob⟩
      · obtain ⟨r, hr, hk, hob⟩ := H.obj n o hn hl
        refine ⟨r, hle _ _ hr, hk, ?_⟩
        rw [hkeep _ (H.lt hn hl hr)]
        exact hob.mono hle
    · rcases hget n o hn with ⟨p1, hp1, rfl, rfl⟩ | ⟨_, hn⟩
      · obtain ⟨_, _, r1, hr1, hb1, _⟩ := hnew p1 hp1
        rw [hr1] at hr; cases hr
        rcases hget m p hm with ⟨p2, hp2, rfl, rfl⟩ | ⟨_, hm⟩
        · exact hinj p1 p2 r s hp1 hp2 hr1 hs e
        · obtain ⟨s1, _, hs1, hlt⟩ := hlive m p hm hl
          rw [hs1] at hs; cases hs; omega
      · obtain ⟨r1, hr1, hr1', hlt1⟩ := hlive n o hn ho.live
        rw [hr1'] at hr; cases hr
        rcases hget m p hm with ⟨p2, hp2, rfl, rfl⟩ | ⟨_, hm⟩
        · obtain ⟨_, _, s1, hs1, hb1, _⟩ := hnew p2 hp2
          rw [hs1] at hs; cases hs; omega
        · obtain ⟨s1, hs1, hs1', hlt⟩ := hlive m p hm hl
          rw [hs1'] at hs; cases hs
          exact H.inj _ _ _ _ _ _ hn ho hm hl hr1 hs1 e
    · have := H.nx; show K.n0 ≤ x.next'; omega
    · rw [hold n (by have := H.nx; omega)]; exact H.old n hn
    · rcases hget n o hn with ⟨p1, hp1, rfl, rfl⟩ | ⟨_, hn⟩
      · obtain ⟨_, _, r1, hr1, hb1, _⟩ := hnew p1 hp1
        rw [hr1] at hr; cases hr
        have := H.klt _ (H.gk _ hg); have := H.size; omega
      · obtain ⟨r1, hr1, hr1', hlt1⟩ := hlive n o hn hl
        rw [hr1'] at hr; cases hr
        exact H.hid _ _ _ hn hl hr1 hg
end
end Go.AX
namespace Go.AX
open Go.RowKit
noncomputable def roRows (l : List (Nat × List AVal × TypeId)) : T AObj → T AObj :=
  @List.rec (Nat × List AVal × TypeId) (fun _ => T AObj → T AObj) (fun t => t) (fun p _ ih t => ih (t.set p.1 (.ro p.2.1 p.2.2))) l
noncomputable def Fix.h0 (x : Fix) : AHeap := ⟨x.next, roRows x.rows .nil⟩
noncomputable def newSame (lo hi : Nat) (l : List (Nat × List AVal × TypeId)) (h : AHeap) : Bool :=
  @List.rec (Nat × List AVal × TypeId) (fun _ => Bool) true (fun p _ ih => ifT (and (Nat.ble lo p.1) (and (Nat.blt p.1 hi) (tb (onCells (h.get p.1) fun c e => some (and (Nat.beq e p.2.2) (sameL (sameA 20) c p.2.1)))))) ih false) l
noncomputable def Fix.done (x : Fix) (r : R) : Bool :=
  tb (ob r fun r => some (and (sameA 20 r.1 x.v) (and (Nat.ble r.2.next x.next') (and (Nat.ble x.next x.next') (newSame x.next x.next' x.new r.2)))))
theorem newSame_some : ∀ {l : List (Nat × List AVal × TypeId)} {lo hi : Nat} {h : AHeap}, newSame lo hi l h = true → ∀ p, p ∈ l → lo ≤ p.1 ∧ p.1 < hi ∧ h.get p.1 = some (.cells p.2.1 p.2.2) := by
  intro l
  induction l with
  | nil => intro lo hi h _ p hp; cases hp
  | cons q l ih =>
    intro lo hi h hs p hp
    have hs' : ifT (and (Nat.ble lo q.1) (and (Nat.blt q.1 hi) (tb (onCells (h.get q.1) fun c e => some (and (Nat.beq e q.2.2) (sameL (sameA 20) c q.2.1)))))) (newSame lo hi l h) false = true := hs
    cases ht : and (Nat.ble lo q.1) (and (Nat.blt q.1 hi) (tb (onCells (h.get q.1) fun c e => some (and (Nat.beq e q.2.2) (sameL (sameA 20) c q.2.1))))) with
    | false => rw [ht] at hs'; cases hs'
    | true =>
      rw [ht] at hs'
      have hs' : newSame lo hi l h = true := hs'
      rcases List.mem_cons.1 hp with rfl | hp
      · simp only [Bool.and_eq_true, Nat.ble_eq, Nat.blt_eq] at ht
        obtain ⟨h1, h2, h3⟩ := ht
        obtain ⟨c, e, hc, hk⟩ := onCells_some.1 (tb_true h3)
        simp only [Option.some.injEq, Bool.and_eq_true, Nat.beq_eq] at hk
        obtain ⟨rfl, hk⟩ := hk
        have := sameL_sound (fun x y => sameA_sound 20 x y) hk
        exact ⟨h1, h2, by rw [← this]; exact hc⟩
      · exact ih hs' p hp
theorem roRows_get : ∀ (l : List (Nat × List AVal × TypeId)) (t : T AObj) (n : Nat) (o : AObj), (roRows l t).get n = some o → (∃ p, p ∈ l ∧ p.1 = n ∧ o = .ro p.2.1 p.2.2) ∨ t.get n = some o := by
  intro l
  induction l with
  | nil => intro t n o h; exact .inr h
  | cons q l ih =>
    intro t n o h
    have e : roRows (q :: l) t = roRows l (t.set q.1 (.ro q.2.1 q.2.2)) := rfl
    rw [e] at h
    rcases ih _ n o h with ⟨p, hp, hn, ho⟩ | hg
    · exact .inl ⟨p, List.mem_cons_of_mem _ hp, hn, ho⟩
    · by_cases hq : q.1 = n
      · rw [← hq, T.get_set_same] at hg; cases hg
        exact .inl ⟨q, by simp, hq, rfl⟩
      · rw [T.get_set_ne _ _ hq] at hg; exact .inr hg
theorem WR.start {P : Program} [Lay P] {w : World} {ρ : Ren} {next : Nat} {rows : List (Nat × List AVal × TypeId)} (hlay : ∀ b, Lay.dom P b → b < w.heap.size ∧ Lay.lay P b (w.heap[b]?)) (hρ : ∀ n, next ≤ n → ρ n = none)
    (hrows : ∀ p, p ∈ rows → p.1 < next ∧ ∃ r, ρ p.1 = some r ∧ RowH P ρ r p.2.1 p.2.2 (w.heap[r.b]?)) :
    WR P ⟨fun b => b < w.heap.size, next, ρ, fun _ => False⟩ w ρ ⟨next, roRows rows .nil⟩ w := by
  have hget : ∀ n o, (roRows rows .nil).get n = some o → ∃ p, p ∈ rows ∧ p.1 = n ∧ o = .ro p.2.1 p.2.2 := by
    intro n o hn
    rcases roRows_get _ _ _ _ hn with h | h
    · exact h
    · rw [T.get_nil] at h; cases h
  refine ⟨rfl, rfl, rfl, Nat.le_refl _, fun _ h => h, fun _ _ => rfl, fun n hn => ⟨hρ n hn, ?_⟩, fun n o hn hl => ?_, fun n m o p r s hn ho => ?_, Nat.le_refl _, fun _ _ => rfl, fun _ h => h.elim, fun _ _ _ _ _ _ h => h, hlay⟩
  · show (roRows rows .nil).get n = none
    cases hg : (roRows rows .nil).get n with
    | none => rfl
    | some o =>
      obtain ⟨p, hp, rfl, _⟩ := hget n o hg
      have := (hrows p hp).1
      have hn' : next ≤ p.1 := hn
      omega
  · obtain ⟨p, hp, rfl, rfl⟩ := hget n o hn
    obtain ⟨_, r, hr, hR⟩ := hrows p hp
    exact ⟨r, hr, fun h => h.elim, hR⟩
  · obtain ⟨q, _, _, rfl⟩ := hget n o hn
    exact ho.elim
theorem fix_of_run {P : Program} [Lay P] {callf : CallF} (hcall : CallS P callf) {f : FuncId} {x : Fix} (h : x.done (callf f x.args x.h0) = true) : FixS P f x := by
  unfold Fix.done at h
  have h := tb_true h
  rw [ob_some] at h
  obtain ⟨⟨v, h'⟩, hrun, hk⟩ := h
  simp only [Option.some.injEq, Bool.and_eq_true, Nat.ble_eq] at hk
  obtain ⟨hv, hn, hnn, hnew⟩ := hk
  have hv : v = x.v := sameA_sound 20 _ _ hv
  subst hv
  have hnew := newSame_some hnew
  have hc := hcall f x.args x.h0 _ h' hrun
  refine ⟨hc.1, fun w ρ args' hargs hlay hρ hrows => ?_⟩
  refine (hc.2 _ w ρ w args' hargs (WR.start hlay hρ hrows)).mono ?_
  rintro e w' ⟨v', ρ', rfl, hle, hv', H⟩
  refine ⟨v', ρ', rfl, hle, hv', H.os, H.tape, H.output, H.size, fun b hb => H.keep b hb, fun n hn => H.old n hn, fun n hn' => (H.fresh n (by omega)).1, hnn, fun p hp => ?_, fun p q r s hp hq hr hs e => ?_⟩
  · obtain ⟨h1, h2, h3⟩ := hnew p hp
    obtain ⟨r, hr, hk, ho⟩ := H.obj _ _ h3 trivial
    refine ⟨h1, h2, r, hr, ?_, ho⟩
    exact Nat.le_of_not_lt (hk trivial)
  · exact H.inj _ _ _ _ _ _ (hnew p hp).2.2 trivial (hnew q hq).2.2 trivial hr hs e
end Go.AX
namespace Go.AX
open Go.RowKit
noncomputable def noCall : CallF := fun _ _ _ => none
section
variable {E : Env} {P : Program} [Lay P] {K : Keep} {W0 : World} {ρ : Ren} {fr : Fr} {h : AHeap} {w : World} {a : Act} {F : Fence} {n : Nat}
theorem opF_noCall {c : COp} {r : AVal × AHeap} (hs : opF E noCall c fr h = some r) : stepOp c fr h = some r := by
  cases c with
  | call f as =>
    exfalso
    have hs' : doCall noCall f as fr h = some r := hs
    unfold doCall at hs'
    rw [onFunc_some] at hs'
    obtain ⟨g, x, y, _, hs'⟩ := hs'
    rw [ifT_some] at hs'
    cases hs'.2
  | invoke x nm as =>
    exfalso
    have hs' : doInvoke E noCall x nm as fr h = some r := hs
    unfold doInvoke at hs'
    generalize evC x fr = q at hs'
    cases q <;> first | (cases hs'; done) | skip
    rename_i t v
    have hs2 : (ob (E.meth t nm) fun m => ob (recvA E t m.2 v h) fun v => noCall m.1 (v :: evCs as fr) h) = some r := hs'
    rw [ob_some] at hs2
    obtain ⟨m, _, hs2⟩ := hs2
    rw [ob_some] at hs2
    obtain ⟨_, _, hs2⟩ := hs2
    cases hs2
  | _ => exact hs
theorem runOp_in (hF : ∀ f, F.fn f) (hE : EnvOK E P) {nt : Nat} {ops : Array Oper} {o : Oper} {co : COper} (hc : cOper E nt ops o = some co)
    (hf : FR ρ fr a.tmps) (H : WR P K W0 ρ h w) {v : AVal} {h' : AHeap} (hs : runOp E noCall co fr h = some (v, h')) {next : Act → World → Prop} {Q : Exit → Act → World → Prop}
    (hn : ∀ v' w' ρ', ρ.le ρ' → V ρ' v v' → WR P K W0 ρ' h' w' → next (a.put o.dst v') w') :
    if Region.wanted o (yielded ops a.tmps) then o.wpIn F n P a w next Q else (∀ f, o.about P w a.eval = some f → F.fn f) ∧ next (a.put o.dst undef) w := by
  obtain ⟨hdst, hd, hop⟩ := cOper_inv hc
  unfold runOp at hs
  rw [guard_eq hc hf, ifT_eq] at hs
  split at hs
  · rename_i hw
    rw [if_pos hw]
    cases hco : cOp E o.op with
    | none =>
      rw [hco] at hop
      rw [hop] at hs
      cases hs
    | some c =>
      rw [hco] at hop
      rw [hop] at hs
      have hs' := opF_noCall hs
      obtain ⟨nx, v', w', ρ', h1, h2, h3, h4, h5⟩ := okS_all hE o.op rfl hco hf H hs'
      refine ⟨fun f _ => hF f, ?_⟩
      have hnd : ∀ c, o.op ≠ .defer c := by
        intro c e
        rw [e] at hco
        cases hco
      rw [Oper.semAt_plain F a.eval o hnd, h1]
      rcases h2 with rfl | ⟨rfl, rfl⟩
      · exact hn _ _ _ h3 h4 h5
      · exact hn _ _ _ h3 h4 h5
  · rename_i hw
    rw [if_neg hw]
    cases hs
    exact ⟨fun f _ => hF f, hn undef w ρ (Ren.le_refl _) (undef_V _) H⟩
def NQ (P : Program) [Lay P] (K : Keep) (W0 : World) (nt : Nat) (ρ : Ren) (a0 : Act) (fr' : Fr) (h' : AHeap) (a : Act) (w : World) : Prop :=
  a.defers = a0.defers ∧ nt ≤ a.tmps.size ∧ ∃ ρ', ρ.le ρ' ∧ FR ρ' fr' a.tmps ∧ WR P K W0 ρ' h' w
theorem runOps_in (hF : ∀ f, F.fn f) (hE : EnvOK E P) {nt : Nat} {ops : Array Oper} {Q : Exit → Act → World → Prop} {rest : List Nat} : ∀ (l : List COper) (is : List Nat), is.mapM (fun i => (ops[i]?).bind (cOper E nt ops)) = some l →
    ∀ {ρ : Ren} {fr : Fr} {h : AHeap} {w : World} {a : Act} {fr' : Fr} {h' : AHeap}, nt ≤ a.tmps.size → FR ρ fr a.tmps → WR P K W0 ρ h w → runOps E noCall l fr h = some (fr', h') →
      (∀ a1 w1, NQ P K W0 nt ρ a fr' h' a1 w1 → wpOpsIn F n P ops Q rest a1 w1) → wpOpsIn F n P ops Q (is ++ rest) a w := by
  intro l
  induction l with
  | nil =>
    intro is his ρ fr h w a fr' h' hn hf H hs hQ
    cases is with
    | nil =>
      simp only [runOps, Option.some.injEq, Prod.mk.injEq] at hs
      obtain ⟨rfl, rfl⟩ := hs
      exact hQ a w ⟨rfl, hn, ρ, Ren.le_refl _, hf, H⟩
    | cons i is =>
      simp only [List.mapM_cons, Option.bind_eq_bind, Option.bind_eq_some_iff] at his
      obtain ⟨_, _, _, _, h3⟩ := his
      cases h3
  | cons c l ih =>
    intro is his ρ fr h w a fr' h' hn hf H hs hQ
    cases is with
    | nil => simp at his
    | cons i is =>
      simp only [List.mapM_cons, Option.bind_eq_bind, Option.bind_eq_some_iff] at his
      obtain ⟨co, ⟨o, ho, hc⟩, l', h2, h3⟩ := his
      cases h3
      have hs' : (ob (runOp E noCall c fr h) fun r => runOps E noCall l (putA c.dst fr r.1) r.2) = some (fr', h') := hs
      rw [ob_some] at hs'
      obtain ⟨⟨v, h1⟩, hr, hs'⟩ := hs'
      obtain ⟨hdst, hd, _⟩ := cOper_inv hc
      show wpOpsIn F n P ops Q (i :: (is ++ rest)) a w
      unfold wpOpsIn
      rw [ho]
      refine runOp_in hF hE hc hf H hr fun v' w' ρ' k1 k2 k3 => ?_
      have hf' : FR ρ' (putA c.dst fr v) (a.put o.dst v').tmps := by rw [hdst]; exact FR.put (hf.mono k1) hd hn k2
      refine ih is h2 (a := a.put o.dst v') (by rw [put_size]; exact hn) hf' k3 hs' fun a1 w1 hq => hQ a1 w1 ?_
      obtain ⟨e2, e3, ρ2, e4, e5, e6⟩ := hq
      exact ⟨by rw [e2, put_defs], e3, ρ2, Ren.le_trans k1 e4, e5, e6⟩
def plainC : Code → Bool
  | .skip | .ret | .exit _ | .label _ => true
  | .region _ _ d => !d
  | .seq x y => plainC x && plainC y
  | .cond _ x y => plainC x && plainC y
  | .block _ x => plainC x
  | _ => false
theorem exec_in (hF : ∀ f, F.fn f) (hE : EnvOK E P) (lf : Nat) {nt : Nat} {plans : List (Nat × List Nat)} :
    ∀ (c : Code), plainC c = true → ∀ {cc : CCode}, cCode E nt plans c = some cc → ∀ {ρ : Ren} {fr : Fr} {h : AHeap} {w : World} {a : Act} {o : Out}, nt ≤ a.tmps.size → FR ρ fr a.tmps → WR P K W0 ρ h w → exec E noCall lf cc fr h = some o →
      c.wpIn F n P (XQ P K W0 nt ρ a o) a w := by
  intro c
  induction c with
  | skip =>
    intro _ cc hc ρ fr h w a o hn hf H hs
    cases hc
    cases hs
    exact wpIn_skip ⟨rfl, rfl, hn, ρ, Ren.le_refl _, hf, H⟩
  | label l =>
    intro _ cc hc ρ fr h w a o hn hf H hs
    cases hc
    cases hs
    exact wpIn_label ⟨rfl, rfl, hn, ρ, Ren.le_refl _, hf, H⟩
  | ret =>
    intro _ cc hc ρ fr h w a o hn hf H hs
    cases hc
    cases hs
    exact wpIn_ret ⟨rfl, rfl, hn, ρ, Ren.le_refl _, hf, H⟩
  | exit id =>
    intro _ cc hc ρ fr h w a o hn hf H hs
    cases hc
    cases hs
    exact wpIn_exit ⟨rfl, rfl, hn, ρ, Ren.le_refl _, hf, H⟩
  | region id ops draw =>
    intro hp cc hc ρ fr h w a o hn hf H hs
    unfold cCode at hc
    cases draw with
    | true => cases hp
    | false =>
      simp only [Bool.false_eq_true, if_false, Option.bind_eq_bind, Option.bind_eq_some_iff] at hc
      obtain ⟨l, hl, hc⟩ := hc
      cases hc
      have hs' : (ob (runOps E noCall l fr h) fun p => some (⟨.normal, p.1, p.2⟩ : Out)) = some o := hs
      rw [ob_some] at hs'
      obtain ⟨⟨fr', h'⟩, hr, ho⟩ := hs'
      cases ho
      refine wpIn_region ?_
      have := runOps_in (n := n) (Q := XQ P K W0 nt ρ a ⟨.normal, fr', h'⟩) (rest := []) hF hE l _ (range_mapM _ ops hl) hn hf H hr (fun a1 w1 hq => ⟨rfl, hq.1, hq.2.1, hq.2.2⟩)
      simpa using this
  | seq x y ihx ihy =>
    intro hp cc hc ρ fr h w a o hn hf H hs
    have hp : (plainC x && plainC y) = true := hp
    rw [Bool.and_eq_true] at hp
    simp only [cCode, Option.bind_eq_bind, Option.bind_eq_some_iff] at hc
    obtain ⟨cx, hx, cy, hy, hc⟩ := hc
    cases hc
    have hs' : andThen (exec E noCall lf cx fr h) (exec E noCall lf cy) = some o := hs
    obtain ⟨o1, h1, h2⟩ := andThen_some hs'
    refine wpIn_seq (wpIn_mono (ihx hp.1 hx hn hf H h1) fun e a1 w1 hq => ?_)
    rcases h2 with ⟨he, h2⟩ | ⟨he, rfl⟩
    · have e1 : e = .normal := by rw [hq.e, he]; rfl
      subst e1
      obtain ⟨ρ1, k1, k2, k3⟩ := hq.rest
      exact wpIn_mono (ihy hp.2 hy hq.size k2 k3 h2) fun e a2 w2 hq2 => hq2.trans k1 hq.defers
    · have e1 : e ≠ .normal := by rw [hq.e]; exact fun h => he (AExit.out_normal.1 h)
      cases e <;> first | exact absurd rfl e1 | exact hq
  | cond x y z ihy ihz =>
    intro hp cc hc ρ fr h w a o hn hf H hs
    have hp : (plainC y && plainC z) = true := hp
    rw [Bool.and_eq_true] at hp
    simp only [cCode, Option.bind_eq_bind, Option.bind_eq_some_iff] at hc
    obtain ⟨cx, hx, cy, hy, cz, hz, hc⟩ := hc
    cases hc
    have hs' : (onBool (evC cx fr) fun b => ifT b (exec E noCall lf cy fr h) (exec E noCall lf cz fr h)) = some o := hs
    rw [onBool_some] at hs'
    obtain ⟨b, hb, hs'⟩ := hs'
    have vx := ev_sound hf hx
    rw [hb] at vx
    refine wpIn_cond vx.bool_inv ?_
    cases b with
    | true => exact ihy hp.1 hy hn hf H hs'
    | false => exact ihz hp.2 hz hn hf H hs'
  | block id body ih =>
    intro hp cc hc ρ fr h w a o hn hf H hs
    simp only [cCode, Option.bind_eq_bind, Option.bind_eq_some_iff] at hc
    obtain ⟨cx, hx, hc⟩ := hc
    cases hc
    have hs' : unblock id (exec E noCall lf cx fr h) = some o := hs
    unfold unblock at hs'
    rw [ob_some] at hs'
    obtain ⟨o1, h1, h2⟩ := hs'
    refine wpIn_block (wpIn_mono (ih hp hx hn hf H h1) fun e a1 w1 hq => ?_)
    have he := hq.e
    obtain ⟨e1, f1, hh1⟩ := o1
    cases e1 with
    | normal => cases h2; rw [he]; exact hq.re rfl rfl rfl
    | ret => cases h2; rw [he]; exact hq.re rfl rfl rfl
    | exit j =>
      have h2' : ifT (Nat.beq j id) (some (⟨.normal, f1, hh1⟩ : Out)) (some ⟨.exit j, f1, hh1⟩) = some o := h2
      rw [ifT_eq] at h2'
      rw [he]
      show (if j = id then XQ P K W0 nt ρ a o .normal a1 w1 else XQ P K W0 nt ρ a o (.exit j) a1 w1)
      split at h2'
      · rename_i hj
        rw [Nat.beq_eq] at hj
        rw [if_pos hj]
        cases h2'
        exact hq.re rfl rfl rfl
      · rename_i hj
        rw [Nat.beq_eq] at hj
        rw [if_neg hj]
        cases h2'
        exact hq.re rfl rfl rfl
  | _ =>
    intro hp
    cases hp
end
end Go.AX
namespace Go.AX
open Go.RowKit
section
variable {E : Env} {P : Program} [Lay P] {K : Keep} {W0 : World} {ρ : Ren} {fr : Fr} {h : AHeap} {w : World} {a : Act}
theorem WR.other (H : WR P K W0 ρ h w) {b : Nat} {o : Obj} (hk : ¬ K b) (hfree : ∀ m p s, h.get m = some p → p.live → ρ m = some s → s.b ≠ b) : WR P K W0 ρ h (w.putObj b o) := by
  have hne : ∀ c, c ≠ b → (w.putObj b o).heap[c]? = w.heap[c]? := fun c hc => by
    show (w.heap.setIfInBounds b o)[c]? = _
    rw [Array.getElem?_setIfInBounds_ne (Ne.symm hc)]
  refine ⟨H.os, H.tape, H.output, by show _ ≤ (w.heap.setIfInBounds b o).size; simp; exact H.size, H.klt, fun c hc => ?_, H.fresh, fun n x hn hl => ?_, H.inj, H.nx, H.old, H.gk, H.hid, H.lay⟩
  · rw [hne c (fun e => hk (e ▸ hc))]; exact H.keep c hc
  · obtain ⟨r, hr, hkr, ho⟩ := H.obj n x hn hl
    exact ⟨r, hr, hkr, by rw [hne _ (hfree n x r hn hl hr)]; exact ho⟩
theorem WR.bump (H : WR P K W0 ρ h w) {m : Nat} (hm : h.next ≤ m) : WR P K W0 ρ ⟨m, h.t⟩ w :=
  ⟨H.os, H.tape, H.output, H.size, H.klt, H.keep, fun n hn => H.fresh n (Nat.le_trans hm hn), H.obj, H.inj, Nat.le_trans H.nx hm, H.old, H.gk, H.hid, H.lay⟩
structure LW (P : Program) [Lay P] (K : Keep) (W0 : World) (ρ : Ren) (h : AHeap) (w : World) (l D : Nat) (rec : Loop) : Prop where
  wr : WR P K W0 ρ h w
  ho : ∀ b, (b = l ∨ b = D) → b < w.heap.size ∧ ¬ K b
  hid : ∀ m p s, h.get m = some p → p.live → ρ m = some s → ¬ (s.b = l ∨ s.b = D)
  hl : w.heap[l]? = some (.loop rec)
  hD : w.heap[D]? = some (.deferred (some []))
noncomputable def LK (K : Keep) (ρ : Ren) (h : AHeap) (l D : Nat) : Keep := ⟨fun b => K b ∨ (b = l ∨ b = D), h.next, ρ, fun b => K.g b ∨ (b = l ∨ b = D)⟩
theorem LW.go {l D : Nat} {rec : Loop} (H : LW P K W0 ρ h w l D rec) : WR P (LK K ρ h l D) w ρ h w :=
  H.wr.restart (Nat.le_refl _) (G := fun b => b = l ∨ b = D) (fun b hb => (H.ho b hb).1) H.hid
theorem LW.back {l D : Nat} {rec : Loop} (H : LW P K W0 ρ h w l D rec) {ρ' : Ren} {h' : AHeap} {w' : World} (H' : WR P (LK K ρ h l D) w ρ' h' w') : LW P K W0 ρ' h' w' l D rec := by
  refine ⟨H.wr.rebase H' (fun b hb => .inl hb) (fun b hb => .inl hb) H.wr.nx (fun _ _ => rfl), fun b hb => ⟨Nat.lt_of_lt_of_le (H.ho b hb).1 H'.size, (H.ho b hb).2⟩, fun m p s hm hl hs hb => H'.hid m p s hm hl hs (.inr hb), ?_, ?_⟩
  · rw [H'.keep l (.inr (.inl rfl))]; exact H.hl
  · rw [H'.keep D (.inr (.inr rfl))]; exact H.hD
theorem LW.put {l D : Nat} {rec rec' : Loop} (H : LW P K W0 ρ h w l D rec) (hne : l ≠ D) : LW P K W0 ρ h (w.putObj l (.loop rec')) l D rec' := by
  have hs : (w.putObj l (.loop rec')).heap.size = w.heap.size := by show (w.heap.setIfInBounds l _).size = _; simp
  refine ⟨H.wr.other (H.ho l (.inl rfl)).2 fun m p s hm hlv hs e => H.hid m p s hm hlv hs (.inl e), fun b hb => ⟨by rw [hs]; exact (H.ho b hb).1, (H.ho b hb).2⟩, H.hid, World.putObj_heap_same (H.ho l (.inl rfl)).1, ?_⟩
  rw [World.putObj_heap_other (Ne.symm hne)]; exact H.hD
theorem LW.start (H : WR P K W0 ρ h w) (rec : Loop) : LW P K W0 ρ h ((w.alloc (.deferred (some []))).alloc (.loop rec)) (w.heap.size + 1) w.heap.size rec := by
  have h1 := (H.alloc (.deferred (some []))).alloc (.loop rec)
  have hsz : ((w.alloc (.deferred (some []))).alloc (.loop rec)).heap.size = w.heap.size + 2 := by simp
  refine ⟨h1, fun b hb => ⟨by rw [hsz]; omega, fun hk => ?_⟩, fun m p s hm hl hs hb => ?_, ?_, ?_⟩
  · have := H.klt b hk; have := H.size; omega
  · have := H.lt hm hl hs; omega
  · have := World.alloc_heap_new (w.alloc (.deferred (some []))) (.loop rec); rwa [World.size_alloc] at this
  · exact (Below.heap_alloc _ _ _ (by simp)).trans (World.alloc_heap_new w _)
theorem LW.bump {l D : Nat} {rec : Loop} (H : LW P K W0 ρ h w l D rec) {m : Nat} (hm : h.next ≤ m) : LW P K W0 ρ ⟨m, h.t⟩ w l D rec :=
  ⟨H.wr.bump hm, H.ho, H.hid, H.hl, H.hD⟩
theorem LW.upd {l D : Nat} {rec : Loop} (H : LW P K W0 ρ h w l D rec) {m : Nat} {r : RB} (hm : ρ m = none) (hlt : m < h.next) (hn : K.n0 ≤ m) : LW P K W0 (ρ.upd m r) h w l D rec := by
  refine ⟨H.wr.upd hm hlt hn, H.ho, fun k p s hk hl hs => ?_, H.hl, H.hD⟩
  obtain ⟨s', hs', _, _⟩ := H.wr.obj k p hk hl
  have : k ≠ m := fun e => by rw [e, hm] at hs'; cases hs'
  rw [Ren.upd_ne _ _ this] at hs
  exact H.hid k p s hk hl hs
end
end Go.AX

/-
  The second part of the soundness of a verified executor of compiled code; no conditions but those that each lemma names.
-/
import Derived.Test.YtdlebiapcceneaaGreatDoorNfa1
import Derived.Lib.UnsafeStr
set_option linter.unusedVariables false
set_option linter.unusedSimpArgs false
set_option linter.unusedSectionVars false
namespace Go.AX
open Go.RowKit
section
variable {E : Env} {P : Program} [Lay P] {K : Keep} {W0 : World} {ρ : Ren} {fr : Fr} {h : AHeap} {w : World} {a : Act}
theorem growBy_le (N : Nat) : ∀ r c, Builtin.growBy N r c ≤ c + r * (N + 768) := by
  intro r
  induction r with
  | zero => intro c; simp [Builtin.growBy]
  | succ r ih =>
    intro c
    unfold Builtin.growBy
    split
    · have := Nat.zero_le ((r + 1) * (N + 768)); omega
    · have := ih (c + (c + 768) / 4)
      have e : (r + 1) * (N + 768) = r * (N + 768) + (N + 768) := Nat.succ_mul _ _
      omega
theorem nextcap_le {need cap : Nat} (h : cap < need) : Builtin.nextslicecap need cap ≤ 5 * need + 4000 := by
  have h4 : Builtin.growBy need 4 cap ≤ cap + 4 * need + 3072 := by
    have h4 := growBy_le need 4 cap
    rw [Nat.mul_add, ← Nat.add_assoc] at h4
    exact h4
  have h5 : Builtin.nextslicecap need cap = if need > 2 * cap then need else if cap < 256 then 2 * cap else Builtin.growBy need 4 cap := rfl
  rw [h5]
  revert h4
  generalize Builtin.growBy need 4 cap = g
  intro h4
  by_cases h6 : need > 2 * cap
  · rw [if_pos h6]; clear h5; omega
  · rw [if_neg h6]
    by_cases h7 : cap < 256
    · rw [if_pos h7]; clear h5; omega
    · rw [if_neg h7]; clear h5; omega
theorem src_sound (H : WR P K W0 ρ h w) {size n : Nat} {x : AVal} {x' : Value} {new : List AVal} (hx : V ρ x x') (hs : srcCells h size x = some (n, new)) :
    (Builtin.lenOf x').run P w = .ok n w ∧ ∃ new' : Array Value, (Builtin.firstCells size n x').run P w = .ok new' w ∧ VL ρ new new'.toList ∧ (∀ y, y ∈ new → y.flat = true) ∧ new.length = n * size := by
  unfold srcCells at hs
  split at hs
  · rename_i s
    simp only [ifT_some, Nat.beq_eq, Option.some.injEq, Prod.mk.injEq, lenL_eq] at hs
    obtain ⟨rfl, rfl, rfl⟩ := hs
    obtain ⟨bs, rfl, hbs⟩ := hx.str_inv
    have hl : s.length = bs.size := by rw [← hbs]; simp
    refine ⟨by rw [hl]; rfl, (bs.extract 0 s.length).data.map fun b => .int .u8 b.toNat, by simp [Builtin.firstCells], ?_, ?_, ?_⟩
    · unfold ofBytes
      rw [mapL_eq]
      refine VL.of_get (by simp [hl]) fun i v v' hi hi' => ?_
      rw [List.getElem?_map, Option.map_eq_some_iff] at hi
      obtain ⟨m, hm, rfl⟩ := hi
      rw [← hbs, List.getElem?_map, Option.map_eq_some_iff] at hm
      obtain ⟨b, hb, rfl⟩ := hm
      have : v' = .int .u8 (b.toNat : Int) := by
        simp [hl] at hi'
        obtain ⟨b', hb', rfl⟩ := hi'
        simp at hb
        rw [hb] at hb'; cases hb'; rfl
      rw [this]; exact .int _ _
    · intro y hy
      unfold ofBytes at hy
      rw [mapL_eq, List.mem_map] at hy
      obtain ⟨m, _, rfl⟩ := hy
      rfl
    · unfold ofBytes; rw [mapL_eq]; simp
  · rw [onSlice_some] at hs
    rcases hs with ⟨rfl, hs⟩ | ⟨b, o, m, c, ex, rfl, hs⟩
    · simp only [Option.some.injEq, Prod.mk.injEq] at hs
      obtain ⟨rfl, rfl⟩ := hs
      rw [hx.nilslice_inv]
      exact ⟨rfl, #[], rfl, .nil, (fun _ h => by cases h), (by simp)⟩
    · obtain ⟨l, e, own, hrow, hs⟩ := onRow_row hs
      rw [ifT_some] at hs
      obtain ⟨hle, hs⟩ := hs
      simp only [Option.some.injEq, Prod.mk.injEq] at hs
      obtain ⟨rfl, rfl⟩ := hs
      simp only [Bool.and_eq_true, Nat.ble_eq, lenL_eq, okL_iff, takeL_eq, dropL_eq] at hle
      have hle' : o + m * size ≤ l.length := hle.1
      rw [takeL_eq, dropL_eq]
      have hlen : ((l.drop o).take (m * size)).length = m * size := by simp; omega
      rcases hx.slice_inv with ⟨r, c', hr, rfl, _⟩ | ⟨rfl, rfl, ad, rfl⟩
      · obtain ⟨C, fz, hC, _, hd, hcl, _, _⟩ := cells_at H hrow hr
        obtain ⟨g1, g2⟩ := stretch hcl hd hle' hle.2
        refine ⟨rfl, _, ?_, g1, g2, hlen⟩
        unfold Builtin.firstCells
        exact run_loadCells hC (by omega)
      · refine ⟨rfl, #[], by simp [Builtin.firstCells, loadCells, loadCellsFrom], by simpa using VL.nil, by simp, by simp⟩
theorem zeroCells_VL {z : List AVal} {zc : Array Value} (hz : VL ρ z zc.toList) (n : Nat) : VL ρ (List.replicate n z).flatten (Builtin.zeroCells zc n).toList := by
  have hlen : z.length = zc.size := by have := hz.length; simpa using this
  have := zeros_VL hz n zc.size hlen
  exact this
theorem fresh_sound (hE : EnvOK E P) (H : WR P K W0 ρ h w) {elem : TypeId} {z : List AVal × Nat} (hz : zeroC E elem = some z) {old new : List AVal} {old' new' : Array Value} (hold : VL ρ old old'.toList) (hnew : VL ρ new new'.toList)
    (hfo : ∀ y, y ∈ old → y.flat = true) (hfn : ∀ y, y ∈ new → y.flat = true) {n len need sCap : Nat} (hn : need = len + n) (hol : old.length = len * z.2) (hnl : new.length = n * z.2) {s x : Value}
    (ho : ∀ q, (Builtin.firstCells z.2 len s).run P { w with drawn := q } = .ok old' { w with drawn := q }) (hnw : ∀ q, (Builtin.firstCells z.2 n x).run P { w with drawn := q } = .ok new' { w with drawn := q }) {bytes : Nat} :
    ∃ v' w' ρ', (do
      let newCap ← choose (.appendCap need sCap elem)
      askRoom (newCap * bytes)
      let old ← Builtin.firstCells z.2 len s
      let new ← Builtin.firstCells z.2 n x
      let rest := Builtin.zeroCells (← zeroValue elem).cells (newCap - need)
      pure (.slice (some (← newRow elem (old ++ new ++ rest))) need newCap) : Sem Value).run P w = .ok v' w' ∧ ρ.le ρ' ∧ V ρ' (.slice h.next 0 need need false) v' ∧ WR P K W0 ρ' (h.push (.cells (old ++ new) elem)) w' := by
  obtain ⟨zv, hr, hsz, hcs, hv, hfl, hlen⟩ := hE.zeroC hz
  have hρ := (H.fresh h.next (Nat.le_refl _)).1
  let t := w.tape w.drawn (.appendCap need sCap elem)
  let cap := need + t % (2 ^ 63 - need)
  have hcap : need ≤ cap := by simp [cap]
  let rest := Builtin.zeroCells zv.cells (cap - need)
  have hrest := zeroCells_VL (hv ρ) (cap - need)
  have hrl : rest.size = (cap - need) * z.2 := by
    have := hrest.length
    simp [hlen] at this
    exact this.symm
  let C := old' ++ new' ++ rest
  have hoS : old'.size = len * z.2 := by have := hold.length; simp at this; omega
  have hnS : new'.size = n * z.2 := by have := hnew.length; simp at this; omega
  have hC : C.size = cap * z.2 := by
    simp only [C, Array.size_append, hoS, hnS, hrl]
    rw [← Nat.add_mul, ← Nat.add_mul]
    congr 1; omega
  refine ⟨.slice (some ⟨w.heap.size, 0, none⟩) need cap, { w with drawn := w.drawn + 1, heap := w.heap.push (.cells C elem (0, 0)) }, ρ.upd h.next ⟨w.heap.size, 0, some (z.2, cap * z.2), al0⟩, ?_, Ren.le_upd _ hρ, ?_, ?_⟩
  · simp only [Sem.run_bind, run_choose, Question.forced, Bool.false_eq_true, if_false, Result.andThen_ok, run_askRoom]
    have e1 : (Question.appendCap need sCap elem).cut (w.tape w.drawn (.appendCap need sCap elem)) = cap := rfl
    rw [e1, ho]
    simp only [Result.andThen_ok]
    rw [hnw]
    simp only [Result.andThen_ok, hr, newRow, Sem.run_bind, run_newObj, Sem.run_pure]
    rfl
  · have := V.slice (ρ := ρ.upd h.next ⟨w.heap.size, 0, some (z.2, cap * z.2), al0⟩) (o := 0) (n := need) (c := need) (c' := cap) (ex := false) (Ren.upd_same _ _ _) (Nat.le_refl _) (fun h => by cases h)
      (fun _ => ⟨hcap, z.2, cap * z.2, rfl, by omega⟩)
    simpa using this
  · refine (H.drawn (w.drawn + 1)).newRow (h' := h.push (.cells (old ++ new) elem)) (AHeap.get_push_same _ _) (fun m hm => AHeap.get_push_ne _ _ (Ne.symm hm)) rfl (fun x hx => by simp) (fun i v hi => ?_) hcs ?_ (by rw [hC]; exact Nat.le_refl _)
    · have hall := VL.append hold hnew
      obtain ⟨v', g1, g2⟩ := hall.get hi
      refine ⟨?_, v', ?_, g2⟩
      · rcases List.mem_append.1 (List.mem_of_getElem? hi) with h | h
        · exact hfo _ h
        · exact hfn _ h
      · have hlt : i < (old' ++ new').size := by
          have := (List.getElem?_eq_some_iff.1 g1).1
          simpa using this
        show (old' ++ new' ++ rest)[i]? = some v'
        rw [Array.getElem?_append_left hlt, ← Array.getElem?_toList, Array.toList_append]
        exact g1
    · simp only [List.length_append, hol, hnl]
      rw [hC, ← Nat.add_mul, ← hn]
      exact Nat.mul_le_mul_right _ hcap
end
end Go.AX
namespace Go.AX
open Go.RowKit
section
variable {E : Env} {P : Program} [Lay P] {K : Keep} {W0 : World} {ρ : Ren} {fr : Fr} {h : AHeap} {w : World} {a : Act}
theorem append_run (hE : EnvOK E P) {t u : TypeId} {ats : Array TypeId} (ht : ats[0]? = some t) (hu : ats[1]? = some u) {elem : TypeId} (hd : E.und t = some (.slice elem)) {du : TypeDesc} (hdu : E.und u = some du) (hni : ∀ k, du ≠ .int k)
    {z : List AVal × Nat} (hz : zeroC E elem = some z) {i : TypeInfo} (hi : E.info elem = some i) (hb : 0 < i.bytes) (hb2 : i.bytes ≤ 4096) {ty : TypeId} {base : Option Addr} {len cap n : Nat} {x : Value} (hx : (Builtin.lenOf x).run P w = .ok n w) :
    (len + n ≤ cap → ∀ (new : Array Value) (ad : Addr) (w' : World), base = some ad → (Builtin.firstCells z.2 n x).run P w = .ok new w → (storeCells (ad.add (len * z.2)) new.toList).run P w = .ok () w' →
      (Builtin.append_ ats ty #[.slice base len cap, x]).run P w = .ok (.slice base (len + n) cap) w') ∧
    (len + n ≤ cap → ∀ (new : Array Value), base = none → (Builtin.firstCells z.2 n x).run P w = .ok new w → (Builtin.append_ ats ty #[.slice base len cap, x]).run P w = .ok (.slice base (len + n) cap) w) ∧
    (¬ len + n ≤ cap → len + n ≤ 1073741824 → (Builtin.append_ ats ty #[.slice base len cap, x]).run P w = ((do
      let newCap ← choose (.appendCap (len + n) cap elem)
      askRoom (newCap * i.bytes)
      let old ← Builtin.firstCells z.2 len (.slice base len cap)
      let new ← Builtin.firstCells z.2 n x
      let rest := Builtin.zeroCells (← zeroValue elem).cells (newCap - (len + n))
      pure (.slice (some (← newRow elem (old ++ new ++ rest))) (len + n) newCap)) : Sem Value).run P w) := by
  obtain ⟨zv, hr, hsz, hcs, hv, hfl, hlen⟩ := hE.zeroC hz
  have h0 : (#[Value.slice base len cap, x] : Array Value)[0]? = some (.slice base len cap) := rfl
  have h1 : (#[Value.slice base len cap, x] : Array Value)[1]? = some x := rfl
  refine ⟨?_, ?_, ?_⟩
  · rintro hle new ad w' rfl hn hr'
    unfold Builtin.append_
    simp only [ht, hu, h0, h1, Sem.run_bind, hE.run_und hd, Result.andThen_ok, hsz, hE.run_und hdu, Sem.run_pure]
    cases du <;> first
      | (exact absurd rfl (hni _))
      | (simp only [Bool.false_eq_true, if_false, Bool.not_false, if_true, hx, Sem.run_bind, Result.andThen_ok]
         rw [if_pos hle]
         simp only [Sem.run_bind, hn, Result.andThen_ok, hr', Sem.run_pure])
  · rintro hle new rfl hn
    unfold Builtin.append_
    simp only [ht, hu, h0, h1, Sem.run_bind, hE.run_und hd, Result.andThen_ok, hsz, hE.run_und hdu, Sem.run_pure]
    cases du <;> first
      | (exact absurd rfl (hni _))
      | (simp only [Bool.false_eq_true, if_false, Bool.not_false, if_true, hx, Sem.run_bind, Result.andThen_ok]
         rw [if_pos hle]
         simp only [Sem.run_bind, hn, Result.andThen_ok, Sem.run_pure])
  · intro hle hle2
    unfold Builtin.append_
    simp only [ht, hu, h0, h1, Sem.run_bind, hE.run_und hd, Result.andThen_ok, hsz, hE.run_und hdu, Sem.run_pure, Bool.false_eq_true, if_false, hx, Bool.not_false, if_true]
    rw [if_neg hle]
    have hinfo := hE.info _ _ hi
    have hcapb := nextcap_le (need := len + n) (cap := cap) (by omega)
    have hno : ¬ (Builtin.nextslicecap (len + n) cap * i.bytes > 2 ^ 48) := by
      have h5 : Builtin.nextslicecap (len + n) cap * i.bytes ≤ (5 * (len + n) + 4000) * 4096 := Nat.mul_le_mul hcapb hb2
      generalize Builtin.nextslicecap (len + n) cap * i.bytes = q at h5 ⊢
      have : (2 : Nat) ^ 48 = 281474976710656 := by decide
      omega
    have hmx : IntKind.i64.max = 9223372036854775807 := by decide
    have hb0 : ¬ i.bytes = 0 := by omega
    simp only [Sem.run_bind, run_typeInfo _ hinfo, Result.andThen_ok]
    rw [if_neg (by rw [hmx]; omega)]
    simp only [Sem.run_pure, Sem.run_bind, Result.andThen_ok, run_typeInfo _ hinfo]
    rw [if_neg hno]
    simp only [Sem.run_pure, Sem.run_bind, Result.andThen_ok]
    congr 1
    funext q w'
    simp only [Sem.run_bind, run_typeInfo _ hinfo, Result.andThen_ok]
end
end Go.AX
namespace Go.AX
open Go.RowKit
section
variable {E : Env} {P : Program} [Lay P] {K : Keep} {W0 : World} {ρ : Ren} {fr : Fr} {h : AHeap} {w : World} {a : Act}
theorem firstCells_drawn {size n : Nat} (y : Value) (q : Nat) (r : Array Value) (hy : (Builtin.firstCells size n y).run P w = .ok r w) : (Builtin.firstCells size n y).run P { w with drawn := q } = .ok r { w with drawn := q } := by
  cases y with
  | slice ad m c => cases ad with
    | none => simp only [Builtin.firstCells, Sem.run_pure, Result.ok.injEq, and_true] at hy ⊢; exact hy
    | some ad =>
      simp only [Builtin.firstCells] at hy ⊢
      have lc : ∀ (m i : Nat) (acc r : Array Value), (loadCellsFrom ad i m acc).run P w = .ok r w → (loadCellsFrom ad i m acc).run P { w with drawn := q } = .ok r { w with drawn := q } := by
        intro m
        induction m with
        | zero => intro i acc r h; simp only [loadCellsFrom, Sem.run_pure, Result.ok.injEq, and_true] at h ⊢; exact h
        | succ m ih =>
          intro i acc r h
          simp only [loadCellsFrom, Sem.run_bind, run_load] at h ⊢
          have ec : World.cell? { w with drawn := q } (ad.add i) = w.cell? (ad.add i) := rfl
          rw [ec]
          cases hcell : w.cell? (ad.add i) with
          | some v => rw [hcell] at h; simp only [Result.andThen_ok] at h ⊢; exact ih _ _ _ h
          | none =>
            rw [hcell] at h
            have ef : World.farLoad P { w with drawn := q } (ad.add i) (Mode.plain == Mode.atomic) = World.farLoad P w (ad.add i) (Mode.plain == Mode.atomic) := rfl
            rw [ef]
            cases hfar : World.farLoad P w (ad.add i) (Mode.plain == Mode.atomic) with
            | ok p => rw [hfar] at h; simp only [Result.andThen_ok] at h ⊢; exact ih _ _ _ h
            | error e => rw [hfar] at h; simp only [Result.andThen_halt] at h; cases h
      exact lc _ 0 #[] r hy
  | string sb => simp only [Builtin.firstCells, Sem.run_pure, Result.ok.injEq, and_true] at hy ⊢; exact hy
  | _ => simp [Builtin.firstCells] at hy
theorem old_sound (H : WR P K W0 ρ h w) {b off len c z : Nat} {ex : Bool} {s' : Value} (vs : V ρ (.slice b off len c ex) s') {old : List AVal} {e : TypeId} {own : Bool} (hrow : IsRow (h.get b) old e own) (hle : off + len * z ≤ old.length) (hok : own = true ∨ ∀ x, x ∈ (old.drop off).take (len * z) → x.flat = true) :
    ∃ old' : Array Value, (∀ q, (Builtin.firstCells z len s').run P { w with drawn := q } = .ok old' { w with drawn := q }) ∧ VL ρ ((old.drop off).take (len * z)) old'.toList ∧ (∀ y, y ∈ (old.drop off).take (len * z) → y.flat = true) ∧
      ((old.drop off).take (len * z)).length = len * z := by
  have hlen : ((old.drop off).take (len * z)).length = len * z := by simp; omega
  rcases vs.slice_inv with ⟨r, c', hr, rfl, _⟩ | ⟨rfl, rfl, ad, rfl⟩
  · obtain ⟨C, fz, hC, _, hd, hcl, _, _⟩ := cells_at H hrow hr
    obtain ⟨g1, g2⟩ := stretch hcl hd hle hok
    exact ⟨_, fun q => firstCells_drawn _ q _ (by unfold Builtin.firstCells; exact run_loadCells hC (by omega)), g1, g2, hlen⟩
  · refine ⟨#[], fun q => by simp [Builtin.firstCells, loadCells, loadCellsFrom], by simpa using VL.nil, by simp, hlen⟩
theorem grow_sound (H : WR P K W0 ρ h w) {b off len n c' z : Nat} {r : RB} (hr : ρ b = some r) {old new : List AVal} {new' : Array Value} {e : TypeId} (hb : h.get b = some (.cells old e)) (hle : off + len * z ≤ old.length)
    (hnv : VL ρ new new'.toList) (hnf : ∀ y, y ∈ new → y.flat = true) (hnl : new.length = n * z) (hc : len + n ≤ c') {ee : Nat} (hk : r.k = some (z, ee)) (hcc : off + c' * z ≤ ee) (hz : P.cellsOf e = z) (ho : off % z = 0) :
    ∃ w' ρ', (storeCells ⟨r.b, off + r.d + len * z, none⟩ new'.toList).run P w = .ok () w' ∧ ρ.le ρ' ∧ V ρ' (.slice h.next 0 (len + n) (len + n) false) (.slice (some ⟨r.b, off + r.d, none⟩) (len + n) c') ∧
      WR P K W0 ρ' ((h.put b .dead).push (.cells ((old.drop off).take (len * z) ++ new) e)) w' := by
  obtain ⟨C, fz, hC, hfz, hd, hcl, hkk, hK⟩ := cells_at H (own := true) (.inl ⟨rfl, hb⟩) hr
  have hfz := hfz rfl
  obtain ⟨hee, _⟩ := hkk _ _ hk
  have hlen := hnv.length
  have hnl' : new'.toList.length = n * z := by rw [← hlen, hnl]
  have hmul : len * z + n * z ≤ c' * z := by rw [← Nat.add_mul]; exact Nat.mul_le_mul_right _ hc
  obtain ⟨w', C', h1, ht, h2, h3, h4⟩ := run_storeCells (P := P) r.b (off + r.d + len * z) e fz new'.toList 0 w C hC (by omega) hfz (by
    intro v hv'
    obtain ⟨i, hi⟩ := List.mem_iff_getElem?.1 hv'
    obtain ⟨u, hu1, hu2⟩ := hnv.get' hi
    exact oneCell'_of hu2 (hnf u (List.mem_of_getElem? hu1)))
  have hρ := (H.fresh h.next (Nat.le_refl _)).1
  have hal : alP (r.d + off) (some (z, c' * z)) := by
    refine ⟨(fun h => nomatch h), fun z' x hx => ?_⟩
    cases hx
    exact Nat.dvd_add (r.al.2 _ _ hk) (Nat.dvd_of_mod_eq_zero ho)
  have hup := Ren.le_upd (⟨r.b, r.d + off, some (z, c' * z), hal⟩ : RB) hρ
  have H1 : WR P K W0 ρ (h.put b .dead) w' := H.put hb trivial hr ht.os ht.tape ht.output ht.size ht.keep (fun h => h.elim)
  refine ⟨w', _, h1, hup, ?_, H1.adopt (r := ⟨r.b, r.d + off, some (z, c' * z), hal⟩) (n := h.next) hρ (AHeap.get_push_same _ _) (fun m hm => AHeap.get_push_ne _ _ (Ne.symm hm)) (by simp [AHeap.next_push]) (by simp [AHeap.next_push, AHeap.next_put]) H.nx (hK rfl) (fun m p s hm hl hs ebb => ?_) ?_⟩
  · have := V.slice (ρ := ρ.upd h.next ⟨r.b, r.d + off, some (z, c' * z), hal⟩) (o := 0) (n := len + n) (c := len + n) (c' := c') (ex := false) (Ren.upd_same _ _ _) (Nat.le_refl _) (fun h => by cases h)
      (fun _ => ⟨hc, z, c' * z, rfl, by omega⟩)
    rw [show (0 : Nat) + (r.d + off) = off + r.d by omega] at this
    exact this
  · by_cases e1 : m = b
    · subst e1
      rw [AHeap.get_put_same] at hm; cases hm
      exact hl.elim
    · rw [AHeap.get_put_ne _ _ (Ne.symm e1)] at hm
      exact e1 (H.inj _ _ _ _ _ _ hb trivial hm hl hr hs ebb.symm).symm
  · refine ⟨⟨C', fz, h2, ?_, fun i v hi => ?_, fun z' x hzx => ?_⟩, fun D fz' hD x hx => by rw [h2] at hD; cases hD; exact hfz x (by omega)⟩
    · simp only [List.length_append, List.length_take, List.length_drop, hnl]
      omega
    · have h4' := h4 (r.d + off + i)
      by_cases hi2 : i < len * z
      · rw [List.getElem?_append_left (by simp; omega), List.getElem?_take, if_pos hi2, List.getElem?_drop] at hi
        obtain ⟨g1, v', g2, g3⟩ := hcl _ _ hi (.inl rfl)
        refine ⟨g1, v', ?_, g3.mono hup⟩
        show C'[r.d + off + i]? = some v'
        rw [h4', if_neg (by omega), ← g2]
        congr 1; omega
      · rw [List.getElem?_append_right (by simp; omega)] at hi
        have e0 : (List.take (len * z) (List.drop off old)).length = len * z := by simp; omega
        rw [e0] at hi
        obtain ⟨u, hu1, hu2⟩ := hnv.get hi
        refine ⟨hnf v (List.mem_of_getElem? hi), u, ?_, hu2.mono hup⟩
        show C'[r.d + off + i]? = some u
        have hi3 := (List.getElem?_eq_some_iff.1 hu1).1
        rw [h4', if_pos (by omega), ← hu1]
        congr 1; omega
    · cases hzx; exact ⟨by show r.d + off + c' * z ≤ C'.size; omega, hz⟩
theorem okS_append (hE : EnvOK E P) {c0 : Call} (h0 : c0.callee = .builtin .append) {s x : Operand} (hx0 : c0.args.toList = [s, x]) {t u : TypeId} (ht : c0.argTypes[0]? = some t) (hu : c0.argTypes[1]? = some u)
    {o : Oper} {co : COp} {v : AVal} {h' : AHeap} (ho : o.op = .call c0) (hc : cAppend E t u s x = some co) (hf : FR ρ fr a.tmps) (H : WR P K W0 ρ h w) (hs : stepOp co fr h = some (v, h')) :
    Sound P (execOp a.eval o) K W0 ρ w v h' := by
  simp only [cAppend, Option.bind_eq_bind, Option.bind_eq_some_iff] at hc
  obtain ⟨d, hd, hc⟩ := hc
  split at hc
  case h_2 => cases hc
  rename_i elem
  simp only [Option.bind_eq_some_iff] at hc
  obtain ⟨du, hdu, hc⟩ := hc
  split at hc
  · cases hc
  rename_i hni
  simp only [Option.bind_eq_some_iff] at hc
  obtain ⟨i, hi, z, hz, hc⟩ := hc
  split at hc
  case isFalse => cases hc
  rename_i hby
  simp only [Option.bind_eq_some_iff] at hc
  obtain ⟨cs, hcs, cx, hcx, hc⟩ := hc
  cases hc
  have hargs : c0.args.map a.eval = #[a.eval s, a.eval x] := by apply Array.ext'; simp [hx0]
  have hx2 : execOp a.eval o = (do pure (.value (← Builtin.append_ c0.argTypes o.type #[a.eval s, a.eval x]))) := by
    unfold execOp; rw [ho]; simp only [resolve, h0, hargs]; rfl
  rw [hx2]
  have hs' : I.append elem z.2 cs cx fr h = some (v, h') := hs
  unfold I.append at hs'
  rw [ob_some] at hs'
  obtain ⟨⟨n, new⟩, hsrc, hs'⟩ := hs'
  have vs := ev_sound hf hcs
  have vx := ev_sound hf hcx
  obtain ⟨hlen, new', hnew, hnv, hnf, hnl⟩ := src_sound (P := P) H vx hsrc
  generalize hse : evC cs fr = sv at vs hs'
  generalize a.eval s = s' at vs
  generalize a.eval x = x' at hlen hnew vx
  have hnw : ∀ q, (Builtin.firstCells z.2 n x').run P { w with drawn := q } = .ok new' { w with drawn := q } := fun q => firstCells_drawn _ q _ hnew
  have arun := fun (base : Option Addr) (len cap : Nat) => append_run (w := w) (base := base) (len := len) (cap := cap) (ty := o.type) hE ht hu hd hdu hni hz hi hby.2 hby.1 hlen
  obtain ⟨zv, hr, hsz, hcells, hzv, hzf, hzl⟩ := hE.zeroC hz
  rw [ifT_eq] at hs'
  split at hs'
  ·
    rename_i hn0
    rw [Nat.beq_eq] at hn0
    simp only at hn0
    subst hn0
    have hempty : new'.toList = [] := by
      have := hnv.length
      rw [hnl] at this
      simp at this
      simpa using this.symm
    rw [onSlice_some] at hs'
    rcases hs' with ⟨rfl, hs'⟩ | ⟨b, off, len, c, ex, rfl, hs'⟩
    · simp only [Option.some.injEq, Prod.mk.injEq] at hs'
      obtain ⟨rfl, rfl⟩ := hs'
      rw [vs.nilslice_inv]
      exact .valS (v' := .slice none 0 0) ((arun none 0 0).2.1 (by omega) new' rfl hnew) .nilslice H
    · simp only [Option.some.injEq, Prod.mk.injEq] at hs'
      obtain ⟨rfl, rfl⟩ := hs'
      rcases vs.slice_inv with ⟨r, c', hr', rfl, hnc, hex, hnex⟩ | ⟨rfl, rfl, ad, rfl⟩
      · have hcc : len ≤ c' := by
          cases ex with
          | true => rw [hex rfl]; exact hnc
          | false => have := (hnex rfl).1; omega
        exact .valS ((arun _ len c').1 (by omega) new' _ w rfl hnew (by rw [hempty]; rfl)) vs H
      · exact .valS ((arun _ 0 0).1 (by omega) new' _ w rfl hnew (by rw [hempty]; rfl)) vs H
  · rename_i hn0
    have hn0' : n ≠ 0 := by simpa using hn0
    rw [onSlice_some] at hs'
    rcases hs' with ⟨rfl, hs'⟩ | ⟨b, off, len, c, ex, rfl, hs'⟩
    ·
      rw [ifT_some] at hs'
      obtain ⟨hle, hs'⟩ := hs'
      simp only [Nat.ble_eq] at hle
      simp only [Option.some.injEq, Prod.mk.injEq] at hs'
      obtain ⟨rfl, rfl⟩ := hs'
      rw [vs.nilslice_inv]
      obtain ⟨v', w', ρ', r1, r2, r3, r4⟩ := fresh_sound (P := P) (bytes := i.bytes) (sCap := 0) (s := .slice none 0 0) (x := x') (len := 0) (n := n) (need := 0 + n) hE H hz (old := []) (old' := #[]) .nil hnv (fun _ h => by cases h) hnf rfl (by simp) hnl (fun q => rfl) hnw
      refine .val (v' := v') (w' := w') (ρ' := ρ') ?_ r2 (by simpa using r3) (by simpa using r4)
      rw [(arun none 0 0).2.2 (by omega) (by omega)]
      exact r1
    · obtain ⟨old, e, own, hrow, hs'⟩ := onRow_row hs'
      rw [ifT_some] at hs'
      obtain ⟨hle, hs'⟩ := hs'
      simp only [Bool.and_eq_true, Nat.ble_eq, lenL_eq, okL_iff, takeL_eq, dropL_eq] at hle
      obtain ⟨hle1, hle2, hok⟩ := hle
      have hle1' : len + n ≤ 1073741824 := hle1
      have hle2' : off + len * z.2 ≤ old.length := hle2
      simp only [takeL_eq, dropL_eq, appL_eq] at hs'
      obtain ⟨old', ho1, ho2, ho3, ho4⟩ := old_sound (P := P) H vs hrow hle2' hok
      have hgrow : ∀ (cap : Nat) (base : Option Addr), s' = .slice base len cap → ¬ len + n ≤ cap → ∀ {h1 : AHeap}, WR P K W0 ρ h1 w → h1.next = h.next → Sound P (do pure (.value (← Builtin.append_ c0.argTypes o.type #[s', x']))) K W0 ρ w (.slice h.next 0 (len + n) (len + n) false) (h1.push (.cells ((old.drop off).take (len * z.2) ++ new) elem)) := by
        intro cap base hsc hnc h1 H1 hnext
        obtain ⟨v', w', ρ', r1, r2, r3, r4⟩ := fresh_sound (P := P) (bytes := i.bytes) (sCap := cap) (s := s') (x := x') (len := len) (n := n) (need := len + n) hE H1 hz ho2 hnv ho3 hnf rfl ho4 hnl ho1 hnw
        rw [hnext] at r3
        refine .val (v' := v') (w' := w') (ρ' := ρ') ?_ r2 r3 r4
        rw [hsc, (arun base len cap).2.2 hnc hle1', ← hsc]
        exact r1
      rw [ifT_eq] at hs'
      cases ex with
      | true =>
        simp only [if_true] at hs'
        rw [ifT_eq] at hs'
        split at hs'
        ·
          rename_i hcap
          have hcap' : len + n ≤ c := by simpa using hcap
          rw [ifT_some] at hs'
          obtain ⟨how, hs'⟩ := hs'
          simp only [Bool.and_eq_true, Nat.ble_eq, lenL_eq] at how
          obtain ⟨how, hin⟩ := how
          have hin' : off + (len + n) * z.2 ≤ old.length := hin
          simp only [Option.some.injEq, Prod.mk.injEq] at hs'
          obtain ⟨rfl, rfl⟩ := hs'
          rcases vs.slice_inv with ⟨r, c', hr, rfl, hnc, hex, hnex⟩ | ⟨rfl, rfl, ad, rfl⟩
          · have hcc := hex rfl
            subst hcc
            have hb : h.get b = some (.cells old e) := by
              rcases hrow with ⟨_, hb⟩ | ⟨ho', _⟩
              · exact hb
              · rw [ho'] at how; cases how
            obtain ⟨w', g1, g2⟩ := over_sound (P := P) (o := off + len * z.2) H hr hb hnv hnf (by rw [hnl, Nat.add_assoc, ← Nat.add_mul]; exact hin')
            have hap := (arun (some ⟨r.b, off + r.d, none⟩) len c').1 hcap' new' _ w' rfl hnew (by
              rw [add_eq, ← g1]
              congr 3; omega)
            exact .val hap (Ren.le_refl _) (.slice hr hcap' (fun _ => rfl) (fun h => by cases h)) g2
          · omega
        · rename_i hcap
          have hcap' : ¬ len + n ≤ c := by simpa using hcap
          simp only [Option.some.injEq, Prod.mk.injEq] at hs'
          obtain ⟨rfl, rfl⟩ := hs'
          rcases vs.slice_inv with ⟨r, c', hr, rfl, hnc, hex, hnex⟩ | ⟨rfl, rfl, ad, rfl⟩
          · have hcc := hex rfl
            subst hcc
            exact hgrow _ _ rfl hcap' H rfl
          · exact hgrow _ _ rfl (by omega) H rfl
      | false =>
        simp only [Bool.false_eq_true, if_false] at hs'
        rw [ifT_some] at hs'
        obtain ⟨how, hs'⟩ := hs'
        simp only [Bool.and_eq_true, Nat.beq_eq] at how
        obtain ⟨how, rfl, hmod⟩ := how
        have hmod : off % z.2 = 0 := hmod
        simp only [Option.some.injEq, Prod.mk.injEq] at hs'
        obtain ⟨rfl, rfl⟩ := hs'
        have hb : h.get b = some (.cells old e) := by
          rcases hrow with ⟨_, hb⟩ | ⟨ho', _⟩
          · exact hb
          · rw [ho'] at how; cases how
        rcases vs.slice_inv with ⟨r, c', hr, rfl, hnc, hex, hnex⟩ | ⟨rfl, rfl, ad, rfl⟩
        · obtain ⟨hcc, zz, ee, hk, hce⟩ := hnex rfl
          by_cases hcap : len + n ≤ c'
          · obtain ⟨C, fz, hC, hfz, hd', hcl, hkk, hK⟩ := cells_at H hrow hr
            have hzz : zz = z.2 := by rw [← (hkk _ _ hk).2, hcells]
            subst hzz
            obtain ⟨w', ρ', g1, g2, g3, g4⟩ := grow_sound (P := P) H hr hb hle2' hnv hnf hnl hcap hk hce hcells hmod
            have hap := (arun (some ⟨r.b, off + r.d, none⟩) len c').1 hcap new' _ w' rfl hnew (by rw [add_eq]; exact g1)
            exact .val hap g2 g3 g4
          · exact hgrow _ _ rfl hcap (H.kill hb trivial) rfl
        · exact hgrow _ _ rfl (by omega) (H.kill hb trivial) rfl
end
end Go.AX
namespace Go.AX
open Go.RowKit
section
variable {E : Env} {P : Program} [Lay P] {K : Keep} {W0 : World} {ρ : Ren} {fr : Fr} {h : AHeap} {w : World} {a : Act}
theorem src_prefix (H : WR P K W0 ρ h w) {size n m : Nat} {x : AVal} {x' : Value} {new : List AVal} (hx : V ρ x x') (hs : srcCells h size x = some (n, new)) (hm : m ≤ n) :
    ∃ new' : Array Value, (Builtin.firstCells size m x').run P w = .ok new' w ∧ VL ρ (new.take (m * size)) new'.toList ∧ (∀ y, y ∈ new.take (m * size) → y.flat = true) := by
  unfold srcCells at hs
  split at hs
  · rename_i s
    simp only [ifT_some, Nat.beq_eq, Option.some.injEq, Prod.mk.injEq, lenL_eq] at hs
    obtain ⟨rfl, rfl, rfl⟩ := hs
    obtain ⟨bs, rfl, hbs⟩ := hx.str_inv
    have hl : s.length = bs.size := by rw [← hbs]; simp
    refine ⟨(bs.extract 0 m).data.map fun b => .int .u8 b.toNat, by simp [Builtin.firstCells], ?_, ?_⟩
    · unfold ofBytes
      rw [mapL_eq]
      refine VL.of_get (by simp [hl]) fun i v v' hi hi' => ?_
      rw [List.getElem?_take] at hi
      split at hi
      case isFalse => cases hi
      rename_i him
      rw [List.getElem?_map, Option.map_eq_some_iff] at hi
      obtain ⟨q, hq, rfl⟩ := hi
      rw [← hbs, List.getElem?_map, Option.map_eq_some_iff] at hq
      obtain ⟨b, hb, rfl⟩ := hq
      have : v' = .int .u8 (b.toNat : Int) := by
        simp at hi' hb
        rw [List.getElem?_take, if_pos (by omega)] at hi'
        simp at hi'
        obtain ⟨b', hb', rfl⟩ := hi'
        rw [hb] at hb'; cases hb'; rfl
      rw [this]; exact .int _ _
    · intro y hy
      have hy := List.mem_of_mem_take hy
      unfold ofBytes at hy
      rw [mapL_eq, List.mem_map] at hy
      obtain ⟨m, _, rfl⟩ := hy
      rfl
  · rw [onSlice_some] at hs
    rcases hs with ⟨rfl, hs⟩ | ⟨b, o, k, c, ex, rfl, hs⟩
    · simp only [Option.some.injEq, Prod.mk.injEq] at hs
      obtain ⟨rfl, rfl⟩ := hs
      rw [hx.nilslice_inv]
      exact ⟨#[], rfl, by simpa using VL.nil, (fun _ h => by simp at h)⟩
    · obtain ⟨l, e, own, hrow, hs⟩ := onRow_row hs
      rw [ifT_some] at hs
      obtain ⟨hle, hs⟩ := hs
      simp only [Option.some.injEq, Prod.mk.injEq] at hs
      obtain ⟨rfl, rfl⟩ := hs
      simp only [Bool.and_eq_true, Nat.ble_eq, lenL_eq, okL_iff, takeL_eq, dropL_eq] at hle
      have hle' : o + k * size ≤ l.length := hle.1
      have hok := hle.2
      rw [takeL_eq, dropL_eq, List.take_take]
      have hmul : m * size ≤ k * size := Nat.mul_le_mul_right _ hm
      have e0 : min (m * size) (Nat.mul k size) = m * size := Nat.min_eq_left hmul
      rw [e0]
      rcases hx.slice_inv with ⟨r, c', hr, rfl, _⟩ | ⟨rfl, rfl, ad, rfl⟩
      · obtain ⟨C, fz, hC, _, hd, hcl, _, _⟩ := cells_at H hrow hr
        obtain ⟨g1, g2⟩ := stretch (o := o) (n := m * size) hcl hd (by omega) (hok.imp id fun h x hx => h x (by
          have : (l.drop o).take (m * size) = ((l.drop o).take (Nat.mul k size)).take (m * size) := by rw [List.take_take, e0]
          rw [this] at hx
          exact List.mem_of_mem_take hx))
        refine ⟨_, ?_, g1, g2⟩
        unfold Builtin.firstCells
        exact run_loadCells hC (by omega)
      · have : m = 0 := by omega
        subst this
        refine ⟨#[], by simp [Builtin.firstCells, loadCells, loadCellsFrom], by simpa using VL.nil, by simp⟩
theorem okS_copy (hE : EnvOK E P) {c0 : Call} (h0 : c0.callee = .builtin .copy) {s x : Operand} (hx0 : c0.args.toList = [s, x]) {t : TypeId} (ht : c0.argTypes[0]? = some t)
    {o : Oper} {co : COp} {v : AVal} {h' : AHeap} (ho : o.op = .call c0) (hc : cCopy E t s x = some co) (hf : FR ρ fr a.tmps) (H : WR P K W0 ρ h w) (hs : stepOp co fr h = some (v, h')) :
    Sound P (execOp a.eval o) K W0 ρ w v h' := by
  simp only [cCopy, Option.bind_eq_bind, Option.bind_eq_some_iff] at hc
  obtain ⟨d, hd, hc⟩ := hc
  split at hc
  case h_2 => cases hc
  rename_i elem
  simp only [Option.bind_eq_some_iff] at hc
  obtain ⟨z, hz, cs, hcs, cx, hcx, hc⟩ := hc
  cases hc
  have hargs : c0.args.map a.eval = #[a.eval s, a.eval x] := by apply Array.ext'; simp [hx0]
  have hx2 : execOp a.eval o = (do pure (.value (← Builtin.copy_ c0.argTypes o.type #[a.eval s, a.eval x]))) := by
    unfold execOp; rw [ho]; simp only [resolve, h0, hargs]; rfl
  rw [hx2]
  have hs' : I.copy z cs cx fr h = some (v, h') := hs
  unfold I.copy at hs'
  rw [ob_some] at hs'
  obtain ⟨⟨n, new⟩, hsrc, hs'⟩ := hs'
  have vs := ev_sound hf hcs
  have vx := ev_sound hf hcx
  generalize evC cs fr = sv at vs hs'
  generalize a.eval s = s' at vs
  generalize a.eval x = x' at vx
  obtain ⟨hlen, _⟩ := src_sound (P := P) H vx hsrc
  have run : ∀ (base : Option Addr) (len cap : Nat) (new' : Array Value) (w' : World), (Builtin.firstCells z (Nat.min n len) x').run P w = .ok new' w →
      ((match base with | some ad => storeCells ad new'.toList | none => pure ()) : Sem Unit).run P w = .ok () w' → (Builtin.copy_ c0.argTypes o.type #[.slice base len cap, x']).run P w = .ok (goInt (Nat.min n len)) w' := by
    intro base len cap new' w' h1 h2
    have e0 : (#[Value.slice base len cap, x'] : Array Value)[0]? = some (.slice base len cap) := rfl
    have e1 : (#[Value.slice base len cap, x'] : Array Value)[1]? = some x' := rfl
    unfold Builtin.copy_
    simp only [ht, e0, e1, Sem.run_bind, hE.run_und hd, Result.andThen_ok, hlen, hE.run_size hz, h1]
    cases base with
    | none =>
      simp only [Sem.run_pure] at h2
      cases h2
      simp
    | some ad =>
      simp only at h2
      simp only [Sem.run_bind, h2, Result.andThen_ok, Sem.run_pure]
  rw [onSlice_some] at hs'
  rcases hs' with ⟨rfl, hs'⟩ | ⟨b, off, len, c, ex, rfl, hs'⟩
  · simp only [Option.some.injEq, Prod.mk.injEq] at hs'
    obtain ⟨rfl, rfl⟩ := hs'
    rw [vs.nilslice_inv]
    obtain ⟨new', g1, g2, g3⟩ := src_prefix (P := P) (m := Nat.min n 0) H vx hsrc (Nat.min_le_left _ _)
    have := run none 0 0 new' w g1 rfl
    rw [show Nat.min n 0 = 0 from Nat.min_eq_right (Nat.zero_le _)] at this
    exact .valS this (.int _ _) H
  · rw [onCells_some] at hs'
    obtain ⟨old, e, hb, hs'⟩ := hs'
    rw [ifT_some] at hs'
    obtain ⟨hle, hs'⟩ := hs'
    simp only [Nat.ble_eq, lenL_eq] at hle
    have hle' : off + len * z ≤ old.length := hle
    simp only [Option.some.injEq, Prod.mk.injEq, takeL_eq] at hs'
    obtain ⟨rfl, rfl⟩ := hs'
    obtain ⟨new', g1, g2, g3⟩ := src_prefix (P := P) (m := Nat.min n len) H vx hsrc (Nat.min_le_left _ _)
    have hml : Nat.min n len * z ≤ len * z := Nat.mul_le_mul_right _ (Nat.min_le_right _ _)
    have hbound : off + (new.take (Nat.min n len * z)).length ≤ old.length := by
      simp only [List.length_take]; omega
    rcases vs.slice_inv with ⟨r, c', hr, rfl, hnc, hex, hnex⟩ | ⟨rfl, rfl, ad, rfl⟩
    · obtain ⟨w', k1, k2⟩ := over_sound (P := P) (o := off) H hr hb g2 g3 hbound
      exact .val (run (some _) len c' new' w' g1 k1) (Ren.le_refl _) (.int _ _) k2
    · obtain ⟨r, hr, _⟩ := H.obj b _ hb trivial
      obtain ⟨w', k1, k2⟩ := over_sound (P := P) (o := off) H hr hb g2 g3 hbound
      have em : Nat.min n 0 = 0 := Nat.min_eq_right (Nat.zero_le _)
      have e0 : new'.toList = [] := by
        have := g2.length
        rw [em] at this
        simp at this
        simpa using this.symm
      rw [e0] at k1
      have ew : w' = w := by
        simp only [storeCells, Sem.run_pure, Result.ok.injEq, true_and] at k1
        exact k1.symm
      subst ew
      exact .val (run (some ad) 0 0 new' w' g1 (by rw [e0]; rfl)) (Ren.le_refl _) (.int _ _) k2
theorem mapM_evs (hf : FR ρ fr a.tmps) : ∀ {l : List Operand} {cs : List COpd}, l.mapM cO = some cs → VL ρ (evCs cs fr) (l.map a.eval)
  | [], cs, h => by simp at h; subst h; exact .nil
  | x :: l, cs, h => by
    simp only [List.mapM_cons, Option.bind_eq_bind, Option.bind_eq_some_iff] at h
    obtain ⟨c, h1, r, h2, h3⟩ := h
    cases h3
    exact .cons (ev_sound hf h1) (mapM_evs hf h2)
theorem okS_minmax {c0 : Call} {isMax : Bool} (h0 : c0.callee = .builtin (if isMax then .max else .min)) {cs : List COpd} (hcs : c0.args.toList.mapM cO = some cs)
    {o : Oper} {v : AVal} {h' : AHeap} (ho : o.op = .call c0) (hf : FR ρ fr a.tmps) (H : WR P K W0 ρ h w) (hs : stepOp (.minmax isMax cs) fr h = some (v, h')) :
    Sound P (execOp a.eval o) K W0 ρ w v h' := by
  have hv := mapM_evs (a := a) hf hcs
  have hs' : I.minmax isMax cs fr h = some (v, h') := hs
  unfold I.minmax at hs'
  split at hs'
  case h_2 => cases hs'
  rename_i x rest hev
  rw [onInt_some] at hs'
  obtain ⟨k, m, rfl, hs'⟩ := hs'
  simp only [ob_some, Option.some.injEq, Prod.mk.injEq] at hs'
  obtain ⟨u, hgo, rfl, rfl⟩ := hs'
  rw [hev] at hv
  have hargs : (c0.args.map a.eval).toList = c0.args.toList.map a.eval := by simp
  generalize c0.args.toList.map a.eval = l' at hargs hv
  cases hv with
  | cons hm hrest =>
    rw [hm.int_inv] at hargs
    obtain ⟨v', r1, r2⟩ := minmaxGo_sound (P := P) (w := w) (isMax := isMax) hrest hgo
    have hx2 : execOp a.eval o = (do pure (.value (← (if isMax then Builtin.max_ else Builtin.min_) c0.argTypes o.type (c0.args.map a.eval)))) := by
      unfold execOp; rw [ho]; simp only [resolve, h0]
      cases isMax <;> rfl
    rw [hx2]
    refine .valS (v' := v') ?_ r2 H
    cases isMax with
    | true => simp only [if_true] at r1 ⊢; unfold Builtin.max_; rw [hargs]; exact r1
    | false => simp only [Bool.false_eq_true, if_false] at r1 ⊢; unfold Builtin.min_; rw [hargs]; exact r1
theorem okS_sliceData {c0 : Call} (h0 : c0.callee = .builtin .unsafeSliceData) {x : Operand} (hx0 : c0.args.toList = [x]) {cx : COpd} (hcx : cO x = some cx)
    {o : Oper} {v : AVal} {h' : AHeap} (ho : o.op = .call c0) (hf : FR ρ fr a.tmps) (H : WR P K W0 ρ h w) (hs : stepOp (.sliceData cx) fr h = some (v, h')) :
    Sound P (execOp a.eval o) K W0 ρ w v h' := by
  have hargs : c0.args.map a.eval = #[a.eval x] := by apply Array.ext'; simp [hx0]
  have hx2 : execOp a.eval o = (do pure (.value (← Builtin.unsafeSliceData_ c0.argTypes o.type #[a.eval x]))) := by
    unfold execOp; rw [ho]; simp only [resolve, h0, hargs]; rfl
  rw [hx2]
  have hs' : I.sliceData cx fr h = some (v, h') := hs
  unfold I.sliceData at hs'
  rw [onSlice_some] at hs'
  rcases hs' with ⟨hp, hs'⟩ | ⟨b, off, n, c, ex, hp, hs'⟩
  · cases hs'
    have vx := ev_sound hf hcx
    rw [hp] at vx
    rw [vx.nilslice_inv]
    exact .valS rfl .nilptr H
  · simp only [ifT_some, Nat.blt_eq, Option.some.injEq, Prod.mk.injEq] at hs'
    obtain ⟨hlt, rfl, rfl⟩ := hs'
    have vx := ev_sound hf hcx
    rw [hp] at vx
    rcases vx.slice_inv with ⟨r, c', hr, e, hnc, hex, hnex⟩ | ⟨_, rfl, _⟩
    · rw [e]
      have hc' : c' ≠ 0 := by
        cases ex with
        | true => rw [hex rfl]; omega
        | false => have := (hnex rfl).1; omega
      exact .valS (Go.Lib.run_unsafeSliceData_row (P := P) w c0.argTypes o.type _ n c' hc') (.ptr hr) H
    · omega
theorem liesAt_bytes' {e : TypeId} (hc : P.cellsOf e = 1) (count off n : Nat) (hn : off + n ≤ count) : liesAt P P.depth e count off e n = true := by
  have hd : P.depth = (2 * (P.types.size + Made.depth) + 1) + 1 := rfl
  rw [hd]
  simp only [liesAt, Bool.or_eq_true]
  left
  rw [hd]
  simp [rowAt, hc, hn, sameLayout, Nat.mod_one]
theorem freeze_turn (w : World) (b o n : Nat) : Turn b w (w.freeze ⟨b, o, none⟩ n) := by
  unfold World.freeze
  split
  · exact Turn.refl b w
  · exact ⟨rfl, rfl, rfl, by simp, fun k hk => by
      simp only [Array.getElem?_modify]
      rw [if_neg (Ne.symm hk)]⟩
theorem okS_unsafeStr (hE : EnvOK E P) {c0 : Call} (h0 : c0.callee = .builtin .unsafeString) {x n : Operand} (hx0 : c0.args.toList = [x, n]) {t : TypeId} (ht : c0.argTypes[0]? = some t)
    {o : Oper} {co : COp} {v : AVal} {h' : AHeap} (ho : o.op = .call c0) (hc : cUnsafeStr E t x n = some co) (hf : FR ρ fr a.tmps) (H : WR P K W0 ρ h w) (hs : stepOp co fr h = some (v, h')) :
    Sound P (execOp a.eval o) K W0 ρ w v h' := by
  simp only [cUnsafeStr, Option.bind_eq_bind, Option.bind_eq_some_iff] at hc
  obtain ⟨d, hd, hc⟩ := hc
  split at hc
  case h_2 => cases hc
  rename_i u
  split at hc
  case isFalse => cases hc
  rename_i hu1
  simp only [Option.bind_eq_some_iff] at hc
  obtain ⟨cx, hcx, cn, hcn, hc⟩ := hc
  cases hc
  have hargs : c0.args.map a.eval = #[a.eval x, a.eval n] := by apply Array.ext'; simp [hx0]
  have hx2 : execOp a.eval o = (do pure (.value (← Builtin.unsafeString_ c0.argTypes o.type #[a.eval x, a.eval n]))) := by
    unfold execOp; rw [ho]; simp only [resolve, h0, hargs]; rfl
  rw [hx2]
  have hs' : I.unsafeStr u cx cn fr h = some (v, h') := hs
  unfold I.unsafeStr at hs'
  have vx := ev_sound hf hcx
  have vn := ev_sound hf hcn
  rw [ifT_eq] at hs'
  by_cases hnil : isNilp (evC cx fr) = true
  · rw [if_pos hnil] at hs'
    have hx0 : evC cx fr = .nilptr := by
      cases hv : evC cx fr <;> rw [hv] at hnil <;> first | rfl | cases hnil
    rw [onNat_some] at hs'
    obtain ⟨k, m, hm, hs'⟩ := hs'
    rw [ifT_some, Nat.beq_eq] at hs'
    obtain ⟨rfl, hs'⟩ := hs'
    cases hs'
    rw [hx0] at vx
    rw [hm] at vn
    rw [vx.nilptr_inv, vn.int_inv]
    refine .valS (v' := .string .empty) ?_ (.str rfl) H
    have hmax : IntKind.i64.max = 9223372036854775807 := rfl
    have hdef : Builtin.unsafeString_ c0.argTypes o.type #[.pointer none, .int k (Int.ofNat 0)] =
        (do
          let n ← asInt (.int k (Int.ofNat 0))
          let some pt := c0.argTypes[0]? | stuck "unsafe.String: no argument types"
          if n < 0 then runtimePanic (.error "unsafe.String: len out of range")
          if n > IntKind.i64.max then unsupported (.unsafePointer "String: a length above the largest int")
          if n = 0 then pure (.string .empty)
          else runtimePanic (.error "unsafe.String: ptr is nil and len is not zero")) := rfl
    rw [hdef]
    simp [asInt, asIntOf, hmax, ht]
  rw [if_neg hnil] at hs'
  rw [onPtr_some] at hs'
  obtain ⟨b, off, hp, hs'⟩ := hs'
  rw [hp] at vx
  obtain ⟨r, hr, ex⟩ := vx.ptr_inv
  rw [onNat_some] at hs'
  obtain ⟨k, m, hm, hs'⟩ := hs'
  rw [hm] at vn
  rw [onCells_some] at hs'
  obtain ⟨l, e, hb, hs'⟩ := hs'
  rw [ifT_some] at hs'
  obtain ⟨hcond, hs'⟩ := hs'
  simp only [Bool.and_eq_true, Nat.beq_eq, Nat.blt_eq, Nat.ble_eq, lenL_eq] at hcond
  obtain ⟨rfl, hm0, hm1, hle⟩ := hcond
  have hle' : off + m ≤ l.length := hle
  simp only [ob_some, Option.some.injEq, Prod.mk.injEq, takeL_eq, dropL_eq] at hs'
  obtain ⟨s, hbs, rfl, rfl⟩ := hs'
  obtain ⟨C, fz, hC, hfz, hdC, hcl, hkk, hK⟩ := cells_at H (own := true) (.inl ⟨rfl, hb⟩) hr
  obtain ⟨g1, g2⟩ := stretch hcl hdC hle' (.inl rfl)
  obtain ⟨bs, hb1, hb2⟩ := bytes_sound g1 hbs
  have hcs : P.cellsOf e = 1 := hE.cellsOf hu1
  have hbl : bs.length = m := by
    have := congrArg List.length hb1
    simp at this
    omega
  have hsh : w.shape? r.b = some (e, C.size) := by simp [World.shape?, hC]
  have hcell : ∀ j (y : UInt8), bs[j]? = some y → w.cell? ((⟨r.b, off + r.d, none⟩ : Addr).add j) = some (.int .u8 y.toNat) := by
    intro j y hy
    rw [add_eq, cell_of hC]
    have hj := (List.getElem?_eq_some_iff.1 hy).1
    have h2 : (C.extract (off + r.d) (off + r.d + m)).toList[j]? = some (.int .u8 y.toNat) := by rw [hb1]; simp [hy]
    simp only [Array.getElem?_toList, Array.getElem?_extract] at h2
    split at h2
    · exact h2
    · cases h2
  have hlb := Go.Lib.run_loadBytes (P := P) w bs ⟨r.b, off + r.d, none⟩ .empty hcell
  rw [hbl] at hlb
  have hlies := liesAt_bytes' (P := P) hcs (C.size / P.cellsOf e) (off + r.d) m (by rw [hcs]; simp; omega)
  have hmax : IntKind.i64.max = 9223372036854775807 := rfl
  rw [ex, vn.int_inv]
  have ht' := freeze_turn w r.b (off + r.d) m
  refine .val (v' := .string ⟨bs.toArray⟩) (w' := w.freeze ⟨r.b, off + r.d, none⟩ m) (ρ' := ρ) ?_ (Ren.le_refl _) (.str ?_) (H.put hb trivial hr ht'.os ht'.tape ht'.output ht'.size ht'.keep (fun h => h.elim))
  · have hdef : Builtin.unsafeString_ c0.argTypes o.type #[.pointer (some ⟨r.b, off + r.d, none⟩), .int k (Int.ofNat m)] =
        (do
          let n ← asInt (.int k (Int.ofNat m))
          let some pt := c0.argTypes[0]? | stuck "unsafe.String: no argument types"
          if n < 0 then runtimePanic (.error "unsafe.String: len out of range")
          if n > IntKind.i64.max then unsupported (.unsafePointer "String: a length above the largest int")
          if n = 0 then pure (.string .empty)
          else if ← variablesAt ⟨r.b, off + r.d, none⟩ (← elemOf pt) n.toNat then do
            let s ← loadBytes ⟨r.b, off + r.d, none⟩ .empty n.toNat
            freeze ⟨r.b, off + r.d, none⟩ n.toNat
            pure (.string s)
          else unsupported (.unsafePointer "String: not so many bytes at ptr")) := rfl
    rw [hdef]
    have e0 : (Int.ofNat m : Int) = (m : Int) := rfl
    have hneg : ¬ (m : Int) < 0 := by omega
    have h63' : ¬ (9223372036854775807 : Int) < (m : Int) := by omega
    have hm0' : ¬ (m : Int) = 0 := by omega
    have hm0'' : ¬ m = 0 := by omega
    simp [asInt, asIntOf, hmax, ht, hneg, h63', hm0', hm0'', variablesAt, hsh, elemOf, hE.run_und hd, hlies, hlb, e0]
  · rw [hb2]
end
end Go.AX
namespace Go.AX
open Go.RowKit
section
variable {E : Env} {P : Program} [Lay P] {K : Keep} {W0 : World} {ρ : Ren} {fr : Fr} {h : AHeap} {w : World} {a : Act}
theorem EL.get : ∀ {l : List (AVal × AVal × Nat)} {l' : List MapEntry}, EL ρ l l' → ∀ {i : Nat} {e : AVal × AVal × Nat}, l[i]? = some e → ∃ e', l'[i]? = some e' ∧ V ρ e.1 e'.key ∧ V ρ e.2.1 e'.val ∧ e.2.2 = e'.born
  | _, _, .nil, i, e, h => by simp at h
  | _, _, .cons (e' := e') a b c hl, i, e, h => by
    cases i with
    | zero => simp at h; subst h; exact ⟨e', rfl, a, b, c⟩
    | succ i => simp at h ⊢; exact EL.get hl h
theorem EL.append : ∀ {l : List (AVal × AVal × Nat)} {l' : List MapEntry}, EL ρ l l' → ∀ {k v : AVal} {k' v' : Value} {n : Nat}, V ρ k k' → V ρ v v' → EL ρ (l ++ [(k, v, n)]) (l' ++ [{ key := k', val := v', born := n }])
  | _, _, .nil, _, _, _, _, _, hk, hv => .cons hk hv rfl .nil
  | _, _, .cons a b c hl, _, _, _, _, _, hk, hv => .cons a b c (EL.append hl hk hv)
theorem modL_nil {α : Type} (f : α → α) (i : Nat) : modL f [] i = [] := rfl
theorem modL_zero {α : Type} (f : α → α) (a : α) (l : List α) : modL f (a :: l) 0 = f a :: l := rfl
theorem modL_succ {α : Type} (f : α → α) (a : α) (l : List α) (i : Nat) : modL f (a :: l) (i + 1) = a :: modL f l i := rfl
theorem EL.mod {f : AVal × AVal × Nat → AVal × AVal × Nat} {g : MapEntry → MapEntry} (hfg : ∀ e e', V ρ e.1 e'.key → V ρ e.2.1 e'.val → e.2.2 = e'.born → V ρ (f e).1 (g e').key ∧ V ρ (f e).2.1 (g e').val ∧ (f e).2.2 = (g e').born) :
    ∀ {l : List (AVal × AVal × Nat)} {l' : List MapEntry}, EL ρ l l' → ∀ i, EL ρ (modL f l i) (l'.modify i g)
  | _, _, .nil, i => by rw [modL_nil]; simpa using EL.nil
  | _, _, .cons (e := e) (e' := e') a b c hl, i => by
    cases i with
    | zero =>
      rw [modL_zero]
      simp only [List.modify_zero_cons]
      obtain ⟨x, y, z⟩ := hfg e e' a b c
      exact .cons x y z hl
    | succ i =>
      rw [modL_succ, List.modify_succ_cons]
      exact .cons a b c (EL.mod hfg hl i)
def FKD (k : FK) (d : TypeDesc) : Prop := match k with | .b => d = .bool | .i => ∃ ik, d = .int ik | .s => d = .string
theorem sameNow_sound {k : FK} {x y : Value} {b : Bool} {d : TypeDesc} (hd : FKD k d) (h : EqF k x y b) : Instr.sameNow d x y = some b := by
  cases k with
  | b => obtain ⟨p, q, rfl, rfl, rfl⟩ := h; subst hd; rfl
  | i => obtain ⟨k, p, q, rfl, rfl, rfl⟩ := h; obtain ⟨ik, rfl⟩ := hd; simp [Instr.sameNow]
  | s =>
    obtain ⟨p, q, rfl, rfl, rfl⟩ := h; subst hd
    simp only [Instr.sameNow, Option.some.injEq]
    have e1 : (p == q) = (p.data == q.data) := by cases p; cases q; rfl
    rw [e1, ByteArray.toList_eq, ByteArray.toList_eq, Bool.eq_iff_iff, beq_iff_eq, beq_iff_eq]
    exact ⟨fun h => by rw [h], fun h => Array.ext' h⟩
def KeyD (E : Env) (t : TypeId) (q : KeyK) : Prop :=
  match q with
  | .one .b => E.und t = some .bool
  | .one .i => ∃ k, E.und t = some (.int k)
  | .one .s => E.und t = some .string
  | .agg offs => (∃ f, E.und t = some (.struct f)) ∧ E.eqs.get t = some offs
theorem cKey_inv {t : TypeId} {q : KeyK} (h : cKey E t = some q) : ∃ k v, E.und t = some (.map k v) ∧ KeyD E k q := by
  unfold cKey at h
  split at h
  · rename_i k v hk
    refine ⟨k, v, hk, ?_⟩
    split at h
    · rename_i hu; cases h; exact ⟨_, hu⟩
    · rename_i hu; cases h; exact hu
    · rename_i hu; cases h; exact hu
    · rename_i f hu
      simp only [Option.map_eq_some_iff] at h
      obtain ⟨offs, h1, rfl⟩ := h
      exact ⟨⟨_, hu⟩, h1⟩
    · cases h
  · cases h
theorem allOffs_eq (l : List AVal) : ∀ {offs : List (Nat × FK)}, allOffs l offs = true → ∀ o, o ∈ offs → (l[o.1]?).isSome = true := by
  intro offs
  induction offs with
  | nil => intro _ o ho; cases ho
  | cons x offs ih =>
    intro h o ho
    have h' : (@Option.rec AVal (fun _ => Bool) false (fun _ => allOffs l offs) (getL l x.1)) = true := h
    rw [getL_eq] at h'
    cases hx : l[x.1]? with
    | none => rw [hx] at h'; cases h'
    | some y =>
      rw [hx] at h'
      rcases List.mem_cons.1 ho with rfl | ho
      · rw [hx]; rfl
      · exact ih h' o ho
theorem checkKey_sound (hE : EnvOK E P) {t : TypeId} {q : KeyK} (hq : KeyD E t q) {k : AVal} {k' : Value} (hk : V ρ k k') (h : keyOk q k = true) (e : Bool) : (Instr.checkKey e 10000 t k').run P w = .ok () w := by
  cases q with
  | one f =>
    have hu : ∃ d, E.und t = some d ∧ (d = .bool ∨ d = .string ∨ ∃ ik, d = .int ik) := by
      cases f with
      | b => exact ⟨_, hq, .inl rfl⟩
      | i => obtain ⟨ik, hu⟩ := hq; exact ⟨_, hu, .inr (.inr ⟨_, rfl⟩)⟩
      | s => exact ⟨_, hq, .inr (.inl rfl)⟩
    obtain ⟨d, hu, hd⟩ := hu
    have key : ∀ n, (Instr.checkKey e (n + 1) t k').run P w = .ok () w := by
      intro n
      simp only [Instr.checkKey, Sem.run_bind, hE.run_und hu, Result.andThen_ok]
      rcases hd with rfl | rfl | ⟨ik, rfl⟩ <;> rfl
    exact key 9999
  | agg offs =>
    obtain ⟨⟨f, hu⟩, ho⟩ := hq
    have hs := hE.eqs _ _ ho
    cases hk with
    | agg hf hl =>
      refine hs.key w _ e fun o ho => ?_
      have := allOffs_eq _ h o ho
      rw [Option.isSome_iff_exists] at this ⊢
      obtain ⟨y, hy⟩ := this
      obtain ⟨y', hy', _⟩ := hl.get hy
      exact ⟨y', by simpa using hy'⟩
    | _ => cases h
def Found (q : KeyK) (ρ : Ren) (k : AVal) (es : List (AVal × AVal × Nat)) (i : Nat) : Option (Nat × AVal) → Option (Nat × Value) → Prop
  | none, none => True
  | some (j, v), some (j', v') => j = j' ∧ V ρ v v' ∧ i ≤ j ∧ ∃ e, es[j - i]? = some e ∧ beqA q k e.1 = some true ∧ e.2.1 = v
  | _, _ => False
theorem Found.step {q : KeyK} {k : AVal} {e : AVal × AVal × Nat} {es : List (AVal × AVal × Nat)} {i : Nat} {r : Option (Nat × AVal)} {r' : Option (Nat × Value)} (h : Found q ρ k es (i + 1) r r') : Found q ρ k (e :: es) i r r' := by
  cases r with
  | none => cases r' with
    | none => trivial
    | some p => exact h.elim
  | some p => cases r' with
    | none => exact h.elim
    | some p' =>
      obtain ⟨j, v⟩ := p
      obtain ⟨j', v'⟩ := p'
      obtain ⟨rfl, h2, h3, e', h4, h5⟩ := h
      refine ⟨rfl, h2, by omega, e', ?_, h5⟩
      have : j - i = (j - (i + 1)) + 1 := by omega
      rw [this]; simpa using h4
theorem findA_cons (q : KeyK) (k : AVal) (e : AVal × AVal × Nat) (es : List (AVal × AVal × Nat)) (i : Nat) : findA q k (e :: es) i = ob (beqA q k e.1) fun t => ifT t (some (some (i, e.2.1))) (findA q k es (i + 1)) := rfl
theorem findNow_sound {f : FK} {d : TypeDesc} (hd : FKD f d) {k : AVal} {k' : Value} (hk : V ρ k k') :
    ∀ {es : List (AVal × AVal × Nat)} {es' : List MapEntry}, EL ρ es es' → ∀ {i : Nat} {r : Option (Nat × AVal)}, findA (.one f) k es i = some r → ∃ r', Instr.findNow d k' es' i = some r' ∧ Found (.one f) ρ k es i r r'
  | _, _, .nil, i, r, h => by
    simp only [findA, Option.some.injEq] at h
    subst h
    exact ⟨none, rfl, trivial⟩
  | _, _, .cons (e := e) (e' := e') (l := l) (l' := l') a b c hl, i, r, h => by
    rw [findA_cons, ob_some] at h
    obtain ⟨t, ht, h⟩ := h
    have heq := beqF_sound hk a (show beqF f k e.1 = some t from ht)
    have hs := sameNow_sound hd heq
    unfold Instr.findNow
    rw [hs]
    cases t with
    | true =>
      have h : some (some (i, e.2.1)) = some r := h
      cases h
      exact ⟨_, rfl, rfl, b, Nat.le_refl _, e, by simp, ht, rfl⟩
    | false =>
      obtain ⟨r', h1, h2⟩ := findNow_sound hd hk hl h
      exact ⟨r', h1, h2.step⟩
theorem findAsking_sound {t : TypeId} {offs : List (Nat × FK)} (hs : StructEq P t offs) {k : AVal} {k' : Value} (hk : V ρ k k') :
    ∀ {es : List (AVal × AVal × Nat)} {es' : List MapEntry}, EL ρ es es' → ∀ {i : Nat} {r : Option (Nat × AVal)}, findA (.agg offs) k es i = some r → ∃ r', (Instr.findAsking t k' es' i).run P w = .ok r' w ∧ Found (.agg offs) ρ k es i r r'
  | _, _, .nil, i, r, h => by
    simp only [findA, Option.some.injEq] at h
    subst h
    exact ⟨none, rfl, trivial⟩
  | _, _, .cons (e := e) (e' := e') (l := l) (l' := l') a b c hl, i, r, h => by
    rw [findA_cons, ob_some] at h
    obtain ⟨tt, ht, h⟩ := h
    have ht' : (onAgg k fun x => onAgg e.1 fun y => beqOffs x y offs) = some tt := ht
    rw [onAgg_some] at ht'
    obtain ⟨x, rfl, ht'⟩ := ht'
    rw [onAgg_some] at ht'
    obtain ⟨y, hy, ht'⟩ := ht'
    rw [hy] at a
    obtain ⟨x', rfl, _, vx⟩ := hk.agg_inv
    obtain ⟨y', hy', _, vy⟩ := a.agg_inv
    have heq := beqOffs_sound vx vy ht'
    have hr := hs.eq w _ _ _ heq
    unfold Instr.findAsking
    simp only [Op.equal, hy', Sem.run_bind]
    have e1 : Op.maxDepth = 10000 := rfl
    rw [e1, hr]
    simp only [Result.andThen_ok]
    cases tt with
    | true =>
      have h : some (some (i, e.2.1)) = some r := h
      cases h
      exact ⟨_, rfl, rfl, b, Nat.le_refl _, e, by simp, ht, rfl⟩
    | false =>
      obtain ⟨r', h1, h2⟩ := findAsking_sound hs (.agg (by assumption) vx) hl h
      exact ⟨r', by simpa using h1, h2.step⟩
theorem find_sound (hE : EnvOK E P) {t : TypeId} {q : KeyK} (hq : KeyD E t q) {k : AVal} {k' : Value} (hk : V ρ k k') {es : List (AVal × AVal × Nat)} {es' : List MapEntry} (hes : EL ρ es es') {r : Option (Nat × AVal)} (h : findA q k es 0 = some r) :
    ∃ r', (Instr.findKey t k' es').run P w = .ok r' w ∧ Found q ρ k es 0 r r' := by
  cases q with
  | one f =>
    have hu : ∃ d, E.und t = some d ∧ FKD f d := by
      cases f with
      | b => exact ⟨_, hq, rfl⟩
      | i => obtain ⟨ik, hu⟩ := hq; exact ⟨_, hu, ik, rfl⟩
      | s => exact ⟨_, hq, rfl⟩
    obtain ⟨d, hu, hd⟩ := hu
    obtain ⟨r', h1, h2⟩ := findNow_sound hd hk hes h
    refine ⟨r', ?_, h2⟩
    unfold Instr.findKey
    simp only [Sem.run_bind, hE.run_und hu, Result.andThen_ok, h1, Sem.run_pure]
  | agg offs =>
    obtain ⟨⟨f, hu⟩, ho⟩ := hq
    have hs := hE.eqs _ _ ho
    obtain ⟨r', h1, h2⟩ := findAsking_sound (w := w) hs hk hes h
    refine ⟨r', ?_, h2⟩
    unfold Instr.findKey
    simp only [Sem.run_bind, hE.run_und hu, Result.andThen_ok]
    cases es' with
    | nil => simpa [Instr.findNow, Instr.findAsking] using h1
    | cons e es' =>
      have : Instr.findNow (.struct f) k' (e :: es') 0 = none := by simp [Instr.findNow, Instr.sameNow]
      rw [this]
      exact h1
theorem okS_lookup (hE : EnvOK E P) (t : TypeId) (x y : Operand) (ok : Bool) : OpS E P K W0 (.lookup t x y ok) := by
  intro ρ fr h w a o co v h' ho hc hf H hs
  simp only [cOp, Option.bind_eq_bind, Option.bind_eq_some_iff] at hc
  obtain ⟨d, hd, hc⟩ := hc
  split at hc
  case h_2 => cases hc
  rename_i kt elem
  simp only [Option.bind_eq_some_iff] at hc
  obtain ⟨q, hq, z, hz, cx, hcx, cy, hcy, hc⟩ := hc
  cases hc
  obtain ⟨kt', _, hd', hkd⟩ := cKey_inv hq
  rw [hd] at hd'; cases hd'
  obtain ⟨zv, hzr, hzv⟩ := hE.zero hz
  have hx2 : execOp a.eval o = (do pure (.value (← Instr.lookup t (a.eval x) (a.eval y) ok))) := by unfold execOp; rw [ho]
  rw [hx2]
  have hs' : I.lookup q z cx cy ok fr h = some (v, h') := hs
  unfold I.lookup at hs'
  rw [ob_some] at hs'
  obtain ⟨es, hes, hs'⟩ := hs'
  rw [ifT_some] at hs'
  obtain ⟨hkey, hs'⟩ := hs'
  rw [ob_some] at hs'
  obtain ⟨r, hr, hs'⟩ := hs'
  have vx := ev_sound hf hcx
  have vy := ev_sound hf hcy
  generalize evC cy fr = ky at vy hkey hr
  generalize a.eval y = y' at vy
  have hmap : ∃ es' : Array MapEntry, EL ρ es es'.toList ∧ (a.eval x = .map none ∧ es' = #[] ∨ ∃ m ck, a.eval x = .map (some m) ∧ w.heap[m]? = some (.map es' ck)) := by
    rw [onMap_some] at hes
    rcases hes with ⟨hp, hes⟩ | ⟨m, hp, hes⟩
    · simp only [Option.some.injEq] at hes
      subst hes
      rw [hp] at vx
      rw [vx.nilmap_inv]
      exact ⟨#[], .nil, .inl ⟨rfl, rfl⟩⟩
    · rw [onMapO_some] at hes
      obtain ⟨es2, ck, hm, hes⟩ := hes
      cases hes
      rw [hp] at vx
      obtain ⟨s, hs1, e⟩ := vx.map_inv
      obtain ⟨es', h1, h2, _⟩ := map_at H hm hs1
      exact ⟨es', h2, .inr ⟨_, ck, e, h1⟩⟩
  obtain ⟨es', hel, hrun⟩ := hmap
  obtain ⟨r', hf1, hf2⟩ := find_sound (w := w) hE hkd vy hel hr
  have hck := checkKey_sound (w := w) hE hkd vy hkey es'.isEmpty
  have hlook : ∀ (v0 : Value) (b : Bool), (match r' with | some (_, v) => v0 = v ∧ b = true | none => v0 = zv ∧ b = false) →
      (Instr.lookup t (a.eval x) y' ok).run P w = .ok (if ok then .tuple #[v0, .bool b] else v0) w := by
    intro v0 b hb
    unfold Instr.lookup
    rw [Sem.run_bind, hE.run_und hd]
    simp only [Result.andThen_ok]
    rcases hrun with ⟨e, rfl⟩ | ⟨m, ck, e, hm⟩
    · rw [e]
      simp only [Sem.run_pure, Sem.run_bind, Result.andThen_ok, hck, hf1]
      cases r' with
      | none => obtain ⟨rfl, rfl⟩ := hb; simp only [Sem.run_bind, hzr, Result.andThen_ok, Sem.run_pure]
      | some p => obtain ⟨rfl, rfl⟩ := hb; simp only [Sem.run_pure, Sem.run_bind, Result.andThen_ok]
    · rw [e]
      simp only [Sem.run_pure, Sem.run_bind, run_getObj_map' hm, Result.andThen_ok, hck, hf1]
      cases r' with
      | none => obtain ⟨rfl, rfl⟩ := hb; simp only [Sem.run_bind, hzr, Result.andThen_ok, Sem.run_pure]
      | some p => obtain ⟨rfl, rfl⟩ := hb; simp only [Sem.run_pure, Sem.run_bind, Result.andThen_ok]
  cases r with
  | none =>
    cases r' with
    | some p => exact hf2.elim
    | none =>
      simp only [Option.some.injEq, Prod.mk.injEq] at hs'
      obtain ⟨rfl, rfl⟩ := hs'
      refine .valS (hlook zv false ⟨rfl, rfl⟩) ?_ H
      rw [ifT_eq]
      cases ok with
      | true => exact .tup (.cons (hzv _) (.cons (.bool _) .nil))
      | false => exact hzv _
  | some p =>
    cases r' with
    | none => exact hf2.elim
    | some p' =>
      obtain ⟨j, u⟩ := p
      obtain ⟨j', u'⟩ := p'
      obtain ⟨rfl, hv, _⟩ := hf2
      simp only [Option.some.injEq, Prod.mk.injEq] at hs'
      obtain ⟨rfl, rfl⟩ := hs'
      refine .valS (hlook u' true ⟨rfl, rfl⟩) ?_ H
      rw [ifT_eq]
      cases ok with
      | true => exact .tup (.cons hv (.cons (.bool _) .nil))
      | false => exact hv
end
end Go.AX
namespace Go.AX
open Go.RowKit
section
variable {E : Env} {P : Program} [Lay P] {K : Keep} {W0 : World} {ρ : Ren} {fr : Fr} {h : AHeap} {w : World} {a : Act}
theorem run_setObj {b : Nat} {o o' : Obj} (hb : w.heap[b]? = some o') (hn : ∀ C e fz, o' ≠ .cells C e fz) : (setObj b o).run P w = .ok () { w with heap := w.heap.setIfInBounds b o } := by
  cases o' with
  | cells C e fz => exact absurd rfl (hn C e fz)
  | _ => simp [setObj, Sem.run, hb]
theorem run_getObj' {b : Nat} {o : Obj} (hb : w.heap[b]? = some o) (hn : ∀ C e fz, o ≠ .cells C e fz) : (getObj b).run P w = .ok o w := by
  cases o with
  | cells C e fz => exact absurd rfl (hn C e fz)
  | _ => simp [getObj, Sem.run, hb]
theorem set_turn (w : World) (b : Nat) (o : Obj) : Turn b w { w with heap := w.heap.setIfInBounds b o } :=
  ⟨rfl, rfl, rfl, by simp, fun c hc => by simp only [Array.getElem?_setIfInBounds]; rw [if_neg (Ne.symm hc)]⟩
theorem set_at (w : World) {b : Nat} {o o' : Obj} (hb : w.heap[b]? = some o') : ({ w with heap := w.heap.setIfInBounds b o } : World).heap[b]? = some o := by
  have := (Array.getElem?_eq_some_iff.1 hb).1
  show (w.heap.setIfInBounds b o)[b]? = some o
  simp [Array.getElem?_setIfInBounds, this]
theorem WR.setMap (H : WR P K W0 ρ h w) {m : Nat} {es : List (AVal × AVal × Nat)} {ck : Nat} (hm : h.get m = some (.map es ck)) {r : RB} (hr : ρ m = some r) {es1 : List (AVal × AVal × Nat)} {es1' : Array MapEntry} {ck1 : Nat} (he : EL ρ es1 es1'.toList) :
    WR P K W0 ρ (h.put m (.map es1 ck1)) { w with heap := w.heap.setIfInBounds r.b (.map es1' ck1) } := by
  obtain ⟨es', h1, h2, h3⟩ := map_at H hm hr
  have ht := set_turn w r.b (.map es1' ck1)
  refine H.put hm trivial hr ht.os ht.tape ht.output ht.size ht.keep fun _ => ?_
  rw [set_at w h1]
  exact ⟨h3, es1', rfl, he⟩
theorem sameC_sound {x y : AVal} {x' y' : Value} (hx : V ρ x x') (hy : V ρ y y') (h : sameC x y = some true) (n : Nat) : Instr.sameBits n x' y' = true := by
  cases x with
  | bool b =>
    obtain ⟨p, q, rfl, rfl, e⟩ := beqF_sound hx hy (show beqF .b _ y = some true from h)
    cases n <;> simpa [Instr.sameBits] using e.symm
  | int k m =>
    obtain ⟨k, p, q, rfl, rfl, e⟩ := beqF_sound hx hy (show beqF .i _ y = some true from h)
    cases n <;> simpa [Instr.sameBits] using e.symm
  | str s =>
    obtain ⟨p, q, rfl, rfl, e⟩ := beqF_sound hx hy (show beqF .s _ y = some true from h)
    have e1 : p = q := by
      have e := e.symm
      rw [beq_iff_eq, ByteArray.toList_eq, ByteArray.toList_eq] at e
      exact ByteArray.ext (Array.ext' e)
    subst e1
    have e2 : (p == p) = true := by
      have : (p == p) = (p.data == p.data) := by cases p; rfl
      rw [this]; simp
    cases n <;> simpa [Instr.sameBits] using e2
  | _ => cases h
theorem sameCs_sound : ∀ {a b : List AVal} {a' b' : List Value}, VL ρ a a' → VL ρ b b' → sameCs a b = true → ∀ n, a'.length = b'.length ∧ (a'.zip b').all (fun (x, y) => Instr.sameBits n x y) = true
  | [], b, _, _, .nil, hb, h, n => by
    cases hb with
    | nil => exact ⟨rfl, rfl⟩
    | cons _ _ => cases h
  | x :: a, b, _, _, .cons hx ha, hb, h, n => by
    cases hb with
    | nil => cases h
    | cons hy hb =>
      rename_i y y' b b'
      have h' : (@Option.rec Bool (fun _ => Bool) false (fun t => ifT t (sameCs a b) false) (sameC x y)) = true := h
      cases hs : sameC x y with
      | none => rw [hs] at h'; cases h'
      | some t =>
        rw [hs] at h'
        cases t with
        | false => cases h'
        | true =>
          obtain ⟨h1, h2⟩ := sameCs_sound ha hb h' n
          refine ⟨by simp [h1], ?_⟩
          simp only [List.zip_cons_cons, List.all_cons, Bool.and_eq_true]
          exact ⟨sameC_sound hx hy hs n, h2⟩
theorem keyStays {q : KeyK} {old new : AVal} {old' new' : Value} (ho : V ρ old old') (hn : V ρ new new') (heq : beqA q new old = some true) (h : stays q old new = true) : (Instr.keyThatStays old' new').run P w = .ok new' w := by
  have hs : Instr.sameBits 10000 old' new' = true := by
    cases q with
    | one f =>
      have hc : sameC old new = some true := by
        have he : beqF f new old = some true := heq
        cases f with
        | b =>
          simp only [beqF, onBool_some, Option.some.injEq] at he
          obtain ⟨p, rfl, q, rfl, he⟩ := he
          have g : beqF .b (.bool q) (.bool p) = some true := by
            simp only [beqF, onBool_some, Option.some.injEq]
            refine ⟨_, rfl, _, rfl, ?_⟩
            rw [ifT_beq] at he ⊢
            rw [beq_iff_eq] at he ⊢; exact he.symm
          exact g
        | i =>
          simp only [beqF, onInt_some, ifT_some, Option.some.injEq] at he
          obtain ⟨k, p, rfl, k', q, rfl, hk, he⟩ := he
          have g : beqF .i (.int k' q) (.int k p) = some true := by
            simp only [beqF, onInt_some, ifT_some, Option.some.injEq]
            refine ⟨_, _, rfl, _, _, rfl, ?_, ?_⟩
            · rw [eqK_eq, decide_eq_true_iff] at hk ⊢; exact hk.symm
            · rw [eqI_eq, beq_iff_eq] at he ⊢; exact he.symm
          exact g
        | s =>
          simp only [beqF, onStr_some, Option.some.injEq] at he
          obtain ⟨p, rfl, q, rfl, he⟩ := he
          have g : beqF .s (.str q) (.str p) = some true := by
            simp only [beqF, onStr_some, Option.some.injEq]
            refine ⟨_, rfl, _, rfl, ?_⟩
            rw [eqStr_eq, decide_eq_true_iff] at he ⊢; exact he.symm
          exact g
      exact sameC_sound ho hn hc _
    | agg offs =>
      have h' : (@Option.rec Bool (fun _ => Bool) false (fun t => t) (onAgg old fun a => onAgg new fun b => some (sameCs a b))) = true := h
      cases hq : (onAgg old fun a => onAgg new fun b => some (sameCs a b)) with
      | none => rw [hq] at h'; cases h'
      | some t =>
        rw [hq] at h'
        have ht : t = true := h'
        subst ht
        rw [onAgg_some] at hq
        obtain ⟨x, rfl, hq⟩ := hq
        rw [onAgg_some] at hq
        obtain ⟨y, rfl, hq⟩ := hq
        simp only [Option.some.injEq] at hq
        obtain ⟨x', rfl, _, vx⟩ := ho.agg_inv
        obtain ⟨y', rfl, _, vy⟩ := hn.agg_inv
        obtain ⟨g1, g2⟩ := sameCs_sound vx vy hq 9999
        have key : ∀ n, (x'.toList.zip y'.toList).all (fun (x, y) => Instr.sameBits n x y) = true → Instr.sameBits (n + 1) (.agg x') (.agg y') = true := by
          intro n hn
          have : x'.size = y'.size := by simpa using g1
          simp only [Instr.sameBits, this, beq_self_eq_true, Bool.true_and]
          exact hn
        exact key 9999 g2
  unfold Instr.keyThatStays
  rw [if_pos hs]; rfl
theorem place_sound (hE : EnvOK E P) (H : WR P K W0 ρ h w) {kt : TypeId} {q : KeyK} (hkd : KeyD E kt q) {k : AVal} {k' : Value} (vk : V ρ k k') {m : Nat} {es : List (AVal × AVal × Nat)} {ck : Nat} (hm : h.get m = some (.map es ck))
    {r : RB} (hr : ρ m = some r) (hkey : keyOk q k = true) {i : Option (Nat × AVal)} (hi : findA q k es 0 = some i) :
    ∃ es' : Array MapEntry, w.heap[r.b]? = some (.map es' ck) ∧ EL ρ es es'.toList ∧ (Instr.checkKey false 10000 kt k').run P w = .ok () w ∧
      (i = none → (Instr.findKey kt k' es'.toList).run P w = .ok none w) ∧
      (∀ j v, i = some (j, v) → ∃ e e', es[j]? = some e ∧ es'[j]? = some e' ∧ V ρ e.1 e'.key ∧ V ρ e.2.1 e'.val ∧ e.2.2 = e'.born ∧ e.2.1 = v ∧ beqA q k e.1 = some true ∧ ∃ v', V ρ v v' ∧ (Instr.findKey kt k' es'.toList).run P w = .ok (some (j, v')) w) := by
  obtain ⟨es', h1, h2, h3⟩ := map_at H hm hr
  obtain ⟨r', hf1, hf2⟩ := find_sound (w := w) hE hkd vk h2 hi
  refine ⟨es', h1, h2, checkKey_sound hE hkd vk hkey false, ?_, ?_⟩
  · rintro rfl
    cases r' with
    | none => exact hf1
    | some p => exact hf2.elim
  · rintro j v rfl
    cases r' with
    | none => exact hf2.elim
    | some p =>
      obtain ⟨j', v'⟩ := p
      obtain ⟨rfl, g1, _, e, g2, g3, g4⟩ := hf2
      obtain ⟨e', g5, g6, g7, g8⟩ := h2.get g2
      exact ⟨e, e', by simpa using g2, by simpa using g5, g6, g7, g8, g4, g3, v', g1, hf1⟩
theorem okS_mapPut (hE : EnvOK E P) (t : TypeId) (m k x : Operand) {op : Op} (hop : op = .insert t m k x ∨ op = .mapUpdate t m k x) : OpS E P K W0 op := by
  intro ρ fr h w a o co v h' ho hc hf H hs
  have hx2 : execOp a.eval o = (do Instr.mapUpdate t (a.eval m) (a.eval k) (a.eval x); pure .skip) := by
    unfold execOp; rw [ho]; rcases hop with rfl | rfl <;> rfl
  have hc' : (do pure (.mapPut (← cKey E t) (← cO m) (← cO k) (← cO x)) : Option COp) = some co := by
    rcases hop with rfl | rfl <;> exact hc
  simp only [Option.bind_eq_bind, Option.bind_eq_some_iff] at hc'
  obtain ⟨q, hq, cm, hcm, ck, hck, cx, hcx, hc'⟩ := hc'
  cases hc'
  rw [hx2]
  obtain ⟨kt, el, hd, hkd⟩ := cKey_inv hq
  have hs' : I.mapPut q cm ck cx fr h = some (v, h') := hs
  unfold I.mapPut at hs'
  rw [onMap_some] at hs'
  rcases hs' with ⟨_, hs'⟩ | ⟨b, hp, hs'⟩
  · cases hs'
  rw [onMapO_some] at hs'
  obtain ⟨es, clock, hm, hs'⟩ := hs'
  rw [ifT_some] at hs'
  obtain ⟨hkey, hs'⟩ := hs'
  rw [ob_some] at hs'
  obtain ⟨i, hi, hs'⟩ := hs'
  have vm := ev_sound hf hcm
  have vk := ev_sound hf hck
  have vx := ev_sound hf hcx
  rw [hp] at vm
  obtain ⟨r, hr, em⟩ := vm.map_inv
  generalize evC ck fr = ka at vk hkey hi hs'
  generalize evC cx fr = xa at vx hs'
  generalize a.eval k = k' at vk
  generalize a.eval x = x' at vx
  obtain ⟨es', g1, g2, g3, g4, g5⟩ := place_sound hE H hkd vk hm hr hkey hi
  have hset : ∀ o, (setObj r.b o).run P w = .ok () { w with heap := w.heap.setIfInBounds r.b o } := fun o => run_setObj g1 (fun _ _ _ h => by cases h)
  rw [em]
  cases i with
  | none =>
    simp only [Option.some.injEq, Prod.mk.injEq] at hs'
    obtain ⟨rfl, rfl⟩ := hs'
    rw [appL_eq]
    refine .unit (w' := { w with heap := w.heap.setIfInBounds r.b (.map (es'.push { key := k', val := x', born := clock }) (clock + 1)) }) ?_ (Ren.le_refl _) (H.setMap hm hr (by simpa using g2.append vk vx))
    unfold Instr.mapUpdate
    simp only [Sem.run_bind, hE.run_und hd, Result.andThen_ok, run_getObj_map' g1, g3, g4 rfl, hset]
  | some p =>
    obtain ⟨j, u⟩ := p
    obtain ⟨e, e', q1, q2, q3, q4, q5, q6, q7, v', q8, q9⟩ := g5 j u rfl
    have hs' := ob_some.1 hs'
    obtain ⟨e2, he2, hs'⟩ := hs'
    rw [getL_eq, q1] at he2
    cases he2
    rw [ifT_some] at hs'
    obtain ⟨hst, hs'⟩ := hs'
    simp only [Option.some.injEq, Prod.mk.injEq] at hs'
    obtain ⟨rfl, rfl⟩ := hs'
    have hks := keyStays (P := P) (w := w) q3 vk q7 hst
    refine .unit (w' := { w with heap := w.heap.setIfInBounds r.b (.map (es'.modify j fun e => { e with key := k', val := x' }) clock) }) ?_ (Ren.le_refl _) (H.setMap hm hr ?_)
    · unfold Instr.mapUpdate
      simp only [Sem.run_bind, hE.run_und hd, Result.andThen_ok, run_getObj_map' g1, g3, q9, q2, Option.map_some, Option.getD_some, hks, hset]
    · simp only [Array.toList_modify]
      exact EL.mod (f := fun e => (ka, xa, e.2.2)) (g := fun e => { e with key := k', val := x' }) (fun e e' _ _ c => ⟨vk, vx, c⟩) g2 j
theorem okS_mapEntry (hE : EnvOK E P) (t : TypeId) (m k : Operand) : OpS E P K W0 (.mapEntry t m k) := by
  intro ρ fr h w a o co v h' ho hc hf H hs
  simp only [cOp, Option.bind_eq_bind, Option.bind_eq_some_iff] at hc
  obtain ⟨d, hd, hc⟩ := hc
  split at hc
  case h_2 => cases hc
  rename_i kt elem
  simp only [Option.bind_eq_some_iff] at hc
  obtain ⟨q, hq, z, hz, cm, hcm, ck, hck, hc⟩ := hc
  cases hc
  obtain ⟨kt', _, hd', hkd⟩ := cKey_inv hq
  rw [hd] at hd'; cases hd'
  obtain ⟨zv, hzr, hzv⟩ := hE.zero hz
  have hx2 : execOp a.eval o = (do pure (.value (← Instr.mapEntry t (a.eval m) (a.eval k)))) := by unfold execOp; rw [ho]
  rw [hx2]
  have hs' : I.mapEntry q z cm ck fr h = some (v, h') := hs
  unfold I.mapEntry at hs'
  rw [onMap_some] at hs'
  rcases hs' with ⟨_, hs'⟩ | ⟨b, hp, hs'⟩
  · cases hs'
  rw [onMapO_some] at hs'
  obtain ⟨es, clock, hm, hs'⟩ := hs'
  rw [ifT_some] at hs'
  obtain ⟨hkey, hs'⟩ := hs'
  rw [ob_some] at hs'
  obtain ⟨i, hi, hs'⟩ := hs'
  have vm := ev_sound hf hcm
  have vk := ev_sound hf hck
  rw [hp] at vm
  obtain ⟨r, hr, em⟩ := vm.map_inv
  generalize evC ck fr = ka at vk hkey hi hs'
  generalize a.eval k = k' at vk
  obtain ⟨es', g1, g2, g3, g4, g5⟩ := place_sound hE H hkd vk hm hr hkey hi
  have hset : ∀ o, (setObj r.b o).run P w = .ok () { w with heap := w.heap.setIfInBounds r.b o } := fun o => run_setObj g1 (fun _ _ _ h => by cases h)
  rw [em]
  cases i with
  | none =>
    simp only [Option.some.injEq, Prod.mk.injEq] at hs'
    obtain ⟨rfl, rfl⟩ := hs'
    rw [appL_eq]
    refine .val (v' := .tuple #[zv, goInt clock]) (w' := { w with heap := w.heap.setIfInBounds r.b (.map (es'.push { key := k', val := zv, born := clock }) (clock + 1)) }) ?_ (Ren.le_refl _) (.tup (.cons (hzv _) (.cons (.int _ _) .nil))) (H.setMap hm hr (by simpa using g2.append vk (hzv _)))
    unfold Instr.mapEntry
    simp only [Sem.run_bind, hE.run_und hd, Result.andThen_ok, run_getObj_map' g1, g3, g4 rfl, hzr, hset, Sem.run_pure]
  | some p =>
    obtain ⟨j, u⟩ := p
    obtain ⟨e, e', q1, q2, q3, q4, q5, q6, q7, v', q8, q9⟩ := g5 j u rfl
    have hs' := ob_some.1 hs'
    obtain ⟨e2, he2, hs'⟩ := hs'
    rw [getL_eq, q1] at he2
    cases he2
    rw [ifT_some] at hs'
    obtain ⟨hst, hs'⟩ := hs'
    simp only [Option.some.injEq, Prod.mk.injEq] at hs'
    obtain ⟨rfl, rfl⟩ := hs'
    have hks := keyStays (P := P) (w := w) q3 vk q7 hst
    refine .val (v' := .tuple #[v', goInt e'.born]) (w' := { w with heap := w.heap.setIfInBounds r.b (.map (es'.modify j fun e => { e with key := k' }) clock) }) ?_ (Ren.le_refl _) (.tup (.cons q8 (.cons ?_ .nil))) (H.setMap hm hr ?_)
    · unfold Instr.mapEntry
      simp only [Sem.run_bind, hE.run_und hd, Result.andThen_ok, run_getObj_map' g1, g3, q9, q2, Option.map_some, Option.getD_some, hks, hset, Sem.run_pure]
    · rw [q5]; exact .int _ _
    · simp only [Array.toList_modify]
      exact EL.mod (f := fun e => (ka, e.2.1, e.2.2)) (g := fun e => { e with key := k' }) (fun e e' _ b c => ⟨vk, b, c⟩) g2 j
theorem idxBorn_sound : ∀ {es : List (AVal × AVal × Nat)} {es' : List MapEntry}, EL ρ es es' → ∀ {n i j : Nat}, I.idxBorn n es i = some j → i ≤ j ∧ es'.findIdx? (fun e => (e.born : Int) == (n : Int)) = some (j - i)
  | _, _, .nil, n, i, j, h => by cases h
  | _, _, .cons (e := e) (e' := e') (l := l) (l' := l') a b c hl, n, i, j, h => by
    have h' : ifT (Nat.beq e.2.2 n) (some i) (I.idxBorn n l (i + 1)) = some j := h
    rw [ifT_eq] at h'
    rw [List.findIdx?_cons]
    split at h'
    · rename_i hb
      rw [Nat.beq_eq] at hb
      cases h'
      refine ⟨Nat.le_refl _, ?_⟩
      rw [if_pos (by rw [← c, hb]; simp)]
      simp
    · rename_i hb
      rw [Nat.beq_eq] at hb
      obtain ⟨h1, h2⟩ := idxBorn_sound hl h'
      refine ⟨by omega, ?_⟩
      rw [if_neg (by rw [← c]; simp; omega), h2]
      simp; omega
theorem okS_entryStore (t : TypeId) (m s x : Operand) : OpS E P K W0 (.entryStore t m s x) := by
  intro ρ fr h w a o co v h' ho hc hf H hs
  simp only [cOp, Option.bind_eq_bind, Option.bind_eq_some_iff] at hc
  obtain ⟨cm, hcm, cs, hcs, cx, hcx, hc⟩ := hc
  cases hc
  have hx2 : execOp a.eval o = (do Instr.entryStore t (a.eval m) (a.eval s) (a.eval x); pure .skip) := by unfold execOp; rw [ho]
  rw [hx2]
  have hs' : I.entryStore cm cs cx fr h = some (v, h') := hs
  unfold I.entryStore at hs'
  rw [onMap_some] at hs'
  rcases hs' with ⟨_, hs'⟩ | ⟨b, hp, hs'⟩
  · cases hs'
  rw [onNat_some] at hs'
  obtain ⟨kk, n, hn, hs'⟩ := hs'
  rw [onMapO_some] at hs'
  obtain ⟨es, clock, hm, hs'⟩ := hs'
  rw [ob_some] at hs'
  obtain ⟨i, hi, hs'⟩ := hs'
  simp only [Option.some.injEq, Prod.mk.injEq] at hs'
  obtain ⟨rfl, rfl⟩ := hs'
  have vm := ev_sound hf hcm
  have vn := ev_sound hf hcs
  have vx := ev_sound hf hcx
  rw [hp] at vm
  rw [hn] at vn
  obtain ⟨r, hr, em⟩ := vm.map_inv
  obtain ⟨es', g1, g2, g3⟩ := map_at H hm hr
  obtain ⟨_, hfi⟩ := idxBorn_sound g2 hi
  have hfi' : es'.findIdx? (fun e => (e.born : Int) == (n : Int)) = some i := by
    rw [show es' = es'.toList.toArray by simp, List.findIdx?_toArray]
    simpa using hfi
  rw [em, vn.int_inv]
  refine .unit (w' := { w with heap := w.heap.setIfInBounds r.b (.map (es'.modify i fun e => { e with val := a.eval x }) clock) }) ?_ (Ren.le_refl _) (H.setMap hm hr ?_)
  · unfold Instr.entryStore
    have e0 : (Int.ofNat n : Int) = (n : Int) := rfl
    simp only [Sem.run_bind, run_getObj_map' g1, Result.andThen_ok, asInt, asIntOf, e0, Sem.run_pure, hfi']
    exact run_setObj g1 (fun _ _ _ h => by cases h)
  · simp only [Array.toList_modify]
    exact EL.mod (f := fun e => (e.1, evC cx fr, e.2.2)) (g := fun e => { e with val := a.eval x }) (fun e e' p _ c => ⟨p, vx, c⟩) g2 i
end
end Go.AX
namespace Go.AX
open Go.RowKit
section
variable {E : Env} {P : Program} [Lay P] {K : Keep} {W0 : World} {ρ : Ren} {fr : Fr} {h : AHeap} {w : World} {a : Act}
theorem okS_range (hE : EnvOK E P) (t : TypeId) (x : Operand) : OpS E P K W0 (.range t x) := by
  intro ρ fr h w a o co v h' ho hc hf H hs
  simp only [cOp, Option.bind_eq_bind, Option.bind_eq_some_iff] at hc
  obtain ⟨d, hd, hc⟩ := hc
  split at hc
  case h_2 => cases hc
  rename_i kt elem
  simp only [Option.bind_eq_some_iff] at hc
  obtain ⟨cx, hcx, hc⟩ := hc
  cases hc
  have hx2 : execOp a.eval o = (do pure (.value (← Instr.range t (a.eval x)))) := by unfold execOp; rw [ho]
  rw [hx2]
  have hs' : I.range cx fr h = some (v, h') := hs
  unfold I.range at hs'
  have vx := ev_sound hf hcx
  have hρ := (H.fresh h.next (Nat.le_refl _)).1
  have hV : ∀ r : RB, r.b = w.heap.size → r.d = 0 → V (ρ.upd h.next r) (.ptr h.next 0) (.pointer (some ⟨w.heap.size, 0, none⟩)) := by
    intro r h1 h2
    have := V.ptr (ρ := ρ.upd h.next r) (o := 0) (Ren.upd_same ρ h.next r)
    rw [h1, h2] at this; exact this
  rw [onMap_some] at hs'
  rcases hs' with ⟨hp, hs'⟩ | ⟨m, hp, hs'⟩
  · simp only [Option.some.injEq, Prod.mk.injEq] at hs'
    obtain ⟨rfl, rfl⟩ := hs'
    rw [hp] at vx
    rw [vx.nilmap_inv]
    refine .val (v' := .pointer (some ⟨w.heap.size, 0, none⟩)) (w' := { w with heap := w.heap.push (.mapIter none 0 #[] 0) }) (ρ' := ρ.upd h.next ⟨w.heap.size, 0, none, al0⟩) ?_ (Ren.le_upd _ hρ) (hV _ rfl rfl)
      (H.push (r := ⟨w.heap.size, 0, none, al0⟩) _ hρ (AHeap.get_push_same _ _) (fun m hm => AHeap.get_push_ne _ _ (Ne.symm hm)) (by simp [AHeap.next_push]) (by simp [AHeap.next_push]) H.nx rfl ⟨rfl, none, rfl, .inl ⟨rfl, rfl⟩⟩)
    unfold Instr.range
    simp only [Sem.run_bind, hE.run_und hd, Result.andThen_ok, Sem.run_pure, run_newObj]
  · rw [onMapO_some] at hs'
    obtain ⟨es, clock, hm, hs'⟩ := hs'
    simp only [Option.some.injEq, Prod.mk.injEq] at hs'
    obtain ⟨rfl, rfl⟩ := hs'
    rw [hp] at vx
    obtain ⟨r, hr, em⟩ := vx.map_inv
    obtain ⟨es', g1, g2, g3⟩ := map_at H hm hr
    rw [em]
    refine .val (v' := .pointer (some ⟨w.heap.size, 0, none⟩)) (w' := { w with heap := w.heap.push (.mapIter (some r.b) clock #[] clock) }) (ρ' := ρ.upd h.next ⟨w.heap.size, 0, none, al0⟩) ?_ (Ren.le_upd _ hρ) (hV _ rfl rfl)
      (H.push (r := ⟨w.heap.size, 0, none, al0⟩) _ hρ (AHeap.get_push_same _ _) (fun m hm => AHeap.get_push_ne _ _ (Ne.symm hm)) (by simp [AHeap.next_push]) (by simp [AHeap.next_push]) H.nx rfl ⟨rfl, some r.b, rfl, .inr ⟨m, r, rfl, Ren.le_upd _ hρ _ _ hr, rfl⟩⟩)
    unfold Instr.range
    simp only [Sem.run_bind, hE.run_und hd, Result.andThen_ok, Sem.run_pure, run_newObj, run_getObj_map' g1]
theorem iter_at (H : WR P K W0 ρ h w) {b : Nat} {m : Option Nat} {since : Nat} {seen : List Nat} {last : Nat} (hb : h.get b = some (.mapIter m since seen last)) {r : RB} (hr : ρ b = some r) :
    r.d = 0 ∧ ∃ m', w.heap[r.b]? = some (.mapIter m' since seen.toArray last) ∧ (m = none ∧ m' = none ∨ ∃ a s, m = some a ∧ ρ a = some s ∧ m' = some s.b) := by
  obtain ⟨s, hs, _, h0, m', h1, h2⟩ := H.obj b _ hb trivial
  rw [hr] at hs; cases hs
  exact ⟨h0, m', h1, h2⟩
theorem EL.filter {p : Nat → Bool} : ∀ {l : List (AVal × AVal × Nat)} {l' : List MapEntry}, EL ρ l l' → EL ρ (l.filter fun e => p e.2.2) (l'.filter fun e => p e.born)
  | _, _, .nil => .nil
  | _, _, .cons (e := e) (e' := e') a b c hl => by
    simp only [List.filter_cons]
    rw [← c]
    split
    · exact .cons a b c (EL.filter hl)
    · exact EL.filter hl
theorem EL.all {p : Nat → Bool} : ∀ {l : List (AVal × AVal × Nat)} {l' : List MapEntry}, EL ρ l l' → (l'.all fun e => p e.born) = l.all fun e => p e.2.2
  | _, _, .nil => rfl
  | _, _, .cons (e := e) (e' := e') a b c hl => by
    simp only [List.all_cons, EL.all hl, c]
theorem EL.find {p : Nat → Bool} : ∀ {l : List (AVal × AVal × Nat)} {l' : List MapEntry}, EL ρ l l' → ∀ {e : AVal × AVal × Nat}, (l.find? fun e => p e.2.2) = some e → ∃ e', (l'.find? fun e => p e.born) = some e' ∧ V ρ e.1 e'.key ∧ V ρ e.2.1 e'.val
  | _, _, .nil, _, h => by cases h
  | _, _, .cons (e := e) (e' := e') a b c hl, x, h => by
    rw [List.find?_cons] at h ⊢
    rw [← c]
    cases hp : p e.2.2 with
    | true => rw [hp] at h; cases h; exact ⟨e', rfl, a, b⟩
    | false => rw [hp] at h; exact EL.find hl h
theorem okS_next (it : Operand) : OpS E P K W0 (.next it false) := by
  intro ρ fr h w a o co v h' ho hc hf H hs
  simp only [cOp, Option.bind_eq_bind, Option.bind_eq_some_iff] at hc
  obtain ⟨cx, hcx, hc⟩ := hc
  cases hc
  have hx2 : execOp a.eval o = (do pure (.value (← Instr.next (a.eval it) false o.type))) := by unfold execOp; rw [ho]
  rw [hx2]
  have hs' : I.next cx fr h = some (v, h') := hs
  unfold I.next at hs'
  rw [onPtr_some] at hs'
  obtain ⟨b, off, hp, hs'⟩ := hs'
  rw [ifT_some] at hs'
  obtain ⟨h0, hs'⟩ := hs'
  rw [Nat.beq_eq] at h0
  subst h0
  rw [onIterO_some] at hs'
  obtain ⟨m, since, seen, last, hb, hs'⟩ := hs'
  have vx := ev_sound hf hcx
  rw [hp] at vx
  obtain ⟨r, hr, ex⟩ := vx.ptr_inv
  obtain ⟨hd, m', g1, g2⟩ := iter_at H hb hr
  rw [ex, show 0 + r.d = 0 by omega]
  have hget := run_getObj' (P := P) g1 (fun _ _ _ h => by cases h)
  cases m with
  | none =>
    rcases g2 with ⟨_, rfl⟩ | ⟨_, _, h, _⟩
    case inr => cases h
    simp only [Option.some.injEq, Prod.mk.injEq] at hs'
    obtain ⟨rfl, rfl⟩ := hs'
    refine .valS (v' := .tuple #[.bool false]) ?_ (.tup (.cons (.bool _) .nil)) H
    unfold Instr.next
    simp only [Sem.run_bind, hget, Result.andThen_ok, Sem.run_pure]
  | some m =>
    rcases g2 with ⟨h, _⟩ | ⟨m1, s, h, hs1, rfl⟩
    case inl => cases h
    cases h
    have hs' : (onMapO (h.get m) fun es clock =>
      bif !seen.isEmpty && !es.isEmpty && es.all (fun e => Nat.ble last e.2.2) then none else
      match es.filter fun e => !seen.contains e.2.2 with
      | [] => some (.tup [.bool false], h)
      | [e] => bif Nat.blt e.2.2 since then some (.tup [.bool true, e.1, e.2.1], h.put b (.mapIter (some m) since (seen ++ [e.2.2]) clock)) else none
      | _ => none) = some (v, h') := hs'
    rw [onMapO_some] at hs'
    obtain ⟨es, clock, hm, hs'⟩ := hs'
    obtain ⟨es', k1, k2, k3⟩ := map_at H hm hs1
    have hlen := k2.length
    have hempty : es'.isEmpty = es.isEmpty := by
      rw [Bool.eq_iff_iff]
      simp at hlen ⊢
      rw [← Array.size_eq_zero_iff, ← hlen, List.length_eq_zero_iff]
    have hall : (es'.all fun e => decide (e.born ≥ last)) = es.all fun e => Nat.ble last e.2.2 := by
      have := k2.all (p := fun n => Nat.ble last n)
      rw [← this]
      simp only [Array.all_toList]
      congr 1
      funext e
      rw [Bool.eq_iff_iff]
      simp
    cases hcond : (!seen.isEmpty && !es.isEmpty && es.all (fun e => Nat.ble last e.2.2)) with
    | true => rw [hcond] at hs'; cases hs'
    | false =>
      rw [hcond] at hs'
      simp only [cond_false] at hs'
      have hcond' : (!seen.toArray.isEmpty && !es'.isEmpty && es'.all (fun e => decide (e.born ≥ last))) = false := by
        rw [hempty, hall, ← hcond]
        simp
      have hleft : EL ρ (es.filter fun e => !seen.contains e.2.2) (es'.filter fun e => !seen.toArray.contains e.born).toList := by
        have := k2.filter (p := fun n => !seen.contains n)
        rw [Array.toList_filter]
        simpa using this
      generalize hfl : (es.filter fun e => !seen.contains e.2.2) = fl at hs' hleft
      generalize hfl' : (es'.filter fun e => !seen.toArray.contains e.born) = fl' at hleft
      split at hs'
      ·
        simp only [Option.some.injEq, Prod.mk.injEq] at hs'
        obtain ⟨rfl, rfl⟩ := hs'
        have : fl' = #[] := by
          generalize hq : fl'.toList = q at hleft
          cases hleft
          exact Array.toList_eq_nil_iff.1 hq
        subst this
        refine .valS (v' := .tuple #[.bool false]) ?_ (.tup (.cons (.bool _) .nil)) H
        unfold Instr.next
        simp only [Sem.run_bind, hget, Result.andThen_ok, run_getObj_map' k1]
        rw [hcond']
        simp only [Bool.false_eq_true, if_false, hfl', Sem.run_pure, Result.andThen_ok, Array.filter_empty, Array.isEmpty_empty, if_true, Sem.run_bind]
        simp [Question.forced]
      · rename_i e
        cases hlt : Nat.blt e.2.2 since with
        | false => rw [hlt] at hs'; cases hs'
        | true =>
          rw [hlt] at hs'
          simp only [cond_true, Option.some.injEq, Prod.mk.injEq] at hs'
          obtain ⟨rfl, rfl⟩ := hs'
          have : ∃ e', fl' = #[e'] ∧ V ρ e.1 e'.key ∧ V ρ e.2.1 e'.val ∧ e.2.2 = e'.born := by
            generalize hq : fl'.toList = q at hleft
            cases hleft with
            | cons a b c hl =>
              rename_i e' l'
              cases hl
              refine ⟨e', ?_, a, b, c⟩
              apply Array.ext'
              rw [hq]
          obtain ⟨e', rfl, va, vb, ec⟩ := this
          rw [Nat.blt_eq] at hlt
          have hlt' : decide (e'.born < since) = true := by rw [← ec]; simpa using hlt
          have hge' : decide (e'.born ≥ since) = false := by rw [← ec]; simp; omega
          have hold : (#[e'] : Array MapEntry).filter (fun e => decide (e.born < since)) = #[e'] := by
            apply Array.ext'; simp only [Array.toList_filter, List.filter_cons, hlt', if_true, List.filter_nil]
          have hnew : (#[e'] : Array MapEntry).filter (fun e => decide (e.born ≥ since)) = #[] := by
            apply Array.ext'; simp only [Array.toList_filter, List.filter_cons, hge', Bool.false_eq_true, if_false, List.filter_nil]
          refine .val (v' := .tuple #[.bool true, e'.key, e'.val]) (w' := { w with heap := w.heap.setIfInBounds r.b (.mapIter (some s.b) since (seen.toArray.push e'.born) clock) }) ?_ (Ren.le_refl _) (.tup (.cons (.bool _) (.cons va (.cons vb .nil)))) ?_
          · unfold Instr.next
            simp only [Sem.run_bind, hget, Result.andThen_ok, run_getObj_map' k1]
            rw [hcond']
            simp only [Bool.false_eq_true, if_false, hfl', Sem.run_pure, Result.andThen_ok, Sem.run_bind, hold, hnew]
            simp [Question.forced, run_setObj (P := P) g1 (fun _ _ _ h => by cases h)]
          · have ht := set_turn w r.b (.mapIter (some s.b) since (seen.toArray.push e'.born) clock)
            refine H.put hb trivial hr ht.os ht.tape ht.output ht.size ht.keep fun _ => ?_
            rw [set_at w g1]
            exact ⟨hd, some s.b, by rw [ec]; simp, .inr ⟨m, s, rfl, hs1, rfl⟩⟩
      · cases hs'
theorem okS_entry (it : Operand) : OpS E P K W0 (.entry it) := by
  intro ρ fr h w a o co v h' ho hc hf H hs
  simp only [cOp, Option.bind_eq_bind, Option.bind_eq_some_iff] at hc
  obtain ⟨cx, hcx, hc⟩ := hc
  cases hc
  have hx2 : execOp a.eval o = (do pure (.value (← Instr.entry (a.eval it)))) := by unfold execOp; rw [ho]
  rw [hx2]
  have hs' : I.entry cx fr h = some (v, h') := hs
  unfold I.entry at hs'
  rw [onPtr_some] at hs'
  obtain ⟨b, off, hp, hs'⟩ := hs'
  rw [ifT_some] at hs'
  obtain ⟨h0, hs'⟩ := hs'
  rw [Nat.beq_eq] at h0
  subst h0
  rw [onIterO_some] at hs'
  obtain ⟨m, since, seen, stepped, hb, hs'⟩ := hs'
  rw [ob_some] at hs'
  obtain ⟨m, rfl, hs'⟩ := hs'
  rw [ob_some] at hs'
  obtain ⟨stamp, hst, hs'⟩ := hs'
  rw [onMapO_some] at hs'
  obtain ⟨es, clock, hm, hs'⟩ := hs'
  rw [ifT_some] at hs'
  obtain ⟨hck, hs'⟩ := hs'
  rw [Nat.beq_eq] at hck
  subst hck
  simp only [ob_some, Option.some.injEq, Prod.mk.injEq] at hs'
  obtain ⟨e, he, rfl, rfl⟩ := hs'
  have vx := ev_sound hf hcx
  rw [hp] at vx
  obtain ⟨r, hr, ex⟩ := vx.ptr_inv
  obtain ⟨hd, m', g1, g2⟩ := iter_at H hb hr
  rw [ex, show 0 + r.d = 0 by omega]
  have hget := run_getObj' (P := P) g1 (fun _ _ _ h => by cases h)
  rcases g2 with ⟨h, _⟩ | ⟨m1, s, h, hs1, rfl⟩
  case inl => cases h
  cases h
  obtain ⟨es', k1, k2, k3⟩ := map_at H hm hs1
  obtain ⟨e', he', va, vb⟩ := k2.find (p := fun n => Nat.beq n stamp) he
  have hfind : es'.find? (fun e => e.born == stamp) = some e' := by
    rw [← Array.find?_toList]
    have e1 : (fun e : MapEntry => e.born == stamp) = fun e => Nat.beq e.born stamp := by
      funext e; rw [Bool.eq_iff_iff, beq_iff_eq, Nat.beq_eq]
    rw [e1]
    exact he'
  have hback : seen.toArray.back? = some stamp := by simpa using hst
  refine .valS (v' := .tuple #[e'.key, e'.val]) ?_ (.tup (.cons va (.cons vb .nil))) H
  unfold Instr.entry
  simp only [Sem.run_bind, hget, Result.andThen_ok, hback, run_getObj_map' k1]
  simp [hfind]
end
end Go.AX
namespace Go.AX
open Go.RowKit
section
variable {E : Env} {P : Program} [Lay P] {K : Keep} {W0 : World}
theorem okS_builtin (hE : EnvOK E P) {ρ : Ren} {fr : Fr} {h : AHeap} {w : World} {a : Act} {c0 : Call} {b : Builtin} (h0 : c0.callee = .builtin b) {o : Oper} {co : COp} {v : AVal} {h' : AHeap} (ho : o.op = .call c0)
    (hc : cBuiltin E b c0.args.toList c0.argTypes = some co) (hf : FR ρ fr a.tmps) (H : WR P K W0 ρ h w) (hs : stepOp co fr h = some (v, h')) : Sound P (execOp a.eval o) K W0 ρ w v h' := by
  unfold cBuiltin at hc
  split at hc
  · rename_i x hx0
    simp only [Option.bind_eq_bind, Option.bind_eq_some_iff] at hc
    obtain ⟨t, ht, hc⟩ := hc
    exact okS_len hE h0 hx0 ht ho hc hf H hs
  · rename_i s x hx0
    simp only [Option.bind_eq_bind, Option.bind_eq_some_iff] at hc
    obtain ⟨t, ht, u, hu, hc⟩ := hc
    exact okS_append hE h0 hx0 ht hu ho hc hf H hs
  · rename_i s x hx0
    simp only [Option.bind_eq_bind, Option.bind_eq_some_iff] at hc
    obtain ⟨t, ht, hc⟩ := hc
    exact okS_copy hE h0 hx0 ht ho hc hf H hs
  · simp only [Option.bind_eq_bind, Option.bind_eq_some_iff] at hc
    obtain ⟨cs, hcs, hc⟩ := hc
    cases hc
    exact okS_minmax (isMax := true) h0 hcs ho hf H hs
  · simp only [Option.bind_eq_bind, Option.bind_eq_some_iff] at hc
    obtain ⟨cs, hcs, hc⟩ := hc
    cases hc
    exact okS_minmax (isMax := false) h0 hcs ho hf H hs
  · rename_i x hx0
    simp only [Option.bind_eq_bind, Option.bind_eq_some_iff] at hc
    obtain ⟨cx, hcx, hc⟩ := hc
    cases hc
    exact okS_sliceData h0 hx0 hcx ho hf H hs
  · rename_i x n hx0
    simp only [Option.bind_eq_bind, Option.bind_eq_some_iff] at hc
    obtain ⟨t, ht, hc⟩ := hc
    exact okS_unsafeStr hE h0 hx0 ht ho hc hf H hs
  · cases hc
theorem okS_all (hE : EnvOK E P) (op : Op) : OpS E P K W0 op := by
  cases op with
  | move x => exact okS_mv x
  | assign x => exact okS_assign x
  | pick x y z => exact okS_pick x y z
  | alloc t => exact okS_alloc hE t
  | box t x => exact okS_box t x
  | build t ps => exact okS_build hE t ps
  | buildSlice t n ps => exact okS_buildSlice hE t n ps
  | load t x => exact okS_load hE t x
  | store t x y => exact okS_store hE t x y
  | nilCheck x => exact okS_nilCheck x
  | binOp op t x y yt => exact okS_bin hE op t x y yt
  | unOp u t x =>
    cases u with
    | not => exact okS_not t x
    | neg => exact okS_neg t x
    | _ => intro ρ fr h w a o co v h' ho hc; cases hc
  | convert s d x => exact okS_convert hE s d x
  | makeInterface t x => exact okS_makeInterface hE t x
  | makeFunc f x y =>
    cases f with
    | func f => exact okS_makeFunc f x y
    | _ => intro ρ fr h w a o co v h' ho hc; cases hc
  | makeMap t r =>
    cases r with
    | none => exact okS_makeMap t
    | some r => intro ρ fr h w a o co v h' ho hc; cases hc
  | makeSlice t x y => exact okS_makeSlice hE t x y
  | slice t x lo hi mx => exact okS_slice hE t x lo hi mx
  | fieldAddr s x f => exact okS_fieldAddr hE s x f
  | field s x f => exact okS_field hE s x f
  | indexAddr t x y => exact okS_indexAddr hE t x y
  | index t x y => exact okS_index hE t x y
  | lookup t x y ok => exact okS_lookup hE t x y ok
  | insert t m k v => exact okS_mapPut hE t m k v (.inl rfl)
  | mapUpdate t m k v => exact okS_mapPut hE t m k v (.inr rfl)
  | mapEntry t m k => exact okS_mapEntry hE t m k
  | entryStore t m s v => exact okS_entryStore t m s v
  | range t x => exact okS_range hE t x
  | next it s =>
    cases s with
    | false => exact okS_next it
    | true => intro ρ fr h w a o co v h' ho hc; cases hc
  | entry it => exact okS_entry it
  | typeAssert x xt t ok => exact okS_assert hE x xt t ok
  | extract x i => exact okS_extract x i
  | call c =>
    intro ρ fr h w a o co v h' ho hc hf H hs
    cases hcal : c.callee with
    | builtin b =>
      simp only [cOp, hcal] at hc
      exact okS_builtin hE hcal ho hc hf H hs
    | value f =>
      simp only [cOp, hcal, Option.bind_eq_bind, Option.bind_eq_some_iff] at hc
      obtain ⟨f, _, as, _, hc⟩ := hc
      cases hc
      cases hs
    | invoke r n =>
      simp only [cOp, hcal, Option.bind_eq_bind, Option.bind_eq_some_iff] at hc
      obtain ⟨f, _, as, _, hc⟩ := hc
      cases hc
      cases hs
  | _ => intro ρ fr h w a o co v h' ho hc; cases hc
end
end Go.AX
namespace Go.AX
open Go.RowKit
section
variable {E : Env} {P : Program} [Lay P] {K : Keep} {W0 : World} {ρ : Ren} {fr : Fr} {h : AHeap} {w : World} {a : Act}
def Enters (P : Program) [Lay P] (f : FuncId) : Prop := ∃ fn, P.funcs[f]? = some fn ∧ (fn.name == "runtime.NumGoroutine") = false ∧ fn.body.isNone = false
def CPost (P : Program) [Lay P] (K : Keep) (W0 : World) (ρ : Ren) (v : AVal) (h' : AHeap) : Ending → World → Prop :=
  fun e w' => ∃ v' ρ', e = .returned v' ∧ ρ.le ρ' ∧ V ρ' v v' ∧ WR P K W0 ρ' h' w'
def CallS (P : Program) [Lay P] (callf : CallF) : Prop :=
  ∀ f args h v h', callf f args h = some (v, h') → Enters P f ∧ ∀ (K : Keep) (W0 : World) (ρ : Ren) (w : World) (args' : Array Value), VL ρ args args'.toList → WR P K W0 ρ h w → Calls P f args' w (CPost P K W0 ρ v h')
theorem run_callFunc {f : FuncId} (hf : Enters P f) (args : Array Value) : (callFunc f args).run P w = .ok (.enter f args) w := by
  obtain ⟨fn, h1, h2, h3⟩ := hf
  unfold callFunc
  simp only [Sem.run_bind, run_program, Result.andThen_ok, h1, h2, h3, Bool.false_eq_true, if_false, Sem.run_pure]
def OpW (P : Program) [Lay P] (o : Oper) (a : Act) (K : Keep) (W0 : World) (ρ : Ren) (w : World) (v : AVal) (h' : AHeap) : Prop :=
  ∀ (next : Act → World → Prop) (Q : Exit → Act → World → Prop), (∀ v' w' ρ', ρ.le ρ' → V ρ' v v' → WR P K W0 ρ' h' w' → next (a.put o.dst v') w') → o.wp P a w next Q
theorem Sound.opW {o : Oper} {v : AVal} {h' : AHeap} (hs : Sound P (execOp a.eval o) K W0 ρ w v h') : OpW P o a K W0 ρ w v h' := by
  intro next Q hn
  obtain ⟨n, v', w', ρ', h1, h2, h3, h4, h5⟩ := hs
  unfold Oper.wp
  rw [h1]
  rcases h2 with rfl | ⟨rfl, rfl⟩
  · exact hn _ _ _ h3 h4 h5
  · exact hn _ _ _ h3 h4 h5
theorem cOp_call_inv {op : Op} {f : COpd} {as : List COpd} (h : cOp E op = some (.call f as)) : ∃ c x, op = .call c ∧ c.callee = .value x ∧ cO x = some f ∧ cOs c.args = some as := by
  cases op
  case call c =>
    cases hc : c.callee with
    | value x =>
      simp only [cOp, hc, Option.bind_eq_bind, Option.bind_eq_some_iff] at h
      obtain ⟨f', h1, as', h2, h3⟩ := h
      cases h3
      exact ⟨c, x, rfl, hc, h1, h2⟩
    | invoke r n =>
      simp only [cOp, hc, Option.bind_eq_bind, Option.bind_eq_some_iff] at h
      obtain ⟨f', h1, as', h2, h3⟩ := h
      cases h3
    | builtin b =>
      simp only [cOp, hc] at h
      unfold cBuiltin at h
      exfalso
      revert h
      repeat' split
      all_goals (intro h)
      all_goals (try (unfold cLen at h))
      all_goals (try (unfold cAppend at h))
      all_goals (try (unfold cCopy at h))
      all_goals (try (unfold cUnsafeStr at h))
      all_goals repeat' (first | (cases h; done) | (obtain ⟨_, _, h⟩ := h) | (simp only [Option.bind_eq_bind, Option.bind_eq_some_iff, Option.map_eq_some_iff] at h) | split at h)
  all_goals exfalso
  all_goals (unfold cOp at h)
  all_goals repeat' (first | (cases h; done) | (cases ‹(_ : Op) = Op.call _›; done) | (obtain ⟨_, _, h⟩ := h) | (simp only [Option.bind_eq_bind, Option.bind_eq_some_iff, Option.map_eq_some_iff] at h) | split at h)
end
end Go.AX
namespace Go.AX
open Go.RowKit
section
variable {E : Env} {P : Program} [Lay P] {K : Keep} {W0 : World} {ρ : Ren} {fr : Fr} {h : AHeap} {w : World} {a : Act}
theorem cOp_invoke_inv {op : Op} {f : COpd} {name : String} {as : List COpd} (h : cOp E op = some (.invoke f name as)) : ∃ c x, op = .call c ∧ c.callee = .invoke x name ∧ cO x = some f ∧ cOs c.args = some as := by
  cases op
  case call c =>
    cases hc : c.callee with
    | value x =>
      simp only [cOp, hc, Option.bind_eq_bind, Option.bind_eq_some_iff] at h
      obtain ⟨f', h1, as', h2, h3⟩ := h
      cases h3
    | invoke r n =>
      simp only [cOp, hc, Option.bind_eq_bind, Option.bind_eq_some_iff] at h
      obtain ⟨f', h1, as', h2, h3⟩ := h
      cases h3
      exact ⟨c, r, rfl, hc, h1, h2⟩
    | builtin b =>
      simp only [cOp, hc] at h
      unfold cBuiltin at h
      exfalso
      revert h
      repeat' split
      all_goals (intro h)
      all_goals (try (unfold cLen at h))
      all_goals (try (unfold cAppend at h))
      all_goals (try (unfold cCopy at h))
      all_goals (try (unfold cUnsafeStr at h))
      all_goals repeat' (first | (cases h; done) | (obtain ⟨_, _, h⟩ := h) | (simp only [Option.bind_eq_bind, Option.bind_eq_some_iff, Option.map_eq_some_iff] at h) | split at h)
  all_goals exfalso
  all_goals (unfold cOp at h)
  all_goals repeat' (first | (cases h; done) | (cases ‹(_ : Op) = Op.call _›; done) | (obtain ⟨_, _, h⟩ := h) | (simp only [Option.bind_eq_bind, Option.bind_eq_some_iff, Option.map_eq_some_iff] at h) | split at h)
theorem opF_other {callf : CallF} {co : COp} (h1 : ∀ f as, co ≠ .call f as) (h2 : ∀ f n as, co ≠ .invoke f n as) : opF E callf co = stepOp co := by
  cases co
  case call f as => exact absurd rfl (h1 f as)
  case invoke f n as => exact absurd rfl (h2 f n as)
  all_goals rfl
theorem Calls.opW {o : Oper} {f : FuncId} {args' : Array Value} {v : AVal} {h' : AHeap} (hx : (execOp a.eval o).run P w = .ok (.enter f args') w) (hc : Calls P f args' w (CPost P K W0 ρ v h')) : OpW P o a K W0 ρ w v h' := by
  intro next Q hn
  unfold Oper.wp
  rw [hx, Oper.upon_enter]
  refine Calls.mono hc fun e w' he => ?_
  obtain ⟨v', ρ', rfl, h1, h2, h3⟩ := he
  exact hn _ _ _ h1 h2 h3
theorem recv_sound (hE : EnvOK E P) (H : WR P K W0 ρ h w) {t : TypeId} {pr : Bool} {x v : AVal} {x' : Value} (hx : V ρ x x') (hs : recvA E t pr x h = some v) (nm : String) :
    ∃ v', (receiverAt t (.val x') pr (some nm)).run P w = .ok v' w ∧ V ρ v v' := by
  unfold recvA at hs
  split at hs
  · rename_i hu
    cases hs
    refine ⟨x', ?_, hx⟩
    unfold receiverAt
    simp only [Sem.run_bind, hE.run_und hu, Result.andThen_ok, Place.get, Sem.run_pure]
  · rename_i elem hu
    have hrun : ∀ (r : RB) (o : Nat) (v' : Value), x' = .pointer (some ⟨r.b, o + r.d, none⟩) → (loadVar elem ⟨r.b, o + r.d, none⟩).run P w = .ok v' w → (receiverAt t (.val x') false (some nm)).run P w = .ok v' w := by
      intro r o v' e hl
      have hwrap : ∀ ad : Addr, Builtin.ssaWrapNilChk_ #[t] t #[.pointer (some ad), strVal "", strVal nm] = pure (.pointer (some ad)) := fun _ => rfl
      unfold receiverAt
      simp only [Sem.run_bind, hE.run_und hu, Result.andThen_ok, Place.get, Sem.run_pure, e, hwrap, asAddr, hl]
    split at hs
    · rename_i n hag hn
      rw [onPtr_some] at hs
      obtain ⟨b, o, rfl, hs⟩ := hs
      obtain ⟨l, e, own, hb, hs⟩ := onRow_row hs
      rw [ifT_some] at hs
      obtain ⟨hle, hs⟩ := hs
      simp only [Bool.and_eq_true, Nat.ble_eq, lenL_eq, okL_iff, Option.some.injEq, takeL_eq, dropL_eq] at hle hs
      subst hs
      obtain ⟨r, hr, e2⟩ := hx.ptr_inv
      obtain ⟨v', h1, h2⟩ := (load_sound hE H (t := elem) hr hb).1 n hag hn hle.1 hle.2
      exact ⟨v', hrun r o v' e2 h1, h2⟩
    · rename_i hag
      rw [onPtr_some] at hs
      obtain ⟨b, o, rfl, hs⟩ := hs
      obtain ⟨l, e, own, hb, hs⟩ := onRow_row hs
      simp only [ob_some, getL_eq, ifT_some, okV_iff, Option.some.injEq] at hs
      obtain ⟨_, hs2, hok, rfl⟩ := hs
      obtain ⟨r, hr, e2⟩ := hx.ptr_inv
      obtain ⟨v', h1, h2⟩ := (load_sound hE H (t := elem) hr hb).2 _ hag hs2 hok
      exact ⟨v', hrun r o v' e2 h1, h2⟩
    · cases hs
  · rename_i d hnp hu
    cases hs
    refine ⟨x', ?_, hx⟩
    unfold receiverAt
    simp only [Sem.run_bind, hE.run_und hu, Result.andThen_ok]
    cases d <;> first
      | (exact absurd rfl (hnp _))
      | rfl
  · cases hs
theorem opW_all (hE : EnvOK E P) {callf : CallF} (hcall : CallS P callf) {o : Oper} {co : COp} (hc : cOp E o.op = some co) (hf : FR ρ fr a.tmps) (H : WR P K W0 ρ h w) {v : AVal} {h' : AHeap} (hs : opF E callf co fr h = some (v, h')) : OpW P o a K W0 ρ w v h' := by
  by_cases h1 : ∃ f as, co = .call f as
  · obtain ⟨f, as, rfl⟩ := h1
    obtain ⟨c, x, ho, hcal, hcx, hcs⟩ := cOp_call_inv hc
    have hs' : doCall callf f as fr h = some (v, h') := hs
    unfold doCall at hs'
    rw [onFunc_some] at hs'
    obtain ⟨g, first, cap, hfn, hs'⟩ := hs'
    rw [ifT_some] at hs'
    obtain ⟨hlt, hs'⟩ := hs'
    have vx := ev_sound hf hcx
    have va := evs_sound hf hcs
    rw [hfn] at vx
    obtain ⟨first', cap', ex, v1, v2⟩ := vx.func_inv hlt
    rw [appL_eq, appL_eq] at hs'
    obtain ⟨hent, hcalls⟩ := hcall _ _ _ _ _ hs'
    refine Calls.opW (f := g) (args' := first' ++ c.args.map a.eval ++ cap') ?_ (hcalls K W0 ρ w _ ?_ H)
    · unfold execOp
      rw [ho]
      simp only [resolve, hcal, ex, Deferred.ofValue, Sem.run_bind, Sem.run_pure, Result.andThen_ok, invoke]
      exact run_callFunc hent _
    · simp only [Array.toList_append, List.append_assoc]
      exact v1.append (va.append v2)
  · by_cases h2 : ∃ f n as, co = .invoke f n as
    · obtain ⟨r, name, as, rfl⟩ := h2
      obtain ⟨c, x, ho, hcal, hcx, hcs⟩ := cOp_invoke_inv hc
      have hs' : doInvoke E callf r name as fr h = some (v, h') := hs
      unfold doInvoke at hs'
      rw [onIface_some] at hs'
      rcases hs' with ⟨_, hs'⟩ | ⟨t, y, hy, hs'⟩
      · cases hs'
      rw [ob_some] at hs'
      obtain ⟨m, hm, hs'⟩ := hs'
      rw [ob_some] at hs'
      obtain ⟨rv, hrv, hs'⟩ := hs'
      have vx := ev_sound hf hcx
      have va := evs_sound hf hcs
      rw [hy] at vx
      obtain ⟨y', ex, vy⟩ := vx.iface_inv
      obtain ⟨f, pr⟩ := m
      obtain ⟨hent, hcalls⟩ := hcall _ _ _ _ _ hs'
      unfold Env.meth at hm
      simp only [Option.bind_eq_bind, Option.bind_eq_some_iff] at hm
      obtain ⟨i, hi, mm, hmm, hm⟩ := hm
      split at hm
      case isFalse => cases hm
      rename_i hpath
      obtain ⟨rv', hr1, hr2⟩ := recv_sound (P := P) hE H vy hrv ((name.splitOn ".").getLastD name)
      have hinfo := hE.info _ _ hi
      have hp : mm.path.toList = [] := by simpa using hpath
      have hmethod : ∀ n, (method (n + 1) t y' name).run P w = .ok (f, rv') w := by
        intro n
        unfold method
        simp only [Sem.run_bind, run_typeInfo _ hinfo, Result.andThen_ok, hmm, hp, follow, Sem.run_pure, hm, hpath, if_true, hr1]
      refine Calls.opW (f := f) (args' := #[rv'] ++ c.args.map a.eval) ?_ (hcalls K W0 ρ w _ ?_ H)
      · unfold execOp
        rw [ho]
        simp only [resolve, hcal, ex, Sem.run_bind, Sem.run_pure, Result.andThen_ok, invoke]
        have e0 : (#[Value.iface t y'] ++ c.args.map a.eval)[0]? = some (.iface t y') := by rw [Array.getElem?_append_left (by simp)]; rfl
        simp only [e0, callMethod, Sem.run_bind, run_program, Result.andThen_ok]
        have e1 : P.types.size + Made.depth = (P.types.size + (Made.depth - 1)) + 1 := by
          have : 0 < Made.depth := by decide
          omega
        rw [e1, hmethod]
        simp only [Result.andThen_ok]
        have e2 : (#[Value.iface t y'] ++ c.args.map a.eval).extract 1 (#[Value.iface t y'] ++ c.args.map a.eval).size = c.args.map a.eval := by
          apply Array.ext'
          rw [Array.toList_extract, Array.toList_append, List.extract_eq_take_drop]
          simp
          exact List.take_of_length_le (by simp)
        rw [e2]
        exact run_callFunc hent _
      · simp only [Array.toList_append, List.singleton_append]
        exact .cons hr2 va
    · rw [opF_other (fun f as e => h1 ⟨f, as, e⟩) (fun f n as e => h2 ⟨f, n, as, e⟩)] at hs
      exact (okS_all hE o.op rfl hc hf H hs).opW
end
end Go.AX
namespace Go.AX
open Go.RowKit
section
variable {E : Env} {P : Program} [Lay P] {K : Keep} {W0 : World} {ρ : Ren} {fr : Fr} {h : AHeap} {w : World} {a : Act}
theorem V.bool_iff {v : AVal} {b : Bool} (h : V ρ v (.bool b)) : v = .bool b := by cases h; rfl
theorem guard_eq {nt : Nat} {ops : Array Oper} {o : Oper} {co : COper} (hc : cOper E nt ops o = some co) (hf : FR ρ fr a.tmps) : guardOk co.guard fr = Region.wanted o (yielded ops a.tmps) := by
  unfold cOper at hc
  split at hc
  case isFalse => cases hc
  split at hc
  · rename_i hg
    cases hc
    simp only [Region.wanted, hg]
    rfl
  · rename_i j want hg
    simp only [Option.bind_eq_bind, Option.bind_eq_some_iff] at hc
    obtain ⟨oj, hoj, s, hs, hc⟩ := hc
    cases hc
    simp only [Region.wanted, hg, yielded, hoj, Option.bind_some, hs]
    have hv := hf s
    show (@Option.rec Bool (fun _ => Bool) false (fun b => ifT b want (not want)) (ob (fr.get s) fun v => onBool v fun b => some b)) = _
    cases hq : (ob (fr.get s) fun v => onBool v fun b => some b) with
    | some b =>
      rw [ob_some] at hq
      obtain ⟨v, hv1, hv2⟩ := hq
      rw [onBool_some] at hv2
      obtain ⟨b', rfl, hb⟩ := hv2
      cases hb
      rw [hv1] at hv
      have e := hv.bool_inv
      rw [Array.getD_eq_getD_getElem?] at e
      cases ht : a.tmps[s]? with
      | none => rw [ht] at e; cases e
      | some u =>
        rw [ht] at e
        simp only [Option.getD_some] at e
        subst e
        cases b <;> cases want <;> rfl
    | none =>
      cases ht : a.tmps[s]? with
      | none => rfl
      | some u =>
        cases u with
        | bool b =>
          rw [Array.getD_eq_getD_getElem?, ht] at hv
          have e := hv.bool_iff
          cases hg : fr.get s with
          | none => rw [hg] at e; cases e
          | some v =>
            rw [hg] at e
            simp only [Option.getD_some] at e
            subst e
            rw [hg] at hq
            cases hq
        | _ => rfl
theorem cOper_inv {nt : Nat} {ops : Array Oper} {o : Oper} {co : COper} (hc : cOper E nt ops o = some co) : co.dst = o.dst ∧ (∀ d, o.dst = some d → d < nt) ∧ co.op = (cOp E o.op).getD .bad := by
  unfold cOper at hc
  split at hc
  case isFalse => cases hc
  rename_i hd
  have hd' : ∀ d, o.dst = some d → d < nt := by
    intro d e
    rw [e] at hd
    simpa using hd
  split at hc
  · cases hc; exact ⟨rfl, hd', rfl⟩
  · simp only [Option.bind_eq_bind, Option.bind_eq_some_iff] at hc
    obtain ⟨oj, hoj, s, hs, hc⟩ := hc
    cases hc
    exact ⟨rfl, hd', rfl⟩
theorem FR.put {nt : Nat} (hf : FR ρ fr a.tmps) {d : Option Nat} (hd : ∀ x, d = some x → x < nt) (hn : nt ≤ a.tmps.size) {v : AVal} {v' : Value} (hv : V ρ v v') : FR ρ (putA d fr v) (a.put d v').tmps := by
  cases d with
  | none => exact hf
  | some d => exact hf.set (Nat.lt_of_lt_of_le (hd d rfl) hn) hv
theorem put_size (a : Act) (d : Option Nat) (v : Value) : (a.put d v).tmps.size = a.tmps.size := by cases d <;> simp [Act.put]
theorem put_defs (a : Act) (d : Option Nat) (v : Value) : (a.put d v).defers = a.defers := by cases d <;> rfl
theorem runOp_sound (hE : EnvOK E P) {callf : CallF} (hcall : CallS P callf) {nt : Nat} {ops : Array Oper} {i : Nat} {o : Oper} {co : COper} (ho : ops[i]? = some o) (hc : cOper E nt ops o = some co)
    (hf : FR ρ fr a.tmps) (H : WR P K W0 ρ h w) {v : AVal} {h' : AHeap} (hs : runOp E callf co fr h = some (v, h')) {next : Act → World → Prop} {Q : Exit → Act → World → Prop}
    (hn : ∀ v' w' ρ', ρ.le ρ' → V ρ' v v' → WR P K W0 ρ' h' w' → next (a.put o.dst v') w') : wpOp P ops Q i next a w := by
  obtain ⟨hdst, hd, hop⟩ := cOper_inv hc
  unfold runOp at hs
  rw [guard_eq hc hf, ifT_eq] at hs
  unfold wpOp
  simp only [ho]
  split at hs
  · rename_i hw
    rw [if_pos hw]
    left
    cases hco : cOp E o.op with
    | none =>
      rw [hco] at hop
      rw [hop] at hs
      cases hs
    | some c =>
      rw [hco] at hop
      rw [hop] at hs
      exact opW_all hE hcall hco hf H hs next Q hn
  · rename_i hw
    rw [if_neg hw]
    cases hs
    exact hn undef w ρ (Ren.le_refl _) (undef_V _) H
def AExit.out : AExit → Exit
  | .normal => .normal
  | .exit id => .exit id
  | .ret => .ret
structure XQ (P : Program) [Lay P] (K : Keep) (W0 : World) (nt : Nat) (ρ : Ren) (a0 : Act) (o : Out) (e : Exit) (a : Act) (w : World) : Prop where
  e : e = o.e.out
  defers : a.defers = a0.defers
  size : nt ≤ a.tmps.size
  rest : ∃ ρ', ρ.le ρ' ∧ FR ρ' o.fr a.tmps ∧ WR P K W0 ρ' o.h w
theorem LetsOut.mono {Q Q' : Exit → Act → World → Prop} (hq : ∀ e a w, Q e a w → Q' e a w) (h : LetsOut Q) : LetsOut Q' := let ⟨a, w, h⟩ := h; ⟨a, w, hq _ _ _ h⟩
theorem Oper.wp_monoQ {o : Oper} {Q Q' : Exit → Act → World → Prop} {N N' : Act → World → Prop} (hq : ∀ e a w, Q e a w → Q' e a w) (hn : ∀ a w, N a w → N' a w) (h : o.wp P a w N Q) : o.wp P a w N' Q' := by
  unfold Oper.wp at *
  generalize (execOp a.eval o).run P w = r at *
  cases r with
  | ok n w' =>
    cases n <;> simp only [Oper.upon] at h ⊢ <;>
      first
        | exact hn _ _ h
        | exact Calls.mono h (fun e w'' he => by cases e <;> first | exact hn _ _ he | exact hq _ _ _ he | exact LetsOut.mono hq he)
        | exact Rows.mono h (fun _ _ he => hn _ _ he)
  | halt x w' => cases x <;> simp only [Oper.upon] at h ⊢ <;> exact hq _ _ _ h
theorem wpOp_monoQ {ops : Array Oper} {i : Nat} {Q Q' : Exit → Act → World → Prop} {N N' : Act → World → Prop} (hq : ∀ e a w, Q e a w → Q' e a w) (hn : ∀ a w, N a w → N' a w) (h : wpOp P ops Q i N a w) : wpOp P ops Q' i N' a w := by
  unfold wpOp at *
  split
  · rename_i ho; rw [ho] at h; exact hn _ _ h
  · rename_i o ho
    simp only [ho] at h
    split
    · rename_i hw
      rw [if_pos hw] at h
      exact h.imp (Oper.wp_monoQ hq hn) (fun h => ⟨h.1, LetsOut.mono hq h.2⟩)
    · rename_i hw
      rw [if_neg hw] at h
      exact hn _ _ h
theorem wpOps_monoQ {ops : Array Oper} {Q Q' : Exit → Act → World → Prop} (hq : ∀ e a w, Q e a w → Q' e a w) : ∀ (l : List Nat) (a : Act) (w : World), wpOps P ops Q l a w → wpOps P ops Q' l a w
  | [], a, w, h => hq _ _ _ h
  | i :: l, a, w, h => by
    rw [wpOps_cons] at h ⊢
    exact wpOp_monoQ hq (wpOps_monoQ hq l) h
theorem runOps_sound (hE : EnvOK E P) {callf : CallF} (hcall : CallS P callf) {nt : Nat} {ops : Array Oper} : ∀ (l : List COper) (is : List Nat), is.mapM (fun i => (ops[i]?).bind (cOper E nt ops)) = some l →
    ∀ {ρ : Ren} {fr : Fr} {h : AHeap} {w : World} {a : Act} {fr' : Fr} {h' : AHeap}, nt ≤ a.tmps.size → FR ρ fr a.tmps → WR P K W0 ρ h w → runOps E callf l fr h = some (fr', h') → wpOps P ops (XQ P K W0 nt ρ a ⟨.normal, fr', h'⟩) is a w := by
  intro l
  induction l with
  | nil =>
    intro is his ρ fr h w a fr' h' hn hf H hs
    cases is with
    | nil =>
      simp only [runOps, Option.some.injEq, Prod.mk.injEq] at hs
      obtain ⟨rfl, rfl⟩ := hs
      exact ⟨rfl, rfl, hn, ρ, Ren.le_refl _, hf, H⟩
    | cons i is =>
      simp only [List.mapM_cons, Option.bind_eq_bind, Option.bind_eq_some_iff] at his
      obtain ⟨_, _, _, _, h3⟩ := his
      cases h3
  | cons c l ih =>
    intro is his ρ fr h w a fr' h' hn hf H hs
    cases is with
    | nil => simp at his
    | cons i is =>
      simp only [List.mapM_cons, Option.bind_eq_bind, Option.bind_eq_some_iff] at his
      obtain ⟨co, ⟨o, ho, hc⟩, l', h2, h3⟩ := his
      cases h3
      have hs' : (ob (runOp E callf c fr h) fun r => runOps E callf l (putA c.dst fr r.1) r.2) = some (fr', h') := hs
      rw [ob_some] at hs'
      obtain ⟨⟨v, h1⟩, hr, hs'⟩ := hs'
      obtain ⟨hdst, hd, _⟩ := cOper_inv hc
      rw [wpOps_cons]
      refine runOp_sound hE hcall ho hc hf H hr fun v' w' ρ' k1 k2 k3 => ?_
      have hf' : FR ρ' (putA c.dst fr v) (a.put o.dst v').tmps := by rw [hdst]; exact FR.put (hf.mono k1) hd hn k2
      have := ih is h2 (a := a.put o.dst v') (by rw [put_size]; exact hn) hf' k3 hs'
      refine wpOps_monoQ ?_ is _ _ this
      rintro e a1 w1 ⟨e1, e2, e3, ρ2, e4, e5, e6⟩
      exact ⟨e1, by rw [e2, put_defs], e3, ρ2, Ren.le_trans k1 e4, e5, e6⟩
end
end Go.AX
namespace Go.AX
open Go.RowKit
section
variable {E : Env} {P : Program} [Lay P] {K : Keep} {W0 : World} {ρ : Ren} {fr : Fr} {h : AHeap} {w : World} {a : Act}
def DrawnS (E : Env) (P : Program) [Lay P] (callf : CallF) : Prop :=
  ∀ (K : Keep) (W0 : World) (nt : Nat) (ops : Array Oper) (plan : List Nat) (n : Nat) (l : List CStep) (ρ : Ren) (fr : Fr) (h : AHeap) (w : World) (a : Act) (fr' : Fr) (h' : AHeap),
    cDrawn E nt ops plan = some (.drawn n l) → runSteps E callf h.next l fr ⟨h.next + n, h.t⟩ = some (fr', h') → nt ≤ a.tmps.size → FR ρ fr a.tmps → WR P K W0 ρ h w →
      wpAny P .any ops (XQ P K W0 nt ρ a ⟨.normal, fr', h'⟩) ops.size (Array.replicate ops.size false) a w
theorem XQ.trans {nt : Nat} {ρ ρ' : Ren} {a0 a1 : Act} {o : Out} {e : Exit} {a : Act} {w : World} (hle : ρ.le ρ') (hd : a1.defers = a0.defers) (h : XQ P K W0 nt ρ' a1 o e a w) : XQ P K W0 nt ρ a0 o e a w :=
  ⟨h.e, h.defers.trans hd, h.size, let ⟨r, x, y, z⟩ := h.rest; ⟨r, Ren.le_trans hle x, y, z⟩⟩
theorem XQ.re {nt : Nat} {a0 : Act} {o o' : Out} {e e' : Exit} (h : XQ P K W0 nt ρ a0 o e a w) (he : e' = o'.e.out) (hf : o'.fr = o.fr) (hh : o'.h = o.h) : XQ P K W0 nt ρ a0 o' e' a w :=
  ⟨he, h.defers, h.size, by rw [hf, hh]; exact h.rest⟩
theorem andThen_some {r : XR} {k : Fr → AHeap → XR} {o : Out} (h : andThen r k = some o) : ∃ o1, r = some o1 ∧ ((o1.e = .normal ∧ k o1.fr o1.h = some o) ∨ (o1.e ≠ .normal ∧ o = o1)) := by
  unfold andThen at h
  rw [ob_some] at h
  obtain ⟨o1, h1, h2⟩ := h
  refine ⟨o1, h1, ?_⟩
  obtain ⟨e, f, hh⟩ := o1
  cases e with
  | normal => exact .inl ⟨rfl, h2⟩
  | exit id => cases h2; exact .inr ⟨by simp, rfl⟩
  | ret => cases h2; exact .inr ⟨by simp, rfl⟩
theorem AExit.out_normal {e : AExit} : e.out = .normal ↔ e = .normal := by cases e <;> simp [AExit.out]
theorem step_scope {b : Frame} {a : Act} {k : List Item} {cs : List Frame} {w : World} {c : Code} :
    step P (lone (b.at a (.code (.scope c) :: k)) cs w) = .next (lone (b.at a (.code c :: .inScope c :: k)) cs w) :=
  step_lone_go (by simp [stepG, stepG.exec, Frame.at])
theorem step_inScope {b : Frame} {a : Act} {k : List Item} {cs : List Frame} {w : World} {c : Code} :
    step P (lone (b.at a (.inScope c :: k)) cs w) = .next (lone (b.at a k) cs w) :=
  step_lone_go (by simp [stepG, stepG.exec, Frame.at])
theorem wp_scope {c : Code} {Q : Exit → Act → World → Prop} (hq : ∀ l a w, ¬ Q (.goto l) a w) (h : c.wp P Q a w) : (Code.scope c).wp P Q a w := by
  intro b k cs
  obtain ⟨e, a1, w1, hQ, harr⟩ := h b (.inScope c :: k) cs
  cases e with
  | normal => exact ⟨.normal, a1, w1, hQ, .head step_scope (Steps.trans harr (.one step_inScope))⟩
  | exit id => exact ⟨.exit id, a1, w1, hQ, fun k' hk => .head step_scope (harr k' (by simp [exitTo, hk]))⟩
  | goto l => exact (hq _ _ _ hQ).elim
  | ret => exact ⟨_, a1, w1, hQ, .of_steps (.one step_scope) harr⟩
  | panic ch => exact ⟨_, a1, w1, hQ, .of_steps (.one step_scope) harr⟩
  | outgrown => exact ⟨_, a1, w1, hQ, .of_steps (b := b) (k := k) (cs := cs) (e := .outgrown) (.one step_scope) harr⟩
theorem loop_sound {c : Code} {nt : Nat} {body : Fr → AHeap → XR}
    (ih : ∀ {ρ : Ren} {fr : Fr} {h : AHeap} {w : World} {a : Act} {o : Out}, nt ≤ a.tmps.size → FR ρ fr a.tmps → WR P K W0 ρ h w → body fr h = some o → c.wp P (XQ P K W0 nt ρ a o) a w) :
    ∀ (n : Nat) {ρ : Ren} {fr : Fr} {h : AHeap} {w : World} {a : Act} {o : Out}, nt ≤ a.tmps.size → FR ρ fr a.tmps → WR P K W0 ρ h w → iter body n fr h = some o →
      ∀ (b : Frame) (k : List Item) (cs : List Frame), ∃ e a' w', XQ P K W0 nt ρ a o e a' w' ∧ Arrives P (lone (b.at a (.code c :: .inLoop c :: k)) cs w) b k cs e a' w' := by
  intro n
  induction n with
  | zero => intro ρ fr h w a o _ _ _ hs; cases hs
  | succ n ihn =>
    intro ρ fr h w a o hn hf H hs b k cs
    have hs' : andThen (body fr h) (iter body n) = some o := hs
    obtain ⟨o1, h1, h2⟩ := andThen_some hs'
    obtain ⟨e, a1, w1, hq, harr⟩ := ih hn hf H h1 b (.inLoop c :: k) cs
    rcases h2 with ⟨he, h2⟩ | ⟨he, rfl⟩
    · have e1 : e = .normal := by rw [hq.e, he]; rfl
      subst e1
      obtain ⟨ρ1, k1, k2, k3⟩ := hq.rest
      obtain ⟨e2, a2, w2, hq2, harr2⟩ := ihn hq.size k2 k3 h2 b k cs
      exact ⟨e2, a2, w2, hq2.trans k1 hq.defers, .of_steps (Steps.trans harr (.one step_inLoop)) harr2⟩
    · have e1 : e ≠ .normal := by rw [hq.e]; exact fun h => he (AExit.out_normal.1 h)
      exact ⟨e, a1, w1, hq, .pass (x := .inLoop c) rfl (fun _ _ => .inl e1) harr⟩
theorem range_mapM {α : Type} (g : Oper → Option α) (ops : Array Oper) : ∀ {l : List α}, ops.toList.mapM g = some l → (List.range ops.size).mapM (fun i => (ops[i]?).bind g) = some l := by
  have key : ∀ (xs pre : List Oper) (l : List α), pre ++ xs = ops.toList → xs.mapM g = some l → (List.range' pre.length xs.length).mapM (fun i => (ops[i]?).bind g) = some l := by
    intro xs
    induction xs with
    | nil => intro pre l _ h; simpa using h
    | cons x xs ih =>
      intro pre l hp h
      simp only [List.mapM_cons, Option.bind_eq_bind, Option.bind_eq_some_iff] at h
      obtain ⟨y, h1, l', h2, h3⟩ := h
      cases h3
      have := ih (pre ++ [x]) l' (by simpa using hp) h2
      have hx : ops[pre.length]? = some x := by
        rw [← Array.getElem?_toList, ← hp]; simp
      simp only [List.length_append, List.length_cons, List.length_nil] at this
      rw [List.length_cons, List.range'_succ, List.mapM_cons]
      simp only [hx, Option.bind_eq_bind, Option.bind_some, h1, this]
      rfl
  intro l h
  have := key ops.toList [] l (by simp) h
  rw [List.range_eq_range']
  simpa using this
theorem exec_sound (hE : EnvOK E P) {callf : CallF} (hcall : CallS P callf) (hdraw : DrawnS E P callf) (lf : Nat) {nt : Nat} {plans : List (Nat × List Nat)} :
    ∀ (c : Code) {cc : CCode}, cCode E nt plans c = some cc → ∀ {ρ : Ren} {fr : Fr} {h : AHeap} {w : World} {a : Act} {o : Out}, nt ≤ a.tmps.size → FR ρ fr a.tmps → WR P K W0 ρ h w → exec E callf lf cc fr h = some o →
      c.wp P (XQ P K W0 nt ρ a o) a w := by
  intro c
  have hbad : ∀ {fr h} {o : Out}, exec E callf lf badCode fr h = some o → False := by
    intro fr h o hs
    have hs' : (ob (runOps E callf [⟨none, none, .bad⟩] fr h) fun p => some (⟨.normal, p.1, p.2⟩ : Out)) = some o := hs
    rw [ob_some] at hs'
    obtain ⟨p, hp, _⟩ := hs'
    cases hp
  induction c with
  | skip =>
    intro cc hc ρ fr h w a o hn hf H hs
    cases hc
    cases hs
    exact wp_skip ⟨rfl, rfl, hn, ρ, Ren.le_refl _, hf, H⟩
  | label l =>
    intro cc hc ρ fr h w a o hn hf H hs
    cases hc
    cases hs
    exact wp_label ⟨rfl, rfl, hn, ρ, Ren.le_refl _, hf, H⟩
  | ret =>
    intro cc hc ρ fr h w a o hn hf H hs
    cases hc
    cases hs
    exact wp_ret ⟨rfl, rfl, hn, ρ, Ren.le_refl _, hf, H⟩
  | exit id =>
    intro cc hc ρ fr h w a o hn hf H hs
    cases hc
    cases hs
    exact wp_exit ⟨rfl, rfl, hn, ρ, Ren.le_refl _, hf, H⟩
  | region id ops draw =>
    intro cc hc ρ fr h w a o hn hf H hs
    unfold cCode at hc
    cases draw with
    | true =>
      simp only [if_true] at hc
      split at hc
      · rename_i plan hp
        cases hd : cDrawn E nt ops plan with
        | none =>
          rw [hd] at hc
          cases hc
          exact (hbad hs).elim
        | some d =>
          rw [hd] at hc
          cases hc
          have hd' := hd
          simp only [cDrawn, Option.bind_eq_bind, Option.bind_eq_some_iff] at hd'
          obtain ⟨cops, hcops, hd'⟩ := hd'
          split at hd'
          case isFalse => cases hd'
          simp only [Option.bind_eq_some_iff] at hd'
          obtain ⟨l, hl, hd'⟩ := hd'
          cases hd'
          have hs' : (ob (runSteps E callf h.next l fr ⟨h.next + ops.size, h.t⟩) fun p => some (⟨.normal, p.1, p.2⟩ : Out)) = some o := hs
          rw [ob_some] at hs'
          obtain ⟨⟨fr', h'⟩, hr, ho⟩ := hs'
          cases ho
          exact wp_region_any hE.mixed (hdraw K W0 nt ops plan ops.size l ρ fr h _ a fr' h' hd hr hn hf (H.drawn _))
      · cases hc
        exact (hbad hs).elim
    | false =>
      simp only [Bool.false_eq_true, if_false, Option.bind_eq_bind, Option.bind_eq_some_iff] at hc
      obtain ⟨l, hl, hc⟩ := hc
      cases hc
      have hs' : (ob (runOps E callf l fr h) fun p => some (⟨.normal, p.1, p.2⟩ : Out)) = some o := hs
      rw [ob_some] at hs'
      obtain ⟨⟨fr', h'⟩, hr, ho⟩ := hs'
      cases ho
      exact wp_region (runOps_sound hE hcall l _ (range_mapM _ ops hl) hn hf H hr)
  | seq x y ihx ihy =>
    intro cc hc ρ fr h w a o hn hf H hs
    simp only [cCode, Option.bind_eq_bind, Option.bind_eq_some_iff] at hc
    obtain ⟨cx, hx, cy, hy, hc⟩ := hc
    cases hc
    have hs' : andThen (exec E callf lf cx fr h) (exec E callf lf cy) = some o := hs
    obtain ⟨o1, h1, h2⟩ := andThen_some hs'
    refine wp_seq (wp_mono (ihx hx hn hf H h1) fun e a1 w1 hq => ?_)
    rcases h2 with ⟨he, h2⟩ | ⟨he, rfl⟩
    · have e1 : e = .normal := by rw [hq.e, he]; rfl
      subst e1
      obtain ⟨ρ1, k1, k2, k3⟩ := hq.rest
      exact wp_mono (ihy hy hq.size k2 k3 h2) fun e a2 w2 hq2 => hq2.trans k1 hq.defers
    · have e1 : e ≠ .normal := by rw [hq.e]; exact fun h => he (AExit.out_normal.1 h)
      cases e <;> first | exact absurd rfl e1 | exact hq
  | cond x y z ihy ihz =>
    intro cc hc ρ fr h w a o hn hf H hs
    simp only [cCode, Option.bind_eq_bind, Option.bind_eq_some_iff] at hc
    obtain ⟨cx, hx, cy, hy, cz, hz, hc⟩ := hc
    cases hc
    have hs' : (onBool (evC cx fr) fun b => ifT b (exec E callf lf cy fr h) (exec E callf lf cz fr h)) = some o := hs
    rw [onBool_some] at hs'
    obtain ⟨b, hb, hs'⟩ := hs'
    have vx := ev_sound hf hx
    rw [hb] at vx
    refine wp_cond vx.bool_inv ?_
    cases b with
    | true => exact ihy hy hn hf H hs'
    | false => exact ihz hz hn hf H hs'
  | block id body ih =>
    intro cc hc ρ fr h w a o hn hf H hs
    simp only [cCode, Option.bind_eq_bind, Option.bind_eq_some_iff] at hc
    obtain ⟨cx, hx, hc⟩ := hc
    cases hc
    have hs' : unblock id (exec E callf lf cx fr h) = some o := hs
    unfold unblock at hs'
    rw [ob_some] at hs'
    obtain ⟨o1, h1, h2⟩ := hs'
    refine wp_block (wp_mono (ih hx hn hf H h1) fun e a1 w1 hq => ?_)
    have he := hq.e
    obtain ⟨e1, f1, hh1⟩ := o1
    cases e1 with
    | normal => cases h2; rw [he]; exact hq.re rfl rfl rfl
    | ret => cases h2; rw [he]; exact hq.re rfl rfl rfl
    | exit j =>
      have h2' : ifT (Nat.beq j id) (some (⟨.normal, f1, hh1⟩ : Out)) (some ⟨.exit j, f1, hh1⟩) = some o := h2
      rw [ifT_eq] at h2'
      rw [he]
      show (if j = id then XQ P K W0 nt ρ a o .normal a1 w1 else XQ P K W0 nt ρ a o (.exit j) a1 w1)
      split at h2'
      · rename_i hj
        rw [Nat.beq_eq] at hj
        rw [if_pos hj]
        cases h2'
        exact hq.re rfl rfl rfl
      · rename_i hj
        rw [Nat.beq_eq] at hj
        rw [if_neg hj]
        cases h2'
        exact hq.re rfl rfl rfl
  | loop body ih =>
    intro cc hc ρ fr h w a o hn hf H hs
    simp only [cCode, Option.bind_eq_bind, Option.bind_eq_some_iff] at hc
    obtain ⟨cx, hx, hc⟩ := hc
    cases hc
    have hs' : iter (exec E callf lf cx) lf fr h = some o := hs
    intro b k cs
    obtain ⟨e, a1, w1, hq, harr⟩ := loop_sound (fun hn hf H hs => ih hx hn hf H hs) lf hn hf H hs' b k cs
    exact ⟨e, a1, w1, hq, .of_steps (.one step_loop) harr⟩
  | scope body ih =>
    intro cc hc ρ fr h w a o hn hf H hs
    refine wp_scope (fun l a1 w1 hq => ?_) (ih hc hn hf H hs)
    have := hq.e
    obtain ⟨e1, f1, hh1⟩ := o
    cases e1 <;> cases this
  | _ =>
    intro cc hc ρ fr h w a o hn hf H hs
    cases hc
    exact (hbad hs).elim
end
end Go.AX
namespace Go.AX
open Go.RowKit
section
variable {E : Env} {P : Program} [Lay P] {K : Keep} {W0 : World} {ρ : Ren} {fr : Fr} {h : AHeap} {w : World} {a : Act}
def resOne (tmps : Array Value) : ResultVar → Sem Value
  | .tmp t => pure (tmps.getD t undef)
  | .cell a t => do loadVar t (← asAddr (tmps.getD a undef))
theorem results_one (fn : Func) (tmps : Array Value) : results fn tmps = (do
    let vs ← fn.results.mapM (resOne tmps)
    pure (if h : vs.size = 1 then vs[0] else .tuple vs)) := by
  unfold results
  congr 1
theorem resultsL_sound (hE : EnvOK E P) {tmps : Array Value} (hf : FR ρ fr tmps) (H : WR P K W0 ρ h w) : ∀ {l : List ResultVar} {vs : List AVal}, resultsL E h fr l = some vs →
    ∃ vs' : List Value, (l.mapM (resOne tmps)).run P w = .ok vs' w ∧ VL ρ vs vs'
  | [], vs, h => by cases h; exact ⟨[], rfl, .nil⟩
  | r :: l, vs, hs => by
    unfold resultsL at hs
    rw [ob_some] at hs
    obtain ⟨v, hv, hs⟩ := hs
    rw [ob_some] at hs
    obtain ⟨vs1, hvs, hs⟩ := hs
    cases hs
    obtain ⟨vs', h1, h2⟩ := resultsL_sound hE hf H hvs
    have hone : ∃ v', (resOne tmps r).run P w = .ok v' w ∧ V ρ v v' := by
      cases r with
      | tmp t =>
        simp only [resultA, Option.some.injEq] at hv
        subst hv
        rw [evC_t]
        exact ⟨_, rfl, hf t⟩
      | cell c t =>
        simp only [resultA, ob_some] at hv
        obtain ⟨g, hg, n, hn, hv⟩ := hv
        rw [onPtr_some] at hv
        obtain ⟨b, o, hp, hv⟩ := hv
        obtain ⟨l, e, own, hb, hv⟩ := onRow_row hv
        rw [evC_t] at hp
        have hx := hf c
        rw [hp] at hx
        obtain ⟨rr, hr, e2⟩ := hx.ptr_inv
        simp only [resOne, e2, asAddr, Sem.run_bind, Sem.run_pure, Result.andThen_ok]
        cases g with
        | true =>
          have hv' : ifT (and (Nat.ble (Nat.add o n) (lenL l)) (okL own (takeL n (dropL o l)))) (some (AVal.agg (takeL n (dropL o l)))) none = some v := hv
          rw [ifT_some] at hv'
          obtain ⟨hle, hv'⟩ := hv'
          simp only [Bool.and_eq_true, Nat.ble_eq, lenL_eq, okL_iff, Option.some.injEq, takeL_eq, dropL_eq] at hle hv'
          subst hv'
          exact (load_sound hE H (t := t) hr hb).1 n hg hn hle.1 hle.2
        | false =>
          have hv' : ob (getL l o) (fun v => ifT (okV own v) (some v) none) = some v := hv
          simp only [ob_some, getL_eq, ifT_some, okV_iff, Option.some.injEq] at hv'
          obtain ⟨_, hv2, hok, rfl⟩ := hv'
          exact (load_sound hE H (t := t) hr hb).2 _ hg hv2 hok
    obtain ⟨v', h3, h4⟩ := hone
    refine ⟨v' :: vs', ?_, .cons h4 h2⟩
    rw [List.mapM_cons]
    simp only [Sem.run_bind, h3, Result.andThen_ok, h1, Sem.run_pure]
theorem results_sound (hE : EnvOK E P) {tmps : Array Value} (hf : FR ρ fr tmps) (H : WR P K W0 ρ h w) {fn : Func} {v : AVal} (hs : resultsA E h fr fn.results.toList = some v) :
    ∃ v', (results fn tmps).run P w = .ok v' w ∧ V ρ v v' := by
  unfold resultsA at hs
  rw [ob_some] at hs
  obtain ⟨vs, hvs, hs⟩ := hs
  obtain ⟨vs', h1, h2⟩ := resultsL_sound hE hf H hvs
  have hr : (results fn tmps).run P w = .ok (if h : vs'.toArray.size = 1 then vs'.toArray[0] else .tuple vs'.toArray) w := by
    rw [results_one, Array.mapM_eq_mapM_toList]
    simp only [map_eq_pure_bind, bind_assoc, Sem.run_bind, h1, Result.andThen_ok, pure_bind, Sem.run_pure]
  refine ⟨_, hr, ?_⟩
  split at hs
  · rename_i v0
    cases hs
    cases h2 with
    | cons hv hl =>
      cases hl
      simpa using hv
  · rename_i hne
    cases hs
    have hsz : vs'.toArray.size ≠ 1 := by
      intro h1'
      have hl := h2.length
      simp at h1'
      rw [h1'] at hl
      obtain ⟨x, rfl⟩ := List.length_eq_one_iff.1 hl
      exact hne x rfl
    simp only [hsz, dite_false]
    exact .tup (by simpa using h2)
theorem mkFrame_get : ∀ (l : List AVal) (i : Nat) (t : Fr) (j : Nat), (mkFrame l i t).get j = if i ≤ j ∧ j < i + l.length then l[j - i]? else t.get j := by
  intro l
  induction l with
  | nil => intro i t j; simp [mkFrame]; intro h1 h2; omega
  | cons x l ih =>
    intro i t j
    have e : mkFrame (x :: l) i t = mkFrame l (i + 1) (t.set i x) := rfl
    rw [e, ih]
    by_cases h1 : i + 1 ≤ j ∧ j < i + 1 + l.length
    · rw [if_pos h1, if_pos (by simp; omega)]
      have : j - i = (j - (i + 1)) + 1 := by omega
      rw [this]; rfl
    · rw [if_neg h1]
      by_cases h2 : j = i
      · subst h2
        rw [T.get_set_same, if_pos (by simp)]
        simp
      · rw [T.get_set_ne _ _ (Ne.symm h2), if_neg (by simp; omega)]
theorem mkFrame_FR {args : List AVal} {args' : Array Value} (h : VL ρ args args'.toList) (n : Nat) : FR ρ (mkFrame args 0 .nil) (args' ++ Array.replicate n undef) := by
  intro i
  have hl := h.length
  simp at hl
  rw [mkFrame_get, Array.getD_eq_getD_getElem?]
  by_cases hi : i < args.length
  · rw [if_pos (by omega), Array.getElem?_append_left (by omega)]
    simp only [Nat.sub_zero]
    have h1 : args[i]? = some args[i] := List.getElem?_eq_getElem hi
    obtain ⟨v', h2, h3⟩ := h.get h1
    rw [h1]
    have h2' : args'[i]? = some v' := by simpa using h2
    rw [h2']
    exact h3
  · rw [if_neg (by omega), T.get_nil, Array.getElem?_append_right (by omega)]
    have : ((Array.replicate n undef)[i - args'.size]?).getD undef = undef := by
      rw [Array.getElem?_replicate]
      split <;> rfl
    rw [this]
    exact undef_V _
def PrimS (E : Env) (P : Program) [Lay P] : Prop :=
  ∀ f p, E.prim.get f = some p → ∀ args h v h', primA p args h = some (v, h') → Enters P f ∧ ∀ (K : Keep) (W0 : World) (ρ : Ren) (w : World) (args' : Array Value), VL ρ args args'.toList → WR P K W0 ρ h w → Calls P f args' w (CPost P K W0 ρ v h')
theorem callN_sound (hE : EnvOK E P) (hname : ∀ f x, E.fn.get f = some x → (x.name == "runtime.NumGoroutine") = false) (hprim : PrimS E P) (hdraw : ∀ callf, CallS P callf → DrawnS E P callf) (lf : Nat) : ∀ n, CallS P (callN E lf n) := by
  intro n
  induction n with
  | zero => intro f args h v h' hs; cases hs
  | succ n ih =>
    intro f args h v h' hs
    have hs' : @Option.rec Prim (fun _ => R)
      (ob (E.code f) fun c => ob (exec E (callN E lf n) lf c.1 (mkFrame args 0 .nil) h) fun o => doRet E c.2 o)
      (fun p => primA p args h) (E.prim.get f) = some (v, h') := hs
    cases hp : E.prim.get f with
    | some p =>
      rw [hp] at hs'
      exact hprim f p hp args h v h' hs'
    | none =>
      rw [hp] at hs'
      have hs' : (ob (E.code f) fun c => ob (exec E (callN E lf n) lf c.1 (mkFrame args 0 .nil) h) fun o => doRet E c.2 o) = some (v, h') := hs'
      rw [ob_some] at hs'
      obtain ⟨⟨cc, rs⟩, hcode, hs'⟩ := hs'
      rw [ob_some] at hs'
      obtain ⟨o, hex, hret⟩ := hs'
      simp only [Env.code, Option.bind_eq_bind, Option.bind_eq_some_iff] at hcode
      obtain ⟨fn, hfn, c, hc, cc', hcc, hcode⟩ := hcode
      cases hcode
      have hfun := hE.fn _ _ hfn
      refine ⟨⟨fn, hfun, hname _ _ hfn, by rw [hc]; rfl⟩, fun K W0 ρ w args' hargs H => ?_⟩
      have hsize : fn.ntmps ≤ (args' ++ Array.replicate (fn.ntmps - args'.size) undef).size := by simp; omega
      have hwp := exec_sound hE ih (hdraw _ ih) lf c hcc (a := { tmps := args' ++ Array.replicate (fn.ntmps - args'.size) undef, defers := [] }) hsize (mkFrame_FR hargs _) H hex
      refine calls_of_wp hfun hc (wp_mono hwp fun e a1 w1 hq => ?_)
      obtain ⟨ρ1, k1, k2, k3⟩ := hq.rest
      have hd : a1.defers = [] := hq.defers
      have he := hq.e
      have hfin : ∀ (hr : resultsA E o.h o.fr fn.results.toList = some v) (hh : o.h = h'), a1.defers = [] ∧ ∃ v, (results fn a1.tmps).run P w1 = .ok v w1 ∧ CPost P K W0 ρ ‹AVal› h' (.returned v) w1 := by
        intro hr hh
        obtain ⟨v', r1, r2⟩ := results_sound hE k2 k3 hr
        exact ⟨hd, v', r1, v', ρ1, rfl, k1, r2, hh ▸ k3⟩
      obtain ⟨oe, ofr, oh⟩ := o
      cases oe with
      | exit id => cases hret
      | normal =>
        have hret' : (ob (resultsA E oh ofr fn.results.toList) fun v => some (v, oh)) = some (v, h') := hret
        rw [ob_some] at hret'
        obtain ⟨v1, hr, hret'⟩ := hret'
        cases hret'
        rw [he]
        exact hfin hr rfl
      | ret =>
        have hret' : (ob (resultsA E oh ofr fn.results.toList) fun v => some (v, oh)) = some (v, h') := hret
        rw [ob_some] at hret'
        obtain ⟨v1, hr, hret'⟩ := hret'
        cases hret'
        rw [he]
        exact hfin hr rfl
end
end Go.AX
namespace Go.AX
open Go.RowKit
theorem evC_congr {x : COpd} {fr fr' : Fr} (h : ∀ t, t ∈ x.temp → fr.get t = fr'.get t) : evC x fr = evC x fr' := by
  cases x with
  | t s => rw [evC_t, evC_t, h s (by simp [COpd.temp])]
  | c v => rfl
theorem evCs_congr {l : List COpd} {fr fr' : Fr} (h : ∀ x, x ∈ l → evC x fr = evC x fr') : evCs l fr = evCs l fr' := by
  unfold evCs
  rw [mapL_eq, mapL_eq]
  exact List.map_congr_left h
theorem evParts_congr {l : List (Nat × Nat × COpd)} {fr fr' : Fr} (h : ∀ x, x ∈ l.map (·.2.2) → evC x fr = evC x fr') : I.evParts l fr = I.evParts l fr' := by
  unfold I.evParts
  rw [mapL_eq, mapL_eq]
  refine List.map_congr_left fun p hp => ?_
  rw [h p.2.2 (List.mem_map.2 ⟨p, hp, rfl⟩)]
theorem evCo_congr {x : Option COpd} {fr fr' : Fr} (h : ∀ y, y ∈ x.toList → evC y fr = evC y fr') : evCo x fr = evCo x fr' := by
  cases x with
  | none => rfl
  | some y =>
    show some (evC y fr) = some (evC y fr')
    rw [h y (by simp)]
theorem stepOp_congr {co : COp} {fr fr' : Fr} (h : ∀ x, x ∈ co.opds → evC x fr = evC x fr') (hp : AHeap) : stepOp co fr hp = stepOp co fr' hp := by
  cases co
  case mv x => have h1 := h x (by simp [COp.opds]); simp only [stepOp, I.mv, h1]
  case pick a b c => have h1 := h a (by simp [COp.opds]); have h2 := h b (by simp [COp.opds]); have h3 := h c (by simp [COp.opds]); simp only [stepOp, I.pick, h1, h2, h3]
  case box t x => have h1 := h x (by simp [COp.opds]); simp only [stepOp, I.box, h1]
  case build z ps => have h1 := evParts_congr (l := ps) (fun x hx => h x hx); simp only [stepOp, I.build, h1]
  case buildSlice e n z ps => have h1 := evParts_congr (l := ps) (fun x hx => h x hx); simp only [stepOp, I.buildSlice, h1]
  case load1 x => have h1 := h x (by simp [COp.opds]); simp only [stepOp, I.load1, h1]
  case loadN n x => have h1 := h x (by simp [COp.opds]); simp only [stepOp, I.loadN, h1]
  case store n a v => have h1 := h a (by simp [COp.opds]); have h2 := h v (by simp [COp.opds]); simp only [stepOp, I.store, h1, h2]
  case nilCheck x => have h1 := h x (by simp [COp.opds]); simp only [stepOp, I.nilCheck, h1]
  case bin op q x y => have h1 := h x (by simp [COp.opds]); have h2 := h y (by simp [COp.opds]); simp only [stepOp, I.bin, h1, h2]
  case not x => have h1 := h x (by simp [COp.opds]); simp only [stepOp, I.not, h1]
  case neg x => have h1 := h x (by simp [COp.opds]); simp only [stepOp, I.neg, h1]
  case cInt k x => have h1 := h x (by simp [COp.opds]); simp only [stepOp, I.cInt, h1]
  case cStr x => have h1 := h x (by simp [COp.opds]); simp only [stepOp, I.cStr, h1]
  case cStrBytes e x => have h1 := h x (by simp [COp.opds]); simp only [stepOp, I.cStrBytes, h1]
  case cBytesStr x => have h1 := h x (by simp [COp.opds]); simp only [stepOp, I.cBytesStr, h1]
  case mkIface t x => have h1 := h x (by simp [COp.opds]); simp only [stepOp, I.mkIface, h1]
  case mkFunc f a c =>
    have h1 := evCs_congr (l := a) (fun x hx => h x (by simp [COp.opds, hx])); have h2 := evCs_congr (l := c) (fun x hx => h x (by simp [COp.opds, hx]))
    simp only [stepOp, I.mkFunc, h1, h2]
  case mkMap => rfl
  case mkSlice e z b x y => have h1 := h x (by simp [COp.opds]); have h2 := h y (by simp [COp.opds]); simp only [stepOp, I.mkSlice, h1, h2]
  case slStr x lo hi =>
    have h1 := h x (by simp [COp.opds]); have h2 := evCo_congr (x := lo) (fun y hy => h y (by simp [COp.opds]; right; left; simpa using hy)); have h3 := evCo_congr (x := hi) (fun y hy => h y (by simp [COp.opds]; right; right; simpa using hy))
    simp only [stepOp, I.slStr, h1, h2, h3]
  case slSl e n x lo hi mx =>
    have h1 := h x (by simp [COp.opds]); have h2 := evCo_congr (x := lo) (fun y hy => h y (by simp [COp.opds]; right; left; simpa using hy)); have h3 := evCo_congr (x := hi) (fun y hy => h y (by simp [COp.opds]; right; right; left; simpa using hy))
    have h4 := evCo_congr (x := mx) (fun y hy => h y (by simp [COp.opds]; right; right; right; simpa using hy))
    simp only [stepOp, I.slSl, h1, h2, h3, h4]
  case slArr n s x lo hi =>
    have h1 := h x (by simp [COp.opds]); have h2 := evCo_congr (x := lo) (fun y hy => h y (by simp [COp.opds]; right; left; simpa using hy)); have h3 := evCo_congr (x := hi) (fun y hy => h y (by simp [COp.opds]; right; right; simpa using hy))
    simp only [stepOp, I.slArr, h1, h2, h3]
  case fAddr o x => have h1 := h x (by simp [COp.opds]); simp only [stepOp, I.fAddr, h1]
  case part1 o x => have h1 := h x (by simp [COp.opds]); simp only [stepOp, I.part1, h1]
  case partN o n x => have h1 := h x (by simp [COp.opds]); simp only [stepOp, I.partN, h1]
  case ixArr l s x y => have h1 := h x (by simp [COp.opds]); have h2 := h y (by simp [COp.opds]); simp only [stepOp, I.ixArr, h1, h2]
  case ixSl s x y => have h1 := h x (by simp [COp.opds]); have h2 := h y (by simp [COp.opds]); simp only [stepOp, I.ixSl, h1, h2]
  case ixV1 l s x y => have h1 := h x (by simp [COp.opds]); have h2 := h y (by simp [COp.opds]); simp only [stepOp, I.ixV1, h1, h2]
  case ixVN l s x y => have h1 := h x (by simp [COp.opds]); have h2 := h y (by simp [COp.opds]); simp only [stepOp, I.ixVN, h1, h2]
  case ixStr x y => have h1 := h x (by simp [COp.opds]); have h2 := h y (by simp [COp.opds]); simp only [stepOp, I.ixStr, h1, h2]
  case lookup q z x y ok => have h1 := h x (by simp [COp.opds]); have h2 := h y (by simp [COp.opds]); simp only [stepOp, I.lookup, h1, h2]
  case mapPut q x y z => have h1 := h x (by simp [COp.opds]); have h2 := h y (by simp [COp.opds]); have h3 := h z (by simp [COp.opds]); simp only [stepOp, I.mapPut, h1, h2, h3]
  case mapEntry q z x y => have h1 := h x (by simp [COp.opds]); have h2 := h y (by simp [COp.opds]); simp only [stepOp, I.mapEntry, h1, h2]
  case entryStore x y z => have h1 := h x (by simp [COp.opds]); have h2 := h y (by simp [COp.opds]); have h3 := h z (by simp [COp.opds]); simp only [stepOp, I.entryStore, h1, h2, h3]
  case range x => have h1 := h x (by simp [COp.opds]); simp only [stepOp, I.range, h1]
  case next x => have h1 := h x (by simp [COp.opds]); simp only [stepOp, I.next, h1]
  case entry x => have h1 := h x (by simp [COp.opds]); simp only [stepOp, I.entry, h1]
  case assert t z ok x => have h1 := h x (by simp [COp.opds]); simp only [stepOp, I.assert, h1]
  case extract i x => have h1 := h x (by simp [COp.opds]); simp only [stepOp, I.extract, h1]
  case len s x => have h1 := h x (by simp [COp.opds]); simp only [stepOp, I.len, h1]
  case append e n x y => have h1 := h x (by simp [COp.opds]); have h2 := h y (by simp [COp.opds]); simp only [stepOp, I.append, h1, h2]
  case copy n x y => have h1 := h x (by simp [COp.opds]); have h2 := h y (by simp [COp.opds]); simp only [stepOp, I.copy, h1, h2]
  case minmax m l => have h1 := evCs_congr (l := l) (fun x hx => h x hx); simp only [stepOp, I.minmax, h1]
  case sliceData x => have h1 := h x (by simp [COp.opds]); simp only [stepOp, I.sliceData, h1]
  case unsafeStr u x y => have h1 := h x (by simp [COp.opds]); have h2 := h y (by simp [COp.opds]); simp only [stepOp, I.unsafeStr, h1, h2]
  case call f as => rfl
  case invoke r n as => rfl
  case bad => rfl
theorem opF_congr {E : Env} {callf : CallF} {co : COp} {fr fr' : Fr} (h : ∀ x, x ∈ co.opds → evC x fr = evC x fr') (hp : AHeap) : opF E callf co fr hp = opF E callf co fr' hp := by
  by_cases h1 : ∃ f as, co = .call f as
  · obtain ⟨f, as, rfl⟩ := h1
    have h1 := h f (by simp [COp.opds])
    have h2 := evCs_congr (l := as) (fun x hx => h x (by simp [COp.opds, hx]))
    simp only [opF, doCall, h1, h2]
  · by_cases h2 : ∃ f n as, co = .invoke f n as
    · obtain ⟨r, n, as, rfl⟩ := h2
      have h1 := h r (by simp [COp.opds])
      have h2 := evCs_congr (l := as) (fun x hx => h x (by simp [COp.opds, hx]))
      simp only [opF, doInvoke, h1, h2]
    · rw [opF_other (fun f as e => h1 ⟨f, as, e⟩) (fun f n as e => h2 ⟨f, n, as, e⟩)]
      exact stepOp_congr h hp
def Same (o : COper) (fr fr' : Fr) : Prop := ∀ t, t ∈ o.looks → fr.get t = fr'.get t
theorem Same.opds {o : COper} {fr fr' : Fr} (h : Same o fr fr') : ∀ x, x ∈ o.op.opds → evC x fr = evC x fr' := fun x hx =>
  evC_congr fun t ht => h t (List.mem_append_right _ (List.mem_flatMap.2 ⟨x, hx, ht⟩))
theorem Same.guard {o : COper} {fr fr' : Fr} (h : Same o fr fr') : guardOk o.guard fr = guardOk o.guard fr' := by
  unfold Same COper.looks at h
  cases hg : o.guard with
  | none => rfl
  | some p =>
    obtain ⟨s, want⟩ := p
    have := h s (by rw [hg]; simp)
    simp only [guardOk, this]
theorem runOp_congr {E : Env} {callf : CallF} {o : COper} {fr fr' : Fr} (h : Same o fr fr') (hp : AHeap) : runOp E callf o fr hp = runOp E callf o fr' hp := by
  unfold runOp
  rw [h.guard, opF_congr h.opds]
end Go.AX
namespace Go.AX
def NoHeap (F : AHeap → R) : Prop := ∃ g : Option AVal, ∀ h, F h = ob g fun v => some (v, h)
namespace NoHeap
theorem val (v : AVal) : NoHeap fun h => some (v, h) := ⟨some v, fun _ => rfl⟩
theorem no : NoHeap fun _ => none := ⟨none, fun _ => rfl⟩
theorem obind {α : Type} {o : Option α} {k : α → AHeap → R} (h : ∀ a, NoHeap (k a)) : NoHeap fun hp => ob o fun a => k a hp := by
  cases o with
  | none => exact no
  | some a => exact h a
theorem ift {b : Bool} {x y : AHeap → R} (h1 : NoHeap x) (h2 : NoHeap y) : NoHeap fun hp => ifT b (x hp) (y hp) := by
  cases b with
  | true => exact h1
  | false => exact h2
theorem obool {v : AVal} {k : Bool → AHeap → R} (h : ∀ b, NoHeap (k b)) : NoHeap fun hp => onBool v fun b => k b hp := by
  cases v <;> first | exact h _ | exact no
theorem oint {v : AVal} {k : IntKind → Int → AHeap → R} (h : ∀ a b, NoHeap (k a b)) : NoHeap fun hp => onInt v fun a b => k a b hp := by
  cases v <;> first | exact h _ _ | exact no
theorem onat {v : AVal} {k : Nat → AHeap → R} (h : ∀ a, NoHeap (k a)) : NoHeap fun hp => onNat v fun a => k a hp := by
  cases v <;> first | exact no | skip
  rename_i kk n
  cases n <;> first | exact h _ | exact no
theorem ostr {v : AVal} {k : List Nat → AHeap → R} (h : ∀ b, NoHeap (k b)) : NoHeap fun hp => onStr v fun b => k b hp := by
  cases v <;> first | exact h _ | exact no
theorem optr {v : AVal} {k : Nat → Nat → AHeap → R} (h : ∀ a b, NoHeap (k a b)) : NoHeap fun hp => onPtr v fun a b => k a b hp := by
  cases v <;> first | exact h _ _ | exact no
theorem oslice {v : AVal} {z : AHeap → R} {k : Nat → Nat → Nat → Nat → Bool → AHeap → R} (hz : NoHeap z) (h : ∀ a b c d e, NoHeap (k a b c d e)) : NoHeap fun hp => onSlice v (z hp) fun a b c d e => k a b c d e hp := by
  cases v <;> first | exact h _ _ _ _ _ | exact hz | exact no
theorem oiface {v : AVal} {z : AHeap → R} {k : TypeId → AVal → AHeap → R} (hz : NoHeap z) (h : ∀ a b, NoHeap (k a b)) : NoHeap fun hp => onIface v (z hp) fun a b => k a b hp := by
  cases v <;> first | exact h _ _ | exact hz | exact no
theorem oagg {v : AVal} {k : List AVal → AHeap → R} (h : ∀ b, NoHeap (k b)) : NoHeap fun hp => onAgg v fun b => k b hp := by
  cases v <;> first | exact h _ | exact no
theorem otup {v : AVal} {k : List AVal → AHeap → R} (h : ∀ b, NoHeap (k b)) : NoHeap fun hp => onTup v fun b => k b hp := by
  cases v <;> first | exact h _ | exact no
end NoHeap
theorem pure_noHeap {co : COp} (hc : clsOf co = .pure) (fr : Fr) : NoHeap (stepOp co fr) := by
  cases co
  case len s x =>
    cases s
    case map => cases hc
    case len n => exact .val _
    case str => exact .ostr fun _ => .val _
    case slice => exact .oslice (.val _) fun _ _ _ _ _ => .val _
  case mv x => exact .val _
  case pick a b c => exact .obool fun _ => .val _
  case build z ps => exact .obind fun _ => .val _
  case nilCheck x =>
    show NoHeap (I.nilCheck x fr)
    unfold I.nilCheck
    cases evC x fr <;> first | exact .val _ | exact .no
  case bin op q x y => exact .obind fun _ => .val _
  case not x => exact .obool fun _ => .val _
  case neg x => exact .oint fun _ _ => .val _
  case cInt k x => exact .oint fun _ _ => .val _
  case cStr x => exact .ostr fun _ => .val _
  case mkIface t x => exact .val _
  case mkFunc f a c => exact .val _
  case slStr x lo hi => exact .ostr fun _ => .obind fun _ => .obind fun _ => .val _
  case slArr n s x lo hi => exact .optr fun _ _ => .obind fun _ => .obind fun _ => .val _
  case fAddr o x => exact .optr fun _ _ => .val _
  case part1 o x => exact .oagg fun _ => .obind fun _ => .val _
  case partN o n x => exact .oagg fun _ => .val _
  case ixArr l s x y => exact .optr fun _ _ => .onat fun _ => .ift (.val _) .no
  case ixSl s x y => exact .oslice .no fun _ _ _ _ _ => .onat fun _ => .ift (.val _) .no
  case ixV1 l s x y => exact .oagg fun _ => .onat fun _ => .ift (.obind fun _ => .val _) .no
  case ixVN l s x y => exact .oagg fun _ => .onat fun _ => .ift (.val _) .no
  case ixStr x y => exact .ostr fun _ => .onat fun _ => .obind fun _ => .val _
  case assert t z ok x => exact .oiface (.ift (.val _) .no) fun _ _ => .ift (.val _) (.ift (.val _) .no)
  case extract i x => exact .otup fun _ => .obind fun _ => .val _
  case minmax m l =>
    show NoHeap (I.minmax m l fr)
    unfold I.minmax
    cases evCs l fr with
    | nil => exact .no
    | cons x r => exact .oint fun _ _ => .obind fun _ => .val _
  case sliceData x => exact .oslice (.val _) fun _ _ _ _ _ => .ift (.val _) .no
  all_goals cases hc
theorem pure_step {co : COp} (hc : clsOf co = .pure) {fr : Fr} {h : AHeap} {v : AVal} {h1 : AHeap} (hs : stepOp co fr h = some (v, h1)) : h1 = h ∧ ∀ h2, stepOp co fr h2 = some (v, h2) := by
  obtain ⟨g, hg⟩ := pure_noHeap hc fr
  rw [hg, ob_some] at hs
  obtain ⟨v', h2, h3⟩ := hs
  cases h3
  exact ⟨rfl, fun h2' => by rw [hg, h2]⟩
theorem read_step {co : COp} (hc : clsOf co = .read) {fr : Fr} {h : AHeap} {v : AVal} {h1 : AHeap} (hs : stepOp co fr h = some (v, h1)) : h1 = h := by
  cases co
  case len s x =>
    cases s
    case map =>
      simp only [stepOp, I.len, onMap_some, onMapO_some, Option.some.injEq, Prod.mk.injEq] at hs
      rcases hs with ⟨_, _, rfl⟩ | ⟨_, _, _, _, _, _, rfl⟩ <;> rfl
    all_goals cases hc
  case slSl e n x lo hi mx =>
    have hs' : ifT _ none _ = some (v, h1) := hs
    rw [ifT_eq] at hs'
    split at hs'
    · cases hs'
    · rw [onSlice_some] at hs'
      simp only [ob_some, Option.some.injEq, Prod.mk.injEq] at hs'
      rcases hs' with ⟨_, _, _, _, _, _, _, _, rfl⟩ | ⟨_, _, _, _, _, _, _, _, _, _, _, _, _, _, _, rfl⟩ <;> rfl
  case load1 x =>
    simp only [stepOp, I.load1, onPtr_some] at hs
    obtain ⟨b, off, hp, hs⟩ := hs
    obtain ⟨l, e, own, hb, hs⟩ := onRow_row hs
    simp only [ob_some, ifT_some, Option.some.injEq, Prod.mk.injEq] at hs
    obtain ⟨_, _, _, _, rfl⟩ := hs; rfl
  case loadN n x =>
    simp only [stepOp, I.loadN, onPtr_some] at hs
    obtain ⟨b, off, hp, hs⟩ := hs
    obtain ⟨l, e, own, hb, hs⟩ := onRow_row hs
    simp only [ifT_some, Option.some.injEq, Prod.mk.injEq] at hs
    obtain ⟨_, _, rfl⟩ := hs; rfl
  case lookup q z x k ok =>
    have hs' : I.lookup q z x k ok fr h = some (v, h1) := hs
    unfold I.lookup at hs'
    rw [ob_some] at hs'
    obtain ⟨es, _, hs'⟩ := hs'
    rw [ifT_some] at hs'
    obtain ⟨_, hs'⟩ := hs'
    rw [ob_some] at hs'
    obtain ⟨r, _, hs'⟩ := hs'
    cases r <;> cases hs' <;> rfl
  case entry x =>
    have hs' : I.entry x fr h = some (v, h1) := hs
    unfold I.entry at hs'
    rw [onPtr_some] at hs'
    obtain ⟨b, off, hp, hs'⟩ := hs'
    rw [ifT_some, onIterO_some] at hs'
    obtain ⟨_, m, since, seen, stepped, hb, hs'⟩ := hs'
    rw [ob_some] at hs'
    obtain ⟨m, rfl, hs'⟩ := hs'
    rw [ob_some] at hs'
    obtain ⟨stamp, hst, hs'⟩ := hs'
    rw [onMapO_some] at hs'
    obtain ⟨es, clock, hm, hs'⟩ := hs'
    simp only [ifT_some, ob_some, Option.some.injEq, Prod.mk.injEq] at hs'
    obtain ⟨_, _, _, _, rfl⟩ := hs'; rfl
  case cBytesStr x =>
    have hs' : I.cBytesStr x fr h = some (v, h1) := hs
    unfold I.cBytesStr at hs'
    rw [onSlice_some] at hs'
    rcases hs' with ⟨_, hs'⟩ | ⟨b, off, n, c, ex, hp, hs'⟩
    · cases hs'; rfl
    · obtain ⟨l, e, own, hb, hs'⟩ := onRow_row hs'
      simp only [ifT_some, ob_some, Option.some.injEq, Prod.mk.injEq] at hs'
      obtain ⟨_, _, _, _, rfl⟩ := hs'; rfl
  all_goals cases hc
end Go.AX
namespace Go.AX
open Go.RowKit
section
variable {E : Env} {P : Program} [Lay P] {ρ : Ren} {fr : Fr} {h : AHeap} {w : World} {a : Act}
def NewS (P : Program) [Lay P] (s : Sem Next) (id : Nat) (ρ : Ren) (w : World) (v : AVal) (ob : AObj) : Prop :=
  ∃ v' d Ob k, s.run P w = .ok (.value v') { w with drawn := d, heap := w.heap.push Ob } ∧
    ∀ ρ' : Ren, ρ.le ρ' → ρ' id = some ⟨w.heap.size, 0, k, al0⟩ → V ρ' v v' ∧ ObjR P ρ' ⟨w.heap.size, 0, k, al0⟩ ob (some Ob)
theorem NewS.mk {s : Sem Value} {id : Nat} {v : AVal} {ob : AObj} {v' : Value} {d : Nat} {Ob : Obj} {k : Option (Nat × Nat)} (hr : s.run P w = .ok v' { w with drawn := d, heap := w.heap.push Ob })
    (h : ∀ ρ' : Ren, ρ.le ρ' → ρ' id = some ⟨w.heap.size, 0, k, al0⟩ → V ρ' v v' ∧ ObjR P ρ' ⟨w.heap.size, 0, k, al0⟩ ob (some Ob)) : NewS P (do pure (.value (← s))) id ρ w v ob :=
  ⟨v', d, Ob, k, by simp [hr], h⟩
theorem cellsR {l : List AVal} {C : Array Value} {e : TypeId} (b : Nat) (hl : VL ρ l C.toList) (hfl : ∀ x, x ∈ l → x.flat = true) {ρ' : Ren} (hle : ρ.le ρ') : ObjR P ρ' ⟨b, 0, none, al0⟩ (.cells l e) (some (.cells C e (0, 0))) := by
  have hlen := hl.length
  refine ⟨⟨C, (0, 0), rfl, by simp at hlen ⊢; omega, fun i v hi => ⟨hfl v (List.mem_of_getElem? hi), ?_⟩, fun z x hz => by cases hz⟩, fun C' fz hC x _ => by cases hC; simp⟩
  obtain ⟨v', h1, h2⟩ := hl.get hi
  exact ⟨v', by simpa using h1, h2.mono hle⟩
theorem ptr0 {ρ' : Ren} {n b : Nat} {k : Option (Nat × Nat)} (h : ρ' n = some ⟨b, 0, k, al0⟩) : V ρ' (.ptr n 0) (.pointer (some ⟨b, 0, none⟩)) := by
  have := V.ptr (o := 0) h
  simpa using this
theorem slice0' {ρ' : Ren} {n b l c : Nat} {k : Option (Nat × Nat)} (h : ρ' n = some ⟨b, 0, k, al0⟩) (hl : l ≤ c) : V ρ' (.slice n 0 l c true) (.slice (some ⟨b, 0, none⟩) l c) := by
  have := V.slice (o := 0) (n := l) (c := c) (c' := c) (ex := true) h hl (fun _ => rfl) (fun h => by cases h)
  simpa using this
theorem new_box {t : TypeId} {c : COpd} {x' : Value} (hx : V ρ (evC c fr) x') {v : AVal} {h' : AHeap} (hs : I.box t c fr h = some (v, h')) :
    ∃ ob : AObj, h' = h.push ob ∧ ob.own ∧ ∀ w, NewS P (do pure (.value (← (do pure (.pointer (some (← newVar t x'))) : Sem Value)))) h.next ρ w v ob := by
  obtain ⟨l, hk, hl, hfl⟩ := cells_V hx hs
  simp only [Option.some.injEq, Prod.mk.injEq] at hk
  obtain ⟨rfl, rfl⟩ := hk
  refine ⟨_, rfl, trivial, fun w => NewS.mk (v' := .pointer (some ⟨w.heap.size, 0, none⟩)) (d := w.drawn) (Ob := .cells x'.cells t (0, 0)) (k := none) (by simp [newVar, newRow]) fun ρ' hle hid => ?_⟩
  exact ⟨ptr0 hid, cellsR _ hl hfl hle⟩
theorem new_buildSlice (hE : EnvOK E P) {t : TypeId} {len : Nat} {parts : Array (Nat × Operand)} {o : Oper} {co : COp} {v : AVal} {h' : AHeap} (ho : o.op = .buildSlice t len parts) (hc : cOp E (.buildSlice t len parts) = some co) (hf : FR ρ fr a.tmps)
    (hs : stepOp co fr h = some (v, h')) : ∃ ob : AObj, h' = h.push ob ∧ ob.own ∧ ∀ w, NewS P (execOp a.eval o) h.next ρ w v ob := by
  simp only [cOp, Option.bind_eq_bind, Option.bind_eq_some_iff] at hc
  obtain ⟨d, hd, hc⟩ := hc
  split at hc
  case h_2 => cases hc
  rename_i elem
  simp only [Option.bind_eq_some_iff] at hc
  obtain ⟨z, hz, ps, hps, hc⟩ := hc
  split at hc
  case isFalse => cases hc
  rename_i hle
  cases hc
  obtain ⟨zv, hr, hsz, hcs, hv, hfl, hlen⟩ := hE.zeroC hz
  have hs' : ob (fillA (I.evParts ps fr) (repL len z.1)) (fun l => some (.slice h.next 0 len len true, h.push (.cells l elem))) = some (v, h') := hs
  rw [ob_some, repL_eq] at hs'
  obtain ⟨l, hl, he⟩ := hs'
  simp only [Option.some.injEq, Prod.mk.injEq] at he
  obtain ⟨rfl, rfl⟩ := he
  obtain ⟨q, q1, q2, q3⟩ := cParts_sound hf hps
  obtain ⟨l', e1, e2, e3⟩ := fill_sound (place := fun i => some (i * z.2, z.2)) ⟨q, q1, q2, q3⟩ (zeros_VL (hv ρ) len z.2 hlen) (zeros_flat hfl len) hl
  unfold execOp; rw [ho]
  refine ⟨_, rfl, trivial, fun w => NewS.mk (v' := .slice (some ⟨w.heap.size, 0, none⟩) len len) (d := w.drawn) (Ob := .cells l' elem (0, 0)) (k := none) ?_ fun ρ' hle' hid => ⟨slice0' hid (Nat.le_refl _), cellsR _ e2 e3 hle'⟩⟩
  unfold Instr.buildSlice
  simp only [Sem.run_bind, hE.run_und hd, Result.andThen_ok, hsz]
  rw [if_neg (by have : (2:Nat)^20 ≤ 2^24 := by decide
                 omega)]
  by_cases h0 : len * z.2 = 0
  · rw [if_pos h0]
    have e4 : (Array.range (len * z.2)).map (fun i => zv.cells[i % zv.cells.size]!) = (Array.range (len * z.2)).map (fun i => (#[] : Array Value)[i % (#[] : Array Value).size]!) := by rw [h0]; simp
    rw [e4] at e1
    simp only [Sem.run_bind, Sem.run_pure, Result.andThen_ok, e1, newRow, run_newObj]
  · rw [if_neg h0]
    simp only [Sem.run_bind, Sem.run_pure, Result.andThen_ok, hr, e1, newRow, run_newObj]
theorem new_makeSlice (hE : EnvOK E P) {t : TypeId} {x y : Operand} {o : Oper} {co : COp} {v : AVal} {h' : AHeap} (ho : o.op = .makeSlice t x y) (hc : cOp E (.makeSlice t x y) = some co) (hf : FR ρ fr a.tmps)
    (hs : stepOp co fr h = some (v, h')) : ∃ ob : AObj, h' = h.push ob ∧ ob.own ∧ ∀ w, NewS P (execOp a.eval o) h.next ρ w v ob := by
  simp only [cOp, Option.bind_eq_bind, Option.bind_eq_some_iff] at hc
  obtain ⟨d, hd, hc⟩ := hc
  split at hc
  case h_2 => cases hc
  rename_i elem
  simp only [Option.bind_eq_some_iff] at hc
  obtain ⟨z, hz, i, hi, cx, hx, cy, hy, hc⟩ := hc
  cases hc
  obtain ⟨zv, hr, hsz, hcs, hv, hfl, hlen⟩ := hE.zeroC hz
  simp only [stepOp, I.mkSlice, onNat_some, ifT_some, Option.some.injEq, Prod.mk.injEq] at hs
  obtain ⟨k1, l, h1, k2, c, h2, hle, rfl, rfl⟩ := hs
  simp only [Bool.and_eq_true, Nat.ble_eq] at hle
  obtain ⟨hle1, hle2, hle3⟩ := hle
  have hle2' : c * i.bytes ≤ 1073741824 := hle2
  have e1 := natOf_V (ev_sound hf hx) h1
  have e2 := natOf_V (ev_sound hf hy) h2
  have hx' : execOp a.eval o = (do pure (.value (← Instr.makeSlice t (a.eval x) (a.eval y)))) := by unfold execOp; rw [ho]
  rw [hx', e1, e2, repL_eq]
  have wl : IntKind.i64.wrap (l : Int) = l := wrap64_nat (by omega)
  have wc : IntKind.i64.wrap (c : Int) = c := wrap64_nat (by omega)
  have hinfo := hE.info _ _ hi
  refine ⟨_, rfl, trivial, fun w => NewS.mk (v' := .slice (some ⟨w.heap.size, 0, none⟩) l c) (d := w.drawn) (Ob := .cells ((Array.range (c * z.2)).map (zv.cells[· % zv.cells.size]!)) elem (0, 0)) (k := none) ?_
    fun ρ' hle' hid => ⟨slice0' hid hle1, cellsR _ (zeros_VL (hv ρ) c z.2 hlen) (zeros_flat hfl c) hle'⟩⟩
  unfold Instr.makeSlice
  simp only [Sem.run_bind, hE.run_und hd, Result.andThen_ok, asInt, asIntOf, Sem.run_pure, typeInfo, run_program, hinfo, wl, wc]
  have hnt : ∀ n : Nat, n ≤ c → ¬ ((decide ((n : Int) < 0) || decide ((i.bytes : Int) * (n : Int) > 2 ^ 48)) = true) := by
    intro n hn
    have h3 : i.bytes * n ≤ c * i.bytes := by rw [Nat.mul_comm c]; exact Nat.mul_le_mul_left _ hn
    have h4 : ((i.bytes * n : Nat) : Int) ≤ 1073741824 := by omega
    rw [Int.natCast_mul] at h4
    simp only [Bool.or_eq_true, decide_eq_true_eq]
    omega
  have hc0 : ((decide ((c : Int) < 0) || decide ((i.bytes : Int) * (c : Int) > 2 ^ 48))) = false := by simpa using hnt c (Nat.le_refl _)
  rw [if_neg (by simp only [hc0]; simp; omega)]
  simp only [Int.toNat_natCast, run_askRoom, Sem.run_bind, Result.andThen_ok, hsz]
  by_cases h0 : c * z.2 = 0
  · rw [if_pos h0]
    simp only [Sem.run_pure, Result.andThen_ok, newRow, Sem.run_bind, run_newObj]
    congr 2
    have e0 : Array.range 0 = #[] := rfl
    rw [h0, e0]; simp only [Array.map_empty]
  · rw [if_neg h0]
    simp only [Sem.run_pure, Sem.run_bind, hr, Result.andThen_ok, newRow, run_newObj]
theorem new_makeMap {t : TypeId} {o : Oper} {v : AVal} {h' : AHeap} (ho : o.op = .makeMap t none) (hs : stepOp .mkMap fr h = some (v, h')) :
    ∃ ob : AObj, h' = h.push ob ∧ ob.own ∧ ∀ w, NewS P (execOp a.eval o) h.next ρ w v ob := by
  simp only [stepOp, I.mkMap, Option.some.injEq, Prod.mk.injEq] at hs
  obtain ⟨rfl, rfl⟩ := hs
  have hx' : execOp a.eval o = (do pure (.value (← Instr.makeMap t none))) := by unfold execOp; rw [ho]; rfl
  rw [hx']
  exact ⟨_, rfl, trivial, fun w => NewS.mk (v' := .map (some w.heap.size)) (d := w.drawn) (Ob := .map #[] 0) (k := none) rfl fun ρ' hle hid => ⟨.map hid, rfl, #[], rfl, .nil⟩⟩
theorem new_strBytes (hE : EnvOK E P) {e : TypeId} {c : COpd} {x' : Value} (hx : V ρ (evC c fr) x') (h1 : E.size e = some 1) {v : AVal} {h' : AHeap} (hs : I.cStrBytes e c fr h = some (v, h')) :
    ∃ bs, x' = .string bs ∧ ∃ ob : AObj, h' = h.push ob ∧ ob.own ∧ ∀ w, NewS P (do pure (.value (← Conv.stringToBytes e bs))) h.next ρ w v ob := by
  simp only [I.cStrBytes, onStr_some, Option.some.injEq, Prod.mk.injEq, lenL_eq] at hs
  obtain ⟨n, hb, rfl, rfl⟩ := hs
  rw [hb] at hx
  obtain ⟨bs, rfl, hbs⟩ := hx.str_inv
  have hlen : n.length = bs.size := by rw [← hbs]; simp
  refine ⟨bs, rfl, _, rfl, trivial, fun w => ?_⟩
  let t := w.tape w.drawn (.appendCap bs.size 0 e)
  let cap := bs.size + t % (2 ^ 63 - bs.size)
  let C : Array Value := bs.data.map (fun b => Value.int .u8 b.toNat) ++ Array.replicate (cap - bs.size) (.int .u8 0)
  have hC : C.size = cap := by simp [C, cap]
  have hcap : bs.size ≤ cap := by simp [cap]
  refine NewS.mk (v' := .slice (some ⟨w.heap.size, 0, none⟩) bs.size cap) (d := w.drawn + 1) (Ob := .cells C e (C.size, C.size + 1)) (k := some (1, cap)) ?_ fun ρ' hle hid => ⟨?_, ?_⟩
  · simp only [Conv.stringToBytes, Sem.run_bind, run_choose, Question.forced, Bool.false_eq_true, if_false, Result.andThen_ok, newRow, run_newObj, Sem.run_pure, markStringish, run_shape]
    have hsh : ({ w with drawn := w.drawn + 1, heap := w.heap.push (.cells C e (0, 0)) } : World).shape? w.heap.size = some (e, C.size) := by simp [World.shape?]
    have e1 : (Question.appendCap bs.size 0 e).cut (w.tape w.drawn (.appendCap bs.size 0 e)) = cap := rfl
    rw [e1]
    have e2 : bs.data.map (fun b => Value.int .u8 b.toNat) ++ Array.replicate (cap - bs.size) (.int .u8 0) = C := rfl
    rw [e2]
    rw [show ((({ w with drawn := w.drawn + 1, heap := w.heap.push (Obj.cells C e (0, 0)) } : World).shape? w.heap.size)) = some (e, C.size) from hsh]
    simp only [run_freeze, Result.andThen_ok, World.freeze]
    rw [if_neg (by decide)]
    congr 1
    congr 1
    rw [modify_push]
    simp
  · have := V.slice (ρ := ρ') (o := 0) (n := bs.size) (c := bs.size) (c' := cap) (ex := false) hid (Nat.le_refl _) (fun h => by cases h)
      (fun _ => ⟨hcap, 1, cap, rfl, by omega⟩)
    rw [hlen]; simpa using this
  · refine ⟨⟨C, (C.size, C.size + 1), rfl, ?_, fun i v hi => ?_, fun z x hzx => ?_⟩, fun C' fz' hC' x hx => by cases hC'; simp; omega⟩
    · unfold ofBytes; rw [mapL_eq]; simp; omega
    · unfold ofBytes at hi
      rw [mapL_eq, List.getElem?_map, Option.map_eq_some_iff] at hi
      obtain ⟨m, hm, rfl⟩ := hi
      rw [← hbs, List.getElem?_map, Option.map_eq_some_iff] at hm
      obtain ⟨b, hb', rfl⟩ := hm
      refine ⟨rfl, .int .u8 b.toNat, ?_, .int _ _⟩
      have hlt : i < bs.data.size := by
        have := (List.getElem?_eq_some_iff.1 hb').1
        simpa using this
      simp only [C]
      simp only [Nat.zero_add]
      rw [Array.getElem?_append_left (by simpa using hlt)]
      simp at hb' ⊢
      exact ⟨b, hb', rfl⟩
    · cases hzx; exact ⟨by show 0 + cap ≤ C.size; omega, hE.cellsOf h1⟩
theorem new_sound (hE : EnvOK E P) {o : Oper} {co : COp} (hc : cOp E o.op = some co) (hn : clsOf co = .new) (hf : FR ρ fr a.tmps) {v : AVal} {h' : AHeap} (hs : stepOp co fr h = some (v, h')) :
    ∃ ob : AObj, h' = h.push ob ∧ ob.own ∧ ∀ w, NewS P (execOp a.eval o) h.next ρ w v ob := by
  cases hop : o.op
  case alloc t =>
    rw [hop] at hc
    simp only [cOp, Option.bind_eq_bind, Option.bind_eq_some_iff] at hc
    obtain ⟨z, hz, hc⟩ := hc
    cases hc
    obtain ⟨zv, hr, hv⟩ := hE.zero hz
    obtain ⟨ob, h1, h2, h3⟩ := new_box (P := P) (c := .c z) (hv ρ) hs
    refine ⟨ob, h1, h2, fun w => ?_⟩
    obtain ⟨v', d, Ob, k, h4, h5⟩ := h3 w
    refine ⟨v', d, Ob, k, ?_, h5⟩
    unfold execOp; rw [hop]
    simp only [Instr.alloc, Sem.run_bind, hr, Result.andThen_ok] at h4 ⊢
    exact h4
  case box t x =>
    rw [hop] at hc
    simp only [cOp, Option.bind_eq_bind, Option.bind_eq_some_iff] at hc
    obtain ⟨c, hx, hc⟩ := hc
    cases hc
    unfold execOp; rw [hop]
    exact new_box (P := P) (ev_sound hf hx) hs
  case buildSlice t len parts =>
    rw [hop] at hc
    exact new_buildSlice hE hop hc hf hs
  case makeSlice t x y =>
    rw [hop] at hc
    exact new_makeSlice hE hop hc hf hs
  case makeMap t r =>
    rw [hop] at hc
    cases r with
    | none => cases hc; exact new_makeMap hop hs
    | some r => cases hc
  case convert s d x =>
    rw [hop] at hc
    simp only [cOp, Option.bind_eq_bind, Option.bind_eq_some_iff] at hc
    obtain ⟨ds, hds, dd, hdd, hc⟩ := hc
    split at hc
    · simp only [Option.bind_eq_some_iff] at hc
      obtain ⟨c, hx, hc⟩ := hc
      cases hc; cases hn
    · simp only [Option.bind_eq_some_iff] at hc
      obtain ⟨c, hx, hc⟩ := hc
      cases hc; cases hn
    · simp only [Option.bind_eq_some_iff] at hc
      obtain ⟨de, hde, hc⟩ := hc
      split at hc
      case h_2 => cases hc
      split at hc
      case isFalse => cases hc
      rename_i hsz
      simp only [Option.bind_eq_some_iff] at hc
      obtain ⟨c, hx, hc⟩ := hc
      cases hc
      obtain ⟨bs, hb, ob, h1, h2, h3⟩ := new_strBytes (P := P) hE (ev_sound hf hx) hsz hs
      refine ⟨ob, h1, h2, fun w => ?_⟩
      obtain ⟨v', dn, Ob, k, h4, h5⟩ := h3 w
      refine ⟨v', dn, Ob, k, ?_, h5⟩
      unfold execOp; rw [hop]
      simp only [convert, Sem.run_bind, fun w => hE.run_und hds w, fun w => hE.run_und hdd w, fun w => hE.run_und hde w, Result.andThen_ok, hb] at h4 ⊢
      exact h4
    · simp only [Option.bind_eq_some_iff] at hc
      obtain ⟨de, hde, hc⟩ := hc
      split at hc
      case h_2 => cases hc
      simp only [Option.bind_eq_some_iff] at hc
      obtain ⟨c, hx, hc⟩ := hc
      cases hc; cases hn
    · cases hc
  case call c =>
    exfalso
    rw [hop] at hc
    cases hcal : c.callee with
    | value x =>
      simp only [cOp, hcal, Option.bind_eq_bind, Option.bind_eq_some_iff] at hc
      obtain ⟨f', h1, as', h2, h3⟩ := hc
      cases h3; cases hn
    | invoke r n =>
      simp only [cOp, hcal, Option.bind_eq_bind, Option.bind_eq_some_iff] at hc
      obtain ⟨f', h1, as', h2, h3⟩ := hc
      cases h3; cases hn
    | builtin b =>
      simp only [cOp, hcal] at hc
      unfold cBuiltin at hc
      revert hc
      repeat' split
      all_goals (intro hc)
      all_goals (try (unfold cLen at hc))
      all_goals (try (unfold cAppend at hc))
      all_goals (try (unfold cCopy at hc))
      all_goals (try (unfold cUnsafeStr at hc))
      all_goals repeat' (first | (cases hc; cases hn; done) | (cases hc; done) | (obtain ⟨_, _, hc⟩ := hc) | (simp only [Option.bind_eq_bind, Option.bind_eq_some_iff, Option.map_eq_some_iff] at hc) | split at hc)
  all_goals exfalso
  all_goals (rw [hop] at hc)
  all_goals (unfold cOp at hc)
  all_goals repeat' (first | (cases ‹(_ : Op) = _›; done) | (cases hc; cases hn; done) | (cases hc; done) | (cases ‹(_ : Op) = Op.call _›; done) | (obtain ⟨_, _, hc⟩ := hc) | (simp only [Option.bind_eq_bind, Option.bind_eq_some_iff, Option.map_eq_some_iff] at hc) | split at hc)
end
end Go.AX
namespace Go.AX
section
variable {pre : Array Nat} {cops : List COper} {n : Nat}
structure OKstep (pre : Array Nat) (cops : List COper) (L : List CStep) (s : CStep) : Prop where
  op : cops[s.i]? = some s.o
  cls : s.cls = clsOf s.o.op
  new : ∀ t, t ∈ L → t.i ≠ s.i
  prd : ∀ j, (pre.getD s.i 0).testBit j = true → ∃ t, t ∈ L ∧ t.i = j
  ord : s.cls = .read ∨ s.cls = .wr → ∀ t, t ∈ L → t.cls = .new ∨ t.cls = .wr → (pre.getD s.i 0).testBit t.i = true
  re : s.cls = .wr → ∀ t, t ∈ L → t.cls = .read → (pre.getD s.i 0).testBit t.i = true ∨ t.o ∈ s.re
theorem testBit_or_pow (a i j : Nat) : (a ||| 2 ^ i).testBit j = (a.testBit j || decide (i = j)) := by
  rw [Nat.testBit_or, Nat.testBit_two_pow]
theorem and_ne {a b : Nat} (h : (a &&& b != a) = false) (j : Nat) (hj : a.testBit j = true) : b.testBit j = true := by
  have h' : a &&& b = a := by simpa using h
  have := congrArg (fun x => x.testBit j) h'
  simp only [Nat.testBit_and, hj, Bool.true_and] at this
  exact this
theorem steps_ok : ∀ (plan : List Nat) (L0 : List CStep) (done nw w : Nat) (reads : List (Nat × COper)) {l : List CStep},
    (∀ j, done.testBit j = true ↔ ∃ t, t ∈ L0 ∧ t.i = j) → (∀ j, (∃ t, t ∈ L0 ∧ t.i = j ∧ (t.cls = .new ∨ t.cls = .wr)) → nw.testBit j = true) → (∀ t, t ∈ L0 → t.cls = .read → (t.i, t.o) ∈ reads) →
    steps pre cops n plan done nw w reads = some l → (∀ L s R, l = L ++ s :: R → OKstep pre cops (L0 ++ L) s) ∧ (∀ j, j < n → ∃ t, t ∈ L0 ++ l ∧ t.i = j) := by
  intro plan
  induction plan with
  | nil =>
    intro L0 done nw w reads l h1 h2 h3 hs
    unfold steps at hs
    split at hs
    case isFalse => cases hs
    rename_i hd
    cases hs
    refine ⟨fun L s R e => by simp at e, fun j hj => ?_⟩
    have : done.testBit j = true := by rw [hd, Nat.testBit_two_pow_sub_one]; simpa using hj
    simpa using (h1 j).1 this
  | cons j plan ih =>
    intro L0 done nw w reads l h1 h2 h3 hs
    unfold steps at hs
    simp only [Option.bind_eq_bind, Option.bind_eq_some_iff] at hs
    obtain ⟨o, ho, hs⟩ := hs
    split at hs
    case isTrue => cases hs
    rename_i hcond
    simp only [Bool.or_eq_true, not_or, Bool.not_eq_true] at hcond
    obtain ⟨hc1, hc2⟩ := hcond
    have hnew : ∀ t, t ∈ L0 → t.i ≠ j := fun t ht e => by
      have := (h1 j).2 ⟨t, ht, e⟩
      rw [hc1] at this; cases this
    have hpre : ∀ k, (pre.getD j 0).testBit k = true → ∃ t, t ∈ L0 ∧ t.i = k := fun k hk => (h1 k).1 (and_ne hc2 k hk)
    have key : ∀ (s : CStep) (nw' w' : Nat) (reads' : List (Nat × COper)) (l' : List CStep), s.i = j → s.o = o → OKstep pre cops L0 s →
        (∀ k, nw.testBit k = true → nw'.testBit k = true) → (s.cls = .new ∨ s.cls = .wr → nw'.testBit j = true) → (∀ x, x ∈ reads → x ∈ reads') → (s.cls = .read → (j, o) ∈ reads') →
        steps pre cops n plan (done ||| 2 ^ j) nw' w' reads' = some l' → (∀ L t R, s :: l' = L ++ t :: R → OKstep pre cops (L0 ++ L) t) ∧ (∀ j, j < n → ∃ t, t ∈ L0 ++ (s :: l') ∧ t.i = j) := by
      intro s nw' w' reads' l' hsi hso hok k1 k2 k3 k4 hs'
      obtain ⟨g1, g2⟩ := ih (L0 ++ [s]) (done ||| 2 ^ j) nw' w' reads' (l := l') (fun k => by
          rw [testBit_or_pow, Bool.or_eq_true, h1 k]
          constructor
          · rintro (⟨t, ht, e⟩ | e)
            · exact ⟨t, by simp [ht], e⟩
            · exact ⟨s, by simp, by rw [hsi]; simpa using e⟩
          · rintro ⟨t, ht, e⟩
            rcases List.mem_append.1 ht with ht | ht
            · exact .inl ⟨t, ht, e⟩
            · simp at ht; subst ht
              right; rw [← e, hsi]; simp)
        (fun k => by
          rintro ⟨t, ht, e, hc⟩
          rcases List.mem_append.1 ht with ht | ht
          · exact k1 k (h2 k ⟨t, ht, e, hc⟩)
          · simp at ht; subst ht
            rw [← e, hsi]; exact k2 hc)
        (fun t ht hc => by
          rcases List.mem_append.1 ht with ht | ht
          · exact k3 _ (h3 t ht hc)
          · simp at ht; subst ht
            rw [hsi, hso]; exact k4 hc) hs'
      refine ⟨fun L t R e => ?_, fun j hj => ?_⟩
      · cases L with
        | nil =>
          simp only [List.nil_append, List.cons.injEq] at e
          obtain ⟨rfl, _⟩ := e
          simpa using hok
        | cons x L =>
          simp only [List.cons_append, List.cons.injEq] at e
          obtain ⟨rfl, e⟩ := e
          have := g1 L t R e
          simpa using this
      · have := g2 j hj
        simpa using this
    have hread : (nw &&& pre.getD j 0 != nw) = false → ∀ t, t ∈ L0 → t.cls = .new ∨ t.cls = .wr → (pre.getD j 0).testBit t.i = true := fun hw t ht hc => and_ne hw t.i (h2 t.i ⟨t, ht, rfl, hc⟩)
    split at hs
    · rename_i hcls
      simp only [Option.bind_eq_some_iff] at hs
      obtain ⟨l', hl', hs⟩ := hs
      cases hs
      exact key ⟨o, j, .pure, []⟩ nw w reads l' rfl rfl ⟨ho, hcls.symm, hnew, hpre, (fun h => by rcases h with h | h <;> cases h), (fun h => by cases h)⟩ (fun _ h => h) (fun h => by rcases h with h | h <;> cases h) (fun _ h => h) (fun h => by cases h) hl'
    · rename_i hcls
      split at hs
      case isTrue => cases hs
      rename_i hw
      simp only [Option.bind_eq_some_iff] at hs
      obtain ⟨l', hl', hs⟩ := hs
      cases hs
      exact key ⟨o, j, .read, []⟩ nw w ((j, o) :: reads) l' rfl rfl ⟨ho, hcls.symm, hnew, hpre, (fun _ => hread (by simpa using hw)), (fun h => by cases h)⟩ (fun _ h => h) (fun h => by rcases h with h | h <;> cases h) (fun _ h => List.mem_cons_of_mem _ h) (fun _ => List.mem_cons_self) hl'
    · rename_i hcls
      simp only [Option.bind_eq_some_iff] at hs
      obtain ⟨l', hl', hs⟩ := hs
      cases hs
      exact key ⟨o, j, .new, []⟩ (nw ||| 2 ^ j) w reads l' rfl rfl ⟨ho, hcls.symm, hnew, hpre, (fun h => by rcases h with h | h <;> cases h), (fun h => by cases h)⟩ (fun k h => by rw [testBit_or_pow, h]; rfl) (fun _ => by rw [testBit_or_pow]; simp) (fun _ h => h) (fun h => by cases h) hl'
    · rename_i hcls
      split at hs
      case isTrue => cases hs
      rename_i hw
      simp only [Option.bind_eq_some_iff] at hs
      obtain ⟨l', hl', hs⟩ := hs
      cases hs
      refine key ⟨o, j, .wr, (reads.filter fun r => !(pre.getD j 0).testBit r.1).map (·.2)⟩ (nw ||| 2 ^ j) (w ||| 2 ^ j) reads l' rfl rfl ⟨ho, hcls.symm, hnew, hpre, (fun _ => hread (by simpa using hw)), (fun _ t ht hc => ?_)⟩ (fun k h => by rw [testBit_or_pow, h]; rfl) (fun _ => by rw [testBit_or_pow]; simp) (fun _ h => h) (fun h => by cases h) hl'
      by_cases hb : (pre.getD j 0).testBit t.i = true
      · exact .inl hb
      · right
        refine List.mem_map.2 ⟨(t.i, t.o), List.mem_filter.2 ⟨h3 t ht hc, ?_⟩, rfl⟩
        simpa using hb
end
end Go.AX
namespace Go.AX
def befF (acc : Array Nat) (o : Oper) : Nat := o.after.foldl (fun s e => if Region.binds .any e then s ||| 2 ^ e.on ||| acc.getD e.on 0 else s) 0
def befG (acc : Array Nat) (l : List Oper) : Array Nat := l.foldl (fun acc o => acc.push (befF acc o)) acc
theorem before_eq (ops : Array Oper) : Region.before ops = befG #[] ops.toList := by
  unfold Region.before befG
  rw [← Array.foldl_toList]
  rfl
theorem befG_keep : ∀ (l : List Oper) (acc : Array Nat) (i : Nat), i < acc.size → (befG acc l).getD i 0 = acc.getD i 0
  | [], acc, i, h => rfl
  | o :: l, acc, i, h => by
    show (befG (acc.push (befF acc o)) l).getD i 0 = _
    rw [befG_keep l _ i (by simp; omega)]
    simp [Array.getElem?_push, Nat.ne_of_lt h]
theorem befG_size : ∀ (l : List Oper) (acc : Array Nat), (befG acc l).size = acc.size + l.length
  | [], acc => rfl
  | o :: l, acc => by
    show (befG (acc.push (befF acc o)) l).size = _
    rw [befG_size l]; simp; omega
theorem befG_append (xs ys : List Oper) (acc : Array Nat) : befG acc (xs ++ ys) = befG (befG acc xs) ys := by
  unfold befG; rw [List.foldl_append]
theorem fold_bit (acc : Array Nat) (j : Nat) : ∀ (es : List Edge) (s : Nat), (es.foldl (fun s e => if Region.binds .any e then s ||| 2 ^ e.on ||| acc.getD e.on 0 else s) s).testBit j = true →
    s.testBit j = true ∨ ∃ e, e ∈ es ∧ Region.binds .any e = true ∧ (e.on = j ∨ (acc.getD e.on 0).testBit j = true)
  | [], s, h => .inl h
  | e :: es, s, h => by
    rw [List.foldl_cons] at h
    rcases fold_bit acc j es _ h with h | ⟨e', h1, h2⟩
    · split at h
      · rename_i hb
        rw [Nat.testBit_or, Bool.or_eq_true, testBit_or_pow, Bool.or_eq_true] at h
        rcases h with (h | h) | h
        · exact .inl h
        · exact .inr ⟨e, List.mem_cons_self, hb, .inl (by simpa using h)⟩
        · exact .inr ⟨e, List.mem_cons_self, hb, .inr h⟩
      · exact .inl h
    · exact .inr ⟨e', List.mem_cons_of_mem _ h1, h2⟩
theorem before_sound {ops : Array Oper} {i : Nat} {o : Oper} (ho : ops[i]? = some o) {j : Nat} (hj : ((Region.before ops).getD i 0).testBit j = true) :
    ∃ e, e ∈ o.after ∧ Region.binds .any e = true ∧ (e.on = j ∨ ((Region.before ops).getD e.on 0).testBit j = true) := by
  have hl : ops.toList[i]? = some o := by simpa using ho
  obtain ⟨hi, hio⟩ := List.getElem?_eq_some_iff.1 hl
  have hsplit : ops.toList = ops.toList.take i ++ o :: ops.toList.drop (i + 1) := by
    rw [← hio, List.getElem_cons_drop, List.take_append_drop]
  have hlen : (ops.toList.take i).length = i := by rw [List.length_take]; omega
  have hval : (Region.before ops).getD i 0 = befF (befG #[] (ops.toList.take i)) o := by
    rw [before_eq, hsplit, befG_append]
    show (befG ((befG #[] (ops.toList.take i)).push (befF (befG #[] (ops.toList.take i)) o)) (ops.toList.drop (i + 1))).getD i 0 = _
    have hs : (befG #[] (ops.toList.take i)).size = i := by rw [befG_size, hlen]; simp
    rw [befG_keep _ _ _ (by simp [hs])]
    rw [← hsplit, Array.getD_eq_getD_getElem?, Array.getElem?_push, if_pos hs.symm]
    rfl
  rw [hval] at hj
  unfold befF at hj
  rw [← Array.foldl_toList] at hj
  rcases fold_bit _ j _ _ hj with h | ⟨e, h1, h2, h3⟩
  · simp at h
  · refine ⟨e, by simpa using h1, h2, h3.imp id fun h => ?_⟩
    have hs : (befG #[] (ops.toList.take i)).size = i := by rw [befG_size, hlen]; simp
    have hlt : e.on < (befG #[] (ops.toList.take i)).size := by
      refine Nat.lt_of_not_le fun hge => ?_
      rw [Array.getD_eq_getD_getElem?, Array.getElem?_eq_none hge] at h
      simp at h
    have : (Region.before ops).getD e.on 0 = (befG #[] (ops.toList.take i)).getD e.on 0 := by
      rw [before_eq]
      conv => lhs; rw [hsplit, befG_append]
      exact befG_keep _ _ _ hlt
    rw [this]; exact h
theorem ready_pre {ops : Array Oper} {listed : Array Bool} {i : Nat} (hr : i ∈ Region.ready .any ops listed) (hcl : ∀ k, listed.getD k false = true → ∀ j, ((Region.before ops).getD k 0).testBit j = true → listed.getD j false = true) :
    listed.getD i true = false ∧ (∃ o, ops[i]? = some o) ∧ ∀ j, ((Region.before ops).getD i 0).testBit j = true → listed.getD j false = true := by
  obtain ⟨h1, o, ho, h2⟩ := mem_ready.1 hr
  refine ⟨h1, ⟨o, ho⟩, fun j hj => ?_⟩
  obtain ⟨e, he, hb, hej⟩ := before_sound ho hj
  have hl := h2 e he hb
  rcases hej with rfl | hej
  · exact hl
  · exact hcl _ hl j hej
end Go.AX
namespace Go.AX
section
variable {E : Env} {callf : CallF} {base : Nat} {pre : Array Nat} {cops : List COper} {n : Nat}
structure PlanOK (pre : Array Nat) (cops : List COper) (n : Nat) (l : List CStep) : Prop where
  ok : ∀ L s R, l = L ++ s :: R → OKstep pre cops L s
  all : ∀ j, j < n → ∃ t, t ∈ l ∧ t.i = j
  dst : ∀ t u, t ∈ l → u ∈ l → t.i ≠ u.i → ∀ d, t.o.dst = some d → u.o.dst ≠ some d
  look : ∀ t u, t ∈ l → u ∈ l → ∀ d, d ∈ t.o.looks → u.o.dst = some d → (pre.getD t.i 0).testBit u.i = true ∨ ((pre.getD u.i 0).testBit t.i = true ∧ t.cls ≠ .read)
theorem mem_split {α : Type} {a : α} {l : List α} (h : a ∈ l) : ∃ L R, l = L ++ a :: R := List.append_of_mem h
theorem PlanOK.at {l : List CStep} (H : PlanOK pre cops n l) {t : CStep} (ht : t ∈ l) : cops[t.i]? = some t.o ∧ t.cls = clsOf t.o.op := by
  obtain ⟨L, R, e⟩ := mem_split ht
  exact ⟨(H.ok L t R e).op, (H.ok L t R e).cls⟩
theorem PlanOK.before {l L R : List CStep} {t : CStep} (H : PlanOK pre cops n l) (e : l = L ++ t :: R) {u : CStep} (hu : u ∈ L) : u.i ≠ t.i := (H.ok L t R e).new u hu
theorem PlanOK.behind {l L R : List CStep} {t : CStep} (H : PlanOK pre cops n l) (e : l = L ++ t :: R) {u : CStep} (hu : u ∈ R) : u.i ≠ t.i := by
  obtain ⟨R1, R2, e2⟩ := mem_split hu
  have := (H.ok (L ++ t :: R1) u R2 (by rw [e, e2]; simp)).new t (by simp)
  exact Ne.symm this
theorem PlanOK.inj {l : List CStep} (H : PlanOK pre cops n l) {t u : CStep} (ht : t ∈ l) (hu : u ∈ l) (e : t.i = u.i) : t = u := by
  obtain ⟨L, R, hl⟩ := mem_split ht
  rw [hl] at hu
  rcases List.mem_append.1 hu with h | h
  · exact absurd e.symm (H.before hl h)
  · rcases List.mem_cons.1 h with h | h
    · exact h.symm
    · exact absurd e.symm (H.behind hl h)
theorem planOK_of (ht : tempsOK cops pre = true) {plan : List Nat} {l : List CStep} (hs : steps pre cops n plan 0 0 0 [] = some l) : PlanOK pre cops n l := by
  obtain ⟨h1, h2⟩ := steps_ok (pre := pre) (cops := cops) (n := n) plan [] 0 0 0 [] (l := l) (fun j => by simp) (fun j => by rintro ⟨t, ht, _⟩; cases ht) (fun t ht => by cases ht) hs
  have hat : ∀ t, t ∈ l → cops[t.i]? = some t.o ∧ t.cls = clsOf t.o.op := by
    intro t htl
    obtain ⟨L, R, e⟩ := mem_split htl
    exact ⟨(h1 L t R e).op, (h1 L t R e).cls⟩
  unfold tempsOK at ht
  simp only [Bool.and_eq_true, List.all_eq_true] at ht
  obtain ⟨ht1, ht2⟩ := ht
  have hmem : ∀ t, t ∈ l → (t.o, t.i) ∈ cops.zipIdx := fun t htl => List.mem_zipIdx_iff_getElem?.2 (hat t htl).1
  refine ⟨fun L s R e => by simpa using h1 L s R e, fun j hj => by simpa using h2 j hj, ?_, ?_⟩
  · intro t u htl hul hne d hd hu
    have := ht1 _ (hmem t htl) _ (hmem u hul)
    simp only [Bool.or_eq_true] at this
    rcases this with (h | h) | h
    · exact hne (by simpa using h)
    · rw [hd] at h; cases h
    · rw [hd, hu] at h; simp at h
  · intro t u htl hul d hd hu
    have := ht2 _ (hmem t htl) d hd _ (hmem u hul)
    simp only [Bool.or_eq_true, Bool.and_eq_true] at this
    rcases this with (h | h) | h
    · rw [hu] at h; simp at h
    · exact .inl h
    · refine .inr ⟨h.1, ?_⟩
      rw [(hat t htl).2]
      intro e
      rw [e] at h
      exact absurd h.2 (by decide)
theorem runSteps_cons (s : CStep) (l : List CStep) (fr : Fr) (h : AHeap) : runSteps E callf base (s :: l) fr h = ob (runStep E callf base s fr h) fun r => runSteps E callf base l r.1 r.2 := rfl
theorem runSteps_append (L R : List CStep) : ∀ (fr : Fr) (h : AHeap) {r : Fr × AHeap}, runSteps E callf base (L ++ R) fr h = some r → ∃ fr1 h1, runSteps E callf base L fr h = some (fr1, h1) ∧ runSteps E callf base R fr1 h1 = some r := by
  induction L with
  | nil => intro fr h r hs; exact ⟨fr, h, rfl, hs⟩
  | cons s L ih =>
    intro fr h r hs
    rw [List.cons_append, runSteps_cons, ob_some] at hs
    obtain ⟨⟨f1, h1⟩, hs1, hs⟩ := hs
    obtain ⟨f2, h2, k1, k2⟩ := ih f1 h1 hs
    exact ⟨f2, h2, by rw [runSteps_cons, hs1]; exact k1, k2⟩
theorem runSteps_join {L R : List CStep} : ∀ {fr : Fr} {h : AHeap} {fr1 : Fr} {h1 : AHeap}, runSteps E callf base L fr h = some (fr1, h1) → runSteps E callf base (L ++ R) fr h = runSteps E callf base R fr1 h1 := by
  induction L with
  | nil => intro fr h fr1 h1 hs; cases hs; rfl
  | cons s L ih =>
    intro fr h fr1 h1 hs
    rw [runSteps_cons, ob_some] at hs
    obtain ⟨⟨f1, h1'⟩, hs1, hs⟩ := hs
    rw [List.cons_append, runSteps_cons, hs1]
    exact ih hs
theorem runStep_inv {s : CStep} {fr : Fr} {h : AHeap} {fr1 : Fr} {h1 : AHeap} (hs : runStep E callf base s fr h = some (fr1, h1)) :
    ∃ v hO, fr1 = putA s.o.dst fr v ∧
      ((s.cls = .pure ∨ s.cls = .read) ∧ runOp E callf s.o fr h = some (v, hO) ∧ h1 = hO ∨
       s.cls = .new ∧ runOp E callf s.o fr ⟨base + s.i, h.t⟩ = some (v, hO) ∧ h1 = ⟨h.next, hO.t⟩ ∨
       s.cls = .wr ∧ runOp E callf s.o fr h = some (v, hO) ∧ h1 = hO ∧ rereads s.re fr1 h1 = true) := by
  obtain ⟨o, i, cls, re⟩ := s
  cases cls with
  | pure =>
    have hs' : (ob (runOp E callf o fr h) fun r => some (putA o.dst fr r.1, r.2)) = some (fr1, h1) := hs
    rw [ob_some] at hs'
    obtain ⟨⟨v, hO⟩, h2, h3⟩ := hs'
    cases h3
    exact ⟨v, hO, rfl, .inl ⟨.inl rfl, h2, rfl⟩⟩
  | read =>
    have hs' : (ob (runOp E callf o fr h) fun r => some (putA o.dst fr r.1, r.2)) = some (fr1, h1) := hs
    rw [ob_some] at hs'
    obtain ⟨⟨v, hO⟩, h2, h3⟩ := hs'
    cases h3
    exact ⟨v, hO, rfl, .inl ⟨.inr rfl, h2, rfl⟩⟩
  | new =>
    have hs' : (ob (runOp E callf o fr ⟨Nat.add base i, h.t⟩) fun r => some (putA o.dst fr r.1, (⟨h.next, r.2.t⟩ : AHeap))) = some (fr1, h1) := hs
    rw [ob_some] at hs'
    obtain ⟨⟨v, hO⟩, h2, h3⟩ := hs'
    cases h3
    exact ⟨v, hO, rfl, .inr (.inl ⟨rfl, h2, rfl⟩)⟩
  | wr =>
    have hs' : (ob (runOp E callf o fr h) fun r => ifT (rereads re (putA o.dst fr r.1) r.2) (some (putA o.dst fr r.1, r.2)) none) = some (fr1, h1) := hs
    rw [ob_some] at hs'
    obtain ⟨⟨v, hO⟩, h2, h3⟩ := hs'
    rw [ifT_some] at h3
    obtain ⟨h4, h3⟩ := h3
    cases h3
    exact ⟨v, hO, rfl, .inr (.inr ⟨rfl, h2, rfl, h4⟩)⟩
theorem putA_ne {d : Option Nat} {fr : Fr} {v : AVal} {k : Nat} (h : d ≠ some k) : (putA d fr v).get k = fr.get k := by
  cases d with
  | none => rfl
  | some d => exact T.get_set_ne _ _ (fun e => h (by rw [e]))
theorem putA_same {fr : Fr} {v : AVal} {k : Nat} : (putA (some k) fr v).get k = some v := T.get_set_same _ _ _
theorem runSteps_other {L : List CStep} : ∀ {fr : Fr} {h : AHeap} {fr1 : Fr} {h1 : AHeap}, runSteps E callf base L fr h = some (fr1, h1) → ∀ {d : Nat}, (∀ t, t ∈ L → t.o.dst ≠ some d) → fr1.get d = fr.get d := by
  induction L with
  | nil => intro fr h fr1 h1 hs d _; cases hs; rfl
  | cons s L ih =>
    intro fr h fr1 h1 hs d hd
    rw [runSteps_cons, ob_some] at hs
    obtain ⟨⟨f1, h1'⟩, hs1, hs⟩ := hs
    rw [ih hs (fun t ht => hd t (List.mem_cons_of_mem _ ht))]
    obtain ⟨v, hO, e, _⟩ := runStep_inv hs1
    show f1.get d = _
    rw [e]
    exact putA_ne (hd s List.mem_cons_self)
theorem plan_frames {l L R : List CStep} (H : PlanOK pre cops n l) (e : l = L ++ R) {fr0 fr1 fr' : Fr} {h0 h1 h' : AHeap} (hL : runSteps E callf base L fr0 h0 = some (fr1, h1)) (hR : runSteps E callf base R fr1 h1 = some (fr', h')) (d : Nat) :
    ((∃ t, t ∈ L ∧ t.o.dst = some d) → fr1.get d = fr'.get d) ∧ ((¬ ∃ t, t ∈ L ∧ t.o.dst = some d) → fr1.get d = fr0.get d) := by
  refine ⟨fun ⟨t, ht, hd⟩ => ?_, fun hno => runSteps_other hL fun t ht hd => hno ⟨t, ht, hd⟩⟩
  symm
  refine runSteps_other hR fun u hu => ?_
  have htl : t ∈ l := by rw [e]; simp [ht]
  have hul : u ∈ l := by rw [e]; simp [hu]
  have hne : t.i ≠ u.i := by
    obtain ⟨L1, L2, e1⟩ := mem_split ht
    have el : l = L1 ++ t :: (L2 ++ R) := by rw [e, e1]; simp
    exact Ne.symm (H.behind el (by simp [hu]))
  exact H.dst t u htl hul hne d hd
end
end Go.AX
namespace Go.AX
open Go.RowKit
section
variable {E : Env} {P : Program} [Lay P] {K : Keep} {W0 : World} {ρ : Ren} {h : AHeap} {w : World}
theorem new_step {co : COp} (hc : clsOf co = .new) {fr : Fr} {v : AVal} {h1 : AHeap} (hs : stepOp co fr h = some (v, h1)) : ∃ ob : AObj, h1 = h.push ob ∧ ob.own := by
  cases co
  case box t x =>
    have hs' : onCellsOf (evC x fr) (fun c => some (AVal.ptr h.next 0, h.push (.cells c t))) = some (v, h1) := hs
    rcases onCellsOf_some.1 hs' with ⟨l, _, hk⟩ | ⟨_, hk⟩ <;> cases hk <;> exact ⟨_, rfl, trivial⟩
  case buildSlice e n z ps =>
    have hs' : ob (fillA (I.evParts ps fr) (repL n z)) (fun l => some (AVal.slice h.next 0 n n true, h.push (.cells l e))) = some (v, h1) := hs
    rw [ob_some] at hs'
    obtain ⟨l, _, hk⟩ := hs'
    cases hk; exact ⟨_, rfl, trivial⟩
  case mkSlice e z b x y =>
    simp only [stepOp, I.mkSlice, onNat_some, ifT_some, Option.some.injEq, Prod.mk.injEq] at hs
    obtain ⟨_, _, _, _, _, _, _, _, rfl⟩ := hs
    exact ⟨_, rfl, trivial⟩
  case mkMap => cases hs; exact ⟨_, rfl, trivial⟩
  case cStrBytes e x =>
    simp only [stepOp, I.cStrBytes, onStr_some, Option.some.injEq, Prod.mk.injEq] at hs
    obtain ⟨_, _, _, rfl⟩ := hs
    exact ⟨_, rfl, trivial⟩
  case len s x => cases s <;> cases hc
  all_goals cases hc
theorem opF_step {callf : CallF} {co : COp} (hc : clsOf co ≠ .wr) : opF E callf co = stepOp co := by
  refine opF_other (fun f as e => ?_) (fun f n as e => ?_) <;> (subst e; exact hc rfl)
theorem runOp_pure {callf : CallF} {o : COper} (hc : clsOf o.op = .pure) {fr : Fr} {v : AVal} {h1 : AHeap} (hs : runOp E callf o fr h = some (v, h1)) : h1 = h ∧ ∀ h2, runOp E callf o fr h2 = some (v, h2) := by
  unfold runOp at hs ⊢
  rw [opF_step (by rw [hc]; decide)] at hs ⊢
  cases hg : guardOk o.guard fr with
  | true =>
    rw [hg] at hs
    obtain ⟨e, h2⟩ := pure_step hc (show stepOp o.op fr h = some (v, h1) from hs)
    exact ⟨e, fun h' => h2 h'⟩
  | false => rw [hg] at hs; cases hs; exact ⟨rfl, fun _ => rfl⟩
theorem runOp_read {callf : CallF} {o : COper} (hc : clsOf o.op = .read) {fr : Fr} {v : AVal} {h1 : AHeap} (hs : runOp E callf o fr h = some (v, h1)) : h1 = h := by
  unfold runOp at hs
  rw [opF_step (by rw [hc]; decide)] at hs
  cases hg : guardOk o.guard fr with
  | true => rw [hg] at hs; exact read_step hc (show stepOp o.op fr h = some (v, h1) from hs)
  | false => rw [hg] at hs; cases hs; rfl
theorem runOp_new {callf : CallF} {o : COper} (hc : clsOf o.op = .new) {fr : Fr} {v : AVal} {h1 : AHeap} (hs : runOp E callf o fr h = some (v, h1)) :
    (guardOk o.guard fr = false ∧ v = undefA ∧ h1 = h) ∨ (guardOk o.guard fr = true ∧ stepOp o.op fr h = some (v, h1) ∧ ∃ ob : AObj, h1 = h.push ob ∧ ob.own) := by
  unfold runOp at hs
  rw [opF_step (by rw [hc]; decide)] at hs
  cases hg : guardOk o.guard fr with
  | true => rw [hg] at hs; exact .inr ⟨rfl, hs, new_step hc (show stepOp o.op fr h = some (v, h1) from hs)⟩
  | false => rw [hg] at hs; cases hs; exact .inl ⟨rfl, rfl, rfl⟩
theorem WR.adopt' (H : WR P K W0 ρ h w) {h' : AHeap} {n : Nat} {o : AObj} {r : RB} (hr : ρ n = some r) (hget : h'.get n = some o) (hne : ∀ m, m ≠ n → h'.get m = h.get m)
    (hnext : h'.next = h.next) (hk : ¬ K r.b) (hfree : ∀ m p s, h.get m = some p → p.live → ρ m = some s → s.b ≠ r.b) (ho : ObjR P ρ r o (w.heap[r.b]?)) : WR P K W0 ρ h' w := by
  refine ⟨H.os, H.tape, H.output, H.size, H.klt, H.keep, fun m hm => ?_, fun m p hm hl => ?_, fun m m' p p' s s' hm hl hm' hl' hs hs' e => ?_, by rw [hnext]; exact H.nx, H.old, H.gk, fun m p s hm hl hs hg => ?_, H.lay⟩
  · rw [hnext] at hm
    have h1 := H.fresh m hm
    have hmn : m ≠ n := fun e => by rw [e, hr] at h1; cases h1.1
    exact ⟨h1.1, by rw [hne _ hmn]; exact h1.2⟩
  · by_cases e : m = n
    · subst e; rw [hget] at hm; cases hm
      exact ⟨r, hr, fun _ => hk, ho⟩
    · rw [hne _ e] at hm
      exact H.obj m p hm hl
  · by_cases e1 : m = n
    · by_cases e2 : m' = n
      · omega
      · subst e1
        rw [hne _ e2] at hm'; rw [hr] at hs; cases hs
        exact (hfree m' p' s' hm' hl' hs' e.symm).elim
    · rw [hne _ e1] at hm
      by_cases e2 : m' = n
      · subst e2
        rw [hr] at hs'; cases hs'
        exact (hfree m p s hm hl.live hs e).elim
      · rw [hne _ e2] at hm'
        exact H.inj _ _ _ _ _ _ hm hl hm' hl' hs hs' e
  · by_cases e1 : m = n
    · subst e1; rw [hr] at hs; cases hs
      exact hk (H.gk _ hg)
    · rw [hne _ e1] at hm
      exact H.hid _ _ _ hm hl hs hg
theorem WR.forget (H : WR P K W0 ρ h w) {h' : AHeap} (hnext : h'.next = h.next) (hsub : ∀ m o, h'.get m = some o → o.live → h.get m = some o) (hnone : ∀ m, h.next ≤ m → h'.get m = none) : WR P K W0 ρ h' w :=
  ⟨H.os, H.tape, H.output, H.size, H.klt, H.keep, fun m hm => ⟨(H.fresh m (by omega)).1, hnone m (by omega)⟩, fun m o hm hl => H.obj m o (hsub m o hm hl) hl,
    fun m m' p p' s s' hm hl hm' hl' hs hs' e => H.inj _ _ _ _ _ _ (hsub m p hm hl.live) hl (hsub m' p' hm' hl') hl' hs hs' e, by rw [hnext]; exact H.nx, H.old, H.gk, fun m o r hm hl hs hg => H.hid _ _ _ (hsub m o hm hl) hl hs hg, H.lay⟩
theorem WR.rebase (H : WR P K W0 ρ h w) {K' : Keep} {ρ' : Ren} {h' : AHeap} {w' : World} (H' : WR P K' w ρ' h' w') (hk : ∀ b, K b → K' b) (hg : ∀ b, K.g b → K'.g b) (hn : K.n0 ≤ K'.n0) (hρ : ∀ n, n < K'.n0 → K'.ρ0 n = ρ n) : WR P K W0 ρ' h' w' :=
  ⟨H'.os.trans H.os, H'.tape.trans H.tape, H'.output.trans H.output, Nat.le_trans H.size H'.size, H.klt, fun b hb => (H'.keep b (hk b hb)).trans (H.keep b hb), H'.fresh,
    fun m o hm hl => let ⟨r, h1, h2, h3⟩ := H'.obj m o hm hl; ⟨r, h1, fun ho hkb => h2 ho (hk _ hkb), h3⟩, H'.inj, Nat.le_trans hn H'.nx,
    fun n hn' => by rw [H'.old n (by omega), hρ n (by omega)]; exact H.old n hn', H.gk, fun m o r hm hl hs hgb => H'.hid m o r hm hl hs (hg _ hgb), H.lay⟩
theorem WR.restart (H : WR P K W0 ρ h w) {n0 : Nat} (hn : n0 ≤ h.next) {G : Nat → Prop} (hG : ∀ b, G b → b < w.heap.size) (hfree : ∀ m p s, h.get m = some p → p.live → ρ m = some s → ¬ G s.b) :
    WR P ⟨fun b => K b ∨ G b, n0, ρ, fun b => K.g b ∨ G b⟩ w ρ h w :=
  ⟨rfl, rfl, rfl, Nat.le_refl _, fun b hb => hb.elim (fun h => Nat.lt_of_lt_of_le (H.klt b h) H.size) (hG b), fun _ _ => rfl, H.fresh,
    fun m o hm hl => let ⟨r, h1, h2, h3⟩ := H.obj m o hm hl; ⟨r, h1, fun ho hk => hk.elim (h2 ho) (hfree m o r hm hl h1), h3⟩, H.inj, hn, fun _ _ => rfl,
    fun b hb => hb.imp (H.gk b) id, fun m o r hm hl hs hg => hg.elim (H.hid m o r hm hl hs) (hfree m o r hm hl hs), fun b hl => ⟨.inl (H.lay b hl).1, by rw [H.keep b (H.lay b hl).1]; exact (H.lay b hl).2⟩⟩
end
end Go.AX

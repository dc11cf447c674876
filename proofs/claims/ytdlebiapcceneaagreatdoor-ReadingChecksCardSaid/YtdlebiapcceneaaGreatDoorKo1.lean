/-
  An automaton that lies in memory as a datum, opened as a number and two lists; no conditions.
-/
import Derived.Test.YtdlebiapcceneaaGreatDoorKl1
import Derived.Deep.Slices
set_option linter.unusedVariables false
set_option linter.unusedSimpArgs false
set_option linter.unusedSectionVars false
namespace Go.AX
open Go Go.Proofs Go.RowKit Go.WideShapes
open Go.Proofs.YtdlebiapcceneaaGreatDoorW.PrintWords
def OpK {α : Type} (P : Program) (K : Kd α) (t : TypeId) (ok : α → Prop) : Prop :=
  P.cellsOf t = K.sz ∧ ∀ {H : Type} {enc : TypeId × Value → H} {w : World} {base : Nat} {sp : Nat → Bool} {held : Bool} {fuel : Nat} {cs : List Value} {x : DataW H × List MemPlace},
    DataW.trod enc P w base sp held fuel t cs = some x → ∃ a, K.K w a cs ∧ ok a
theorem opk_slice {α : Type} {P : Program} {K : Kd α} {t e : TypeId} {ok : α → Prop} (d : α) (hK : OpK P K e ok) (ht : P.underlying t = some (.slice e)) (hc : P.cellsOf t = 1) : OpK P (Kd.slice e K) t (fun l => l.length ≤ maxLen ∧ ∀ a ∈ l, ok a) := by
  refine ⟨hc, fun {H enc w base sp held fuel cs x} h => ?_⟩
  rcases DataW.trod_slice ht h with ⟨rfl, _⟩ | ⟨a, len, cap, elems, rest, n, _, rfl, _, _, hlc, hcm, hel, hall, _, _⟩
  · exact ⟨[], ⟨none, 0, rfl, by simp, rfl, by simp, fun h => by simp at h⟩, by simp, fun a ha => by cases ha⟩
  · have each : ∀ i, i < len → ∃ q : α × List Value, w.cells? base (a.add (i * P.cellsOf e)) (P.cellsOf e) = some q.2 ∧ K.K w q.1 q.2 ∧ ok q.1 := by
      intro i hi
      have h1 := hall i hi
      have h2 : ∃ y, elems[i]? = some y := ⟨_, List.getElem?_eq_getElem (by omega)⟩
      obtain ⟨y, hy⟩ := h2
      rw [hy] at h1
      obtain ⟨cs', h3, h4⟩ := Option.bind_eq_some_iff.1 h1
      obtain ⟨b, h5, h6⟩ := hK.2 h4
      exact ⟨(b, cs'), h3, h5, h6⟩
    haveI : Inhabited (α × List Value) := ⟨(d, [])⟩
    obtain ⟨q, hq⟩ := Go.Deep.choose_lt each
    have hml : (maxLen : Nat) ≤ 9223372036854775807 := by unfold maxLen; omega
    refine ⟨(List.range len).map fun i => (q i).1, ⟨some a, cap, by simp, by simpa using hlc, by simp, by simp; omega, fun _ => ⟨a, rfl, fun j p hp => ?_⟩⟩, by simp; omega, fun b hb => ?_⟩
    · rw [List.getElem?_map, Option.map_eq_some_iff] at hp
      obtain ⟨j', hj', rfl⟩ := hp
      obtain ⟨hjl, hj2⟩ := List.getElem?_eq_some_iff.1 hj'
      rw [List.length_range] at hjl
      rw [List.getElem_range] at hj2
      subst hj2
      obtain ⟨h1, h2, h3⟩ := hq j hjl
      obtain ⟨_, h4, h5⟩ := World.cells?_some h1
      refine ⟨(q j).2, by rw [h4, hK.1], h2, fun i u hu => ?_⟩
      have hi : i < P.cellsOf e := by rw [← h4]; exact (List.getElem?_eq_some_iff.1 hu).1
      have h6 := h5 i hi
      rw [hu, add_add, hK.1] at h6
      exact h6
    · obtain ⟨i, hi, rfl⟩ := List.mem_map.1 hb
      exact (hq i (List.mem_range.1 hi)).2.2
theorem trod_fields {P : Program} {t : TypeId} {fs : Array Field} (ht : P.underlying t = some (.struct fs)) (hc : P.cellsOf t = fs.size) (hf : ∀ (i : Nat) (f : Field), fs[i]? = some f → f.offset = i ∧ P.cellsOf f.type = 1)
    {H : Type} {enc : TypeId × Value → H} {w : World} {base : Nat} {sp : Nat → Bool} {held : Bool} {fuel : Nat} {cs : List Value} {x : DataW H × List MemPlace} (h : DataW.trod enc P w base sp held fuel t cs = some x) :
    cs.length = fs.size ∧ ∃ n, ∀ (i : Nat) (f : Field) (c : Value), fs[i]? = some f → cs[i]? = some c → ∃ y, DataW.trod enc P w base sp held n f.type [c] = some y := by
  obtain ⟨xs, n, _, _, hl, hlen, hg⟩ := DataW.trod_struct ht h
  refine ⟨hl.trans hc, n, fun i f c hi hci => ?_⟩
  have g := hg i f hi
  obtain ⟨ho, h1⟩ := hf i f hi
  rw [ho, h1] at g
  have e : (cs.drop i).take 1 = [c] := by
    obtain ⟨hil, hic⟩ := List.getElem?_eq_some_iff.1 hci
    rw [List.drop_eq_getElem_cons hil, hic]
    rfl
  rw [e] at g
  have hix : i < xs.length := by
    rw [hlen]
    exact (Array.getElem?_eq_some_iff.1 hi).1
  exact ⟨xs[i], g.trans (List.getElem?_eq_getElem hix)⟩
end Go.AX
namespace Go.AX
open Go Go.Proofs Go.RowKit Go.WideShapes
open Go.Proofs.YtdlebiapcceneaaGreatDoor.Leaf Go.Proofs.YtdlebiapcceneaaGreatDoorW.PrintWords
theorem cellsOf3 : Tryz.prog.cellsOf 3 = 1 := by kernel_rfl
theorem cellsOf5 : Tryz.prog.cellsOf 5 = 1 := by kernel_rfl
theorem cellsOf33 : Tryz.prog.cellsOf 33 = 1 := by kernel_rfl
theorem cellsOf34 : Tryz.prog.cellsOf 34 = 1 := by kernel_rfl
theorem cellsOf36 : Tryz.prog.cellsOf 36 = 3 := by kernel_rfl
theorem cellsOf84 : Tryz.prog.cellsOf 84 = 4 := by kernel_rfl
theorem cellsOf87 : Tryz.prog.cellsOf 87 = 2 := by kernel_rfl
theorem list3 {α : Type} {l : List α} (h : l.length = 3) : ∃ a b c, l = [a, b, c] := by
  match l, h with
  | [a, b, c], _ => exact ⟨a, b, c, rfl⟩
theorem list2 {α : Type} {l : List α} (h : l.length = 2) : ∃ a b, l = [a, b] := by
  match l, h with
  | [a, b], _ => exact ⟨a, b, rfl⟩
theorem list4 {α : Type} {l : List α} (h : l.length = 4) : ∃ a b c d, l = [a, b, c, d] := by
  match l, h with
  | [a, b, c, d], _ => exact ⟨a, b, c, d, rfl⟩
theorem opk84 : OpK Tryz.prog k84 84 (fun x => 0 ≤ x.f2 ∧ x.f2 ≤ 255) := by
  refine ⟨cellsOf84, fun {H enc w base sp held fuel cs x} h => ?_⟩
  obtain ⟨hl, n, hf⟩ := trod_fields Tryz.underlying84 cellsOf84 (fun i f hi => by
    match i, hi with
    | 0, hi => cases hi; exact ⟨rfl, cellsOf3⟩
    | 1, hi => cases hi; exact ⟨rfl, cellsOf3⟩
    | 2, hi => cases hi; exact ⟨rfl, cellsOf5⟩
    | 3, hi => cases hi; exact ⟨rfl, cellsOf3⟩
    | (i + 4), hi => simp at hi) h
  obtain ⟨c0, c1, c2, c3, rfl⟩ := list4 hl
  obtain ⟨y0, g0⟩ := hf 0 _ c0 rfl rfl
  obtain ⟨y1, g1⟩ := hf 1 _ c1 rfl rfl
  obtain ⟨y2, g2⟩ := hf 2 _ c2 rfl rfl
  obtain ⟨y3, g3⟩ := hf 3 _ c3 rfl rfl
  obtain ⟨n0, e0, _, _⟩ := DataW.trod_int Tryz.underlying3 g0
  obtain ⟨n1, e1, _, _⟩ := DataW.trod_int Tryz.underlying3 g1
  obtain ⟨n2, e2, _, w2⟩ := DataW.trod_int Tryz.underlying5 g2
  obtain ⟨n3, e3, _, _⟩ := DataW.trod_int Tryz.underlying3 g3
  cases e0; cases e1; cases e2; cases e3
  exact ⟨⟨n0, n1, n2, n3⟩, k84_mk _ _, u8_range w2⟩
theorem opk87 : OpK Tryz.prog k87 87 (fun _ => True) := by
  refine ⟨cellsOf87, fun {H enc w base sp held fuel cs x} h => ?_⟩
  obtain ⟨hl, n, hf⟩ := trod_fields Tryz.underlying87 cellsOf87 (fun i f hi => by
    match i, hi with
    | 0, hi => cases hi; exact ⟨rfl, cellsOf3⟩
    | 1, hi => cases hi; exact ⟨rfl, cellsOf3⟩
    | (i + 2), hi => simp at hi) h
  obtain ⟨c0, c1, rfl⟩ := list2 hl
  obtain ⟨y0, g0⟩ := hf 0 _ c0 rfl rfl
  obtain ⟨y1, g1⟩ := hf 1 _ c1 rfl rfl
  obtain ⟨n0, e0, _, _⟩ := DataW.trod_int Tryz.underlying3 g0
  obtain ⟨n1, e1, _, _⟩ := DataW.trod_int Tryz.underlying3 g1
  cases e0; cases e1
  exact ⟨⟨n0, n1⟩, k87_mk _ _, trivial⟩
set_option maxRecDepth 100000 in
theorem open_auto {W : World} {r : Reach} {b0 : Nat} {H : Type} {enc : TypeId × Value → H} {base : Nat} {sp : Nat → Bool} {held : Bool} {v : Value} {d : DataW H} {ps : List MemPlace}
    (hval : Value.okWide Tryz.prog W r b0 36 v) (h : DataW.Trod enc Tryz.prog W base sp held 36 v d ps) :
    ∃ (a0 : Int) (A : Option Addr) (c : Nat) (arcs : List S84) (B : Option Addr) (e : Nat) (ends : List S87), v = .agg #[.int .i64 a0, .slice A arcs.length c, .slice B ends.length e] ∧
      Kd.C k84 W A arcs.length arcs ∧ arcs.length ≤ c ∧ Kd.C k87 W B ends.length ends ∧ ends.length ≤ e ∧ (∀ x ∈ arcs, 0 ≤ x.f2 ∧ x.f2 ≤ 255) := by
  obtain ⟨vs, rfl, hsz⟩ := okWide_struct Tryz.underlying36 hval
  obtain ⟨fuel, h⟩ := h
  obtain ⟨hl, n, hf⟩ := trod_fields Tryz.underlying36 cellsOf36 (fun i f hi => by
    match i, hi with
    | 0, hi => cases hi; exact ⟨rfl, cellsOf3⟩
    | 1, hi => cases hi; exact ⟨rfl, cellsOf33⟩
    | 2, hi => cases hi; exact ⟨rfl, cellsOf34⟩
    | (i + 3), hi => simp at hi) h
  obtain ⟨c0, c1, c2, hcs⟩ := list3 hl
  rw [hcs] at hf
  obtain ⟨y0, g0⟩ := hf 0 _ c0 rfl rfl
  obtain ⟨y1, g1⟩ := hf 1 _ c1 rfl rfl
  obtain ⟨y2, g2⟩ := hf 2 _ c2 rfl rfl
  obtain ⟨n0, e0, _, _⟩ := DataW.trod_int Tryz.underlying3 g0
  obtain ⟨arcs, ⟨A, c, e1, hc, hC⟩, _, hw⟩ := (opk_slice z84 opk84 Tryz.underlying33 cellsOf33).2 g1
  obtain ⟨ends, ⟨B, e, e2, he, hE⟩, _, _⟩ := (opk_slice z87 opk87 Tryz.underlying34 cellsOf34).2 g2
  cases e0; cases e1; cases e2
  refine ⟨n0, A, c, arcs, B, e, ends, ?_, hC, hc, hE, he, hw⟩
  have : vs.toList = _ := hcs
  rw [← Array.toList_inj.1 (this.trans (rfl : _ = (#[Value.int .i64 n0, Value.slice A arcs.length c, Value.slice B ends.length e] : Array Value).toList))]
end Go.AX

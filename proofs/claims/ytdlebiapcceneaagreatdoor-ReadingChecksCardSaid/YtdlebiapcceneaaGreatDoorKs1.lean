/-
  ReadingChecks returns true for every automaton, in every memory with the laid table, given what both Check come to.
-/
import Derived.Test.YtdlebiapcceneaaGreatDoorKo1
import Derived.Deep.RegionHeld3
set_option linter.unusedVariables false
set_option linter.unusedSimpArgs false
set_option linter.unusedSectionVars false
namespace Go.AX
open Go Go.Proofs Go.RowKit
open Go.Proofs.YtdlebiapcceneaaGreatDoor.Leaf Go.Proofs.YtdlebiapcceneaaGreatDoorW.PrintWords
theorem laid_below {w w' : World} (hw : Laid w) (hb : Below w.heap.size w w') : Laid w' := by
  obtain ⟨C, e, fz, h1, h2⟩ := hw
  exact ⟨C, e, fz, (hb.block 0 (Array.getElem?_eq_some_iff.1 h1).1).trans h1, h2⟩
theorem below_next {W w w' : World} (h : Below W.heap.size W w) (h2 : Below w.heap.size w w') : Below W.heap.size W w' := h.trans (h2.mono h.size)
def CheckC (f : FuncId) (a0 : Int) (arcs : List S84) (ends : List S87) (r : Int) : Prop :=
  ∀ (w : World) (A : Option Addr) (c : Nat) (B : Option Addr) (e : Nat), Kd.C k84 w A arcs.length arcs → arcs.length ≤ c → Kd.C k87 w B ends.length ends → ends.length ≤ e →
    Calls Tryz.prog f #[.agg #[.int .i64 a0, .slice A arcs.length c, .slice B ends.length e]] w fun x w' => x = .returned (.int .i64 r) ∧ Below w.heap.size w w'
set_option maxHeartbeats 4000000 in
set_option maxRecDepth 100000 in
theorem checks_walk (a0 : Int) (arcs : List S84) (ends : List S87) (w : World) (A : Option Addr) (c : Nat) (B : Option Addr) (e : Nat) (r : Int) (hC : Kd.C k84 w A arcs.length arcs) (hc : arcs.length ≤ c) (hE : Kd.C k87 w B ends.length ends) (he : ends.length ≤ e)
    (h19 : CheckC 19 a0 arcs ends r) (h20 : CheckC 20 a0 arcs ends r) (hw : Laid w) :
    Calls Tryz.prog 6 #[.agg #[.int .i64 a0, .slice A arcs.length c, .slice B ends.length e]] w fun x w' => x = .returned (.bool true) ∧ Below w.heap.size w w' := by
  have hu36 := Tryz.underlying36
  go_enter Tryz.func6, Tryz.ntmps6
  go_wp2
  have hg := World.alloc_heap_new w (Obj.cells #[Value.int IntKind.i64 a0, Value.slice A arcs.length c, Value.slice B ends.length e] 36)
  have hb0 : Below w.heap.size w (w.alloc (Obj.cells #[Value.int IntKind.i64 a0, Value.slice A arcs.length c, Value.slice B ends.length e] 36)) := (Below.refl _ _).alloc (Nat.le_refl _) _
  have hs0 : w.heap.size < (w.alloc (Obj.cells #[Value.int IntKind.i64 a0, Value.slice A arcs.length c, Value.slice B ends.length e] 36)).heap.size := by simp
  generalize w.alloc (Obj.cells #[Value.int IntKind.i64 a0, Value.slice A arcs.length c, Value.slice B ends.length e] 36) = W at hg hb0 hs0 ⊢
  have key : ∀ w1 : World, Below W.heap.size W w1 → w1.cell? ⟨w.heap.size, 0, none⟩ = some (.int .i64 a0) ∧ w1.cell? ⟨w.heap.size, 1, none⟩ = some (.slice A arcs.length c) ∧ w1.cell? ⟨w.heap.size, 2, none⟩ = some (.slice B ends.length e) ∧ Laid w1 ∧ Kd.C k84 w1 A arcs.length arcs ∧ Kd.C k87 w1 B ends.length ends ∧ Below w.heap.size w w1 := by
    intro w1 hb
    have hB := (hb.block _ hs0).trans hg
    have hbb : Below w.heap.size w w1 := hb0.trans (hb.mono hb0.size)
    exact ⟨(Lib.cell_of_heap hB 0).trans (by rfl), (Lib.cell_of_heap hB 1).trans (by rfl), (Lib.cell_of_heap hB 2).trans (by rfl), laid_below hw hbb, Kd.C_below hC hbb, Kd.C_below hE hbb, hbb⟩
  clear hg hb0 hs0 hC hE
  have KEY := Aside0.mk key
  have key4 : ∀ {w1 : World}, Below W.heap.size W w1 → w1.cell? ⟨w.heap.size, 0, none⟩ = some (.int .i64 a0) ∧ w1.cell? ⟨w.heap.size, 1, none⟩ = some (.slice A arcs.length c) ∧ w1.cell? ⟨w.heap.size, 2, none⟩ = some (.slice B ends.length e) ∧ Below W.heap.size W w1 := fun {w1} h => ⟨(key w1 h).1, (key w1 h).2.1, (key w1 h).2.2.1, h⟩
  have KY := Aside0.mk @key4
  clear key4 key hw
  have hz : Below W.heap.size W W := Below.refl _ _
  go_region_held3 (fun w' => w'.cell? ⟨w.heap.size, 0, none⟩ = some (.int .i64 a0) ∧ w'.cell? ⟨w.heap.size, 1, none⟩ = some (.slice A arcs.length c) ∧ w'.cell? ⟨w.heap.size, 2, none⟩ = some (.slice B ends.length e) ∧ Below W.heap.size W w')
    (first | exact KY.out hz | exact KY.out (below_drew hz))
    (first
    | (go_at_call 13; have hq := (‹World.cell? _ ⟨w.heap.size, 0, none⟩ = some (.int .i64 a0) ∧ _ ∧ _ ∧ _›).2.2.2; refine (alive_true _ (KEY.out _ hq).2.2.2.1).mono ?_; rintro e w1 ⟨rfl, hb1⟩; replace hz := below_next hq hb1)
    | (go_at_call 19; have hq := (‹World.cell? _ ⟨w.heap.size, 0, none⟩ = some (.int .i64 a0) ∧ _ ∧ _ ∧ _›).2.2.2; refine (h19 _ _ _ _ _ (KEY.out _ hq).2.2.2.2.1 hc (KEY.out _ hq).2.2.2.2.2.1 he).mono ?_; rintro e w2 ⟨rfl, hb2⟩; replace hz := below_next hq hb2)
    | (go_at_call 20; have hq := (‹World.cell? _ ⟨w.heap.size, 0, none⟩ = some (.int .i64 a0) ∧ _ ∧ _ ∧ _›).2.2.2; refine (h20 _ _ _ _ _ (KEY.out _ hq).2.2.2.2.1 hc (KEY.out _ hq).2.2.2.2.2.1 he).mono ?_; rintro e w3 ⟨rfl, hb3⟩; replace hz := below_next hq hb3))
  go_wp2
  go_ret
  exact ⟨rfl, (KEY.out _ hz).2.2.2.2.2.2⟩
end Go.AX

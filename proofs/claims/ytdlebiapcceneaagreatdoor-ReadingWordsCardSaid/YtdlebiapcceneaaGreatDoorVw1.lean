/-
  ReadingWords returns true, for every string and cost, in every memory with the laid table, given what both Words come to.
-/
import Derived.Test.YtdlebiapcceneaaGreatDoorVf1
import Derived.Test.YtdlebiapcceneaaGreatDoorLw1
set_option linter.unusedVariables false
set_option linter.unusedSimpArgs false
set_option linter.unusedSectionVars false
namespace Go.AX
open Go Go.Proofs Go.RowKit
open Go.Proofs.YtdlebiapcceneaaGreatDoor.Leaf Go.Proofs.YtdlebiapcceneaaGreatDoorW.PrintWords

theorem arcs_eq (s : ByteArray) (hs : (s.size : Int) ≤ 96) (c st : Int) (ends : List S87) (d : Nat) : ∀ (i : Int) (xs : List S84), 1 ≤ i → (s.size : Int) - i = d → (xs.length : Int) = i →
    ∃ ys : List S84, ys.length ≤ 96 ∧ ∀ k, d < k → reading_Word.l0 k s c (s.size : Int) i st xs ends = some (st, ys, ends, 0) ∧ restanteref01_Word.l0 k s 0 i st xs = some (st, ys, [⟨(s.size : Int), 0⟩], 0) := by
  induction d with
  | zero =>
    intro i xs h1 hd hl
    refine ⟨xs, by omega, fun k hk => ?_⟩
    obtain ⟨m, rfl⟩ : ∃ m, k = m + 1 := ⟨k - 1, by omega⟩
    refine ⟨?_, ?_⟩
    · simp only [reading_Word.l0]; rw [if_neg (by omega)]
    · simp only [restanteref01_Word.l0]; rw [if_neg (by omega)]
  | succ d ih =>
    intro i xs h1 hd hl
    have hlt : i < (s.size : Int) := by omega
    have hw : wrap64 (i + 1) = i + 1 := wrap_id (by omega) (by omega)
    obtain ⟨ys, hy, hk⟩ := ih (i + 1) (xs ++ [⟨i, i + 1, bt s i, 0⟩]) (by omega) (by omega) (by simp; omega)
    refine ⟨ys, hy, fun k hk' => ?_⟩
    obtain ⟨m, rfl⟩ : ∃ m, k = m + 1 := ⟨k - 1, by omega⟩
    obtain ⟨g1, g2⟩ := hk m (by omega)
    have hlen : xs.length < 4398046511104 := by omega
    refine ⟨?_, ?_⟩
    · simp only [reading_Word.l0]; rw [if_pos hlt, if_pos (by omega), if_pos hlt, if_neg (by omega), if_pos hlen, hw]; exact g1
    · simp only [restanteref01_Word.l0]; rw [if_pos hlt, if_pos (by omega), if_pos hlen, hw]; exact g2

theorem word_ok (s : ByteArray) (c : Int) : ∃ k r1 r2 r3 r4, reading_Word.f k s c = some (r1, r2, r3, r4) ∧ restanteref01_Word.f (k + 41) s c = some (r1, r2, r3, r4) ∧ r2.length ≤ 96 ∧ r3.length ≤ 1 := by
  by_cases h96 : (s.size : Int) > 96
  · exact ⟨0, 0, [], [], 2, by unfold reading_Word.f; rw [if_pos h96], by unfold restanteref01_Word.f; rw [if_pos h96], by simp, by simp⟩
  have hs : (s.size : Int) ≤ 96 := by omega
  obtain ⟨r, hr⟩ := letters_eq s (by omega) s.size 0 (by omega) (by omega)
  have hrf : ∀ k, s.size < k → reading_letters.f k s = some r ∧ restanteref01_lettered.f (k + 41) s = some r := fun k hk => hr k hk
  -- the tail of both, where an error comes
  have hbad : ∀ k, reading_Word.j0 (k + 1) s c true = some (0, [], [], 1) ∧ restanteref01_Word.j0 (k + 1) s c true = some (0, [], [], 1) := fun k =>
    ⟨by simp only [reading_Word.j0]; rfl, by simp only [restanteref01_Word.j0]; rfl⟩
  have hgood : ∃ ys e, ys.length ≤ 96 ∧ ∀ k, s.size + 4 ≤ k → reading_Word.j0 k s c false = some (wrap64 ((s.size : Int) + 1), ys, [e], 0) ∧ restanteref01_Word.j0 k s c false = some (wrap64 ((s.size : Int) + 1), ys, [e], 0) := by
    by_cases h0 : (s.size : Int) = 0
    · refine ⟨[], ⟨(s.size : Int), c⟩, by simp, fun k hk => ?_⟩
      obtain ⟨m, rfl⟩ : ∃ m, k = m + 3 := ⟨k - 3, by omega⟩
      refine ⟨?_, ?_⟩
      · show reading_Word.j0 ((m + 2) + 1) s c false = _
        simp only [reading_Word.j0, Bool.false_eq_true, if_false, Option.bind_some]
        rw [if_pos h0, if_pos (by simp)]
        show reading_Word.j1 ((m + 1) + 1) s c _ _ = _
        simp only [reading_Word.j1]
        show reading_Word.l0 (m + 1) s c _ _ _ _ _ = _
        simp only [reading_Word.l0]
        rw [if_neg (by omega)]
        rfl
      · show restanteref01_Word.j0 ((m + 2) + 1) s c false = _
        simp only [restanteref01_Word.j0, Bool.false_eq_true, if_false]
        show restanteref01_Word.l0 ((m + 1) + 1) s c _ _ _ = _
        simp only [restanteref01_Word.l0]
        rw [if_neg (by omega)]
    · have hw1 : wrap64 ((0 : Int) + 1) = 1 := wrap_id (by omega) (by omega)
      obtain ⟨ys, hy, hk⟩ := arcs_eq s hs c (wrap64 ((s.size : Int) + 1)) [⟨(s.size : Int), 0⟩] (s.size - 1) 1 [⟨0, 1, bt s 0, c⟩] (by omega) (by omega) (by simp)
      refine ⟨ys, ⟨(s.size : Int), 0⟩, hy, fun k hk' => ?_⟩
      obtain ⟨m, rfl⟩ : ∃ m, k = m + 3 := ⟨k - 3, by omega⟩
      refine ⟨?_, ?_⟩
      · obtain ⟨g1, _⟩ := hk m (by omega)
        show reading_Word.j0 ((m + 2) + 1) s c false = _
        simp only [reading_Word.j0, Bool.false_eq_true, if_false, Option.bind_some]
        rw [if_neg h0]
        show reading_Word.j1 ((m + 1) + 1) s c _ _ = _
        simp only [reading_Word.j1]
        show reading_Word.l0 (m + 1) s c _ _ _ _ _ = _
        simp only [reading_Word.l0]
        rw [if_pos (by omega), if_pos (by omega), if_pos (by omega), if_pos trivial, if_pos (by simp), hw1]
        exact g1
      · obtain ⟨_, g2⟩ := hk (m + 1) (by omega)
        show restanteref01_Word.j0 ((m + 2) + 1) s c false = _
        simp only [restanteref01_Word.j0, Bool.false_eq_true, if_false]
        show restanteref01_Word.l0 ((m + 1) + 1) s c _ _ _ = _
        simp only [restanteref01_Word.l0]
        rw [if_pos (by omega), if_pos (by omega), if_pos (by simp), hw1]
        exact g2
  obtain ⟨ys, e, hy, hgood⟩ := hgood
  obtain ⟨g1, g2⟩ := hrf (s.size + 5) (by omega)
  refine ⟨s.size + 5, ?_⟩
  have B1 := (hbad (s.size + 4)).1
  have B2 := (hbad (s.size + 4 + 41)).2
  unfold reading_Word.f restanteref01_Word.f
  rw [if_neg h96, if_neg h96, g1, g2]
  simp only [Option.bind_some]
  cases r with
  | false => exact ⟨0, [], [], 1, B1, B2, by simp, by simp⟩
  | true =>
    simp only [if_true]
    by_cases hc : c < 0
    · rw [if_pos hc, if_pos hc]
      exact ⟨0, [], [], 1, B1, B2, by simp, by simp⟩
    · rw [if_neg hc, if_neg hc]
      by_cases hc2 : c > 1000000
      · rw [decide_eq_true hc2]
        exact ⟨0, [], [], 1, B1, B2, by simp, by simp⟩
      · rw [decide_eq_false hc2]
        exact ⟨_, ys, [e], 0, (hgood (s.size + 5) (by omega)).1, (hgood (s.size + 5 + 41) (by omega)).2, hy, by simp⟩

theorem sameAuto_ok (n : Int) (a : List S84) (e : List S87) (ha : a.length ≤ 96) (he : e.length ≤ 1) : restanteref01_SameAuto.f 300 n a e n a e = some true := by
  have h1 : ∀ (d : Nat) (i : Int), 0 ≤ i → (e.length : Int) - i = d → ∀ k, d < k → restanteref01_SameAuto.l1 k i n a e n a e = some true := by
    intro d
    induction d with
    | zero =>
      intro i h0 hd k hk
      obtain ⟨m, rfl⟩ : ∃ m, k = m + 1 := ⟨k - 1, by omega⟩
      simp only [restanteref01_SameAuto.l1]; rw [if_neg (by omega)]
    | succ d ih =>
      intro i h0 hd k hk
      obtain ⟨m, rfl⟩ : ∃ m, k = m + 1 := ⟨k - 1, by omega⟩
      simp only [restanteref01_SameAuto.l1]; rw [if_pos (by omega), if_pos h0, if_pos (by omega)]
      simp only [beq_self_eq_true, Bool.not_true, Bool.or_self, Bool.false_eq_true, if_false]
      rw [wrap_id (by omega) (by omega)]
      exact ih (i + 1) (by omega) (by omega) m (by omega)
  have h2 : ∀ (d : Nat) (i : Int), 0 ≤ i → (a.length : Int) - i = d → ∀ k, d + 10 < k → restanteref01_SameAuto.l0 k i n a e n a e = some true := by
    intro d
    induction d with
    | zero =>
      intro i h0 hd k hk
      obtain ⟨m, rfl⟩ : ∃ m, k = m + 1 := ⟨k - 1, by omega⟩
      simp only [restanteref01_SameAuto.l0]; rw [if_neg (by omega)]
      exact h1 e.length 0 (by omega) (by omega) m (by omega)
    | succ d ih =>
      intro i h0 hd k hk
      obtain ⟨m, rfl⟩ : ∃ m, k = m + 1 := ⟨k - 1, by omega⟩
      simp only [restanteref01_SameAuto.l0]; rw [if_pos (by omega), if_pos h0, if_pos (by omega)]
      simp only [beq_self_eq_true, Bool.not_true, Bool.or_self, Bool.false_eq_true, if_false]
      rw [wrap_id (by omega) (by omega)]
      exact ih (i + 1) (by omega) (by omega) m (by omega)
  unfold restanteref01_SameAuto.f
  rw [if_pos rfl, if_pos rfl]
  have hb : ((e.length : Int) != (e.length : Int)) = false := by simp
  rw [hb]
  show restanteref01_SameAuto.j0 (299 + 1) false n a e n a e = _
  simp only [restanteref01_SameAuto.j0, Bool.false_eq_true, if_false]
  exact h2 a.length 0 (by omega) (by omega) 299 (by omega)
end Go.AX

namespace Go.AX
open Go Go.Proofs Go.RowKit
open Go.Proofs.YtdlebiapcceneaaGreatDoor.Leaf Go.Proofs.YtdlebiapcceneaaGreatDoorW.PrintWords

/-- what Word comes to -/
def WordC (f : FuncId) (s : ByteArray) (c r1 : Int) (r2 : List S84) (r3 : List S87) (r4 : Int) : Prop :=
  ∀ w : World, Calls Tryz.prog f #[.string s, .int .i64 c] w fun e w' => ∃ v1_ v2_ : Value, e = .returned (.tuple #[.agg #[.int .i64 r1, v1_, v2_], .int .i64 r4]) ∧ Kd.R k84 84 w' w.heap.size (fun _ => True) v1_ r2 ∧ Kd.R k87 87 w' w.heap.size (fun _ => True) v2_ r3 ∧ Below w.heap.size w w'

theorem laid_below {w w' : World} (hw : Laid w) (hb : Below w.heap.size w w') : Laid w' := by
  obtain ⟨C, e, fz, h1, h2⟩ := hw
  exact ⟨C, e, fz, (hb.block 0 (Array.getElem?_eq_some_iff.1 h1).1).trans h1, h2⟩
theorem laid_alloc {w : World} (hw : Laid w) (o : Obj) : Laid (w.alloc o) := laid_below hw ((Below.refl _ _).alloc (Nat.le_refl _) o)

set_option maxHeartbeats 4000000 in
set_option maxRecDepth 100000 in
theorem words_walk (s : ByteArray) (c : Int) (w : World) (r1 : Int) (r2 : List S84) (r3 : List S87) (r4 : Int) (h27 : WordC 27 s c r1 r2 r3 r4) (h28 : WordC 28 s c r1 r2 r3 r4) (hl2 : r2.length ≤ 96) (hl3 : r3.length ≤ 1) (hw : Laid w) :
    Calls Tryz.prog 9 #[.string s, .int .i64 c] w fun e w' => e = .returned (.bool true) ∧ Below w.heap.size w w' := by
  have hsame := sameAuto_ok r1 r2 r3 hl2 hl3
  go_enter Tryz.func9, Tryz.ntmps9
  go_wp2_with (first
    | (go_at_call 27; refine (h27 _).mono ?_; rintro e w1 ⟨v1, v2, rfl, hR1, hR2, hb1⟩; obtain ⟨A1, c1, rfl, hc1, hC1⟩ := Kd.R_reads hR1; obtain ⟨A2, c2, rfl, hc2, hC2⟩ := Kd.R_reads hR2)
    | (go_at_call 28; refine (h28 _).mono ?_; rintro e w2 ⟨v1, v2, rfl, hR3, hR4, hb2⟩; obtain ⟨A3, c3, rfl, hc3, hC3⟩ := Kd.R_reads hR3; obtain ⟨A4, c4, rfl, hc4, hC4⟩ := Kd.R_reads hR4; clear hR1 hR2 hR3 hR4; have b12 : Below w1.heap.size w1 w2 := ((Below.refl _ _).alloc (Nat.le_refl _) _).trans (hb2.mono (by simp)); have hL2 : Laid w2 := laid_below hw (hb1.trans (b12.mono hb1.size)); have hB1 : w2.heap[w1.heap.size]? = _ := (hb2.block _ (by simp)).trans (World.alloc_heap_new _ _); clear hb2))
  refine (alive_true _ (laid_alloc hL2 _)).mono ?_
  rintro e w3 ⟨rfl, hb3⟩
  have b23 : Below w2.heap.size w2 w3 := ((Below.refl _ _).alloc (Nat.le_refl _) _).trans (hb3.mono (by simp))
  have hB2 : w3.heap[w2.heap.size]? = _ := (hb3.block _ (by simp)).trans (World.alloc_heap_new _ _)
  replace hB1 := (b23.block _ (Array.getElem?_eq_some_iff.1 hB1).1).trans hB1
  have b13 : Below w1.heap.size w1 w3 := b12.trans (b23.mono b12.size)
  clear hb3
  replace hC1 := Kd.C_below hC1 b13
  replace hC2 := Kd.C_below hC2 b13
  replace hC3 := Kd.C_below hC3 b23
  replace hC4 := Kd.C_below hC4 b23
  have y0 := (Lib.cell_of_heap hB1 0).trans (by rfl)
  have y1 := (Lib.cell_of_heap hB1 1).trans (by rfl)
  have y2 := (Lib.cell_of_heap hB1 2).trans (by rfl)
  have z0 := (Lib.cell_of_heap hB2 0).trans (by rfl)
  have z1 := (Lib.cell_of_heap hB2 1).trans (by rfl)
  have z2 := (Lib.cell_of_heap hB2 2).trans (by rfl)
  clear hB1 hB2
  go_wp2_with (first
    | (go_at_call 29; refine (restanteref01_SameAuto.calls 300 r1 A1 c1 r2 A2 c2 r3 r1 A3 c3 r2 A4 c4 r3 true _ hC1 hc1 hC2 hc2 hC3 hc3 hC4 hc4 hsame).mono ?_; rintro e w4 ⟨rfl, hb4⟩))
  go_ret
  exact ⟨rfl, (hb1.trans (b13.mono hb1.size)).trans (hb4.mono (Nat.le_trans hb1.size b13.size))⟩
end Go.AX


/-
  The two printed functions of Check answer the same for every automaton whose letters are bytes.
-/
import Derived.Test.YtdlebiapcceneaaGreatDoorKc1
import Derived.Test.YtdlebiapcceneaaGreatDoorKc2
import Derived.Test.YtdlebiapcceneaaGreatDoorKl1
set_option linter.unusedVariables false
set_option linter.unusedSimpArgs false
set_option linter.unusedSectionVars false
namespace Go.AX
open Go Go.Proofs Go.RowKit
open Go.Proofs.YtdlebiapcceneaaGreatDoor.Leaf Go.Proofs.YtdlebiapcceneaaGreatDoorW.PrintWords
theorem wrap_id' {i : Int} (h0 : -9223372036854775808 ≤ i) (h : i ≤ 9223372036854775807) : wrap64 i = i := by
  unfold wrap64
  omega
def cmpI (a b : Int) : Int := if a < b then -1 else if a > b then 1 else 0
theorem cmp_int_eq (a b : Int) : cmp_Compare_int.f a b = some (cmpI a b) := by
  unfold cmp_Compare_int.f cmp_isNaN_int.f cmpI
  simp only [Option.bind_some, bne_self_eq_false, Bool.false_eq_true, if_false]
  repeat' split
  all_goals first | rfl | (exfalso; omega)
theorem cmp_byte_eq (a b : Int) : cmp_Compare_byte.f a b = some (cmpI a b) := by
  unfold cmp_Compare_byte.f cmp_isNaN_byte.f cmpI
  simp only [Option.bind_some, bne_self_eq_false, Bool.false_eq_true, if_false]
  repeat' split
  all_goals first | rfl | (exfalso; omega)
theorem or_step (k : Nat) (l : List Int) (n i : Int) (h0 : 0 ≤ i) (hn : i < n) (hl : i < (l.length : Int)) (hb : i < 100) :
    cmp_Or_int.l0 (k + 1) 0 l n i = if rd l i = 0 then cmp_Or_int.l0 k 0 l n (i + 1) else some (rd l i) := by
  have hw : wrap64 (i + 1) = i + 1 := wrap_id' (by omega) (by omega)
  simp only [cmp_Or_int.l0]
  rw [if_pos hn, if_pos h0, if_pos hl, hw]
theorem or3 (a b c : Int) (k : Nat) : cmp_Or_int.f (k + 4) [a, b, c] = some (if a = 0 then (if b = 0 then c else b) else a) := by
  unfold cmp_Or_int.f
  rw [or_step _ _ _ _ (by omega) (by simp) (by simp) (by omega)]
  have r0 : rd [a, b, c] 0 = a := rfl
  rw [r0]
  split
  · rename_i ha
    rw [or_step _ _ _ _ (by omega) (by simp) (by simp) (by omega)]
    have r1 : rd [a, b, c] (0 + 1) = b := rfl
    rw [r1]
    split
    · rw [or_step _ _ _ _ (by omega) (by simp) (by simp) (by omega)]
      have r2 : rd [a, b, c] (0 + 1 + 1) = c := rfl
      rw [r2]
      split
      · rename_i hc
        simp only [cmp_Or_int.l0]
        rw [if_neg (by simp), hc]
      · rfl
    · rfl
  · rfl
theorem cmp_arcs (p x : S84) : ∃ t, (∀ k, reading_compareArcs.f (k + 4) p.f0 p.f1 p.f2 p.f3 x.f0 x.f1 x.f2 x.f3 = some t) ∧ restanteref01_before.f p.f0 p.f1 p.f2 p.f3 x.f0 x.f1 x.f2 x.f3 = some (decide (t < 0)) := by
  refine ⟨_, fun k => by
    unfold reading_compareArcs.f
    rw [cmp_int_eq, cmp_int_eq, cmp_byte_eq]
    simp only [Option.bind_some]
    rw [or3]
    rfl, ?_⟩
  unfold restanteref01_before.f cmpI
  repeat' split
  all_goals first | (exfalso; omega) | (congr 1; simp only [decide_eq_decide]; omega)
theorem mem_rd84 (l : List S84) (i : Int) (h : ∀ x ∈ l, 0 ≤ x.f2 ∧ x.f2 ≤ 255) : 0 ≤ (rd_T84 l i).f2 ∧ (rd_T84 l i).f2 ≤ 255 := by
  unfold rd_T84
  rw [List.getD_eq_getElem?_getD]
  cases e : l[i.toNat]? with
  | none => exact ⟨by decide, by decide⟩
  | some x => exact h x (List.mem_of_getElem? e)
set_option maxHeartbeats 2000000 in
theorem ends_eq (a0 : Int) (arcs : List S84) (ends : List S87) (hl : ends.length ≤ 400) (d : Nat) : ∀ (i : Int), 0 ≤ i → (ends.length : Int) - i = d →
    ∃ r, ∀ k, d + 1 ≤ k → reading_Check.l1 k ends (ends.length : Int) i a0 arcs ends = some r ∧ restanteref01_Check.l1 k i a0 arcs ends = some r := by
  induction d with
  | zero =>
    intro i h0 hd
    refine ⟨0, fun k hk => ?_⟩
    obtain ⟨m, rfl⟩ : ∃ m, k = m + 1 := ⟨k - 1, by omega⟩
    refine ⟨?_, ?_⟩
    · simp only [reading_Check.l1]; rw [if_neg (by omega)]
    · simp only [restanteref01_Check.l1]; rw [if_neg (by omega)]
  | succ d ih =>
    intro i h0 hd
    have hlt : i < (ends.length : Int) := by omega
    have hw : wrap64 (i + 1) = i + 1 := wrap_id' (by omega) (by omega)
    have hw1 : wrap64 (i - 1) = i - 1 := wrap_id' (by omega) (by omega)
    obtain ⟨r, hr⟩ := ih (i + 1) (by omega) (by omega)
    by_cases hb : (rd_T87 ends i).f0 < 0 ∨ (rd_T87 ends i).f0 ≥ a0 ∨ (rd_T87 ends i).f1 < 0 ∨ (rd_T87 ends i).f1 > 1000000 ∨ (i > 0 ∧ (rd_T87 ends (i - 1)).f0 ≥ (rd_T87 ends i).f0)
    · refine ⟨1, fun k hk => ?_⟩
      obtain ⟨m, rfl⟩ : ∃ m, k = m + 1 := ⟨k - 1, by omega⟩
      refine ⟨?_, ?_⟩
      · simp only [reading_Check.l1, hw, hw1]
        repeat' split
        all_goals first | rfl | (exfalso; omega)
      · simp only [restanteref01_Check.l1, hw, hw1]
        repeat' split
        all_goals first | rfl | (exfalso; omega)
    · refine ⟨r, fun k hk => ?_⟩
      obtain ⟨m, rfl⟩ : ∃ m, k = m + 1 := ⟨k - 1, by omega⟩
      obtain ⟨g1, g2⟩ := hr m (by omega)
      refine ⟨?_, ?_⟩
      · simp only [reading_Check.l1, hw, hw1]
        repeat' split
        all_goals first | exact g1 | (exfalso; omega)
      · simp only [restanteref01_Check.l1, hw, hw1]
        repeat' split
        all_goals first | exact g2 | (exfalso; omega)
set_option maxHeartbeats 4000000 in
theorem arcs_ok (a0 : Int) (arcs : List S84) (ends : List S87) (hl : ends.length ≤ 400) (ha : arcs.length ≤ 4000) (hb : ∀ x ∈ arcs, 0 ≤ x.f2 ∧ x.f2 ≤ 255) (d : Nat) : ∀ (i : Int), 0 ≤ i → (arcs.length : Int) - i = d →
    ∃ r, ∀ k, 2 * d + 500 ≤ k → reading_Check.l0 k arcs (arcs.length : Int) i a0 arcs ends = some r ∧ restanteref01_Check.l0 k i a0 arcs ends = some r := by
  induction d with
  | zero =>
    intro i h0 hd
    obtain ⟨r, hr⟩ := ends_eq a0 arcs ends hl ends.length 0 (by omega) (by omega)
    refine ⟨r, fun k hk => ?_⟩
    obtain ⟨m, rfl⟩ : ∃ m, k = m + 1 := ⟨k - 1, by omega⟩
    obtain ⟨g1, g2⟩ := hr m (by omega)
    refine ⟨?_, ?_⟩
    · simp only [reading_Check.l0]; rw [if_neg (by omega)]; exact g1
    · simp only [restanteref01_Check.l0]; rw [if_neg (by omega)]; exact g2
  | succ d ih =>
    intro i h0 hd
    have hlt : i < (arcs.length : Int) := by omega
    have hw : wrap64 (i + 1) = i + 1 := wrap_id' (by omega) (by omega)
    have hw1 : wrap64 (i - 1) = i - 1 := wrap_id' (by omega) (by omega)
    obtain ⟨r, hr⟩ := ih (i + 1) (by omega) (by omega)
    have hbb := mem_rd84 arcs i hb
    obtain ⟨b, t, e1, e2, e3, e4⟩ := letter_eq _ hbb.1 hbb.2
    have e2' : ∀ k, 40 ≤ k → restanteref01_place.f k (rd_T84 arcs i).f2 = some t := fun k hk => at_rounds (restanteref01_place.mono _) hk e2
    have hbad : ∃ bad : Bool, ∀ k, 40 ≤ k → reading_Check.l0 (k + 1) arcs (arcs.length : Int) i a0 arcs ends = reading_Check.j2 k i arcs (arcs.length : Int) i bad a0 arcs ends (rd_T84 arcs i).f0 (rd_T84 arcs i).f1 (rd_T84 arcs i).f2 (rd_T84 arcs i).f3
        ∧ restanteref01_Check.l0 (k + 1) i a0 arcs ends = restanteref01_Check.j2 k i bad a0 arcs ends (rd_T84 arcs i).f0 (rd_T84 arcs i).f1 (rd_T84 arcs i).f2 (rd_T84 arcs i).f3 := by
      by_cases hbd : (rd_T84 arcs i).f0 < 0 ∨ (rd_T84 arcs i).f0 ≥ (rd_T84 arcs i).f1 ∨ (rd_T84 arcs i).f1 ≥ a0 ∨ b = false ∨ (rd_T84 arcs i).f3 < 0 ∨ (rd_T84 arcs i).f3 > 1000000
      · refine ⟨true, fun k hk => ⟨?_, ?_⟩⟩
        · simp only [reading_Check.l0, e1, Option.bind_some]
          repeat' split
          all_goals first | rfl | (exfalso; simp_all; omega) | (rw [decide_eq_true (by first | omega | (simp_all; done) | (simp_all; omega))])
        · simp only [restanteref01_Check.l0, e2' k hk, Option.bind_some]
          repeat' split
          all_goals first | rfl | (exfalso; omega) | (rw [decide_eq_true (by simp_all)])
      · refine ⟨false, fun k hk => ⟨?_, ?_⟩⟩
        · simp only [reading_Check.l0, e1, Option.bind_some]
          repeat' split
          all_goals first | (rw [decide_eq_false (by omega)]) | (exfalso; simp_all; omega) | (exfalso; simp_all)
        · simp only [restanteref01_Check.l0, e2' k hk, Option.bind_some]
          repeat' split
          all_goals first | (rw [decide_eq_false (by simp_all)]) | (exfalso; omega)
    obtain ⟨bad, hbad⟩ := hbad
    cases bad with
    | true =>
      refine ⟨1, fun k hk => ?_⟩
      obtain ⟨m, rfl⟩ : ∃ m, k = m + 2 := ⟨k - 2, by omega⟩
      obtain ⟨g1, g2⟩ := hbad (m + 1) (by omega)
      rw [show m + 2 = (m + 1) + 1 from rfl, g1, g2]
      refine ⟨?_, ?_⟩
      · simp only [reading_Check.j2]; rfl
      · simp only [restanteref01_Check.j2]; rfl
    | false =>
      obtain ⟨t2, q1, q2⟩ := cmp_arcs (rd_T84 arcs (i - 1)) (rd_T84 arcs i)
      by_cases hc : i > 0 ∧ t2 ≥ 0
      · refine ⟨1, fun k hk => ?_⟩
        obtain ⟨m, rfl⟩ : ∃ m, k = m + 6 := ⟨k - 6, by omega⟩
        obtain ⟨g1, g2⟩ := hbad (m + 5) (by omega)
        rw [show m + 6 = (m + 5) + 1 from rfl, g1, g2]
        refine ⟨?_, ?_⟩
        · rw [show m + 5 = (m + 4) + 1 from rfl]
          simp only [reading_Check.j2, hw, hw1, q1, Option.bind_some]
          rw [if_neg (by simp), if_pos hc.1, if_pos (by omega), if_pos (by omega), if_pos hc.2]
        · rw [show m + 5 = (m + 4) + 1 from rfl]
          simp only [restanteref01_Check.j2, hw, hw1, q2, Option.bind_some]
          rw [if_neg (by simp), if_pos hc.1, if_pos (by omega), if_pos (by omega), if_neg (by simp; omega)]
      · refine ⟨r, fun k hk => ?_⟩
        obtain ⟨m, rfl⟩ : ∃ m, k = m + 6 := ⟨k - 6, by omega⟩
        obtain ⟨g1, g2⟩ := hbad (m + 5) (by omega)
        obtain ⟨f1, f2⟩ := hr (m + 4) (by omega)
        rw [show m + 6 = (m + 5) + 1 from rfl, g1, g2]
        refine ⟨?_, ?_⟩
        · rw [show m + 5 = (m + 4) + 1 from rfl]
          simp only [reading_Check.j2, hw, hw1, q1, Option.bind_some]
          repeat' split
          all_goals first | exact f1 | (exfalso; omega) | (exfalso; simp_all)
        · rw [show m + 5 = (m + 4) + 1 from rfl]
          simp only [restanteref01_Check.j2, hw, hw1, q2, Option.bind_some]
          repeat' split
          all_goals first | exact f2 | (exfalso; omega) | (exfalso; simp_all; omega) | (exfalso; simp_all)
set_option maxHeartbeats 2000000 in
theorem check_ok (a0 : Int) (arcs : List S84) (ends : List S87) (hb : ∀ x ∈ arcs, 0 ≤ x.f2 ∧ x.f2 ≤ 255) : ∃ k r, reading_Check.f k a0 arcs ends = some r ∧ restanteref01_Check.f k a0 arcs ends = some r := by
  by_cases hbig : a0 > 400 ∨ (arcs.length : Int) > 4000 ∨ (ends.length : Int) > 400
  · refine ⟨1, 2, ?_, ?_⟩
    · unfold reading_Check.f
      simp only [reading_Check.j0]
      repeat' split
      all_goals first | rfl | (exfalso; simp_all; omega) | (exfalso; simp_all)
    · unfold restanteref01_Check.f
      simp only [restanteref01_Check.j0]
      repeat' split
      all_goals first | rfl | (exfalso; simp_all; omega) | (exfalso; simp_all)
  · by_cases hlow : a0 < 1
    · refine ⟨1, 1, ?_, ?_⟩
      · unfold reading_Check.f
        simp only [reading_Check.j0]
        repeat' split
        all_goals first | rfl | (exfalso; omega) | (exfalso; simp_all; omega) | (exfalso; simp_all)
      · unfold restanteref01_Check.f
        simp only [restanteref01_Check.j0]
        repeat' split
        all_goals first | rfl | (exfalso; omega) | (exfalso; simp_all; omega) | (exfalso; simp_all)
    · obtain ⟨r, hr⟩ := arcs_ok a0 arcs ends (by omega) (by omega) hb arcs.length 0 (by omega) (by omega)
      obtain ⟨g1, g2⟩ := hr (2 * arcs.length + 500) (Nat.le_refl _)
      refine ⟨2 * arcs.length + 500 + 1, r, ?_, ?_⟩
      · unfold reading_Check.f
        simp only [reading_Check.j0]
        rw [if_neg (by omega), if_neg (by omega), if_neg (by simp; omega), if_neg hlow]
        exact g1
      · unfold restanteref01_Check.f
        simp only [restanteref01_Check.j0]
        rw [if_neg (by omega), if_neg (by omega), if_neg (by simp; omega), if_neg hlow]
        exact g2
end Go.AX

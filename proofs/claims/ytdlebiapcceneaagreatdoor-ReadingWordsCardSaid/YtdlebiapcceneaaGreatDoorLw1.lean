/-
  ReadingLetters returns true, for every byte and every string, in every memory with the laid table.
-/
import Derived.Test.YtdlebiapcceneaaGreatDoorLx1
import Derived.Test.YtdlebiapcceneaaGreatDoorLf1
set_option linter.unusedVariables false
set_option linter.unusedSimpArgs false
set_option linter.unusedSectionVars false
namespace Go.AX
open Go Go.Proofs Go.RowKit
open Go.Proofs.YtdlebiapcceneaaGreatDoor.Leaf Go.Proofs.YtdlebiapcceneaaGreatDoorW.PrintWords

theorem u8_range {c : Int} (h : (Lit.int .u8 c).wf = true) : 0 ≤ c ∧ c ≤ 255 := by
  have h' : (decide (IntKind.u8.min ≤ c) && decide (c ≤ IntKind.u8.max)) = true := h
  rw [Bool.and_eq_true] at h'
  have h1 := of_decide_eq_true h'.1
  have h2 := of_decide_eq_true h'.2
  have e1 : IntKind.u8.min = 0 := by decide
  have e2 : IntKind.u8.max = 255 := by decide
  rw [e1] at h1
  rw [e2] at h2
  exact ⟨h1, h2⟩

def letChk (n : Nat) : Bool :=
  match reading_IsLetter.f n, restanteref01_place.f 40 n, restanteref01_IsLetter.f 40 n with
  | some b, some t, some c => (b == decide (t ≥ 0)) && (b == c)
  | _, _, _ => false
theorem letChk_all : (List.range 256).all letChk = true := by kernel_rfl
theorem letter_eq (c : Int) (h0 : 0 ≤ c) (h1 : c ≤ 255) : ∃ b t, reading_IsLetter.f c = some b ∧ restanteref01_place.f 40 c = some t ∧ decide (t ≥ 0) = b ∧ restanteref01_IsLetter.f 40 c = some b := by
  obtain ⟨n, rfl⟩ := Int.eq_ofNat_of_zero_le h0
  have h := List.all_eq_true.1 letChk_all n (List.mem_range.2 (by omega))
  unfold letChk at h
  split at h
  · rename_i b t c e1 e2 e3
    simp only [Bool.and_eq_true, beq_iff_eq] at h
    obtain ⟨h2, h3⟩ := h
    subst h3
    exact ⟨b, t, e1, e2, h2.symm, e3⟩
  · cases h

theorem wrap_id {i : Int} (h0 : 0 ≤ i) (h : i ≤ 9223372036854775807) : wrap64 i = i := by
  unfold wrap64
  omega

theorem letters_eq (s : ByteArray) (hs : (s.size : Int) ≤ 9223372036854775807) (d : Nat) : ∀ (i : Int), 0 ≤ i → (s.size : Int) - i = d → ∃ r, ∀ k, d < k → reading_letters.l0 k s (s.size : Int) i = some r ∧ restanteref01_lettered.l0 (k + 41) s i = some r := by
  induction d with
  | zero =>
    intro i h0 hd
    refine ⟨true, fun k hk => ?_⟩
    obtain ⟨m, rfl⟩ : ∃ m, k = m + 1 := ⟨k - 1, by omega⟩
    refine ⟨?_, ?_⟩
    · simp only [reading_letters.l0]; rw [if_neg (by omega)]
    · show restanteref01_lettered.l0 ((m + 41) + 1) s i = _
      simp only [restanteref01_lettered.l0]; rw [if_neg (by omega)]
  | succ d ih =>
    intro i h0 hd
    have hlt : i < (s.size : Int) := by omega
    have hb := bt_range s i
    obtain ⟨b, t, e1, e2, e3, e4⟩ := letter_eq (bt s i) hb.1 hb.2
    have e2' : ∀ k, 40 ≤ k → restanteref01_place.f k (bt s i) = some t := fun k hk => at_rounds (restanteref01_place.mono (bt s i)) hk e2
    cases b with
    | false =>
      refine ⟨false, fun k hk => ?_⟩
      obtain ⟨m, rfl⟩ : ∃ m, k = m + 1 := ⟨k - 1, by omega⟩
      have ht : t < 0 := by
        have := of_decide_eq_false e3
        omega
      refine ⟨?_, ?_⟩
      · simp only [reading_letters.l0]; rw [if_pos hlt, if_pos h0, if_pos hlt, e1]; rfl
      · show restanteref01_lettered.l0 ((m + 41) + 1) s i = _
        simp only [restanteref01_lettered.l0]; rw [if_pos hlt, if_pos h0, e2' (m + 41) (by omega)]
        simp only [Option.bind_some]; rw [if_pos ht]
    | true =>
      obtain ⟨r, hr⟩ := ih (i + 1) (by omega) (by omega)
      refine ⟨r, fun k hk => ?_⟩
      obtain ⟨m, rfl⟩ : ∃ m, k = m + 1 := ⟨k - 1, by omega⟩
      have ht : ¬ t < 0 := by
        have := of_decide_eq_true e3
        omega
      have hw : wrap64 (i + 1) = i + 1 := wrap_id (by omega) (by omega)
      obtain ⟨g1, g2⟩ := hr m (by omega)
      refine ⟨?_, ?_⟩
      · simp only [reading_letters.l0]; rw [if_pos hlt, if_pos h0, if_pos hlt, e1]
        simp only [Option.bind_some, if_true]; rw [hw]; exact g1
      · show restanteref01_lettered.l0 ((m + 41) + 1) s i = _
        simp only [restanteref01_lettered.l0]; rw [if_pos hlt, if_pos h0, e2' (m + 41) (by omega)]
        simp only [Option.bind_some]; rw [if_neg ht, hw]; exact g2

theorem name_eq (s : ByteArray) (hs : (s.size : Int) ≤ 9223372036854775807) : ∃ k r, reading_IsName.f k s = some r ∧ restanteref01_IsName.f (k + 41) s = some r := by
  obtain ⟨r, hr⟩ := letters_eq s hs s.size 0 (by omega) (by omega)
  obtain ⟨g1, g2⟩ := hr (s.size + 1) (by omega)
  have g1 : reading_letters.f (s.size + 1) s = some r := g1
  have g2 : restanteref01_lettered.f (s.size + 1 + 41) s = some r := g2
  refine ⟨s.size + 1, ?_⟩
  unfold reading_IsName.f restanteref01_IsName.f
  rw [g1, g2]
  simp only [Option.bind_some]
  by_cases h1 : (s.size : Int) ≥ 1
  · by_cases h2 : (s.size : Int) ≤ 24
    · cases r with
      | false => exact ⟨false, by rw [if_pos h1, if_pos h2]; rfl, rfl⟩
      | true =>
        have hw : wrap64 ((s.size : Int) - 1) = (s.size : Int) - 1 := wrap_id (by omega) (by omega)
        simp only [if_true, if_pos h1, if_pos h2, if_pos (show 0 < (s.size : Int) by omega), hw, if_pos (show 0 ≤ (s.size : Int) - 1 by omega), if_pos (show (s.size : Int) - 1 < (s.size : Int) by omega)]
        by_cases h3 : bt s 0 = 32
        · exact ⟨false, by rw [if_pos h3], by rw [if_pos h3]⟩
        · exact ⟨_, by rw [if_neg h3], by rw [if_neg h3]⟩
    · refine ⟨false, by rw [if_pos h1, if_neg h2], ?_⟩
      cases r with
      | false => rfl
      | true => simp only [if_true]; rw [if_pos h1, if_neg h2]
  · refine ⟨false, by rw [if_neg h1], ?_⟩
    cases r with
    | false => rfl
    | true => simp only [if_true]; rw [if_neg h1]

theorem below_drawn {w w1 w2 : World} (h : Below w.heap.size w w1) (d : Drawn0 w1 w2) : Below w.heap.size w w2 := h.trans (d.below.mono h.size)
set_option maxHeartbeats 2000000 in
set_option maxRecDepth 100000 in
theorem letters_walk (c : Int) (s : ByteArray) (w : World) (hc0 : 0 ≤ c) (hc1 : c ≤ 255) (hs : (s.size : Int) ≤ 9223372036854775807) (hw : Laid w) :
    Calls Tryz.prog 8 #[.int .u8 c, .string s] w fun e w' => e = .returned (.bool true) ∧ Below w.heap.size w w' := by
  obtain ⟨b, t, e1, _, _, e4⟩ := letter_eq c hc0 hc1
  obtain ⟨k, r, n1, n2⟩ := name_eq s hs
  have c13 := fun w (h : Laid w) => alive_true w h
  have c23 := fun w => reading_IsLetter.calls c b w e1
  have c24 := fun w => restanteref01_IsLetter.calls 40 c b w e4
  have c25 := fun w => reading_IsName.calls k s r w n1
  have c26 := fun w => restanteref01_IsName.calls (k + 41) s r w n2
  clear e1 e4 n1 n2
  go_enter Tryz.func8, Tryz.ntmps8
  go_wp2_with (first
    | (go_at_call 13; refine (c13 _ hw).mono ?_; rintro e w1 ⟨rfl, hb⟩)
    | (go_at_call 23; refine (c23 _).mono ?_; rintro e w2 ⟨rfl, hd2⟩)
    | (go_at_call 24; refine (c24 _).mono ?_; rintro e w3 ⟨rfl, hd3⟩)
    | (go_at_call 25; refine (c25 _).mono ?_; rintro e w4 ⟨rfl, hd4⟩)
    | (go_at_call 26; refine (c26 _).mono ?_; rintro e w5 ⟨rfl, hd5⟩))
  go_ret
  exact ⟨rfl, below_drawn (below_drawn (below_drawn (below_drawn hb hd2) hd3) hd4) hd5⟩
end Go.AX


/-
  Word of the program comes to the answers of its printed function, for every string and cost on which that function answers.
-/
import Derived.Test.YtdlebiapcceneaaGreatDoorVf1
set_option linter.unusedVariables false
set_option linter.unusedSimpArgs false
set_option linter.unusedSectionVars false
namespace Go.Proofs.YtdlebiapcceneaaGreatDoor.Leaf
open Go.RowKit Go.Proofs.YtdlebiapcceneaaGreatDoorW.PrintWords Go.Proofs.YtdlebiapcceneaaGreatDoorW.PrintLast Go.Proofs.YtdlebiapcceneaaGreatDoorW.PrintMore
attribute [local go_sem] max2_int min2_int max_two min_two max_three min_three max_four min_four
set_option linter.unusedVariables false
set_option linter.unusedSimpArgs false
set_option maxHeartbeats 8000000 in
set_option maxRecDepth 100000 in
theorem reading_Word.calls (k : Nat) (a0 : ByteArray) (a1 : Int) (r1 : Int) (r2 : List (S84)) (r3 : List (S87)) (r4 : Int) (w : World) (h : reading_Word.f k a0 a1 = some (r1, r2, r3, r4)) :
    Calls Tryz.prog 27 #[.string a0, .int .i64 a1] w fun e w' => ∃ v1_ v2_ : Value, e = .returned (.tuple #[.agg #[.int .i64 r1, v1_, v2_], .int .i64 r4]) ∧ Kd.R k84 84 w' w.heap.size (fun _ => True) v1_ r2 ∧ Kd.R k87 87 w' w.heap.size (fun _ => True) v2_ r3 ∧ Below w.heap.size w w' := by
  have hu36 := Tryz.underlying36
  have hu87 := Tryz.underlying87
  have hu84 := Tryz.underlying84
  have HB := Aside0.mk (Below.refl w.heap.size w)
  have H : (if (a0.size : Int) > 96 then (some (0, ([] : List (S84)), ([] : List (S87)), 2)) else ((reading_letters.f k a0).bind fun t228 => (if t228 = true then (if a1 < 0 then (reading_Word.j0 k a0 a1 true) else (reading_Word.j0 k a0 a1 (decide (a1 > 1000000)))) else (reading_Word.j0 k a0 a1 true)))) = some (r1, r2, r3, r4) := h
  clear h
  by_cases c3 : (a0.size : Int) > 96
  · rw [if_pos c3] at H
    have c3b0 : decide (96 < (a0.size : Int)) = true := decide_eq_true c3
    have c3b1 : decide (96 < a0.size) = true := decide_eq_true (by omega)
    clear c3
    simp only [Option.some.injEq, Prod.mk.injEq] at H
    obtain ⟨rfl, rfl, rfl, rfl⟩ := H
    go_enter Tryz.func27, Tryz.ntmps27
    go_wp2_with (first | ((with_reducible refine gate_dst (N := 4) rfl ?_); refine box_event ?hg (N := 4) ?hd (cs := #[.int .i64 0, .slice none 0 0, .slice none 0 0]) (t := 36) ?hr ?_; (case hd => rfl); (case hg => rfl); (case hr => first | (go_simp; done) | (go_simp; rfl)); intro gb227 hg w4 hbox hb; have n0_ := Aside0.mk (below_step (by repeat (first | (with_reducible first | exact HB.out | apply below_alloc | apply pw_below_drewN | apply below_drew1) | exact HB.out)) hb); have n1_ := Aside0.mk (hbox); have n2_ := Aside0.mk ((by rw [hg]; exact (below_size (by repeat (first | (with_reducible first | exact HB.out | apply below_alloc | apply pw_below_drewN | apply below_drew1) | exact HB.out))) : w.heap.size ≤ gb227)); have n3_ := Aside0.mk ((by rw [hg]; exact (below_size (by repeat (first | (with_reducible first | exact HB.out | apply below_alloc | apply pw_below_drewN | apply below_drew1) | exact HB.out))) : w.heap.size ≤ gb227)); clear HB; have HB := n0_; have BK227 := n1_; have GW227 := n2_; have GE227 := n3_; clear n0_ n1_ n2_ n3_; clear hb hbox hg; have hcz5_0 : w4.cell? ⟨gb227, 0, none⟩ = some (.int .i64 0) := (blk_cell BK227.out 0).trans rfl; have hcz5_1 : w4.cell? ⟨gb227, 1, none⟩ = some (.slice none 0 0) := (blk_cell BK227.out 1).trans rfl; have hcz5_2 : w4.cell? ⟨gb227, 2, none⟩ = some (.slice none 0 0) := (blk_cell BK227.out 2).trans rfl; have hfz5_0 := blk_frozen BK227.out 0; have hfz5_1 := blk_frozen BK227.out 1; have hfz5_2 := blk_frozen BK227.out 2))
    refine bodyPost_ret (results_ct rfl _ _ gb227 36 #[.int .i64 0, .slice none 0 0, .slice none 0 0] (0, 0) _ rfl (by (with_reducible repeat (first | refine blk_drewN ?_ _ | refine blk_drew ?_ | refine blk_alloc ?_ _)); refine blk_put (cs := #[.int .i64 0, .slice none 0 0, .slice none 0 0]) ?_ 2 _ rfl; (with_reducible repeat (first | refine blk_drewN ?_ _ | refine blk_drew ?_ | refine blk_alloc ?_ _)); refine blk_put (cs := #[.int .i64 0, .slice none 0 0, .slice none 0 0]) ?_ 1 _ rfl; (with_reducible repeat (first | refine blk_drewN ?_ _ | refine blk_drew ?_ | refine blk_alloc ?_ _)); refine blk_put (cs := #[.int .i64 0, .slice none 0 0, .slice none 0 0]) ?_ 0 _ rfl; (with_reducible repeat (first | refine blk_drewN ?_ _ | refine blk_drew ?_ | refine blk_alloc ?_ _)); exact BK227.out) Tryz.underlying36 rfl (by kernel_rfl)) rfl ?_
    exact ⟨_, _, by first | rfl | (simp [errW_none, errW_some] <;> rfl) | (simp [*, errW_none, errW_some] <;> rfl), by first | exact Kd.R_nil _ _ _ _ _ | exact Kd.N_nil _ _ _ _ _ | exact Kd.V_nil _ _ _ _ _ | exact Kd.Q_nil _ _ _ _ _ | exact Kd.S_nil _ _ _ _ _, by first | exact Kd.R_nil _ _ _ _ _ | exact Kd.N_nil _ _ _ _ _ | exact Kd.V_nil _ _ _ _ _ | exact Kd.Q_nil _ _ _ _ _ | exact Kd.S_nil _ _ _ _ _, by repeat (first | (with_reducible first | exact HB.out | apply below_alloc | apply pw_below_drewN | apply below_drew1 | refine below_set ?_ GE227.out) | exact HB.out)⟩
  · rw [if_neg c3] at H
    have c3b0 : decide (96 < (a0.size : Int)) = false := decide_eq_false c3
    have c3b1 : decide (96 < a0.size) = false := decide_eq_false (by omega)
    clear c3
    have HC6 := Aside0.mk H
    clear H
    go_enter Tryz.func27, Tryz.ntmps27
    go_upto_region 3 with (first | ((with_reducible refine gate_dst (N := 4) rfl ?_); refine box_event ?hg (N := 4) ?hd (cs := #[.int .i64 0, .slice none 0 0, .slice none 0 0]) (t := 36) ?hr ?_; (case hd => rfl); (case hg => rfl); (case hr => first | (go_simp; done) | (go_simp; rfl)); intro gb227 hg w7 hbox hb; have n0_ := Aside0.mk (below_step (by repeat (first | (with_reducible first | exact HB.out | apply below_alloc | apply pw_below_drewN | apply below_drew1) | exact HB.out)) hb); have n1_ := Aside0.mk (hbox); have n2_ := Aside0.mk ((by rw [hg]; exact (below_size (by repeat (first | (with_reducible first | exact HB.out | apply below_alloc | apply pw_below_drewN | apply below_drew1) | exact HB.out))) : w.heap.size ≤ gb227)); have n3_ := Aside0.mk ((by rw [hg]; exact (below_size (by repeat (first | (with_reducible first | exact HB.out | apply below_alloc | apply pw_below_drewN | apply below_drew1) | exact HB.out))) : w.heap.size ≤ gb227)); clear HB; have HB := n0_; have BK227 := n1_; have GW227 := n2_; have GE227 := n3_; clear n0_ n1_ n2_ n3_; clear hb hbox hg))
    (try simp only [Act.put, List.setIfInBounds_toArray, List.set_cons_zero, List.set_cons_succ])
    go_cut [23] (fun v23 wc => ∃ (kq : Nat) (x23_5 : Bool), v23 = .bool x23_5 ∧ Aside0 (reading_Word.j0 kq a0 a1 x23_5 = some (r1, r2, r3, r4)) ∧ Aside0 (kq ≤ k) ∧ Aside0 (wc.heap[gb227]? = some (.cells #[.int .i64 0, (.slice none 0 0), (.slice none 0 0)] 36 (0, 0))) ∧ Aside0 (Below w.heap.size w wc))
    case first =>
      have H := HC6.out
      clear HC6
      replace H := Option.bind_eq_some_iff.mp H
      obtain ⟨t228, A80, H⟩ := H
      replace H : (if t228 = true then (if a1 < 0 then (reading_Word.j0 k a0 a1 true) else (reading_Word.j0 k a0 a1 (decide (a1 > 1000000)))) else (reading_Word.j0 k a0 a1 true)) = some (r1, r2, r3, r4) := H
      have A8 := Aside0.mk A80
      clear A80
      by_cases c9 : t228 = true
      · subst c9
        have H1 : (if a1 < 0 then (reading_Word.j0 k a0 a1 true) else (reading_Word.j0 k a0 a1 (decide (a1 > 1000000)))) = some (r1, r2, r3, r4) := by rw [if_pos rfl] at H; exact H
        clear H
        have H := H1
        clear H1
        by_cases c10 : a1 < 0
        · rw [if_pos c10] at H
          have c10b0 : decide (a1 < 0) = true := decide_eq_true c10
          clear c10
          (first | rw [c10b0] | (simp only [i64_w, i32_w]; rw [c10b0]) | skip)
          have H' := Aside0.mk H
          clear H
          go_wp2_with (first | ((with_reducible refine gate_callee (f := 49) rfl ?_); refine goesL_ (some 14) rfl rfl Tryz.func49 (by kernel_rfl) rfl #[.string a0] rfl (by (try simp only [List.map_toArray, List.map_cons, List.map_nil]); first | done | rfl | (simp only [List.length_drop, List.length_take]; rfl)) ?_; (with_reducible refine (reading_letters.calls k a0 true _ A8.out).mono ?_); rintro e w' ⟨rfl, ⟨nd, rfl⟩⟩; refine ⟨_, rfl, ?_⟩))
          go_meet
          case rel => exact ⟨_, (true), (by first | rfl | (simp; done) | (simp [*]; done)), H', ⟨by first | omega | exact Nat.le_refl _⟩, ⟨by (with_reducible repeat (first | refine blk_drewN ?_ _ | refine blk_drew ?_ | refine blk_alloc ?_ _)); exact BK227.out⟩, ⟨by repeat (first | (with_reducible first | exact HB.out | apply below_alloc | apply pw_below_drewN | apply below_drew1 | refine below_set ?_ GE227.out) | exact HB.out)⟩⟩
        · rw [if_neg c10] at H
          have c10b0 : decide (a1 < 0) = false := decide_eq_false c10
          clear c10
          (first | rw [c10b0] | (simp only [i64_w, i32_w]; rw [c10b0]) | skip)
          have H' := Aside0.mk H
          clear H
          go_wp2_with (first | ((with_reducible refine gate_callee (f := 49) rfl ?_); refine goesL_ (some 14) rfl rfl Tryz.func49 (by kernel_rfl) rfl #[.string a0] rfl (by (try simp only [List.map_toArray, List.map_cons, List.map_nil]); first | done | rfl | (simp only [List.length_drop, List.length_take]; rfl)) ?_; (with_reducible refine (reading_letters.calls k a0 true _ A8.out).mono ?_); rintro e w' ⟨rfl, ⟨nd, rfl⟩⟩; refine ⟨_, rfl, ?_⟩))
          go_meet
          case rel => exact ⟨_, (decide (a1 > 1000000)), (by first | rfl | (simp; done) | (simp [*]; done)), H', ⟨by first | omega | exact Nat.le_refl _⟩, ⟨by (with_reducible repeat (first | refine blk_drewN ?_ _ | refine blk_drew ?_ | refine blk_alloc ?_ _)); exact BK227.out⟩, ⟨by repeat (first | (with_reducible first | exact HB.out | apply below_alloc | apply pw_below_drewN | apply below_drew1 | refine below_set ?_ GE227.out) | exact HB.out)⟩⟩
      · replace c9 := Bool.eq_false_iff.mpr c9
        subst c9
        have H1 : (reading_Word.j0 k a0 a1 true) = some (r1, r2, r3, r4) := by rw [if_neg (show ¬ (false = true) by decide)] at H; exact H
        clear H
        have H := H1
        clear H1
        have H' := Aside0.mk H
        clear H
        go_wp2_with (first | ((with_reducible refine gate_callee (f := 49) rfl ?_); refine goesL_ (some 14) rfl rfl Tryz.func49 (by kernel_rfl) rfl #[.string a0] rfl (by (try simp only [List.map_toArray, List.map_cons, List.map_nil]); first | done | rfl | (simp only [List.length_drop, List.length_take]; rfl)) ?_; (with_reducible refine (reading_letters.calls k a0 false _ A8.out).mono ?_); rintro e w' ⟨rfl, ⟨nd, rfl⟩⟩; refine ⟨_, rfl, ?_⟩))
        go_meet
        case rel => exact ⟨_, (true), (by first | rfl | (simp; done) | (simp [*]; done)), H', ⟨by first | omega | exact Nat.le_refl _⟩, ⟨by (with_reducible repeat (first | refine blk_drewN ?_ _ | refine blk_drew ?_ | refine blk_alloc ?_ _)); exact BK227.out⟩, ⟨by repeat (first | (with_reducible first | exact HB.out | apply below_alloc | apply pw_below_drewN | apply below_drew1 | refine below_set ?_ GE227.out) | exact HB.out)⟩⟩
    case rest =>
      clear HC6
      try clear c1
      try clear c2
      try clear p2
      try clear c3
      try clear c3b0
      try clear c3b1
      try clear c4
      try clear c9
      try clear c10
      try clear c10b0
      try clear hcz5_0
      try clear hcz5_1
      try clear hcz5_2
      try clear hfz5_0
      try clear hfz5_1
      try clear hfz5_2
      obtain ⟨kq, x23_5, rfl, HA, HJ5, BK227, HB⟩ := hcut
      cases kq with
      | zero => exact absurd HA.out (by simp [reading_Word.j0])
      | succ kj5 =>
        have H := HA.out
        clear HA
        simp only [reading_Word.j0] at H
        by_cases c11 : x23_5 = true
        · subst c11
          have H1 : (some (0, ([] : List (S84)), ([] : List (S87)), 1)) = some (r1, r2, r3, r4) := by rw [if_pos rfl] at H; exact H
          clear H
          have H := H1
          clear H1
          simp only [Option.some.injEq, Prod.mk.injEq] at H
          obtain ⟨rfl, rfl, rfl, rfl⟩ := H
          have hcz12_0 : wc.cell? ⟨gb227, 0, none⟩ = some (.int .i64 0) := (blk_cell BK227.out 0).trans rfl
          have hcz12_1 : wc.cell? ⟨gb227, 1, none⟩ = some (.slice none 0 0) := (blk_cell BK227.out 1).trans rfl
          have hcz12_2 : wc.cell? ⟨gb227, 2, none⟩ = some (.slice none 0 0) := (blk_cell BK227.out 2).trans rfl
          have hfz12_0 := blk_frozen BK227.out 0
          have hfz12_1 := blk_frozen BK227.out 1
          have hfz12_2 := blk_frozen BK227.out 2
          go_wp2
          refine bodyPost_ret (results_ct rfl _ _ gb227 36 #[.int .i64 0, .slice none 0 0, .slice none 0 0] (0, 0) _ rfl (by (with_reducible repeat (first | refine blk_drewN ?_ _ | refine blk_drew ?_ | refine blk_alloc ?_ _)); refine blk_put (cs := #[.int .i64 0, .slice none 0 0, .slice none 0 0]) ?_ 2 _ rfl; (with_reducible repeat (first | refine blk_drewN ?_ _ | refine blk_drew ?_ | refine blk_alloc ?_ _)); refine blk_put (cs := #[.int .i64 0, .slice none 0 0, .slice none 0 0]) ?_ 1 _ rfl; (with_reducible repeat (first | refine blk_drewN ?_ _ | refine blk_drew ?_ | refine blk_alloc ?_ _)); refine blk_put (cs := #[.int .i64 0, .slice none 0 0, .slice none 0 0]) ?_ 0 _ rfl; (with_reducible repeat (first | refine blk_drewN ?_ _ | refine blk_drew ?_ | refine blk_alloc ?_ _)); exact BK227.out) Tryz.underlying36 rfl (by kernel_rfl)) rfl ?_
          exact ⟨_, _, by first | rfl | (simp [errW_none, errW_some] <;> rfl) | (simp [*, errW_none, errW_some] <;> rfl), by first | exact Kd.R_nil _ _ _ _ _ | exact Kd.N_nil _ _ _ _ _ | exact Kd.V_nil _ _ _ _ _ | exact Kd.Q_nil _ _ _ _ _ | exact Kd.S_nil _ _ _ _ _, by first | exact Kd.R_nil _ _ _ _ _ | exact Kd.N_nil _ _ _ _ _ | exact Kd.V_nil _ _ _ _ _ | exact Kd.Q_nil _ _ _ _ _ | exact Kd.S_nil _ _ _ _ _, by repeat (first | (with_reducible first | exact HB.out | apply below_alloc | apply pw_below_drewN | apply below_drew1 | refine below_set ?_ GE227.out) | exact HB.out)⟩
        · replace c11 := Bool.eq_false_iff.mpr c11
          subst c11
          have H1 : ((some (([(⟨(a0.size : Int), 0⟩ : S87)] : List (S87)) : List (S87))).bind fun y229 => (if (a0.size : Int) = 0 then (if 0 < (y229.length : Int) then (reading_Word.j1 kj5 a0 a1 (wrap64 ((a0.size : Int) + 1)) (y229.set (0 : Int).toNat (⟨(rd_T87 y229 0).f0, a1⟩ : S87))) else (none)) else (reading_Word.j1 kj5 a0 a1 (wrap64 ((a0.size : Int) + 1)) y229))) = some (r1, r2, r3, r4) := by rw [if_neg (show ¬ (false = true) by decide)] at H; exact H
          clear H
          have H := H1
          clear H1
          obtain ⟨y229, hy229⟩ : ∃ y_ : List (S87), y_ = (([(⟨(a0.size : Int), 0⟩ : S87)] : List (S87))) := ⟨_, rfl⟩
          replace H : (if (a0.size : Int) = 0 then (if 0 < (y229.length : Int) then (reading_Word.j1 kj5 a0 a1 (wrap64 ((a0.size : Int) + 1)) (y229.set (0 : Int).toNat (⟨(rd_T87 y229 0).f0, a1⟩ : S87))) else (none)) else (reading_Word.j1 kj5 a0 a1 (wrap64 ((a0.size : Int) + 1)) y229)) = some (r1, r2, r3, r4) := by first | (rw [hy229]; with_reducible exact H) | (have H2_ := (Option.bind_some _ _).symm.trans H; rw [hy229]; with_reducible exact H2_) | (have H2_ := (Option.bind_some _ _).symm.trans H; with_reducible exact H2_) | with_reducible exact H | (rw [hy229]; exact H) | exact H
          have Ny229 := Aside0.mk hy229
          clear hy229
          have HC13 := Aside0.mk H
          clear H
          go_upto_if 35 with (first | ((with_reducible refine gate_dst (N := 31) rfl ?_); refine Kd.R_lit k87 _ 87 ?hg (N := 31) ?hd (xs := ([(⟨(a0.size : Int), 0⟩ : S87)] : List (S87))) (inner := [.int .i64 (a0.size : Int), .int .i64 0]) (ok := fun _ => True) (okp := fun _ => True) ?hr ?hp (fun _ hk => hk) trivial (Below.refl _ _) (Nat.le_refl _) (by simp) ?_; (case hd => rfl); (case hg => rfl); (case hr => first | (go_simp; done) | (go_simp; rfl)); (case hp => exact (Reps.c2 (show Kd.M k87 _ _ _ (⟨(a0.size : Int), 0⟩ : S87) [.int .i64 (a0.size : Int), .int .i64 0] from (k87_mkM _ _ _ (⟨(a0.size : Int), 0⟩ : S87) )) (Reps.none _ _))); intro v230 w14 ho15 hb hg_ hnew_; clear hg_ hnew_; (first | rw [← Ny229.out] at ho15 | (simp only [Int.reduceToNat] at ho15; rw [← Ny229.out] at ho15)); have n0_ := Aside0.mk (Kd.R_lower ho15 (below_size (by repeat (first | (with_reducible first | exact HB.out | apply below_alloc | apply pw_below_drewN | apply below_drew1 | refine below_set ?_ GE227.out) | exact HB.out)))); have n1_ := Aside0.mk (blk_below (g := gb227) (o := .cells #[.int .i64 0, .slice none 0 0, .slice none 0 0] 36 (0, 0)) (by (with_reducible repeat (first | refine blk_drewN ?_ _ | refine blk_drew ?_ | refine blk_alloc ?_ _)); exact BK227.out) hb); have n2_ := Aside0.mk (below_step (by repeat (first | (with_reducible first | exact HB.out | apply below_alloc | apply pw_below_drewN | apply below_drew1 | refine below_set ?_ GE227.out) | exact HB.out)) hb); clear BK227; clear HB; have HO231 := n0_; have BK227 := n1_; have HB := n2_; clear n0_ n1_ n2_; clear hb ho15; obtain ⟨Ao16, co16, eo16⟩ := Kd.R_slice HO231.out; subst eo16) | ((with_reducible refine gate_dst (N := 6) rfl ?_); refine box_event ?hg (N := 6) ?hd (cs := #[.int .i64 0, .slice none 0 0, .slice none 0 0]) (t := 36) ?hr ?_; (case hd => rfl); (case hg => rfl); (case hr => first | (go_simp; done) | (go_simp; rfl)); intro gb232 hg w17 hbox hb; have n0_ := Aside0.mk (Kd.R_below (by (with_reducible repeat (first | apply Kd.R_alloc | apply Kd.R_drewN | apply Kd.R_drew)); exact HO231.out) hb); have n1_ := Aside0.mk (blk_below (g := gb227) (o := .cells #[.int .i64 0, .slice none 0 0, .slice none 0 0] 36 (0, 0)) (by (with_reducible repeat (first | refine blk_drewN ?_ _ | refine blk_drew ?_ | refine blk_alloc ?_ _)); exact BK227.out) hb); have n2_ := Aside0.mk (below_step (by repeat (first | (with_reducible first | exact HB.out | apply below_alloc | apply pw_below_drewN | apply below_drew1 | refine below_set ?_ GE227.out) | exact HB.out)) hb); have n3_ := Aside0.mk (hbox); have n4_ := Aside0.mk ((by rw [hg]; exact (below_size (by repeat (first | (with_reducible first | exact HB.out | apply below_alloc | apply pw_below_drewN | apply below_drew1 | refine below_set ?_ GE227.out) | exact HB.out))) : w.heap.size ≤ gb232)); have n5_ := Aside0.mk ((by rw [hg]; exact (below_size (by repeat (first | (with_reducible first | exact HB.out | apply below_alloc | apply pw_below_drewN | apply below_drew1 | refine below_set ?_ GE227.out) | exact HB.out))) : w.heap.size ≤ gb232)); have n6_ := Aside0.mk ((by rw [hg]; exact Nat.ne_of_lt (blk_lt (g := gb227) (o := .cells #[.int .i64 0, .slice none 0 0, .slice none 0 0] 36 (0, 0)) (by (with_reducible repeat (first | refine blk_drewN ?_ _ | refine blk_drew ?_ | refine blk_alloc ?_ _)); exact BK227.out)) : gb227 ≠ gb232)); have n7_ := Aside0.mk ((by rw [hg]; exact Nat.ne_of_gt (blk_lt (g := gb227) (o := .cells #[.int .i64 0, .slice none 0 0, .slice none 0 0] 36 (0, 0)) (by (with_reducible repeat (first | refine blk_drewN ?_ _ | refine blk_drew ?_ | refine blk_alloc ?_ _)); exact BK227.out)) : gb232 ≠ gb227)); clear HO231; clear BK227; clear HB; have HO231 := n0_; have BK227 := n1_; have HB := n2_; have BK232 := n3_; have GW232 := n4_; have GE232 := n5_; have NB227_232 := n6_; have NB232_227 := n7_; clear n0_ n1_ n2_ n3_ n4_ n5_ n6_ n7_; clear hb hbox hg; have hnb18 := NB232_227.out; have hnc18 := NB227_232.out; have hcz19_0 : w17.cell? ⟨gb232, 0, none⟩ = some (.int .i64 0) := (blk_cell BK232.out 0).trans rfl; have hcz19_1 : w17.cell? ⟨gb232, 1, none⟩ = some (.slice none 0 0) := (blk_cell BK232.out 1).trans rfl; have hcz19_2 : w17.cell? ⟨gb232, 2, none⟩ = some (.slice none 0 0) := (blk_cell BK232.out 2).trans rfl; have hfz19_0 := blk_frozen BK232.out 0; have hfz19_1 := blk_frozen BK232.out 1; have hfz19_2 := blk_frozen BK232.out 2))
          (try simp only [Act.put, List.setIfInBounds_toArray, List.set_cons_zero, List.set_cons_succ])
          go_cut [] (fun wc => ∃ (kq : Nat) (x233002_12 : List (S87)) (u233002 : Value), Aside0 (reading_Word.j1 kq a0 a1 (wrap64 ((a0.size : Int) + 1)) x233002_12 = some (r1, r2, r3, r4)) ∧ Aside0 (kq ≤ kj5) ∧ Aside0 (Kd.R k87 87 wc w.heap.size (fun _ => True) u233002 x233002_12) ∧ Aside0 (wc.heap[gb227]? = some (.cells #[.int .i64 0, (.slice none 0 0), (.slice none 0 0)] 36 (0, 0))) ∧ Aside0 (wc.heap[gb232]? = some (.cells #[.int .i64 (wrap64 ((a0.size : Int) + 1)), (.slice none 0 0), u233002] 36 (0, 0))) ∧ Aside0 (Below w.heap.size w wc))
          case first =>
            have H := HC13.out
            clear HC13
            have F0 := Aside0.mk (show Kd.R k87 87 (((w17.setCell ⟨gb232, 0, none⟩ (.int .i64 (wrap64 ((a0.size : Int) + 1)))).setCell ⟨gb232, 1, none⟩ (.slice none 0 0)).setCell ⟨gb232, 2, none⟩ (.slice Ao16 y229.length co16)) w.heap.size (fun _ => True) (.slice Ao16 y229.length co16) y229 from by (with_reducible repeat (first | apply Kd.R_alloc | apply Kd.R_drewN | apply Kd.R_drew)); exact Kd.R_mono (Kd.R_far (p := ⟨gb232, 2, none⟩) (Kd.R_far (p := ⟨gb232, 1, none⟩) (Kd.R_far (p := ⟨gb232, 0, none⟩) (Kd.R_types HO231.out BK232.out (by decide)) (fun _ hk => hk.2) (.int .i64 (wrap64 ((a0.size : Int) + 1)))) (fun _ hk => hk.2) (.slice none 0 0)) (fun _ hk => hk.2) (.slice Ao16 y229.length co16)) (fun _ hk => trivial))
            have F1 := Aside0.mk (show (((w17.setCell ⟨gb232, 0, none⟩ (.int .i64 (wrap64 ((a0.size : Int) + 1)))).setCell ⟨gb232, 1, none⟩ (.slice none 0 0)).setCell ⟨gb232, 2, none⟩ (.slice Ao16 y229.length co16)).heap[gb227]? = some (.cells #[.int .i64 0, (.slice none 0 0), (.slice none 0 0)] 36 (0, 0)) from by (with_reducible repeat (first | refine blk_drewN ?_ _ | refine blk_drew ?_ | refine blk_alloc ?_ _)); refine blk_far ?_ NB227_232.out _; (with_reducible repeat (first | refine blk_drewN ?_ _ | refine blk_drew ?_ | refine blk_alloc ?_ _)); refine blk_far ?_ NB227_232.out _; (with_reducible repeat (first | refine blk_drewN ?_ _ | refine blk_drew ?_ | refine blk_alloc ?_ _)); refine blk_far ?_ NB227_232.out _; (with_reducible repeat (first | refine blk_drewN ?_ _ | refine blk_drew ?_ | refine blk_alloc ?_ _)); exact BK227.out)
            have F2 := Aside0.mk (show (((w17.setCell ⟨gb232, 0, none⟩ (.int .i64 (wrap64 ((a0.size : Int) + 1)))).setCell ⟨gb232, 1, none⟩ (.slice none 0 0)).setCell ⟨gb232, 2, none⟩ (.slice Ao16 y229.length co16)).heap[gb232]? = some (.cells #[.int .i64 (wrap64 ((a0.size : Int) + 1)), (.slice none 0 0), .slice Ao16 y229.length co16] 36 (0, 0)) from by (with_reducible repeat (first | refine blk_drewN ?_ _ | refine blk_drew ?_ | refine blk_alloc ?_ _)); refine blk_put (cs := #[.int .i64 (wrap64 ((a0.size : Int) + 1)), .slice none 0 0, .slice none 0 0]) ?_ 2 _ rfl; (with_reducible repeat (first | refine blk_drewN ?_ _ | refine blk_drew ?_ | refine blk_alloc ?_ _)); refine blk_put (cs := #[.int .i64 (wrap64 ((a0.size : Int) + 1)), .slice none 0 0, .slice none 0 0]) ?_ 1 _ rfl; (with_reducible repeat (first | refine blk_drewN ?_ _ | refine blk_drew ?_ | refine blk_alloc ?_ _)); refine blk_put (cs := #[.int .i64 0, .slice none 0 0, .slice none 0 0]) ?_ 0 _ rfl; (with_reducible repeat (first | refine blk_drewN ?_ _ | refine blk_drew ?_ | refine blk_alloc ?_ _)); exact BK232.out)
            have F3 := Aside0.mk (show Below w.heap.size w (((w17.setCell ⟨gb232, 0, none⟩ (.int .i64 (wrap64 ((a0.size : Int) + 1)))).setCell ⟨gb232, 1, none⟩ (.slice none 0 0)).setCell ⟨gb232, 2, none⟩ (.slice Ao16 y229.length co16)) from by repeat (first | (with_reducible first | exact HB.out | apply below_alloc | apply pw_below_drewN | apply below_drew1 | refine below_set ?_ GE227.out | refine below_set ?_ GE232.out) | exact HB.out))
            clear HO231 BK227 BK232 HB hcz19_0 hcz19_1 hcz19_2 hfz19_0 hfz19_1 hfz19_2
            generalize (((w17.setCell ⟨gb232, 0, none⟩ (.int .i64 (wrap64 ((a0.size : Int) + 1)))).setCell ⟨gb232, 1, none⟩ (.slice none 0 0)).setCell ⟨gb232, 2, none⟩ (.slice Ao16 y229.length co16)) = w20 at F0 F1 F2 F3 ⊢
            have HO231 := F0; have BK227 := F1; have BK232 := F2; have HB := F3; clear F0 F1 F2 F3
            by_cases c20 : (a0.size : Int) = 0
            · rw [if_pos c20] at H
              have c20b0 : ((a0.size : Int) == 0) = true := beq_iff_eq.mpr c20
              have c20b1 : ((a0.size : Int) != 0) = false := bne_eq_false_iff_eq.mpr c20
              clear c20
              (first | rw [c20b0] | (simp only [i64_w, i32_w]; rw [c20b0]) | skip)
              by_cases c21 : 0 < (y229.length : Int)
              · rw [if_pos c21] at H
                have c21b0 : decide (0 < (y229.length : Int)) = true := decide_eq_true c21
                have c21b1 : decide (0 < y229.length) = true := decide_eq_true (by omega)
                clear c21
                obtain ⟨y233, hy233⟩ : ∃ y_ : List (S87), y_ = (y229.set (0 : Int).toNat (⟨(rd_T87 y229 0).f0, a1⟩ : S87)) := ⟨_, rfl⟩
                replace H : (reading_Word.j1 kj5 a0 a1 (wrap64 ((a0.size : Int) + 1)) y233) = some (r1, r2, r3, r4) := by first | (rw [hy233]; with_reducible exact H) | (have H2_ := (Option.bind_some _ _).symm.trans H; rw [hy233]; with_reducible exact H2_) | (have H2_ := (Option.bind_some _ _).symm.trans H; with_reducible exact H2_) | with_reducible exact H | (rw [hy233]; exact H) | exact H
                have Ny233 := Aside0.mk hy233
                clear hy233
                have H' := Aside0.mk H
                clear H
                have hnb23 := NB232_227.out
                have hnc23 := NB227_232.out
                have hcz24_0 : w20.cell? ⟨gb232, 0, none⟩ = some (.int .i64 (wrap64 ((a0.size : Int) + 1))) := (blk_cell BK232.out 0).trans rfl
                have hcz24_1 : w20.cell? ⟨gb232, 1, none⟩ = some (.slice none 0 0) := (blk_cell BK232.out 1).trans rfl
                have hcz24_2 : w20.cell? ⟨gb232, 2, none⟩ = some (.slice Ao16 y229.length co16) := (blk_cell BK232.out 2).trans rfl
                have hfz24_0 := blk_frozen BK232.out 0
                have hfz24_1 := blk_frozen BK232.out 1
                have hfz24_2 := blk_frozen BK232.out 2
                have p22 : 0 ≤ (0 : Int) := (by omega)
                have q22 : (0 : Int) < ((y229.length : Int) : Int) := of_decide_eq_true (by first | (with_reducible assumption) | assumption)
                have qi22 : (0 < y229.length) = True := eq_true (by omega)
                obtain ⟨go22, co22, eo22, gb22, gl22, cl22, HG22⟩ := Kd.R_form HO231.out (by omega)
                (first | cases eo22 | (injection eo22 with ea_ en_ ec_; (first | subst ea_ | (injection ea_ with ea_; subst ea_)); subst ec_; clear en_))
                have GB22 := Aside0.mk gb22
                have GG22 := Aside0.mk HG22
                clear gb22 gl22 HG22
                obtain ⟨ce22, hcl22, hM22, hcc22, hfr22⟩ := Kd.R_elem HO231.out z87 (0 : Int) p22 q22
                obtain rfl := k87_openM hM22
                have hx22_0 : w20.cell? ⟨go22, (0 : Int).toNat * 2, none⟩ = some (.int .i64 ((rd_T87 y229 0).f0)) := hcc22 0 _ rfl
                have hx22_1 : w20.cell? ⟨go22, (0 : Int).toNat * 2 + 1, none⟩ = some (.int .i64 ((rd_T87 y229 0).f1)) := hcc22 1 _ rfl
                have hf22_0 : w20.frozen? ⟨go22, (0 : Int).toNat * 2, none⟩ = false := hfr22 0
                have hf22_1 : w20.frozen? ⟨go22, (0 : Int).toNat * 2 + 1, none⟩ = false := hfr22 1
                clear hcl22 hcc22 hfr22 hM22
                (try rw [show ((0 : Int)).toNat = 0 from rfl] at hx22_0)
                (try simp only [Nat.reduceMul, Nat.zero_mul, Nat.zero_add, Nat.reduceAdd] at hx22_0)
                (try rw [show ((0 : Int)).toNat = 0 from rfl] at hf22_0)
                (try simp only [Nat.reduceMul, Nat.zero_mul, Nat.zero_add, Nat.reduceAdd] at hf22_0)
                (try rw [show ((0 : Int)).toNat = 0 from rfl] at hx22_1)
                (try simp only [Nat.reduceMul, Nat.zero_mul, Nat.zero_add, Nat.reduceAdd] at hx22_1)
                (try rw [show ((0 : Int)).toNat = 0 from rfl] at hf22_1)
                (try simp only [Nat.reduceMul, Nat.zero_mul, Nat.zero_add, Nat.reduceAdd] at hf22_1)
                replace p22 := eq_true p22
                replace q22 := eq_true q22
                have HX25 := Aside0.mk (show Kd.R k87 87 w20 w.heap.size (fun _ => True) (.slice (some ⟨go22, 0, none⟩) y229.length co16) y229 from (by (with_reducible repeat (first | apply Kd.R_alloc | apply Kd.R_drewN | apply Kd.R_drew)); exact Kd.R_mono HO231.out (fun _ hk => trivial)))
                obtain ⟨ce25, hcl25, hM25, hcc25, hfr25⟩ := Kd.R_elem HX25.out z87 (0 : Int) (by omega) (by have h_ : (0 : Int) < ((y229.length : Int) : Int) := of_decide_eq_true (by first | (with_reducible assumption) | assumption); first | exact h_ | (have e_ := (Kd.R_reads' HO231.out).1; omega) | simpa using h_)
                obtain rfl := k87_openM hM25
                have HP25 := Kd.R_seg HX25.out (0 : Int) (by omega) (by have h_ : (0 : Int) < ((y229.length : Int) : Int) := of_decide_eq_true (by first | (with_reducible assumption) | assumption); first | exact h_ | (have e_ := (Kd.R_reads' HO231.out).1; omega) | simpa using h_) (seg := [.int .i64 a1]) (j := 1) hcl25 hcc25 (show 2 ≤ 2 from by decide) (x' := (⟨(rd_T87 y229 0).f0, a1⟩ : S87)) (k87_mkM _ _ _ (⟨(rd_T87 y229 0).f0, a1⟩ : S87) ) (fun _ hk => hk)
                have hx25_1 := hcc25 1 _ rfl
                (try simp only [show (k87).sz = 2 from rfl, Nat.mul_one, Nat.add_zero] at hx25_1)
                (try rw [show ((0 : Int)).toNat = 0 from rfl] at hx25_1)
                (try simp only [Nat.reduceMul, Nat.zero_mul, Nat.zero_add, Nat.reduceAdd] at hx25_1)
                have hf25_1 := hfr25 1
                (try simp only [show (k87).sz = 2 from rfl, Nat.mul_one, Nat.add_zero] at hf25_1)
                (try rw [show ((0 : Int)).toNat = 0 from rfl] at hf25_1)
                (try simp only [Nat.reduceMul, Nat.zero_mul, Nat.zero_add, Nat.reduceAdd] at hf25_1)
                clear hcl25 hcc25 hfr25 hM25
                go_wp2_with (first | ((with_reducible refine gate_store (t := 3) (p := 40) rfl ?_); refine store_event (t := 3) (p := 40) (v := ?vo_w26) (w1 := (w20.setCell ⟨go22, 1, none⟩ (.int .i64 a1))) ?hg ?ho ?hn ?hr ?_; (case ho => rfl); (case hg => rfl); (case hn => rfl); (case hr => first | (go_simp; done) | (go_simp; rfl)); intro w26 hw; have hg : w20.grownBy w26 (some go22) := (by rw [hw]; exact HP25.2); have hp_ : Kd.R k87 87 w26 w.heap.size (fun _ => True) (.slice (some ⟨go22, 0, none⟩) y229.length co16) y233 := (by rw [hw, Ny233.out]; exact HP25.1); clear HP25; have n0_ := Aside0.mk (blk_grown (g := gb227) (o := .cells #[.int .i64 0, .slice none 0 0, .slice none 0 0] 36 (0, 0)) (by (with_reducible repeat (first | refine blk_drewN ?_ _ | refine blk_drew ?_ | refine blk_alloc ?_ _)); exact BK227.out) hg (Kd.R_ne HO231.out BK227.out (by decide))); have n1_ := Aside0.mk (hp_); have n2_ := Aside0.mk (blk_grown (g := gb232) (o := .cells #[.int .i64 (wrap64 ((a0.size : Int) + 1)), .slice none 0 0, .slice (some ⟨go22, 0, none⟩) y229.length co16] 36 (0, 0)) (by (with_reducible repeat (first | refine blk_drewN ?_ _ | refine blk_drew ?_ | refine blk_alloc ?_ _)); exact BK232.out) hg (Kd.R_ne HO231.out BK232.out (by decide))); have n3_ := Aside0.mk ((by rw [hw]; exact below_set (HB.out) GB22.out : Below w.heap.size w w26)); clear BK227; clear HO231; clear BK232; clear HB; have BK227 := n0_; have HO231 := n1_; have BK232 := n2_; have HB := n3_; clear n0_ n1_ n2_ n3_; clear hg hw hp_))
                go_meet
                case rel => exact ⟨_, (y233), (.slice (some ⟨go22, 0, none⟩) y229.length co16), H', ⟨by have := HJ5.out; first | omega | exact Nat.le_refl _⟩, ⟨by (with_reducible repeat (first | apply Kd.R_alloc | apply Kd.R_drewN | apply Kd.R_drew)); exact HO231.out⟩, ⟨by (with_reducible repeat (first | refine blk_drewN ?_ _ | refine blk_drew ?_ | refine blk_alloc ?_ _)); exact BK227.out⟩, ⟨by (with_reducible repeat (first | refine blk_drewN ?_ _ | refine blk_drew ?_ | refine blk_alloc ?_ _)); exact BK232.out⟩, ⟨by repeat (first | (with_reducible first | exact HB.out | apply below_alloc | apply pw_below_drewN | apply below_drew1 | refine below_set ?_ GE227.out | refine below_set ?_ GE232.out) | exact HB.out)⟩⟩
              · rw [if_neg c21] at H
                exact absurd H (by simp)
            · rw [if_neg c20] at H
              have c20b0 : ((a0.size : Int) == 0) = false := beq_eq_false_iff_ne.mpr c20
              have c20b1 : ((a0.size : Int) != 0) = true := bne_iff_ne.mpr c20
              (first | rw [c20b0] | (simp only [i64_w, i32_w]; rw [c20b0]) | skip)
              have H' := Aside0.mk H
              clear H
              go_wp2
              go_meet
              case rel => exact ⟨_, (y229), (.slice Ao16 y229.length co16), H', ⟨by have := HJ5.out; first | omega | exact Nat.le_refl _⟩, ⟨by (with_reducible repeat (first | apply Kd.R_alloc | apply Kd.R_drewN | apply Kd.R_drew)); exact Kd.R_mono HO231.out (fun _ hk => trivial)⟩, ⟨by (with_reducible repeat (first | refine blk_drewN ?_ _ | refine blk_drew ?_ | refine blk_alloc ?_ _)); exact BK227.out⟩, ⟨by (with_reducible repeat (first | refine blk_drewN ?_ _ | refine blk_drew ?_ | refine blk_alloc ?_ _)); exact BK232.out⟩, ⟨by repeat (first | (with_reducible first | exact HB.out | apply below_alloc | apply pw_below_drewN | apply below_drew1 | refine below_set ?_ GE227.out | refine below_set ?_ GE232.out) | exact HB.out)⟩⟩
          case rest =>
            clear HC13
            try clear c1
            try clear c2
            try clear p2
            try clear q2
            try clear hx2
            try clear qi2
            try clear hf2
            try clear c3
            try clear c3b0
            try clear c3b1
            try clear c4
            try clear p6
            try clear c9
            try clear c10
            try clear c10b0
            try clear c11
            try clear c18
            try clear c20
            try clear c20b0
            try clear c20b1
            try clear c21
            try clear c21b0
            try clear c21b1
            try clear c22
            try clear p22
            try clear q22
            try clear hx22
            try clear qi22
            try clear hf22
            try clear c23
            try clear c25
            try clear hx25
            try clear hf25
            try clear hcz12_0
            try clear hcz12_1
            try clear hcz12_2
            try clear hcz19_0
            try clear hcz19_1
            try clear hcz19_2
            try clear hcz24_0
            try clear hcz24_1
            try clear hcz24_2
            try clear hcz5_0
            try clear hcz5_1
            try clear hcz5_2
            try clear hfz12_0
            try clear hfz12_1
            try clear hfz12_2
            try clear hfz19_0
            try clear hfz19_1
            try clear hfz19_2
            try clear hfz24_0
            try clear hfz24_1
            try clear hfz24_2
            try clear hfz5_0
            try clear hfz5_1
            try clear hfz5_2
            try clear hx22_0
            try clear hx22_1
            try clear hx25_1
            try clear p2
            try clear p22
            try clear q22
            obtain ⟨kq, x233002_12, u233002, HA, HJ12, HO_233002, BK227, BK232, HB⟩ := hcut
            cases kq with
            | zero => exact absurd HA.out (by simp [reading_Word.j1])
            | succ kj12 =>
              have H := HA.out
              clear HA
              simp only [reading_Word.j1] at H
              have H' := Aside0.mk H
              clear H
              go_wp2
              go_loopg [43] kj12 (fun kq v43 w' => ∃ (x43_3 : Int) (x233001_3 : List (S84)) (u233001 : Value), v43 = .int .i64 x43_3 ∧ Aside0 (reading_Word.l0 kq a0 a1 (a0.size : Int) x43_3 (wrap64 ((a0.size : Int) + 1)) x233001_3 x233002_12 = some (r1, r2, r3, r4)) ∧ Aside0 (kq ≤ kj12) ∧ Aside0 (Kd.R k84 84 w' w.heap.size (fun _ => True) u233001 x233001_3) ∧ Aside0 (Kd.R k87 87 w' w.heap.size (fun _ => True) u233002 x233002_12) ∧ Aside0 (w'.heap[gb227]? = some (.cells #[.int .i64 0, (.slice none 0 0), (.slice none 0 0)] 36 (0, 0))) ∧ Aside0 (w'.heap[gb232]? = some (.cells #[.int .i64 (wrap64 ((a0.size : Int) + 1)), u233001, u233002] 36 (0, 0))) ∧ Aside0 (Below w.heap.size w w'))
              case atStart => exact ⟨(0), (([] : List (S84))), (.slice none 0 0), (by first | rfl | (simp; done) | (simp [*]; done)), H', ⟨Nat.le_refl _⟩, ⟨by first | exact Kd.R_nil _ _ _ _ _ | exact Kd.N_nil _ _ _ _ _ | exact Kd.V_nil _ _ _ _ _ | exact Kd.Q_nil _ _ _ _ _ | exact Kd.S_nil _ _ _ _ _⟩, ⟨by (with_reducible repeat (first | apply Kd.R_alloc | apply Kd.R_drewN | apply Kd.R_drew)); exact HO_233002.out⟩, ⟨by (with_reducible repeat (first | refine blk_drewN ?_ _ | refine blk_drew ?_ | refine blk_alloc ?_ _)); exact BK227.out⟩, ⟨by (with_reducible repeat (first | refine blk_drewN ?_ _ | refine blk_drew ?_ | refine blk_alloc ?_ _)); exact BK232.out⟩, ⟨by repeat (first | (with_reducible first | exact HB.out | apply below_alloc | apply pw_below_drewN | apply below_drew1 | refine below_set ?_ GE227.out | refine below_set ?_ GE232.out) | exact HB.out)⟩⟩
              case round =>
                clear H'
                try clear c1
                try clear c2
                try clear p2
                try clear q2
                try clear hx2
                try clear qi2
                try clear hf2
                try clear c3
                try clear c3b0
                try clear c3b1
                try clear c4
                try clear p6
                try clear c9
                try clear c10
                try clear c10b0
                try clear c11
                try clear c18
                try clear c20
                try clear c20b0
                try clear c20b1
                try clear c21
                try clear c21b0
                try clear c21b1
                try clear c22
                try clear p22
                try clear q22
                try clear hx22
                try clear qi22
                try clear hf22
                try clear c23
                try clear c25
                try clear hx25
                try clear hf25
                try clear hcz12_0
                try clear hcz12_1
                try clear hcz12_2
                try clear hcz19_0
                try clear hcz19_1
                try clear hcz19_2
                try clear hcz24_0
                try clear hcz24_1
                try clear hcz24_2
                try clear hcz5_0
                try clear hcz5_1
                try clear hcz5_2
                try clear hfz12_0
                try clear hfz12_1
                try clear hfz12_2
                try clear hfz19_0
                try clear hfz19_1
                try clear hfz19_2
                try clear hfz24_0
                try clear hfz24_1
                try clear hfz24_2
                try clear hfz5_0
                try clear hfz5_1
                try clear hfz5_2
                try clear hx22_0
                try clear hx22_1
                try clear hx25_1
                try clear p2
                try clear p22
                try clear p6
                try clear q2
                try clear q22
                obtain ⟨x43_3, x233001_3, u233001, rfl, HA, HK3, HO_233001, HO_233002, BK227, BK232, HB⟩ := hrel
                cases gk with
                | zero => exact absurd HA.out (by simp [reading_Word.l0])
                | succ k3 =>
                  have H := HA.out
                  clear HA
                  simp only [reading_Word.l0] at H
                  by_cases c27 : x43_3 < (a0.size : Int)
                  · rw [if_pos c27] at H
                    have c27b0 : decide (x43_3 < (a0.size : Int)) = true := decide_eq_true c27
                    clear c27
                    by_cases c28 : 0 ≤ x43_3
                    · rw [if_pos c28] at H
                      have c28b0 : decide (0 ≤ x43_3) = true := decide_eq_true c28
                      clear c28
                      by_cases c29 : x43_3 < (a0.size : Int)
                      · rw [if_pos c29] at H
                        have c29b0 : decide (x43_3 < (a0.size : Int)) = true := decide_eq_true c29
                        clear c29
                        by_cases c31 : x43_3 = 0
                        · rw [if_pos c31] at H
                          have c31b0 : (x43_3 == 0) = true := beq_iff_eq.mpr c31
                          have c31b1 : (x43_3 != 0) = false := bne_eq_false_iff_eq.mpr c31
                          clear c31
                          by_cases c32 : x233001_3.length < 4398046511104
                          · rw [if_pos c32] at H
                            have LMc32 := Aside0.mk c32
                            clear c32
                            obtain ⟨y235, hy235⟩ : ∃ y_ : List (S84), y_ = (x233001_3 ++ [(⟨x43_3, wrap64 (x43_3 + 1), bt a0 x43_3, a1⟩ : S84)]) := ⟨_, rfl⟩
                            replace H : (reading_Word.l0 k3 a0 a1 (a0.size : Int) (wrap64 (x43_3 + 1)) (wrap64 ((a0.size : Int) + 1)) y235 x233002_12) = some (r1, r2, r3, r4) := by first | (rw [hy235]; with_reducible exact H) | (have H2_ := (Option.bind_some _ _).symm.trans H; rw [hy235]; with_reducible exact H2_) | (have H2_ := (Option.bind_some _ _).symm.trans H; with_reducible exact H2_) | with_reducible exact H | (rw [hy235]; exact H) | exact H
                            have Ny235 := Aside0.mk hy235
                            clear hy235
                            have H' := Aside0.mk H
                            clear H
                            have p30 : 0 ≤ (x43_3 : Int) := of_decide_eq_true (by first | (with_reducible assumption) | assumption)
                            have q30 : x43_3 < (a0.size : Int) := of_decide_eq_true (by first | (with_reducible assumption) | assumption)
                            have hx30 := bt_at a0 x43_3
                            replace p30 := eq_true p30
                            replace q30 := eq_true q30
                            go_upto_if 54 with (first | ((with_reducible refine gate_dst (N := 8) rfl ?_); refine box_event ?hg (N := 8) ?hd (cs := #[.int .i64 0, .int .i64 0, .int .u8 0, .int .i64 0]) (t := 84) ?hr ?_; (case hd => rfl); (case hg => rfl); (case hr => first | (go_simp; done) | (go_simp; rfl)); intro gb234 hg w33 hbox hb; have n0_ := Aside0.mk (Kd.R_below (Kd.R_elderB (by (with_reducible repeat (first | apply Kd.R_alloc | apply Kd.R_drewN | apply Kd.R_drew)); exact HO_233001.out) gb234 (Nat.le_of_eq hg.symm)) hb); have n1_ := Aside0.mk (Kd.R_below (by (with_reducible repeat (first | apply Kd.R_alloc | apply Kd.R_drewN | apply Kd.R_drew)); exact HO_233002.out) hb); have n2_ := Aside0.mk (blk_below (g := gb227) (o := .cells #[.int .i64 0, .slice none 0 0, .slice none 0 0] 36 (0, 0)) (by (with_reducible repeat (first | refine blk_drewN ?_ _ | refine blk_drew ?_ | refine blk_alloc ?_ _)); exact BK227.out) hb); have n3_ := Aside0.mk (blk_below (g := gb232) (o := .cells #[.int .i64 (wrap64 ((a0.size : Int) + 1)), u233001, u233002] 36 (0, 0)) (by (with_reducible repeat (first | refine blk_drewN ?_ _ | refine blk_drew ?_ | refine blk_alloc ?_ _)); exact BK232.out) hb); have n4_ := Aside0.mk (below_step (by repeat (first | (with_reducible first | exact HB.out | apply below_alloc | apply pw_below_drewN | apply below_drew1 | refine below_set ?_ GE227.out | refine below_set ?_ GE232.out) | exact HB.out)) hb); have n5_ := Aside0.mk (hbox); have n6_ := Aside0.mk ((by rw [hg]; exact (below_size (by repeat (first | (with_reducible first | exact HB.out | apply below_alloc | apply pw_below_drewN | apply below_drew1 | refine below_set ?_ GE227.out | refine below_set ?_ GE232.out) | exact HB.out))) : w.heap.size ≤ gb234)); have n7_ := Aside0.mk ((by rw [hg]; exact (below_size (by repeat (first | (with_reducible first | exact HB.out | apply below_alloc | apply pw_below_drewN | apply below_drew1 | refine below_set ?_ GE227.out | refine below_set ?_ GE232.out) | exact HB.out))) : w.heap.size ≤ gb234)); have n8_ := Aside0.mk ((by rw [hg]; exact Nat.ne_of_lt (blk_lt (g := gb227) (o := .cells #[.int .i64 0, .slice none 0 0, .slice none 0 0] 36 (0, 0)) (by (with_reducible repeat (first | refine blk_drewN ?_ _ | refine blk_drew ?_ | refine blk_alloc ?_ _)); exact BK227.out)) : gb227 ≠ gb234)); have n9_ := Aside0.mk ((by rw [hg]; exact Nat.ne_of_gt (blk_lt (g := gb227) (o := .cells #[.int .i64 0, .slice none 0 0, .slice none 0 0] 36 (0, 0)) (by (with_reducible repeat (first | refine blk_drewN ?_ _ | refine blk_drew ?_ | refine blk_alloc ?_ _)); exact BK227.out)) : gb234 ≠ gb227)); have n10_ := Aside0.mk ((by rw [hg]; exact Nat.ne_of_lt (blk_lt (g := gb232) (o := .cells #[.int .i64 (wrap64 ((a0.size : Int) + 1)), u233001, u233002] 36 (0, 0)) (by (with_reducible repeat (first | refine blk_drewN ?_ _ | refine blk_drew ?_ | refine blk_alloc ?_ _)); exact BK232.out)) : gb232 ≠ gb234)); have n11_ := Aside0.mk ((by rw [hg]; exact Nat.ne_of_gt (blk_lt (g := gb232) (o := .cells #[.int .i64 (wrap64 ((a0.size : Int) + 1)), u233001, u233002] 36 (0, 0)) (by (with_reducible repeat (first | refine blk_drewN ?_ _ | refine blk_drew ?_ | refine blk_alloc ?_ _)); exact BK232.out)) : gb234 ≠ gb232)); clear HO_233001; clear HO_233002; clear BK227; clear BK232; clear HB; have HO_233001 := n0_; have HO_233002 := n1_; have BK227 := n2_; have BK232 := n3_; have HB := n4_; have BK234 := n5_; have GW234 := n6_; have GE234 := n7_; have NB227_234 := n8_; have NB234_227 := n9_; have NB232_234 := n10_; have NB234_232 := n11_; clear n0_ n1_ n2_ n3_ n4_ n5_ n6_ n7_ n8_ n9_ n10_ n11_; clear hb hbox hg; have hnb34 := NB234_227.out; have hnc34 := NB227_234.out; have hnb35 := NB234_232.out; have hnc35 := NB232_234.out; have hcz36_0 : w33.cell? ⟨gb234, 0, none⟩ = some (.int .i64 0) := (blk_cell BK234.out 0).trans rfl; have hcz36_1 : w33.cell? ⟨gb234, 1, none⟩ = some (.int .i64 0) := (blk_cell BK234.out 1).trans rfl; have hcz36_2 : w33.cell? ⟨gb234, 2, none⟩ = some (.int .u8 0) := (blk_cell BK234.out 2).trans rfl; have hcz36_3 : w33.cell? ⟨gb234, 3, none⟩ = some (.int .i64 0) := (blk_cell BK234.out 3).trans rfl; have hfz36_0 := blk_frozen BK234.out 0; have hfz36_1 := blk_frozen BK234.out 1; have hfz36_2 := blk_frozen BK234.out 2; have hfz36_3 := blk_frozen BK234.out 3; have hnb37 := NB232_227.out; have hnc37 := NB227_232.out; have hcz38_0 : w33.cell? ⟨gb232, 0, none⟩ = some (.int .i64 (wrap64 ((a0.size : Int) + 1))) := (blk_cell BK232.out 0).trans rfl; have hcz38_1 : w33.cell? ⟨gb232, 1, none⟩ = some (u233001) := (blk_cell BK232.out 1).trans rfl; have hcz38_2 : w33.cell? ⟨gb232, 2, none⟩ = some (u233002) := (blk_cell BK232.out 2).trans rfl; have hfz38_0 := blk_frozen BK232.out 0; have hfz38_1 := blk_frozen BK232.out 1; have hfz38_2 := blk_frozen BK232.out 2))
                            have G0 := Aside0.mk (Kd.R_mono (Kd.R_far (p := ⟨gb234, 3, none⟩) (Kd.R_far (p := ⟨gb234, 2, none⟩) (Kd.R_far (p := ⟨gb234, 1, none⟩) (Kd.R_far (p := ⟨gb234, 0, none⟩) (Kd.R_mono HO_233001.out (fun k_ hk => (⟨hk, hk.2⟩ : _ ∧ k_ ≠ gb234))) (fun _ hk => hk.2) (.int .i64 x43_3)) (fun _ hk => hk.2) (.int .i64 (wrap64 (x43_3 + 1)))) (fun _ hk => hk.2) (.int .u8 (bt a0 x43_3))) (fun _ hk => hk.2) (.int .i64 0)) (fun _ hk => hk.1))
                            have G1 := Aside0.mk (Kd.R_mono (Kd.R_far (p := ⟨gb234, 3, none⟩) (Kd.R_far (p := ⟨gb234, 2, none⟩) (Kd.R_far (p := ⟨gb234, 1, none⟩) (Kd.R_far (p := ⟨gb234, 0, none⟩) (Kd.R_types HO_233002.out BK234.out (by decide)) (fun _ hk => hk.2) (.int .i64 x43_3)) (fun _ hk => hk.2) (.int .i64 (wrap64 (x43_3 + 1)))) (fun _ hk => hk.2) (.int .u8 (bt a0 x43_3))) (fun _ hk => hk.2) (.int .i64 0)) (fun _ _ => trivial : ∀ k_, _ → (fun _ => True) k_))
                            have G2 := Aside0.mk (show ((((w33.setCell ⟨gb234, 0, none⟩ (.int .i64 x43_3)).setCell ⟨gb234, 1, none⟩ (.int .i64 (wrap64 (x43_3 + 1)))).setCell ⟨gb234, 2, none⟩ (.int .u8 (bt a0 x43_3))).setCell ⟨gb234, 3, none⟩ (.int .i64 0)).heap[gb227]? = some (.cells #[.int .i64 0, .slice none 0 0, .slice none 0 0] 36 (0, 0)) from by refine blk_far ?_ NB227_234.out _; refine blk_far ?_ NB227_234.out _; refine blk_far ?_ NB227_234.out _; refine blk_far ?_ NB227_234.out _; exact BK227.out)
                            have G3 := Aside0.mk (show ((((w33.setCell ⟨gb234, 0, none⟩ (.int .i64 x43_3)).setCell ⟨gb234, 1, none⟩ (.int .i64 (wrap64 (x43_3 + 1)))).setCell ⟨gb234, 2, none⟩ (.int .u8 (bt a0 x43_3))).setCell ⟨gb234, 3, none⟩ (.int .i64 0)).heap[gb232]? = some (.cells #[.int .i64 (wrap64 ((a0.size : Int) + 1)), u233001, u233002] 36 (0, 0)) from by refine blk_far ?_ NB232_234.out _; refine blk_far ?_ NB232_234.out _; refine blk_far ?_ NB232_234.out _; refine blk_far ?_ NB232_234.out _; exact BK232.out)
                            have G4 := Aside0.mk (show ((((w33.setCell ⟨gb234, 0, none⟩ (.int .i64 x43_3)).setCell ⟨gb234, 1, none⟩ (.int .i64 (wrap64 (x43_3 + 1)))).setCell ⟨gb234, 2, none⟩ (.int .u8 (bt a0 x43_3))).setCell ⟨gb234, 3, none⟩ (.int .i64 0)).heap[gb234]? = some (.cells #[.int .i64 x43_3, .int .i64 (wrap64 (x43_3 + 1)), .int .u8 (bt a0 x43_3), .int .i64 0] 84 (0, 0)) from by refine blk_put (cs := #[.int .i64 x43_3, .int .i64 (wrap64 (x43_3 + 1)), .int .u8 (bt a0 x43_3), .int .i64 0]) ?_ 3 _ rfl; refine blk_put (cs := #[.int .i64 x43_3, .int .i64 (wrap64 (x43_3 + 1)), .int .u8 0, .int .i64 0]) ?_ 2 _ rfl; refine blk_put (cs := #[.int .i64 x43_3, .int .i64 0, .int .u8 0, .int .i64 0]) ?_ 1 _ rfl; refine blk_put (cs := #[.int .i64 0, .int .i64 0, .int .u8 0, .int .i64 0]) ?_ 0 _ rfl; exact BK234.out)
                            have G5 := Aside0.mk (show Below w.heap.size w ((((w33.setCell ⟨gb234, 0, none⟩ (.int .i64 x43_3)).setCell ⟨gb234, 1, none⟩ (.int .i64 (wrap64 (x43_3 + 1)))).setCell ⟨gb234, 2, none⟩ (.int .u8 (bt a0 x43_3))).setCell ⟨gb234, 3, none⟩ (.int .i64 0)) from by repeat (first | (with_reducible first | exact HB.out | refine below_set ?_ GE234.out) | exact HB.out))
                            clear HO_233001 HO_233002 BK227 BK232 BK234 HB hcz36_0 hcz36_1 hcz36_2 hcz36_3 hfz36_0 hfz36_1 hfz36_2 hfz36_3 hcz38_0 hcz38_1 hcz38_2 hfz38_0 hfz38_1 hfz38_2
                            generalize ((((w33.setCell ⟨gb234, 0, none⟩ (.int .i64 x43_3)).setCell ⟨gb234, 1, none⟩ (.int .i64 (wrap64 (x43_3 + 1)))).setCell ⟨gb234, 2, none⟩ (.int .u8 (bt a0 x43_3))).setCell ⟨gb234, 3, none⟩ (.int .i64 0)) = w34 at G0 G1 G2 G3 G4 G5 ⊢
                            have HO_233001 := G0; have HO_233002 := G1; have BK227 := G2; have BK232 := G3; have BK234 := G4; have HB := G5; clear G0 G1 G2 G3 G4 G5
                            have hcz36_0 : w34.cell? ⟨gb234, 0, none⟩ = some (.int .i64 x43_3) := (blk_cell BK234.out 0).trans rfl
                            have hcz36_1 : w34.cell? ⟨gb234, 1, none⟩ = some (.int .i64 (wrap64 (x43_3 + 1))) := (blk_cell BK234.out 1).trans rfl
                            have hcz36_2 : w34.cell? ⟨gb234, 2, none⟩ = some (.int .u8 (bt a0 x43_3)) := (blk_cell BK234.out 2).trans rfl
                            have hcz36_3 : w34.cell? ⟨gb234, 3, none⟩ = some (.int .i64 0) := (blk_cell BK234.out 3).trans rfl
                            have hfz36_0 := blk_frozen BK234.out 0
                            have hfz36_1 := blk_frozen BK234.out 1
                            have hfz36_2 := blk_frozen BK234.out 2
                            have hfz36_3 := blk_frozen BK234.out 3
                            have hcz38_0 : w34.cell? ⟨gb232, 0, none⟩ = some (.int .i64 (wrap64 ((a0.size : Int) + 1))) := (blk_cell BK232.out 0).trans rfl
                            have hcz38_1 : w34.cell? ⟨gb232, 1, none⟩ = some (u233001) := (blk_cell BK232.out 1).trans rfl
                            have hcz38_2 : w34.cell? ⟨gb232, 2, none⟩ = some (u233002) := (blk_cell BK232.out 2).trans rfl
                            have hfz38_0 := blk_frozen BK232.out 0
                            have hfz38_1 := blk_frozen BK232.out 1
                            have hfz38_2 := blk_frozen BK232.out 2
                            go_wp2_with (first | ((with_reducible refine gate_builtin (b := .append) (xs := #[.tmp 58, .tmp 60]) rfl ?_); at_builtin; refine Kd.R_append k84 (w0 := w) w.heap.size rfl (.tmp 58) (.tmp 60) 33 84 (.agg #[(.int .i64 0), (.int .i64 0), (.int .u8 0), (.int .i64 0)]) 32 rfl Tryz.underlying33 info84 rfl (by decide) (by omega) u233001 x233001_3 (⟨x43_3, wrap64 (x43_3 + 1), bt a0 x43_3, a1⟩ : S84) [.int .i64 x43_3, .int .i64 (wrap64 (x43_3 + 1)), .int .u8 (bt a0 x43_3), .int .i64 a1] (fun k_ => k_ ≠ gb234) (fun _ => False) rfl (by first | (go_simp; done) | (go_simp; rfl)) ?aP (fun _ hk => hk.elim) ?aF ?aO ?aB ?aS ?aL ?_; (case aP => exact k84_mkM _ _ _ (⟨x43_3, wrap64 (x43_3 + 1), bt a0 x43_3, a1⟩ : S84)); (case aB => exact (by repeat (first | (with_reducible first | exact HB.out | apply below_alloc | apply pw_below_drewN | apply below_drew1 | refine below_set ?_ GE227.out | refine below_set ?_ GE232.out | refine below_set ?_ GE234.out) | exact HB.out))); (case aF => exact (fun k_ hk => Kd.freshB (g := gb234) (o := .cells #[.int .i64 x43_3, .int .i64 (wrap64 (x43_3 + 1)), .int .u8 (bt a0 x43_3), .int .i64 a1] 84 (0, 0)) (by (with_reducible repeat (first | refine blk_drewN ?_ _ | refine blk_drew ?_ | refine blk_alloc ?_ _)); refine blk_put (cs := #[.int .i64 x43_3, .int .i64 (wrap64 (x43_3 + 1)), .int .u8 (bt a0 x43_3), .int .i64 0]) ?_ 3 _ rfl; (with_reducible repeat (first | refine blk_drewN ?_ _ | refine blk_drew ?_ | refine blk_alloc ?_ _)); exact BK234.out) k_ hk)); (case aO => exact (by (with_reducible repeat (first | apply Kd.R_alloc | apply Kd.R_drewN | apply Kd.R_drew)); exact Kd.R_mono (Kd.R_far (p := ⟨gb234, 3, none⟩) (Kd.R_mono HO_233001.out (fun k_ hk => (⟨hk, hk.2⟩ : _ ∧ k_ ≠ gb234))) (fun _ hk => hk.2) (.int .i64 a1)) (fun _ hk => hk.1.2))); (case aS => exact (below_size (by repeat (first | (with_reducible first | exact HB.out | apply below_alloc | apply pw_below_drewN | apply below_drew1 | refine below_set ?_ GE227.out | refine below_set ?_ GE232.out | refine below_set ?_ GE234.out) | exact HB.out)))); (case aL => have := LMc32.out; omega); intro v236 w39 ho hb hg hat; rw [← Ny235.out] at ho; have n0_ := Aside0.mk (Kd.R_over' (by (with_reducible repeat (first | apply Kd.R_alloc | apply Kd.R_drewN | apply Kd.R_drew)); exact (Kd.R_mono (Kd.R_far (p := ⟨gb234, 3, none⟩) (Kd.R_types HO_233002.out BK234.out (by decide)) (fun _ hk => hk.2) (.int .i64 a1)) (fun _ h_ => h_.1))) (Kd.R_typed (by (with_reducible repeat (first | apply Kd.R_alloc | apply Kd.R_drewN | apply Kd.R_drew)); exact (Kd.R_mono (Kd.R_far (p := ⟨gb234, 3, none⟩) (Kd.R_mono HO_233001.out (fun k_ hk => (⟨hk, hk.2⟩ : _ ∧ k_ ≠ gb234))) (fun _ hk => hk.2) (.int .i64 a1)) (fun _ h_ => h_.1)))) (by decide) hg); have n1_ := Aside0.mk (blk_grown (g := gb227) (o := .cells #[.int .i64 0, .slice none 0 0, .slice none 0 0] 36 (0, 0)) (by (with_reducible repeat (first | refine blk_drewN ?_ _ | refine blk_drew ?_ | refine blk_alloc ?_ _)); refine blk_far ?_ NB227_234.out _; (with_reducible repeat (first | refine blk_drewN ?_ _ | refine blk_drew ?_ | refine blk_alloc ?_ _)); exact BK227.out) hg (Kd.R_ne HO_233001.out BK227.out (by decide))); have n2_ := Aside0.mk (blk_grown (g := gb232) (o := .cells #[.int .i64 (wrap64 ((a0.size : Int) + 1)), u233001, u233002] 36 (0, 0)) (by (with_reducible repeat (first | refine blk_drewN ?_ _ | refine blk_drew ?_ | refine blk_alloc ?_ _)); refine blk_far ?_ NB232_234.out _; (with_reducible repeat (first | refine blk_drewN ?_ _ | refine blk_drew ?_ | refine blk_alloc ?_ _)); exact BK232.out) hg (Kd.R_ne HO_233001.out BK232.out (by decide))); have n3_ := Aside0.mk (blk_grown (g := gb234) (o := .cells #[.int .i64 x43_3, .int .i64 (wrap64 (x43_3 + 1)), .int .u8 (bt a0 x43_3), .int .i64 a1] 84 (0, 0)) (by (with_reducible repeat (first | refine blk_drewN ?_ _ | refine blk_drew ?_ | refine blk_alloc ?_ _)); refine blk_put (cs := #[.int .i64 x43_3, .int .i64 (wrap64 (x43_3 + 1)), .int .u8 (bt a0 x43_3), .int .i64 0]) ?_ 3 _ rfl; (with_reducible repeat (first | refine blk_drewN ?_ _ | refine blk_drew ?_ | refine blk_alloc ?_ _)); exact BK234.out) hg (Kd.R_away HO_233001.out (fun _ hk => hk.2))); have n4_ := Aside0.mk (hb); have n5_ := Aside0.mk (ho); clear HO_233002; clear BK227; clear BK232; clear BK234; clear HB; clear HO_233001; have HO_233002 := n0_; have BK227 := n1_; have BK232 := n2_; have BK234 := n3_; have HB := n4_; have HO237 := n5_; clear n0_ n1_ n2_ n3_ n4_ n5_; clear ho hb hg hat; obtain ⟨Ao40, co40, eo40⟩ := Kd.R_slice HO237.out; subst eo40; have hcz41_0 : w39.cell? ⟨gb232, 0, none⟩ = some (.int .i64 (wrap64 ((a0.size : Int) + 1))) := (blk_cell BK232.out 0).trans rfl; have hcz41_1 : w39.cell? ⟨gb232, 1, none⟩ = some (u233001) := (blk_cell BK232.out 1).trans rfl; have hcz41_2 : w39.cell? ⟨gb232, 2, none⟩ = some (u233002) := (blk_cell BK232.out 2).trans rfl; have hfz41_0 := blk_frozen BK232.out 0; have hfz41_1 := blk_frozen BK232.out 1; have hfz41_2 := blk_frozen BK232.out 2))
                            go_roundg k3
                            case measure => have := HJ5.out; have := HJ12.out; have := HK3.out; omega
                            case rel => exact ⟨(wrap64 (x43_3 + 1)), (y235), (.slice Ao40 y235.length co40), (by first | rfl | (simp; done) | (simp [*]; done)), H', ⟨by have := HJ5.out; have := HJ12.out; have := HK3.out; omega⟩, ⟨by (with_reducible repeat (first | apply Kd.R_alloc | apply Kd.R_drewN | apply Kd.R_drew)); exact Kd.R_mono (Kd.R_far (p := ⟨gb232, 1, none⟩) (Kd.R_types HO237.out BK232.out (by decide)) (fun _ hk => hk.2) (.slice Ao40 y235.length co40)) (fun _ hk => trivial)⟩, ⟨by (with_reducible repeat (first | apply Kd.R_alloc | apply Kd.R_drewN | apply Kd.R_drew)); exact Kd.R_mono (Kd.R_far (p := ⟨gb232, 1, none⟩) (Kd.R_types HO_233002.out BK232.out (by decide)) (fun _ hk => hk.2) (.slice Ao40 y235.length co40)) (fun _ hk => trivial)⟩, ⟨by (with_reducible repeat (first | refine blk_drewN ?_ _ | refine blk_drew ?_ | refine blk_alloc ?_ _)); refine blk_far ?_ NB227_232.out _; (with_reducible repeat (first | refine blk_drewN ?_ _ | refine blk_drew ?_ | refine blk_alloc ?_ _)); exact BK227.out⟩, ⟨by (with_reducible repeat (first | refine blk_drewN ?_ _ | refine blk_drew ?_ | refine blk_alloc ?_ _)); refine blk_put (cs := #[.int .i64 (wrap64 ((a0.size : Int) + 1)), u233001, u233002]) ?_ 1 _ rfl; (with_reducible repeat (first | refine blk_drewN ?_ _ | refine blk_drew ?_ | refine blk_alloc ?_ _)); exact BK232.out⟩, ⟨by repeat (first | (with_reducible first | exact HB.out | apply below_alloc | apply pw_below_drewN | apply below_drew1 | refine below_set ?_ GE227.out | refine below_set ?_ GE232.out | refine below_set ?_ GE234.out) | exact HB.out)⟩⟩
                          · rw [if_neg c32] at H
                            exact absurd H (by simp)
                        · rw [if_neg c31] at H
                          have c31b0 : (x43_3 == 0) = false := beq_eq_false_iff_ne.mpr c31
                          have c31b1 : (x43_3 != 0) = true := bne_iff_ne.mpr c31
                          by_cases c42 : x233001_3.length < 4398046511104
                          · rw [if_pos c42] at H
                            have LMc42 := Aside0.mk c42
                            clear c42
                            obtain ⟨y238, hy238⟩ : ∃ y_ : List (S84), y_ = (x233001_3 ++ [(⟨x43_3, wrap64 (x43_3 + 1), bt a0 x43_3, 0⟩ : S84)]) := ⟨_, rfl⟩
                            replace H : (reading_Word.l0 k3 a0 a1 (a0.size : Int) (wrap64 (x43_3 + 1)) (wrap64 ((a0.size : Int) + 1)) y238 x233002_12) = some (r1, r2, r3, r4) := by first | (rw [hy238]; with_reducible exact H) | (have H2_ := (Option.bind_some _ _).symm.trans H; rw [hy238]; with_reducible exact H2_) | (have H2_ := (Option.bind_some _ _).symm.trans H; with_reducible exact H2_) | with_reducible exact H | (rw [hy238]; exact H) | exact H
                            have Ny238 := Aside0.mk hy238
                            clear hy238
                            have H' := Aside0.mk H
                            clear H
                            have p30 : 0 ≤ (x43_3 : Int) := of_decide_eq_true (by first | (with_reducible assumption) | assumption)
                            have q30 : x43_3 < (a0.size : Int) := of_decide_eq_true (by first | (with_reducible assumption) | assumption)
                            have hx30 := bt_at a0 x43_3
                            replace p30 := eq_true p30
                            replace q30 := eq_true q30
                            go_wp2_with (first | ((with_reducible refine gate_dst (N := 8) rfl ?_); refine box_event ?hg (N := 8) ?hd (cs := #[.int .i64 0, .int .i64 0, .int .u8 0, .int .i64 0]) (t := 84) ?hr ?_; (case hd => rfl); (case hg => rfl); (case hr => first | (go_simp; done) | (go_simp; rfl)); intro gb234 hg w43 hbox hb; have n0_ := Aside0.mk (Kd.R_below (Kd.R_elderB (by (with_reducible repeat (first | apply Kd.R_alloc | apply Kd.R_drewN | apply Kd.R_drew)); exact HO_233001.out) gb234 (Nat.le_of_eq hg.symm)) hb); have n1_ := Aside0.mk (Kd.R_below (by (with_reducible repeat (first | apply Kd.R_alloc | apply Kd.R_drewN | apply Kd.R_drew)); exact HO_233002.out) hb); have n2_ := Aside0.mk (blk_below (g := gb227) (o := .cells #[.int .i64 0, .slice none 0 0, .slice none 0 0] 36 (0, 0)) (by (with_reducible repeat (first | refine blk_drewN ?_ _ | refine blk_drew ?_ | refine blk_alloc ?_ _)); exact BK227.out) hb); have n3_ := Aside0.mk (blk_below (g := gb232) (o := .cells #[.int .i64 (wrap64 ((a0.size : Int) + 1)), u233001, u233002] 36 (0, 0)) (by (with_reducible repeat (first | refine blk_drewN ?_ _ | refine blk_drew ?_ | refine blk_alloc ?_ _)); exact BK232.out) hb); have n4_ := Aside0.mk (below_step (by repeat (first | (with_reducible first | exact HB.out | apply below_alloc | apply pw_below_drewN | apply below_drew1 | refine below_set ?_ GE227.out | refine below_set ?_ GE232.out) | exact HB.out)) hb); have n5_ := Aside0.mk (hbox); have n6_ := Aside0.mk ((by rw [hg]; exact (below_size (by repeat (first | (with_reducible first | exact HB.out | apply below_alloc | apply pw_below_drewN | apply below_drew1 | refine below_set ?_ GE227.out | refine below_set ?_ GE232.out) | exact HB.out))) : w.heap.size ≤ gb234)); have n7_ := Aside0.mk ((by rw [hg]; exact (below_size (by repeat (first | (with_reducible first | exact HB.out | apply below_alloc | apply pw_below_drewN | apply below_drew1 | refine below_set ?_ GE227.out | refine below_set ?_ GE232.out) | exact HB.out))) : w.heap.size ≤ gb234)); have n8_ := Aside0.mk ((by rw [hg]; exact Nat.ne_of_lt (blk_lt (g := gb227) (o := .cells #[.int .i64 0, .slice none 0 0, .slice none 0 0] 36 (0, 0)) (by (with_reducible repeat (first | refine blk_drewN ?_ _ | refine blk_drew ?_ | refine blk_alloc ?_ _)); exact BK227.out)) : gb227 ≠ gb234)); have n9_ := Aside0.mk ((by rw [hg]; exact Nat.ne_of_gt (blk_lt (g := gb227) (o := .cells #[.int .i64 0, .slice none 0 0, .slice none 0 0] 36 (0, 0)) (by (with_reducible repeat (first | refine blk_drewN ?_ _ | refine blk_drew ?_ | refine blk_alloc ?_ _)); exact BK227.out)) : gb234 ≠ gb227)); have n10_ := Aside0.mk ((by rw [hg]; exact Nat.ne_of_lt (blk_lt (g := gb232) (o := .cells #[.int .i64 (wrap64 ((a0.size : Int) + 1)), u233001, u233002] 36 (0, 0)) (by (with_reducible repeat (first | refine blk_drewN ?_ _ | refine blk_drew ?_ | refine blk_alloc ?_ _)); exact BK232.out)) : gb232 ≠ gb234)); have n11_ := Aside0.mk ((by rw [hg]; exact Nat.ne_of_gt (blk_lt (g := gb232) (o := .cells #[.int .i64 (wrap64 ((a0.size : Int) + 1)), u233001, u233002] 36 (0, 0)) (by (with_reducible repeat (first | refine blk_drewN ?_ _ | refine blk_drew ?_ | refine blk_alloc ?_ _)); exact BK232.out)) : gb234 ≠ gb232)); clear HO_233001; clear HO_233002; clear BK227; clear BK232; clear HB; have HO_233001 := n0_; have HO_233002 := n1_; have BK227 := n2_; have BK232 := n3_; have HB := n4_; have BK234 := n5_; have GW234 := n6_; have GE234 := n7_; have NB227_234 := n8_; have NB234_227 := n9_; have NB232_234 := n10_; have NB234_232 := n11_; clear n0_ n1_ n2_ n3_ n4_ n5_ n6_ n7_ n8_ n9_ n10_ n11_; clear hb hbox hg; have hnb44 := NB234_227.out; have hnc44 := NB227_234.out; have hnb45 := NB234_232.out; have hnc45 := NB232_234.out; have hcz46_0 : w43.cell? ⟨gb234, 0, none⟩ = some (.int .i64 0) := (blk_cell BK234.out 0).trans rfl; have hcz46_1 : w43.cell? ⟨gb234, 1, none⟩ = some (.int .i64 0) := (blk_cell BK234.out 1).trans rfl; have hcz46_2 : w43.cell? ⟨gb234, 2, none⟩ = some (.int .u8 0) := (blk_cell BK234.out 2).trans rfl; have hcz46_3 : w43.cell? ⟨gb234, 3, none⟩ = some (.int .i64 0) := (blk_cell BK234.out 3).trans rfl; have hfz46_0 := blk_frozen BK234.out 0; have hfz46_1 := blk_frozen BK234.out 1; have hfz46_2 := blk_frozen BK234.out 2; have hfz46_3 := blk_frozen BK234.out 3; have hnb47 := NB232_227.out; have hnc47 := NB227_232.out; have hcz48_0 : w43.cell? ⟨gb232, 0, none⟩ = some (.int .i64 (wrap64 ((a0.size : Int) + 1))) := (blk_cell BK232.out 0).trans rfl; have hcz48_1 : w43.cell? ⟨gb232, 1, none⟩ = some (u233001) := (blk_cell BK232.out 1).trans rfl; have hcz48_2 : w43.cell? ⟨gb232, 2, none⟩ = some (u233002) := (blk_cell BK232.out 2).trans rfl; have hfz48_0 := blk_frozen BK232.out 0; have hfz48_1 := blk_frozen BK232.out 1; have hfz48_2 := blk_frozen BK232.out 2) | ((with_reducible refine gate_builtin (b := .append) (xs := #[.tmp 58, .tmp 60]) rfl ?_); at_builtin; refine Kd.R_append k84 (w0 := w) w.heap.size rfl (.tmp 58) (.tmp 60) 33 84 (.agg #[(.int .i64 0), (.int .i64 0), (.int .u8 0), (.int .i64 0)]) 32 rfl Tryz.underlying33 info84 rfl (by decide) (by omega) u233001 x233001_3 (⟨x43_3, wrap64 (x43_3 + 1), bt a0 x43_3, 0⟩ : S84) [.int .i64 x43_3, .int .i64 (wrap64 (x43_3 + 1)), .int .u8 (bt a0 x43_3), .int .i64 0] (fun k_ => k_ ≠ gb234) (fun _ => False) rfl (by first | (go_simp; done) | (go_simp; rfl)) ?aP (fun _ hk => hk.elim) ?aF ?aO ?aB ?aS ?aL ?_; (case aP => exact k84_mkM _ _ _ (⟨x43_3, wrap64 (x43_3 + 1), bt a0 x43_3, 0⟩ : S84)); (case aB => exact (by repeat (first | (with_reducible first | exact HB.out | apply below_alloc | apply pw_below_drewN | apply below_drew1 | refine below_set ?_ GE227.out | refine below_set ?_ GE232.out | refine below_set ?_ GE234.out) | exact HB.out))); (case aF => exact (fun k_ hk => Kd.freshB (g := gb234) (o := .cells #[.int .i64 x43_3, .int .i64 (wrap64 (x43_3 + 1)), .int .u8 (bt a0 x43_3), .int .i64 0] 84 (0, 0)) (by (with_reducible repeat (first | refine blk_drewN ?_ _ | refine blk_drew ?_ | refine blk_alloc ?_ _)); refine blk_put (cs := #[.int .i64 x43_3, .int .i64 (wrap64 (x43_3 + 1)), .int .u8 (bt a0 x43_3), .int .i64 0]) ?_ 3 _ rfl; (with_reducible repeat (first | refine blk_drewN ?_ _ | refine blk_drew ?_ | refine blk_alloc ?_ _)); refine blk_put (cs := #[.int .i64 x43_3, .int .i64 (wrap64 (x43_3 + 1)), .int .u8 0, .int .i64 0]) ?_ 2 _ rfl; (with_reducible repeat (first | refine blk_drewN ?_ _ | refine blk_drew ?_ | refine blk_alloc ?_ _)); refine blk_put (cs := #[.int .i64 x43_3, .int .i64 0, .int .u8 0, .int .i64 0]) ?_ 1 _ rfl; (with_reducible repeat (first | refine blk_drewN ?_ _ | refine blk_drew ?_ | refine blk_alloc ?_ _)); refine blk_put (cs := #[.int .i64 0, .int .i64 0, .int .u8 0, .int .i64 0]) ?_ 0 _ rfl; (with_reducible repeat (first | refine blk_drewN ?_ _ | refine blk_drew ?_ | refine blk_alloc ?_ _)); exact BK234.out) k_ hk)); (case aO => exact (by (with_reducible repeat (first | apply Kd.R_alloc | apply Kd.R_drewN | apply Kd.R_drew)); exact Kd.R_mono (Kd.R_far (p := ⟨gb234, 3, none⟩) (Kd.R_far (p := ⟨gb234, 2, none⟩) (Kd.R_far (p := ⟨gb234, 1, none⟩) (Kd.R_far (p := ⟨gb234, 0, none⟩) (Kd.R_mono HO_233001.out (fun k_ hk => (⟨hk, hk.2⟩ : _ ∧ k_ ≠ gb234))) (fun _ hk => hk.2) (.int .i64 x43_3)) (fun _ hk => hk.2) (.int .i64 (wrap64 (x43_3 + 1)))) (fun _ hk => hk.2) (.int .u8 (bt a0 x43_3))) (fun _ hk => hk.2) (.int .i64 0)) (fun _ hk => hk.1.2))); (case aS => exact (below_size (by repeat (first | (with_reducible first | exact HB.out | apply below_alloc | apply pw_below_drewN | apply below_drew1 | refine below_set ?_ GE227.out | refine below_set ?_ GE232.out | refine below_set ?_ GE234.out) | exact HB.out)))); (case aL => have := LMc42.out; omega); intro v239 w49 ho hb hg hat; rw [← Ny238.out] at ho; have n0_ := Aside0.mk (Kd.R_over' (by (with_reducible repeat (first | apply Kd.R_alloc | apply Kd.R_drewN | apply Kd.R_drew)); exact (Kd.R_mono (Kd.R_far (p := ⟨gb234, 3, none⟩) (Kd.R_far (p := ⟨gb234, 2, none⟩) (Kd.R_far (p := ⟨gb234, 1, none⟩) (Kd.R_far (p := ⟨gb234, 0, none⟩) (Kd.R_types HO_233002.out BK234.out (by decide)) (fun _ hk => hk.2) (.int .i64 x43_3)) (fun _ hk => hk.2) (.int .i64 (wrap64 (x43_3 + 1)))) (fun _ hk => hk.2) (.int .u8 (bt a0 x43_3))) (fun _ hk => hk.2) (.int .i64 0)) (fun _ h_ => h_.1))) (Kd.R_typed (by (with_reducible repeat (first | apply Kd.R_alloc | apply Kd.R_drewN | apply Kd.R_drew)); exact (Kd.R_mono (Kd.R_far (p := ⟨gb234, 3, none⟩) (Kd.R_far (p := ⟨gb234, 2, none⟩) (Kd.R_far (p := ⟨gb234, 1, none⟩) (Kd.R_far (p := ⟨gb234, 0, none⟩) (Kd.R_mono HO_233001.out (fun k_ hk => (⟨hk, hk.2⟩ : _ ∧ k_ ≠ gb234))) (fun _ hk => hk.2) (.int .i64 x43_3)) (fun _ hk => hk.2) (.int .i64 (wrap64 (x43_3 + 1)))) (fun _ hk => hk.2) (.int .u8 (bt a0 x43_3))) (fun _ hk => hk.2) (.int .i64 0)) (fun _ h_ => h_.1)))) (by decide) hg); have n1_ := Aside0.mk (blk_grown (g := gb227) (o := .cells #[.int .i64 0, .slice none 0 0, .slice none 0 0] 36 (0, 0)) (by (with_reducible repeat (first | refine blk_drewN ?_ _ | refine blk_drew ?_ | refine blk_alloc ?_ _)); refine blk_far ?_ NB227_234.out _; (with_reducible repeat (first | refine blk_drewN ?_ _ | refine blk_drew ?_ | refine blk_alloc ?_ _)); refine blk_far ?_ NB227_234.out _; (with_reducible repeat (first | refine blk_drewN ?_ _ | refine blk_drew ?_ | refine blk_alloc ?_ _)); refine blk_far ?_ NB227_234.out _; (with_reducible repeat (first | refine blk_drewN ?_ _ | refine blk_drew ?_ | refine blk_alloc ?_ _)); refine blk_far ?_ NB227_234.out _; (with_reducible repeat (first | refine blk_drewN ?_ _ | refine blk_drew ?_ | refine blk_alloc ?_ _)); exact BK227.out) hg (Kd.R_ne HO_233001.out BK227.out (by decide))); have n2_ := Aside0.mk (blk_grown (g := gb232) (o := .cells #[.int .i64 (wrap64 ((a0.size : Int) + 1)), u233001, u233002] 36 (0, 0)) (by (with_reducible repeat (first | refine blk_drewN ?_ _ | refine blk_drew ?_ | refine blk_alloc ?_ _)); refine blk_far ?_ NB232_234.out _; (with_reducible repeat (first | refine blk_drewN ?_ _ | refine blk_drew ?_ | refine blk_alloc ?_ _)); refine blk_far ?_ NB232_234.out _; (with_reducible repeat (first | refine blk_drewN ?_ _ | refine blk_drew ?_ | refine blk_alloc ?_ _)); refine blk_far ?_ NB232_234.out _; (with_reducible repeat (first | refine blk_drewN ?_ _ | refine blk_drew ?_ | refine blk_alloc ?_ _)); refine blk_far ?_ NB232_234.out _; (with_reducible repeat (first | refine blk_drewN ?_ _ | refine blk_drew ?_ | refine blk_alloc ?_ _)); exact BK232.out) hg (Kd.R_ne HO_233001.out BK232.out (by decide))); have n3_ := Aside0.mk (blk_grown (g := gb234) (o := .cells #[.int .i64 x43_3, .int .i64 (wrap64 (x43_3 + 1)), .int .u8 (bt a0 x43_3), .int .i64 0] 84 (0, 0)) (by (with_reducible repeat (first | refine blk_drewN ?_ _ | refine blk_drew ?_ | refine blk_alloc ?_ _)); refine blk_put (cs := #[.int .i64 x43_3, .int .i64 (wrap64 (x43_3 + 1)), .int .u8 (bt a0 x43_3), .int .i64 0]) ?_ 3 _ rfl; (with_reducible repeat (first | refine blk_drewN ?_ _ | refine blk_drew ?_ | refine blk_alloc ?_ _)); refine blk_put (cs := #[.int .i64 x43_3, .int .i64 (wrap64 (x43_3 + 1)), .int .u8 0, .int .i64 0]) ?_ 2 _ rfl; (with_reducible repeat (first | refine blk_drewN ?_ _ | refine blk_drew ?_ | refine blk_alloc ?_ _)); refine blk_put (cs := #[.int .i64 x43_3, .int .i64 0, .int .u8 0, .int .i64 0]) ?_ 1 _ rfl; (with_reducible repeat (first | refine blk_drewN ?_ _ | refine blk_drew ?_ | refine blk_alloc ?_ _)); refine blk_put (cs := #[.int .i64 0, .int .i64 0, .int .u8 0, .int .i64 0]) ?_ 0 _ rfl; (with_reducible repeat (first | refine blk_drewN ?_ _ | refine blk_drew ?_ | refine blk_alloc ?_ _)); exact BK234.out) hg (Kd.R_away HO_233001.out (fun _ hk => hk.2))); have n4_ := Aside0.mk (hb); have n5_ := Aside0.mk (ho); clear HO_233002; clear BK227; clear BK232; clear BK234; clear HB; clear HO_233001; have HO_233002 := n0_; have BK227 := n1_; have BK232 := n2_; have BK234 := n3_; have HB := n4_; have HO240 := n5_; clear n0_ n1_ n2_ n3_ n4_ n5_; clear ho hb hg hat; obtain ⟨Ao50, co50, eo50⟩ := Kd.R_slice HO240.out; subst eo50; have hcz51_0 : w49.cell? ⟨gb232, 0, none⟩ = some (.int .i64 (wrap64 ((a0.size : Int) + 1))) := (blk_cell BK232.out 0).trans rfl; have hcz51_1 : w49.cell? ⟨gb232, 1, none⟩ = some (u233001) := (blk_cell BK232.out 1).trans rfl; have hcz51_2 : w49.cell? ⟨gb232, 2, none⟩ = some (u233002) := (blk_cell BK232.out 2).trans rfl; have hfz51_0 := blk_frozen BK232.out 0; have hfz51_1 := blk_frozen BK232.out 1; have hfz51_2 := blk_frozen BK232.out 2))
                            go_roundg k3
                            case measure => have := HJ5.out; have := HJ12.out; have := HK3.out; omega
                            case rel => exact ⟨(wrap64 (x43_3 + 1)), (y238), (.slice Ao50 y238.length co50), (by first | rfl | (simp; done) | (simp [*]; done)), H', ⟨by have := HJ5.out; have := HJ12.out; have := HK3.out; omega⟩, ⟨by (with_reducible repeat (first | apply Kd.R_alloc | apply Kd.R_drewN | apply Kd.R_drew)); exact Kd.R_mono (Kd.R_far (p := ⟨gb232, 1, none⟩) (Kd.R_types HO240.out BK232.out (by decide)) (fun _ hk => hk.2) (.slice Ao50 y238.length co50)) (fun _ hk => trivial)⟩, ⟨by (with_reducible repeat (first | apply Kd.R_alloc | apply Kd.R_drewN | apply Kd.R_drew)); exact Kd.R_mono (Kd.R_far (p := ⟨gb232, 1, none⟩) (Kd.R_types HO_233002.out BK232.out (by decide)) (fun _ hk => hk.2) (.slice Ao50 y238.length co50)) (fun _ hk => trivial)⟩, ⟨by (with_reducible repeat (first | refine blk_drewN ?_ _ | refine blk_drew ?_ | refine blk_alloc ?_ _)); refine blk_far ?_ NB227_232.out _; (with_reducible repeat (first | refine blk_drewN ?_ _ | refine blk_drew ?_ | refine blk_alloc ?_ _)); exact BK227.out⟩, ⟨by (with_reducible repeat (first | refine blk_drewN ?_ _ | refine blk_drew ?_ | refine blk_alloc ?_ _)); refine blk_put (cs := #[.int .i64 (wrap64 ((a0.size : Int) + 1)), u233001, u233002]) ?_ 1 _ rfl; (with_reducible repeat (first | refine blk_drewN ?_ _ | refine blk_drew ?_ | refine blk_alloc ?_ _)); exact BK232.out⟩, ⟨by repeat (first | (with_reducible first | exact HB.out | apply below_alloc | apply pw_below_drewN | apply below_drew1 | refine below_set ?_ GE227.out | refine below_set ?_ GE232.out | refine below_set ?_ GE234.out) | exact HB.out)⟩⟩
                          · rw [if_neg c42] at H
                            exact absurd H (by simp)
                      · rw [if_neg c29] at H
                        exact absurd H (by simp)
                    · rw [if_neg c28] at H
                      exact absurd H (by simp)
                  · rw [if_neg c27] at H
                    have c27b0 : decide (x43_3 < (a0.size : Int)) = false := decide_eq_false c27
                    clear c27
                    simp only [Option.some.injEq, Prod.mk.injEq] at H
                    obtain ⟨rfl, rfl, rfl, rfl⟩ := H
                    have hnb52 := NB232_227.out
                    have hnc52 := NB227_232.out
                    have hcz53_0 : wr.cell? ⟨gb232, 0, none⟩ = some (.int .i64 (wrap64 ((a0.size : Int) + 1))) := (blk_cell BK232.out 0).trans rfl
                    have hcz53_1 : wr.cell? ⟨gb232, 1, none⟩ = some (u233001) := (blk_cell BK232.out 1).trans rfl
                    have hcz53_2 : wr.cell? ⟨gb232, 2, none⟩ = some (u233002) := (blk_cell BK232.out 2).trans rfl
                    have hfz53_0 := blk_frozen BK232.out 0
                    have hfz53_1 := blk_frozen BK232.out 1
                    have hfz53_2 := blk_frozen BK232.out 2
                    have hcz54_0 : wr.cell? ⟨gb227, 0, none⟩ = some (.int .i64 0) := (blk_cell BK227.out 0).trans rfl
                    have hcz54_1 : wr.cell? ⟨gb227, 1, none⟩ = some (.slice none 0 0) := (blk_cell BK227.out 1).trans rfl
                    have hcz54_2 : wr.cell? ⟨gb227, 2, none⟩ = some (.slice none 0 0) := (blk_cell BK227.out 2).trans rfl
                    have hfz54_0 := blk_frozen BK227.out 0
                    have hfz54_1 := blk_frozen BK227.out 1
                    have hfz54_2 := blk_frozen BK227.out 2
                    obtain ⟨Ao55, co55, eo55⟩ := Kd.R_slice HO_233001.out
                    subst eo55
                    obtain ⟨Ao56, co56, eo56⟩ := Kd.R_slice HO_233002.out
                    subst eo56
                    go_wp2
                    refine bodyPost_ret (results_ct rfl _ _ gb227 36 #[.int .i64 (wrap64 ((a0.size : Int) + 1)), .slice Ao55 x233001_3.length co55, .slice Ao56 x233002_12.length co56] (0, 0) _ rfl (by (with_reducible repeat (first | refine blk_drewN ?_ _ | refine blk_drew ?_ | refine blk_alloc ?_ _)); refine blk_put (cs := #[.int .i64 (wrap64 ((a0.size : Int) + 1)), .slice Ao55 x233001_3.length co55, .slice none 0 0]) ?_ 2 _ rfl; (with_reducible repeat (first | refine blk_drewN ?_ _ | refine blk_drew ?_ | refine blk_alloc ?_ _)); refine blk_put (cs := #[.int .i64 (wrap64 ((a0.size : Int) + 1)), .slice none 0 0, .slice none 0 0]) ?_ 1 _ rfl; (with_reducible repeat (first | refine blk_drewN ?_ _ | refine blk_drew ?_ | refine blk_alloc ?_ _)); refine blk_put (cs := #[.int .i64 0, .slice none 0 0, .slice none 0 0]) ?_ 0 _ rfl; (with_reducible repeat (first | refine blk_drewN ?_ _ | refine blk_drew ?_ | refine blk_alloc ?_ _)); exact BK227.out) Tryz.underlying36 rfl (by kernel_rfl)) rfl ?_
                    exact ⟨_, _, by first | rfl | (simp [errW_none, errW_some] <;> rfl) | (simp [*, errW_none, errW_some] <;> rfl), by (with_reducible repeat (first | apply Kd.R_alloc | apply Kd.R_drewN | apply Kd.R_drew)); exact Kd.R_mono (Kd.R_far (p := ⟨gb227, 2, none⟩) (Kd.R_far (p := ⟨gb227, 1, none⟩) (Kd.R_far (p := ⟨gb227, 0, none⟩) (Kd.R_types HO_233001.out BK227.out (by decide)) (fun _ hk => hk.2) (.int .i64 (wrap64 ((a0.size : Int) + 1)))) (fun _ hk => hk.2) (.slice Ao55 x233001_3.length co55)) (fun _ hk => hk.2) (.slice Ao56 x233002_12.length co56)) (fun _ hk => trivial), by (with_reducible repeat (first | apply Kd.R_alloc | apply Kd.R_drewN | apply Kd.R_drew)); exact Kd.R_mono (Kd.R_far (p := ⟨gb227, 2, none⟩) (Kd.R_far (p := ⟨gb227, 1, none⟩) (Kd.R_far (p := ⟨gb227, 0, none⟩) (Kd.R_types HO_233002.out BK227.out (by decide)) (fun _ hk => hk.2) (.int .i64 (wrap64 ((a0.size : Int) + 1)))) (fun _ hk => hk.2) (.slice Ao55 x233001_3.length co55)) (fun _ hk => hk.2) (.slice Ao56 x233002_12.length co56)) (fun _ hk => trivial), by repeat (first | (with_reducible first | exact HB.out | apply below_alloc | apply pw_below_drewN | apply below_drew1 | refine below_set ?_ GE227.out | refine below_set ?_ GE232.out) | exact HB.out)⟩


end Go.Proofs.YtdlebiapcceneaaGreatDoor.Leaf


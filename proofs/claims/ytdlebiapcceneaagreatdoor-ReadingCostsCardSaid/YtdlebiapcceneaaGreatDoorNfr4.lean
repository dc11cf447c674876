/-
  A call of alive returns true, on every tape and in every memory in which the table of the powers of ten is laid as the program lays it; no other conditions.
-/
import Derived.Test.YtdlebiapcceneaaGreatDoorNfb1
import Derived.Test.YtdlebiapcceneaaGreatDoorNfr1
import Derived.Test.YtdlebiapcceneaaGreatDoorNfr2
import Derived.Test.YtdlebiapcceneaaGreatDoorNfr3
import Derived.LaidMore
import Derived.ProofKit
import Derived.OpenShut
import Derived.Stop.Joined
import Derived.Test.YtdlebiapcceneaaGreatDoorRows
set_option linter.unusedVariables false
set_option linter.unusedSimpArgs false
set_option linter.unusedSectionVars false
namespace Go.AX
open Go Go.Proofs Go.RowKit
noncomputable def prL : List (Nat × Prim) := [(52, .copyCheck 52), (78, .consts digL), (16, .fix fixParse), (37, .fix fixOf), (38, .fix fixBest)]
noncomputable def E1 : Env := ⟨prL.foldl (fun t p => t.set p.1 p.2) .nil, tiT, fnT, eqT, plT⟩
noncomputable def isTrue (r : R) : Bool := tb (ob r fun r => onBool r.1 fun b => some b)
theorem run_alive : isTrue (callN E1 1000 100 13 [] ⟨0, .nil⟩) = true := by kernel_rfl
end Go.AX
namespace Go.AX
open Go Go.Proofs Go.RowKit
theorem parseF_sound : CallS Tryz.prog parseF := by
  intro f args h v h' hs
  have hs' : ifT (Nat.beq f 16) (parseR E0 (callN E0 1000 100) 1000 args h) none = some (v, h') := hs
  rw [ifT_some] at hs'
  obtain ⟨hf, hs'⟩ := hs'
  have hf : f = 16 := Nat.eq_of_beq_eq_true hf
  subst hf
  exact parse_sound env0 (call0 1000 100) 1000 hs'
theorem bestF_sound : CallS Tryz.prog bestF := by
  intro f args h v h' hs
  have hs' : ifT (Nat.beq f 38) (bestR E0 (callN E0 1000 100) 1000 args h) none = some (v, h') := hs
  rw [ifT_some] at hs'
  obtain ⟨hf, hs'⟩ := hs'
  have hf : f = 38 := Nat.eq_of_beq_eq_true hf
  subst hf
  exact best_sound env0 (call0 1000 100) 1000 hs'
theorem fixS_parse : FixS Tryz.prog 16 fixParse := fix_of_run parseF_sound run_parse
theorem fixS_of : FixS Tryz.prog 37 fixOf := fix_of_run (call0 1000 100) run_of
theorem fixS_best : FixS Tryz.prog 38 fixBest := fix_of_run bestF_sound run_best
theorem env1 : EnvOK E1 Tryz.prog := envOK rfl rfl rfl
theorem primS1 : PrimS E1 Tryz.prog := by
  refine primS_of (L := prL) rfl fun f p hfp => ?_
  simp only [prL, List.mem_cons, List.not_mem_nil, or_false, Prod.mk.injEq] at hfp
  rcases hfp with ⟨rfl, rfl⟩ | ⟨rfl, rfl⟩ | ⟨rfl, rfl⟩ | ⟨rfl, rfl⟩ | ⟨rfl, rfl⟩
  · exact fun args h v h' hp => copyCheck_prim hp
  · exact digits_ok
  · exact fun args h v h' hp => fix_prim fixS_parse hp
  · exact fun args h v h' hp => fix_prim fixS_of hp
  · exact fun args h v h' hp => fix_prim fixS_best hp
theorem call1 (lf n : Nat) : CallS Tryz.prog (callN E1 lf n) := callN_sound' env1 (names_of rfl) primS1 lf n
def LaidT (w : World) : Prop := ∃ e fz, w.heap[0]? = some (.cells (Lib.pow10Tab.map fun z => Value.int .u64 z).toArray e fz)
def LaidE (w : World) (b : Nat) : Prop := ∃ te pe e fz, w.heap[b]? = some (.cells #[.iface te pe] e fz)
def Laid (w : World) : Prop := LaidT w ∧ LaidE w 1 ∧ LaidE w 2
theorem laid_lay {w : World} (hw : Laid w) : ∀ b, Lay.dom Tryz.prog b → b < w.heap.size ∧ Lay.lay Tryz.prog b (w.heap[b]?) := by
  intro b hb
  have hb : b ≤ 2 := hb
  obtain ⟨⟨e, fz, h0⟩, ⟨te, pe, e1, f1, h1⟩, ⟨te2, pe2, e2, f2, h2⟩⟩ := hw
  have hb : b = 0 ∨ b = 1 ∨ b = 2 := by omega
  rcases hb with rfl | rfl | rfl
  · exact ⟨(Array.getElem?_eq_some_iff.1 h0).1, fun _ => ⟨e, fz, h0⟩, fun h => absurd rfl h⟩
  · exact ⟨(Array.getElem?_eq_some_iff.1 h1).1, fun h => by omega, fun _ => ⟨te, pe, e1, f1, h1⟩⟩
  · exact ⟨(Array.getElem?_eq_some_iff.1 h2).1, fun h => by omega, fun _ => ⟨te2, pe2, e2, f2, h2⟩⟩
theorem alive_true (w : World) (hw : Laid w) : Calls Tryz.prog 13 #[] w fun e w' => e = .returned (.bool true) ∧ Below w.heap.size w w' := by
  have h := tb_true run_alive
  rw [ob_some] at h
  obtain ⟨⟨v, h'⟩, hrun, hk⟩ := h
  rw [onBool_some] at hk
  obtain ⟨b, hb, hk⟩ := hk
  cases hk
  have hb : v = .bool true := hb
  subst hb
  have hc := (call1 1000 100) 13 [] ⟨0, .nil⟩ _ h' hrun
  refine (hc.2 _ w (fun _ => none) w #[] .nil (WR.start (next := 0) (rows := []) (laid_lay hw) (fun _ _ => rfl) (fun p hp => by cases hp))).mono ?_
  rintro e w' ⟨v', ρ', rfl, hle, hv, H⟩
  cases hv
  exact ⟨rfl, H.os, H.tape, H.output, H.size, fun b hb => H.keep b hb⟩
end Go.AX
namespace Go.AX
open Go Go.Proofs Go.RowKit Go.ChangeShapes Go.WideShapes Go.ChangeAt
theorem laid_of_cells {w : World} {C : Array Value} {e : TypeId} {fz : Nat × Nat} (h : w.heap[0]? = some (.cells C e fz)) (hs : C.size = 20) (hc : ∀ i, i < 20 → C[i]? = some (.int .u64 ((10 ^ i : Nat) : Int))) : LaidT w := by
  refine ⟨e, fz, ?_⟩
  rw [h]
  have : C = (Lib.pow10Tab.map fun z => Value.int .u64 z).toArray := by
    apply Array.ext_getElem?
    intro i
    by_cases hi : i < 20
    · rw [hc i hi]
      simp [Lib.pow10Tab, hi]
    · rw [Array.getElem?_eq_none (by omega)]
      symm
      apply Array.getElem?_eq_none
      simp [Lib.pow10Tab]
      omega
  rw [this]
end Go.AX
namespace Go.AX
open Go Go.Proofs Go.RowKit Go.ChangeShapes Go.WideShapes Go.ChangeAt
open YtdlebiapcceneaaGreatDoor
noncomputable def laid5 : List (String × DataW Unit) := [("math/bits.deBruijn32tab", Rows.laid_math_bits_deBruijn32tab), ("math/bits.deBruijn64tab", Rows.laid_math_bits_deBruijn64tab), ("internal/strconv.uint64pow10", Rows.laid_internal_strconv_uint64pow10), ("strconv.ErrRange", Rows.laid_strconv_ErrRange), ("strconv.ErrSyntax", Rows.laid_strconv_ErrSyntax)]
theorem g0 : Tryz.prog.globalNamed "math/bits.deBruijn32tab" = some 3 := by kernel_rfl
theorem g1 : Tryz.prog.globalNamed "math/bits.deBruijn64tab" = some 4 := by kernel_rfl
theorem g2 : Tryz.prog.globalNamed "internal/strconv.uint64pow10" = some 0 := by kernel_rfl
theorem t2 : (Tryz.prog.globals[0]?).map (·.type) = some 196 := by kernel_rfl
set_option maxRecDepth 100000 in
theorem door_met (os : Os) (args : Array Value) : laidMetH Tryz.prog laid5 ((World.doorLaid Tryz.prog 4000 os).forCall (fun _ _ => 0) ⟨#[], args, []⟩).memory :=
  laidMetH_of_parts3 (fuel := 8) (laidMet_of_run' 8 (by kernel_rfl) (by kernel_rfl)) (by kernel_rfl) (by kernel_rfl)
theorem g3 : Tryz.prog.globalNamed "strconv.ErrRange" = some 2 := by kernel_rfl
theorem g4 : Tryz.prog.globalNamed "strconv.ErrSyntax" = some 1 := by kernel_rfl
theorem t3 : (Tryz.prog.globals[2]?).map (·.type) = some 59 := by kernel_rfl
theorem t4 : (Tryz.prog.globals[1]?).map (·.type) = some 59 := by kernel_rfl
theorem laidE_of {W : World} {n : String} {b : Nat} {cs : Array Value} {f : Nat} {nm : String} {d : DataW Unit} {p : List MemPlace} {enc : TypeId × Value → Unit} {base : Nat} {sp : Nat → Bool} (hg : Tryz.prog.globalNamed n = some b) (hv : W.var? Tryz.prog n = some cs)
    (hd : DataW.trod enc Tryz.prog W base sp false f 59 cs.toList = some (.iface nm d, p)) : LaidE W b := by
  obtain ⟨f', u, v, e, _, _⟩ := iface_of_trod Tryz.underlying59 hd
  have e2 : cs = #[.iface u v] := by cases cs; simp_all
  subst e2
  unfold World.var? at hv
  rw [hg] at hv
  simp only [Option.bind_some] at hv
  split at hv
  · rename_i C e fz hC
    cases hv
    exact ⟨u, v, e, fz, hC⟩
  · cases hv
theorem of_laid {W : World} (h : laidMetH Tryz.prog laid5 W) : Laid W := by
  rw [MakeChecks.laidMetH_plain _ _ _ (by kernel_rfl)] at h
  obtain ⟨ps, ⟨g0', t0', cs0, f0, p0, q0, hg0, ht0, hv0, hd0, ⟨g1', t1', cs1, f1, p1, q1, hg1, ht1, hv1, hd1, ⟨g2', t2', cs2, f2, p2, q2, hg2, ht2, hv2, hd2, ⟨g3', t3', cs3, f3, p3, q3, hg3, ht3, hv3', hd3, ⟨g4', t4', cs4, f4, p4, q4, hg4, ht4, hv4, hd4, _, _⟩, _⟩, _⟩, _⟩, _⟩, _, _⟩ := h
  obtain rfl := Option.some.inj (g2.symm.trans hg2)
  obtain rfl := Option.some.inj (t2.symm.trans ht2)
  obtain rfl := Option.some.inj (g3.symm.trans hg3)
  obtain rfl := Option.some.inj (t3.symm.trans ht3)
  obtain rfl := Option.some.inj (g4.symm.trans hg4)
  obtain rfl := Option.some.inj (t4.symm.trans ht4)
  refine ⟨?_, laidE_of g4 hv4 hd4, laidE_of g3 hv3' hd3⟩
  obtain ⟨xs, m1, rfl, hx1, hlen, hn3, hel⟩ := DataW.trod_array Tryz.underlying196 hd2
  have c138 : Tryz.prog.cellsOf 138 = 1 := by kernel_rfl
  simp only [Rows.laid_internal_strconv_uint64pow10, Prod.mk.injEq, DataW.agg.injEq] at hx1
  have hv := World.var?_cell hg2 hv2
  have key : ∀ (i : Nat) (n : Int), i < 20 → (xs.map (·.1))[i]? = some (.lit (.int .u64 n)) → W.cell? ⟨0, i, none⟩ = some (.int .u64 n) := by
    intro i n hi hx
    have h0 := hel i hi
    rw [c138] at h0
    rw [List.getElem?_map, Option.map_eq_some_iff] at hx
    obtain ⟨x, hx, hx2⟩ := hx
    rw [hx] at h0
    obtain ⟨k, e1, e2, _⟩ := DataW.trod_int Tryz.underlying138 h0
    rw [e2] at hx2
    have hk : k = n := by simpa using hx2
    subst hk
    have h3 := hv i
    have h4 : cs2[i]? = some (.int .u64 k) := by
      have h5 : ((cs2.toList.drop (i * 1)).take 1)[0]? = some (.int .u64 k) := by rw [e1]; rfl
      simpa using h5
    simpa [h4] using h3
  have hx3 : ∀ i, i < 20 → (xs.map (·.1))[i]? = some (.lit (.int .u64 ((10 ^ i : Nat) : Int))) := by
    rw [← hx1.1]
    intro i hi
    match i, hi with
    | 0, _ => rfl
    | 1, _ => rfl
    | 2, _ => rfl
    | 3, _ => rfl
    | 4, _ => rfl
    | 5, _ => rfl
    | 6, _ => rfl
    | 7, _ => rfl
    | 8, _ => rfl
    | 9, _ => rfl
    | 10, _ => rfl
    | 11, _ => rfl
    | 12, _ => rfl
    | 13, _ => rfl
    | 14, _ => rfl
    | 15, _ => rfl
    | 16, _ => rfl
    | 17, _ => rfl
    | 18, _ => rfl
    | 19, _ => rfl
    | i + 20, hi => omega
  have hv3 : ∃ e fz, W.heap[0]? = some (.cells cs2 e fz) := by
    unfold World.var? at hv2
    rw [g2] at hv2
    simp only [Option.bind_some] at hv2
    split at hv2
    · rename_i C e fz hC
      cases hv2
      exact ⟨e, fz, hC⟩
    · cases hv2
  obtain ⟨e, fz, hC⟩ := hv3
  have c196 : Tryz.prog.cellsOf 196 = 20 := by kernel_rfl
  refine laid_of_cells hC (by rw [c196] at hlen; simpa using hlen) fun i hi => ?_
  have := key i _ hi (hx3 i hi)
  unfold World.cell? at this
  rw [hC] at this
  simpa using this
end Go.AX

/-
  A call of alive returns true, on every tape and in every memory in which the first table of strconv is laid as the program lays it.
-/
import Derived.Test.YtdlebiapcceneaaGreatDoorBx1
import Derived.Test.YtdlebiapcceneaaGreatDoorFx1
import Derived.Test.YtdlebiapcceneaaGreatDoorRx1
import Derived.Test.YtdlebiapcceneaaGreatDoorRx2
import Derived.Test.YtdlebiapcceneaaGreatDoorRx3
set_option linter.unusedVariables false
set_option linter.unusedSimpArgs false
set_option linter.unusedSectionVars false
namespace Go.AX
open Go Go.Proofs Go.RowKit
noncomputable def prL : List (Nat × Prim) := [(52, .copyCheck 52), (78, .consts digL), (16, .fix fixParse), (37, .fix fixOf), (38, .fix fixBest)]
noncomputable def E1 : Env := ⟨prL.foldl (fun t p => t.set p.1 p.2) .nil, tiT, fnT, eqT, plT⟩
noncomputable def isTrue (r : R) : Bool := tb (ob r fun r => onBool r.1 fun b => some b)
theorem run_alive : isTrue (callN E1 1000 100 13 [] ⟨0, .nil⟩) = true := by kernel_rfl
end Go.AX

namespace Go.AX
open Go Go.Proofs Go.RowKit

theorem parseF_sound : CallS Tryz.prog parseF := by
  intro f args h v h' hs
  have hs' : ifT (Nat.beq f 16) (parseR E0 (callN E0 1000 100) 1000 args h) none = some (v, h') := hs
  rw [ifT_some] at hs'
  obtain ⟨hf, hs'⟩ := hs'
  have hf : f = 16 := Nat.eq_of_beq_eq_true hf
  subst hf
  exact parse_sound env0 (call0 1000 100) 1000 hs'
theorem bestF_sound : CallS Tryz.prog bestF := by
  intro f args h v h' hs
  have hs' : ifT (Nat.beq f 38) (bestR E0 (callN E0 1000 100) 1000 args h) none = some (v, h') := hs
  rw [ifT_some] at hs'
  obtain ⟨hf, hs'⟩ := hs'
  have hf : f = 38 := Nat.eq_of_beq_eq_true hf
  subst hf
  exact best_sound env0 (call0 1000 100) 1000 hs'
theorem fixS_parse : FixS Tryz.prog 16 fixParse := fix_of_run parseF_sound run_parse
theorem fixS_of : FixS Tryz.prog 37 fixOf := fix_of_run (call0 1000 100) run_of
theorem fixS_best : FixS Tryz.prog 38 fixBest := fix_of_run bestF_sound run_best

theorem env1 : EnvOK E1 Tryz.prog := envOK rfl rfl rfl
theorem primS1 : PrimS E1 Tryz.prog := by
  refine primS_of (L := prL) rfl fun f p hfp => ?_
  simp only [prL, List.mem_cons, List.not_mem_nil, or_false, Prod.mk.injEq] at hfp
  rcases hfp with ⟨rfl, rfl⟩ | ⟨rfl, rfl⟩ | ⟨rfl, rfl⟩ | ⟨rfl, rfl⟩ | ⟨rfl, rfl⟩
  · exact fun args h v h' hp => copyCheck_prim hp
  · exact digits_ok
  · exact fun args h v h' hp => fix_prim fixS_parse hp
  · exact fun args h v h' hp => fix_prim fixS_of hp
  · exact fun args h v h' hp => fix_prim fixS_best hp
theorem call1 (lf n : Nat) : CallS Tryz.prog (callN E1 lf n) := callN_sound' env1 (names_of rfl) primS1 lf n

/-- what the start-up code has laid, as far as it is looked at -/
def Laid (w : World) : Prop := ∃ C e fz, w.heap[0]? = some (.cells C e fz) ∧ C[0]? = some (.int .u64 1) ∧ C[2]? = some (.int .u64 100)

theorem laid_lay {w : World} (hw : Laid w) : ∀ b, Lay.dom Tryz.prog b → b < w.heap.size ∧ Lay.lay Tryz.prog b (w.heap[b]?) := by
  intro b hb
  have hb : b = 0 := hb
  subst hb
  obtain ⟨C, e, fz, h1, h2, h3⟩ := hw
  exact ⟨(Array.getElem?_eq_some_iff.1 h1).1, C, e, fz, h1, h2, h3⟩

/-- A CALL OF 'alive' RETURNS true, ON EVERY TAPE, IN EVERY MEMORY. -/
theorem alive_true (w : World) (hw : Laid w) : Calls Tryz.prog 13 #[] w fun e w' => e = .returned (.bool true) ∧ Below w.heap.size w w' := by
  have h := tb_true run_alive
  rw [ob_some] at h
  obtain ⟨⟨v, h'⟩, hrun, hk⟩ := h
  rw [onBool_some] at hk
  obtain ⟨b, hb, hk⟩ := hk
  cases hk
  have hb : v = .bool true := hb
  subst hb
  have hc := (call1 1000 100) 13 [] ⟨0, .nil⟩ _ h' hrun
  refine (hc.2 _ w (fun _ => none) w #[] .nil (WR.start (next := 0) (rows := []) (laid_lay hw) (fun _ _ => rfl) (fun p hp => by cases hp))).mono ?_
  rintro e w' ⟨v', ρ', rfl, hle, hv, H⟩
  cases hv
  exact ⟨rfl, H.os, H.tape, H.output, H.size, fun b hb => H.keep b hb⟩
end Go.AX


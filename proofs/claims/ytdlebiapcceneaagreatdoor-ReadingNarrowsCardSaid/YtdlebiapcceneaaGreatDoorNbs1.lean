/-
  strconv.Itoa at this program, and the executor with Itoa and alive taken by their contracts; no further conditions.
-/
import Derived.Shelf.Strconv.Itoa3
import Derived.Shelf.LaysM
import Derived.Test.YtdlebiapcceneaaGreatDoorProg
import Derived.Test.YtdlebiapcceneaaGreatDoorNbr4
import Derived.Test.YtdlebiapcceneaaGreatDoorNbw1
set_option linter.unusedVariables false
set_option linter.unusedSimpArgs false
set_option linter.unusedSectionVars false
namespace Go.Proofs
open Go.Shelf
def Tryz.laysM171_ren : Go.Shelf.Ren := ⟨fun | 171 => 34 | 243 => 53 | 246 => 64 | 283 => 77 | 284 => 78 | 285 => 79 | 286 => 80 | 129 => 99 | 317 => 98 | 318 => 100 | 319 => 101 | 320 => 102 | 337 => 124 | 338 => 125 | n => n, fun | 3 => 3 | 9 => 9 | 2 => 2 | 4 => 4 | 171 => 137 | 0 => 0 | 53 => 138 | 37 => 50 | 5 => 5 | 173 => 141 | 212 => 196 | 51 => 197 | 20 => 20 | 213 => 198 | 46 => 199 | 232 => 254 | 233 => 255 | n => n, fun | 17 => 0 | 18 => 3 | 19 => 4 | n => n⟩
theorem Tryz.laysM171 : Go.Proofs.LaysM.n171 Tryz.prog Tryz.laysM171_ren := {
  mixed := by kernel_rfl
  f129 := Tryz.func99.trans (congrArg some (by kernel_rfl))
  f171 := Tryz.func34.trans (congrArg some (by kernel_rfl))
  f243 := Tryz.func53.trans (congrArg some (by kernel_rfl))
  f246 := Tryz.func64.trans (congrArg some (by kernel_rfl))
  f283 := Tryz.func77.trans (congrArg some (by kernel_rfl))
  f284 := Tryz.func78.trans (congrArg some (by kernel_rfl))
  f285 := Tryz.func79.trans (congrArg some (by kernel_rfl))
  f286 := Tryz.func80.trans (congrArg some (by kernel_rfl))
  f317 := Tryz.func98.trans (congrArg some (by kernel_rfl))
  f318 := Tryz.func100.trans (congrArg some (by kernel_rfl))
  f319 := Tryz.func101.trans (congrArg some (by kernel_rfl))
  f320 := Tryz.func102.trans (congrArg some (by kernel_rfl))
  f337 := Tryz.func124.trans (congrArg some (by kernel_rfl))
  f338 := Tryz.func125.trans (congrArg some (by kernel_rfl))
  t0 := Tryz.underlying0
  a0 := Tryz.isAgg0
  z0 := Tryz.sizeOf0
  v0 := Tryz.zeroValue0
  t2 := Tryz.underlying2
  a2 := Tryz.isAgg2
  z2 := Tryz.sizeOf2
  v2 := Tryz.zeroValue2
  t3 := Tryz.underlying3
  a3 := Tryz.isAgg3
  z3 := Tryz.sizeOf3
  v3 := Tryz.zeroValue3
  t4 := Tryz.underlying4
  a4 := Tryz.isAgg4
  z4 := Tryz.sizeOf4
  v4 := Tryz.zeroValue4
  t5 := Tryz.underlying5
  a5 := Tryz.isAgg5
  z5 := Tryz.sizeOf5
  v5 := Tryz.zeroValue5
  t9 := Tryz.underlying9
  a9 := Tryz.isAgg9
  z9 := Tryz.sizeOf9
  v9 := Tryz.zeroValue9
  t20 := Tryz.underlying20
  a20 := Tryz.isAgg20
  z20 := Tryz.sizeOf20
  v20 := Tryz.zeroValue20
  t37 := Tryz.underlying50
  a37 := Tryz.isAgg50
  z37 := Tryz.sizeOf50
  v37 := Tryz.zeroValue50
  t46 := Tryz.underlying199
  a46 := Tryz.isAgg199
  z46 := Tryz.sizeOf199
  v46 := Tryz.zeroValue199
  t51 := Tryz.underlying197
  a51 := Tryz.isAgg197
  z51 := Tryz.sizeOf197
  v51 := Tryz.zeroValue197
  t53 := Tryz.underlying138
  a53 := Tryz.isAgg138
  z53 := Tryz.sizeOf138
  v53 := Tryz.zeroValue138
  t171 := Tryz.underlying137
  a171 := Tryz.isAgg137
  z171 := Tryz.sizeOf137
  v171 := Tryz.zeroValue137
  t173 := Tryz.underlying141
  a173 := Tryz.isAgg141
  z173 := Tryz.sizeOf141
  v173 := Tryz.zeroValue141
  t212 := Tryz.underlying196
  a212 := Tryz.isAgg196
  z212 := Tryz.sizeOf196
  v212 := Tryz.zeroValue196
  t213 := Tryz.underlying198
  a213 := Tryz.isAgg198
  z213 := Tryz.sizeOf198
  t232 := Tryz.underlying254
  a232 := Tryz.isAgg254
  z232 := Tryz.sizeOf254
  v232 := Tryz.zeroValue254
  t233 := Tryz.underlying255
  a233 := Tryz.isAgg255
  z233 := Tryz.sizeOf255
  v233 := Tryz.zeroValue255
  g17 := by kernel_rfl
  g18 := by kernel_rfl
  g19 := by kernel_rfl
  i0 := by kernel_rfl
  i2 := by kernel_rfl
  i3 := by kernel_rfl
  i4 := by kernel_rfl
  i5 := by kernel_rfl
  i9 := by kernel_rfl
  i20 := by kernel_rfl
  i37 := by kernel_rfl
  i46 := by kernel_rfl
  i51 := by kernel_rfl
  i53 := by kernel_rfl
  i171 := by kernel_rfl
  i173 := by kernel_rfl
  i212 := by kernel_rfl
  i232 := by kernel_rfl
  i233 := by kernel_rfl
  m17 := by kernel_rfl
  m18 := by kernel_rfl
  m19 := by kernel_rfl }
open Go.RowKit Go.Sort Go.Lib in
theorem Tryz.strconv_Itoa (n : Int) (h0 : -9223372036854775808 ≤ n) (h1 : n ≤ 9223372036854775807) (w : World) (htab : Lib.TabIs Tryz.prog w "internal/strconv.uint64pow10" .u64 Lib.pow10Tab) :
    Calls Tryz.prog 34 #[.int .i64 n] w fun e w' => e = .returned (.string ⟨(Lib.itoa n).toArray⟩) ∧ ∃ k os, w' = grow (w.drewN k) os := Any.strconv_Itoa Tryz.laysM171 n h0 h1 w htab
end Go.Proofs
namespace Go.AX
open Go Go.Proofs Go.RowKit
noncomputable section
def itoaL (n : Int) : List Nat := (Lib.itoa n).map UInt8.toNat
def itoaP (args : List AVal) (h : AHeap) : R := match args with
  | [.int .i64 n] => if -9223372036854775808 ≤ n ∧ n ≤ 9223372036854775807 then some (.str (itoaL n), h) else none
  | _ => none
def aliveP (args : List AVal) (h : AHeap) : R := match args with
  | [] => some (.bool true, h)
  | _ => none
section
variable {K : Keep} {W0 : World} {ρ : Ren} {h : AHeap} {w : World}
theorem lay_laid (H : WR Tryz.prog K W0 ρ h w) : Laid w := by
  obtain ⟨hk, e, fz, hC⟩ := H.lay 0 rfl
  rw [← H.keep 0 hk] at hC
  exact ⟨e, fz, hC⟩
theorem gpow : Tryz.prog.globalNamed "internal/strconv.uint64pow10" = some 0 := by kernel_rfl
theorem lay_tab (H : WR Tryz.prog K W0 ρ h w) : Lib.TabIs Tryz.prog w "internal/strconv.uint64pow10" .u64 Lib.pow10Tab := by
  obtain ⟨e, fz, hC⟩ := lay_laid H
  unfold Lib.TabIs World.var?
  rw [gpow]
  simp only [Option.bind_some, hC]
theorem WR.grow {P : Program} [Lay P] (H : WR P K W0 ρ h w) (os : Array Obj) : WR P K W0 ρ h (Sort.grow w os) := by
  obtain ⟨l⟩ := os
  induction l generalizing w with
  | nil => simpa using H
  | cons o l ih =>
    have h1 := ih (H.alloc o)
    have e : Sort.grow { w with heap := w.heap.push o } ⟨l⟩ = Sort.grow w ⟨o :: l⟩ := by
      unfold Sort.grow
      congr 1
      apply Array.ext'
      simp
    rw [e] at h1
    exact h1
end
theorem itoa_ok : PrimOK 34 (.fn itoaP) := by
  intro args h v h' hp
  refine ⟨⟨_, Tryz.func34, by kernel_rfl, by kernel_rfl⟩, fun K W0 ρ w args' hargs H => ?_⟩
  have hp' : itoaP args h = some (v, h') := hp
  unfold itoaP at hp'
  split at hp'
  · rename_i n
    split at hp'
    · rename_i hn
      cases hp'
      rw [one_arg hargs]
      refine (Tryz.strconv_Itoa n hn.1 hn.2 w (lay_tab H)).mono ?_
      rintro e w' ⟨rfl, k, os, rfl⟩
      refine ⟨_, ρ, rfl, Ren.le_refl _, .str ?_, ?_⟩
      · simp [itoaL]
      · have h1 : WR Tryz.prog K W0 ρ h (w.drewN k) := H.drawn _
        exact h1.grow os
    · cases hp'
  · cases hp'
theorem alive_ok : PrimOK 13 (.fn aliveP) := by
  intro args h v h' hp
  refine ⟨⟨_, Tryz.func13, by kernel_rfl, by kernel_rfl⟩, fun K W0 ρ w args' hargs H => ?_⟩
  have hp' : aliveP args h = some (v, h') := hp
  unfold aliveP at hp'
  split at hp'
  · cases hp'
    have ha : args' = #[] := by
      rcases args' with ⟨al⟩
      have h2 : VL ρ [] al := hargs
      cases h2; rfl
    subst ha
    refine (alive_true w (lay_laid H)).mono ?_
    rintro e w' ⟨rfl, hb⟩
    refine ⟨_, ρ, rfl, Ren.le_refl _, .bool true, ?_⟩
    refine ⟨hb.os.trans H.os, hb.tape.trans H.tape, hb.output.trans H.output, Nat.le_trans H.size hb.size, H.klt, fun b hk => ?_, H.fresh, fun n o hn hl => ?_, H.inj, H.nx, H.old, H.gk, H.hid, H.lay⟩
    · rw [hb.block b (Nat.lt_of_lt_of_le (H.klt b hk) H.size)]; exact H.keep b hk
    · obtain ⟨r, hr, hk, ho⟩ := H.obj n o hn hl
      refine ⟨r, hr, hk, ?_⟩
      rw [hb.block _ (H.lt hn hl hr)]
      exact ho
  · cases hp'
def prL2 : List (Nat × Prim) := [(52, .copyCheck 52), (34, .fn itoaP), (13, .fn aliveP)]
def E2 : Env := ⟨prL2.foldl (fun t p => t.set p.1 p.2) .nil, tiT, fnT, eqT, plT⟩
theorem env2 : EnvOK E2 Tryz.prog := envOK rfl rfl rfl
theorem primS2 : PrimS E2 Tryz.prog := by
  refine primS_of (L := prL2) rfl fun f p hfp => ?_
  simp only [prL2, List.mem_cons, List.not_mem_nil, or_false, Prod.mk.injEq] at hfp
  rcases hfp with ⟨rfl, rfl⟩ | ⟨rfl, rfl⟩ | ⟨rfl, rfl⟩
  · exact fun args h v h' hp => copyCheck_prim hp
  · exact itoa_ok
  · exact alive_ok
theorem call2 (lf n : Nat) : CallS Tryz.prog (callN E2 lf n) := callN_sound' env2 (names_of rfl) primS2 lf n
theorem prim2_none {f : FuncId} (h : f ≠ 52 ∧ f ≠ 34 ∧ f ≠ 13) : E2.prim.get f = none := by
  show (((T.nil.set 52 (.copyCheck 52)).set 34 (.fn itoaP)).set 13 (.fn aliveP) : T Prim).get f = none
  rw [T.get_set_ne _ _ (Ne.symm h.2.2), T.get_set_ne _ _ (Ne.symm h.2.1), T.get_set_ne _ _ (Ne.symm h.1), T.get_nil]
theorem itoa_c (n : Int) (h : AHeap) (h0 : -9223372036854775808 ≤ n) (h1 : n ≤ 9223372036854775807) : Ec E2 34 [.int .i64 n] h fun v h' => v = .str (itoaL n) ∧ h' = h := by
  refine Ec.of_prim (p := .fn itoaP) (v := .str (itoaL n)) (h' := h) ?_ ?_ ⟨rfl, rfl⟩
  · show (((T.nil.set 52 (.copyCheck 52)).set 34 (.fn itoaP)).set 13 (.fn aliveP) : T Prim).get 34 = _
    rw [T.get_set_ne _ _ (by omega), T.get_set_same]
  · show itoaP [.int .i64 n] h = _
    unfold itoaP
    simp only
    rw [if_pos ⟨h0, h1⟩]
theorem alive_c (h : AHeap) : Ec E2 13 [] h fun v h' => v = .bool true ∧ h' = h := by
  refine Ec.of_prim (p := .fn aliveP) (v := .bool true) (h' := h) ?_ rfl ⟨rfl, rfl⟩
  show (((T.nil.set 52 (.copyCheck 52)).set 34 (.fn itoaP)).set 13 (.fn aliveP) : T Prim).get 13 = _
  rw [T.get_set_same]
end
end Go.AX

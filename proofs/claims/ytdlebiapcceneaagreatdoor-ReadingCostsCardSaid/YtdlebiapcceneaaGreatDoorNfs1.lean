/-
  strconv.Itoa at this program, and the executor with Itoa and alive taken by their contracts; no further conditions.
-/
import Derived.Shelf.Strconv.Itoa3
import Derived.Shelf.LaysM
import Derived.Test.YtdlebiapcceneaaGreatDoorProg
import Derived.Shelf.Strconv.AtoiAll
import Derived.Shelf.LaysC
import Derived.Test.YtdlebiapcceneaaGreatDoorNfr4
import Derived.Test.YtdlebiapcceneaaGreatDoorNfw1
set_option linter.unusedVariables false
set_option linter.unusedSimpArgs false
set_option linter.unusedSectionVars false
namespace Go.Proofs
open Go.Shelf
def Tryz.laysM171_ren : Go.Shelf.Ren := ⟨fun | 171 => 34 | 243 => 53 | 246 => 64 | 283 => 77 | 284 => 78 | 285 => 79 | 286 => 80 | 129 => 99 | 317 => 98 | 318 => 100 | 319 => 101 | 320 => 102 | 337 => 124 | 338 => 125 | n => n, fun | 3 => 3 | 9 => 9 | 2 => 2 | 4 => 4 | 171 => 137 | 0 => 0 | 53 => 138 | 37 => 50 | 5 => 5 | 173 => 141 | 212 => 196 | 51 => 197 | 20 => 20 | 213 => 198 | 46 => 199 | 232 => 254 | 233 => 255 | n => n, fun | 17 => 0 | 18 => 3 | 19 => 4 | n => n⟩
theorem Tryz.laysM171 : Go.Proofs.LaysM.n171 Tryz.prog Tryz.laysM171_ren := {
  mixed := by kernel_rfl
  f129 := Tryz.func99.trans (congrArg some (by kernel_rfl))
  f171 := Tryz.func34.trans (congrArg some (by kernel_rfl))
  f243 := Tryz.func53.trans (congrArg some (by kernel_rfl))
  f246 := Tryz.func64.trans (congrArg some (by kernel_rfl))
  f283 := Tryz.func77.trans (congrArg some (by kernel_rfl))
  f284 := Tryz.func78.trans (congrArg some (by kernel_rfl))
  f285 := Tryz.func79.trans (congrArg some (by kernel_rfl))
  f286 := Tryz.func80.trans (congrArg some (by kernel_rfl))
  f317 := Tryz.func98.trans (congrArg some (by kernel_rfl))
  f318 := Tryz.func100.trans (congrArg some (by kernel_rfl))
  f319 := Tryz.func101.trans (congrArg some (by kernel_rfl))
  f320 := Tryz.func102.trans (congrArg some (by kernel_rfl))
  f337 := Tryz.func124.trans (congrArg some (by kernel_rfl))
  f338 := Tryz.func125.trans (congrArg some (by kernel_rfl))
  t0 := Tryz.underlying0
  a0 := Tryz.isAgg0
  z0 := Tryz.sizeOf0
  v0 := Tryz.zeroValue0
  t2 := Tryz.underlying2
  a2 := Tryz.isAgg2
  z2 := Tryz.sizeOf2
  v2 := Tryz.zeroValue2
  t3 := Tryz.underlying3
  a3 := Tryz.isAgg3
  z3 := Tryz.sizeOf3
  v3 := Tryz.zeroValue3
  t4 := Tryz.underlying4
  a4 := Tryz.isAgg4
  z4 := Tryz.sizeOf4
  v4 := Tryz.zeroValue4
  t5 := Tryz.underlying5
  a5 := Tryz.isAgg5
  z5 := Tryz.sizeOf5
  v5 := Tryz.zeroValue5
  t9 := Tryz.underlying9
  a9 := Tryz.isAgg9
  z9 := Tryz.sizeOf9
  v9 := Tryz.zeroValue9
  t20 := Tryz.underlying20
  a20 := Tryz.isAgg20
  z20 := Tryz.sizeOf20
  v20 := Tryz.zeroValue20
  t37 := Tryz.underlying50
  a37 := Tryz.isAgg50
  z37 := Tryz.sizeOf50
  v37 := Tryz.zeroValue50
  t46 := Tryz.underlying199
  a46 := Tryz.isAgg199
  z46 := Tryz.sizeOf199
  v46 := Tryz.zeroValue199
  t51 := Tryz.underlying197
  a51 := Tryz.isAgg197
  z51 := Tryz.sizeOf197
  v51 := Tryz.zeroValue197
  t53 := Tryz.underlying138
  a53 := Tryz.isAgg138
  z53 := Tryz.sizeOf138
  v53 := Tryz.zeroValue138
  t171 := Tryz.underlying137
  a171 := Tryz.isAgg137
  z171 := Tryz.sizeOf137
  v171 := Tryz.zeroValue137
  t173 := Tryz.underlying141
  a173 := Tryz.isAgg141
  z173 := Tryz.sizeOf141
  v173 := Tryz.zeroValue141
  t212 := Tryz.underlying196
  a212 := Tryz.isAgg196
  z212 := Tryz.sizeOf196
  v212 := Tryz.zeroValue196
  t213 := Tryz.underlying198
  a213 := Tryz.isAgg198
  z213 := Tryz.sizeOf198
  t232 := Tryz.underlying254
  a232 := Tryz.isAgg254
  z232 := Tryz.sizeOf254
  v232 := Tryz.zeroValue254
  t233 := Tryz.underlying255
  a233 := Tryz.isAgg255
  z233 := Tryz.sizeOf255
  v233 := Tryz.zeroValue255
  g17 := by kernel_rfl
  g18 := by kernel_rfl
  g19 := by kernel_rfl
  i0 := by kernel_rfl
  i2 := by kernel_rfl
  i3 := by kernel_rfl
  i4 := by kernel_rfl
  i5 := by kernel_rfl
  i9 := by kernel_rfl
  i20 := by kernel_rfl
  i37 := by kernel_rfl
  i46 := by kernel_rfl
  i51 := by kernel_rfl
  i53 := by kernel_rfl
  i171 := by kernel_rfl
  i173 := by kernel_rfl
  i212 := by kernel_rfl
  i232 := by kernel_rfl
  i233 := by kernel_rfl
  m17 := by kernel_rfl
  m18 := by kernel_rfl
  m19 := by kernel_rfl }
open Go.RowKit Go.Sort Go.Lib in
theorem Tryz.strconv_Itoa (n : Int) (h0 : -9223372036854775808 ≤ n) (h1 : n ≤ 9223372036854775807) (w : World) (htab : Lib.TabIs Tryz.prog w "internal/strconv.uint64pow10" .u64 Lib.pow10Tab) :
    Calls Tryz.prog 34 #[.int .i64 n] w fun e w' => e = .returned (.string ⟨(Lib.itoa n).toArray⟩) ∧ ∃ k os, w' = grow (w.drewN k) os := Any.strconv_Itoa Tryz.laysM171 n h0 h1 w htab
end Go.Proofs
namespace Go.Proofs
open Go.Shelf
def Tryz.laysC172_ren : Go.Shelf.Ren := ⟨fun | 172 => 73 | 244 => 96 | 245 => 97 | 247 => 119 | 279 => 120 | 280 => 121 | 281 => 122 | 282 => 123 | 287 => 148 | 316 => 149 | 171 => 34 | 205 => 150 | 321 => 168 | 322 => 169 | 243 => 53 | 246 => 64 | 283 => 77 | 284 => 78 | 285 => 79 | 286 => 80 | 129 => 99 | 317 => 98 | 318 => 100 | 319 => 101 | 320 => 102 | 337 => 124 | 338 => 125 | n => n, fun | 9 => 9 | 3 => 3 | 75 => 59 | 76 => 60 | 4 => 4 | 5 => 5 | 167 => 224 | 37 => 50 | 0 => 0 | 85 => 225 | 2 => 2 | 168 => 227 | 53 => 138 | 175 => 248 | 46 => 199 | 210 => 252 | 127 => 97 | 145 => 272 | 143 => 270 | 21 => 21 | 171 => 137 | 173 => 141 | 212 => 196 | 51 => 197 | 20 => 20 | 213 => 198 | 232 => 254 | 233 => 255 | 80 => 64 | n => n, fun | 15 => 1 | 16 => 2 | 17 => 0 | 18 => 3 | 19 => 4 | n => n⟩
theorem Tryz.laysC172 : Go.Proofs.LaysC.n172 Tryz.prog Tryz.laysC172_ren := {
  mixed := by kernel_rfl
  f129 := Tryz.func99.trans (congrArg some (by kernel_rfl))
  f171 := Tryz.func34.trans (congrArg some (by kernel_rfl))
  f172 := Tryz.func73.trans (congrArg some (by kernel_rfl))
  f205 := Tryz.func150.trans (congrArg some (by kernel_rfl))
  f243 := Tryz.func53.trans (congrArg some (by kernel_rfl))
  f244 := Tryz.func96.trans (congrArg some (by kernel_rfl))
  f245 := Tryz.func97.trans (congrArg some (by kernel_rfl))
  f246 := Tryz.func64.trans (congrArg some (by kernel_rfl))
  f247 := Tryz.func119.trans (congrArg some (by kernel_rfl))
  f279 := Tryz.func120.trans (congrArg some (by kernel_rfl))
  f280 := Tryz.func121.trans (congrArg some (by kernel_rfl))
  f281 := Tryz.func122.trans (congrArg some (by kernel_rfl))
  f282 := Tryz.func123.trans (congrArg some (by kernel_rfl))
  f283 := Tryz.func77.trans (congrArg some (by kernel_rfl))
  f284 := Tryz.func78.trans (congrArg some (by kernel_rfl))
  f285 := Tryz.func79.trans (congrArg some (by kernel_rfl))
  f286 := Tryz.func80.trans (congrArg some (by kernel_rfl))
  f287 := Tryz.func148.trans (congrArg some (by kernel_rfl))
  f316 := Tryz.func149.trans (congrArg some (by kernel_rfl))
  f317 := Tryz.func98.trans (congrArg some (by kernel_rfl))
  f318 := Tryz.func100.trans (congrArg some (by kernel_rfl))
  f319 := Tryz.func101.trans (congrArg some (by kernel_rfl))
  f320 := Tryz.func102.trans (congrArg some (by kernel_rfl))
  f321 := Tryz.func168.trans (congrArg some (by kernel_rfl))
  f322 := Tryz.func169.trans (congrArg some (by kernel_rfl))
  f337 := Tryz.func124.trans (congrArg some (by kernel_rfl))
  f338 := Tryz.func125.trans (congrArg some (by kernel_rfl))
  t0 := Tryz.underlying0
  a0 := Tryz.isAgg0
  z0 := Tryz.sizeOf0
  v0 := Tryz.zeroValue0
  t2 := Tryz.underlying2
  a2 := Tryz.isAgg2
  z2 := Tryz.sizeOf2
  v2 := Tryz.zeroValue2
  t3 := Tryz.underlying3
  a3 := Tryz.isAgg3
  z3 := Tryz.sizeOf3
  v3 := Tryz.zeroValue3
  t4 := Tryz.underlying4
  a4 := Tryz.isAgg4
  z4 := Tryz.sizeOf4
  v4 := Tryz.zeroValue4
  t5 := Tryz.underlying5
  a5 := Tryz.isAgg5
  z5 := Tryz.sizeOf5
  v5 := Tryz.zeroValue5
  t9 := Tryz.underlying9
  a9 := Tryz.isAgg9
  z9 := Tryz.sizeOf9
  v9 := Tryz.zeroValue9
  t20 := Tryz.underlying20
  a20 := Tryz.isAgg20
  z20 := Tryz.sizeOf20
  v20 := Tryz.zeroValue20
  t21 := Tryz.underlying21
  a21 := Tryz.isAgg21
  z21 := Tryz.sizeOf21
  v21 := Tryz.zeroValue21
  t37 := Tryz.underlying50
  a37 := Tryz.isAgg50
  z37 := Tryz.sizeOf50
  v37 := Tryz.zeroValue50
  t46 := Tryz.underlying199
  a46 := Tryz.isAgg199
  z46 := Tryz.sizeOf199
  v46 := Tryz.zeroValue199
  t51 := Tryz.underlying197
  a51 := Tryz.isAgg197
  z51 := Tryz.sizeOf197
  v51 := Tryz.zeroValue197
  t53 := Tryz.underlying138
  a53 := Tryz.isAgg138
  z53 := Tryz.sizeOf138
  v53 := Tryz.zeroValue138
  t75 := Tryz.underlying59
  a75 := Tryz.isAgg59
  z75 := Tryz.sizeOf59
  v75 := Tryz.zeroValue59
  t76 := Tryz.underlying60
  a76 := Tryz.isAgg60
  z76 := Tryz.sizeOf60
  v76 := Tryz.zeroValue60
  t85 := Tryz.underlying225
  a85 := Tryz.isAgg225
  z85 := Tryz.sizeOf225
  v85 := Tryz.zeroValue225
  t127 := Tryz.underlying97
  a127 := Tryz.isAgg97
  z127 := Tryz.sizeOf97
  v127 := Tryz.zeroValue97
  t143 := Tryz.underlying270
  a143 := Tryz.isAgg270
  z143 := Tryz.sizeOf270
  v143 := Tryz.zeroValue270
  t145 := Tryz.underlying272
  a145 := Tryz.isAgg272
  z145 := Tryz.sizeOf272
  v145 := Tryz.zeroValue272
  t167 := Tryz.underlying224
  a167 := Tryz.isAgg224
  z167 := Tryz.sizeOf224
  v167 := Tryz.zeroValue224
  t168 := Tryz.underlying227
  a168 := Tryz.isAgg227
  z168 := Tryz.sizeOf227
  v168 := Tryz.zeroValue227
  t171 := Tryz.underlying137
  a171 := Tryz.isAgg137
  z171 := Tryz.sizeOf137
  v171 := Tryz.zeroValue137
  t173 := Tryz.underlying141
  a173 := Tryz.isAgg141
  z173 := Tryz.sizeOf141
  v173 := Tryz.zeroValue141
  t175 := Tryz.underlying248
  a175 := Tryz.isAgg248
  z175 := Tryz.sizeOf248
  v175 := Tryz.zeroValue248
  t210 := Tryz.underlying252
  a210 := Tryz.isAgg252
  z210 := Tryz.sizeOf252
  v210 := Tryz.zeroValue252
  t212 := Tryz.underlying196
  a212 := Tryz.isAgg196
  z212 := Tryz.sizeOf196
  v212 := Tryz.zeroValue196
  t213 := Tryz.underlying198
  a213 := Tryz.isAgg198
  z213 := Tryz.sizeOf198
  t232 := Tryz.underlying254
  a232 := Tryz.isAgg254
  z232 := Tryz.sizeOf254
  v232 := Tryz.zeroValue254
  t233 := Tryz.underlying255
  a233 := Tryz.isAgg255
  z233 := Tryz.sizeOf255
  v233 := Tryz.zeroValue255
  g15 := by kernel_rfl
  g16 := by kernel_rfl
  g17 := by kernel_rfl
  g18 := by kernel_rfl
  g19 := by kernel_rfl
  t80 := Tryz.underlying64
  a80 := Tryz.isAgg64
  z80 := Tryz.sizeOf64
  v80 := Tryz.zeroValue64
  i0 := by kernel_rfl
  i2 := by kernel_rfl
  i3 := by kernel_rfl
  i4 := by kernel_rfl
  i5 := by kernel_rfl
  i9 := by kernel_rfl
  i20 := by kernel_rfl
  i21 := by kernel_rfl
  i37 := by kernel_rfl
  i46 := by kernel_rfl
  i51 := by kernel_rfl
  i53 := by kernel_rfl
  i75 := by kernel_rfl
  i76 := by kernel_rfl
  i80 := by kernel_rfl
  i85 := by kernel_rfl
  i127 := by kernel_rfl
  i143 := by kernel_rfl
  i145 := by kernel_rfl
  i167 := by kernel_rfl
  i168 := by kernel_rfl
  i171 := by kernel_rfl
  i173 := by kernel_rfl
  i175 := by kernel_rfl
  i210 := by kernel_rfl
  i212 := by kernel_rfl
  i232 := by kernel_rfl
  i233 := by kernel_rfl
  m15 := by kernel_rfl
  m16 := by kernel_rfl
  m17 := by kernel_rfl
  m18 := by kernel_rfl
  m19 := by kernel_rfl
  c0 := by kernel_rfl
  c2 := by kernel_rfl
  c3 := by kernel_rfl
  c4 := by kernel_rfl
  c5 := by kernel_rfl
  c9 := by kernel_rfl
  c20 := by kernel_rfl
  c21 := by kernel_rfl
  c37 := by kernel_rfl
  c46 := by kernel_rfl
  c51 := by kernel_rfl
  c53 := by kernel_rfl
  c75 := by kernel_rfl
  c76 := by kernel_rfl
  c80 := by kernel_rfl
  c85 := by kernel_rfl
  c127 := by kernel_rfl
  c143 := by kernel_rfl
  c145 := by kernel_rfl
  c167 := by kernel_rfl
  c168 := by kernel_rfl
  c171 := by kernel_rfl
  c173 := by kernel_rfl
  c175 := by kernel_rfl
  c210 := by kernel_rfl
  c212 := by kernel_rfl
  c213 := by kernel_rfl
  c232 := by kernel_rfl
  c233 := by kernel_rfl }
open Go.RowKit in
theorem Tryz.strconv_Atoi_ok (s : ByteArray) (hmax : s.size ≤ 9223372036854775806) (v : Int) (h : Lib.atoiAll s.data.toList = .ok v) (w : World) :
    Calls Tryz.prog 73 #[.string s] w fun e w' => e = .returned (.tuple #[.int .i64 v, .nilIface]) ∧ (w' = w ∨ ∃ t, w' = Lib.bytesWorld w 5 t) := Any.strconv_Atoi_ok Tryz.laysC172 s hmax v h w
open Go.RowKit in
theorem Tryz.strconv_Atoi_syntax (s : ByteArray) (hlim : s.size ≤ 281474976710656) (h : Lib.atoiAll s.data.toList = .«syntax») (ev : Value) (w : World) (hv : w.cell? ⟨1, 0, none⟩ = some ev) (hev : ev = .nilIface ∨ ∃ te pe, ev = .iface te pe) :
    Calls Tryz.prog 73 #[.string s] w fun e w' => ∃ N, e = .returned (.tuple #[.int .i64 (0), .iface 227 (.pointer (some ⟨N, 0, none⟩))]) ∧ w.heap.size ≤ N ∧ w'.heap[N]? = some (.cells #[.string ⟨#[65, 116, 111, 105]⟩, .string s, ev] 252 (0, 0)) ∧ Below w.heap.size w w' := Any.strconv_Atoi_syntax Tryz.laysC172 s hlim h ev w hv hev
open Go.RowKit in
theorem Tryz.strconv_Atoi_range (s : ByteArray) (hlim : s.size ≤ 281474976710656) (h : Lib.atoiAll s.data.toList = .range) (ev : Value) (w : World) (hv : w.cell? ⟨2, 0, none⟩ = some ev) (hev : ev = .nilIface ∨ ∃ te pe, ev = .iface te pe) :
    Calls Tryz.prog 73 #[.string s] w fun e w' => ∃ N, e = .returned (.tuple #[.int .i64 (Lib.atoiSat s.data.toList), .iface 227 (.pointer (some ⟨N, 0, none⟩))]) ∧ w.heap.size ≤ N ∧ w'.heap[N]? = some (.cells #[.string ⟨#[65, 116, 111, 105]⟩, .string s, ev] 252 (0, 0)) ∧ Below w.heap.size w w' := Any.strconv_Atoi_range Tryz.laysC172 s hlim h ev w hv hev
end Go.Proofs
namespace Go.AX
open Go Go.Proofs Go.RowKit
noncomputable section
def itoaL (n : Int) : List Nat := (Lib.itoa n).map UInt8.toNat
def itoaP (args : List AVal) (h : AHeap) : R := match args with
  | [.int .i64 n] => if -9223372036854775808 ≤ n ∧ n ≤ 9223372036854775807 then some (.str (itoaL n), h) else none
  | _ => none
def aliveP (args : List AVal) (h : AHeap) : R := match args with
  | [] => some (.bool true, h)
  | _ => none
section
variable {K : Keep} {W0 : World} {ρ : Ren} {h : AHeap} {w : World}
theorem lay_laid (H : WR Tryz.prog K W0 ρ h w) : Laid w := by
  obtain ⟨hk, hl, _⟩ := H.lay 0 (Nat.zero_le _)
  obtain ⟨hk1, _, hl1⟩ := H.lay 1 (show 1 ≤ 2 by omega)
  obtain ⟨hk2, _, hl2⟩ := H.lay 2 (Nat.le_refl _)
  obtain ⟨e, fz, hC⟩ := hl rfl
  rw [← H.keep 0 hk] at hC
  obtain ⟨te1, pe1, e1, f1, h1⟩ := hl1 (by omega)
  rw [← H.keep 1 hk1] at h1
  obtain ⟨te2, pe2, e2, f2, h2⟩ := hl2 (by omega)
  rw [← H.keep 2 hk2] at h2
  exact ⟨⟨e, fz, hC⟩, ⟨te1, pe1, e1, f1, h1⟩, ⟨te2, pe2, e2, f2, h2⟩⟩
theorem gpow : Tryz.prog.globalNamed "internal/strconv.uint64pow10" = some 0 := by kernel_rfl
theorem lay_tab (H : WR Tryz.prog K W0 ρ h w) : Lib.TabIs Tryz.prog w "internal/strconv.uint64pow10" .u64 Lib.pow10Tab := by
  obtain ⟨⟨e, fz, hC⟩, _, _⟩ := lay_laid H
  unfold Lib.TabIs World.var?
  rw [gpow]
  simp only [Option.bind_some, hC]
theorem WR.grow {P : Program} [Lay P] (H : WR P K W0 ρ h w) (os : Array Obj) : WR P K W0 ρ h (Sort.grow w os) := by
  obtain ⟨l⟩ := os
  induction l generalizing w with
  | nil => simpa using H
  | cons o l ih =>
    have h1 := ih (H.alloc o)
    have e : Sort.grow { w with heap := w.heap.push o } ⟨l⟩ = Sort.grow w ⟨o :: l⟩ := by
      unfold Sort.grow
      congr 1
      apply Array.ext'
      simp
    rw [e] at h1
    exact h1
end
theorem itoa_ok : PrimOK 34 (.fn itoaP) := by
  intro args h v h' hp
  refine ⟨⟨_, Tryz.func34, by kernel_rfl, by kernel_rfl⟩, fun K W0 ρ w args' hargs H => ?_⟩
  have hp' : itoaP args h = some (v, h') := hp
  unfold itoaP at hp'
  split at hp'
  · rename_i n
    split at hp'
    · rename_i hn
      cases hp'
      rw [one_arg hargs]
      refine (Tryz.strconv_Itoa n hn.1 hn.2 w (lay_tab H)).mono ?_
      rintro e w' ⟨rfl, k, os, rfl⟩
      refine ⟨_, ρ, rfl, Ren.le_refl _, .str ?_, ?_⟩
      · simp [itoaL]
      · have h1 : WR Tryz.prog K W0 ρ h (w.drewN k) := H.drawn _
        exact h1.grow os
    · cases hp'
  · cases hp'
theorem alive_ok : PrimOK 13 (.fn aliveP) := by
  intro args h v h' hp
  refine ⟨⟨_, Tryz.func13, by kernel_rfl, by kernel_rfl⟩, fun K W0 ρ w args' hargs H => ?_⟩
  have hp' : aliveP args h = some (v, h') := hp
  unfold aliveP at hp'
  split at hp'
  · cases hp'
    have ha : args' = #[] := by
      rcases args' with ⟨al⟩
      have h2 : VL ρ [] al := hargs
      cases h2; rfl
    subst ha
    refine (alive_true w (lay_laid H)).mono ?_
    rintro e w' ⟨rfl, hb⟩
    refine ⟨_, ρ, rfl, Ren.le_refl _, .bool true, ?_⟩
    refine ⟨hb.os.trans H.os, hb.tape.trans H.tape, hb.output.trans H.output, Nat.le_trans H.size hb.size, H.klt, fun b hk => ?_, H.fresh, fun n o hn hl => ?_, H.inj, H.nx, H.old, H.gk, H.hid, H.lay⟩
    · rw [hb.block b (Nat.lt_of_lt_of_le (H.klt b hk) H.size)]; exact H.keep b hk
    · obtain ⟨r, hr, hk, ho⟩ := H.obj n o hn hl
      refine ⟨r, hr, hk, ?_⟩
      rw [hb.block _ (H.lt hn hl hr)]
      exact ho
  · cases hp'
def atoiP (args : List AVal) (h : AHeap) : R := match args with
  | [.str l] => if l.length ≤ 1073741824 then (match Lib.atoiAll (l.map Nat.toUInt8) with
    | .ok v => some (.tup [.int .i64 v, .niliface], h)
    | .syntax => some (.tup [.int .i64 0, .iface 227 (.ptr h.next 0)], h.push .dead)
    | .range => some (.tup [.int .i64 (Lib.atoiSat (l.map Nat.toUInt8)), .iface 227 (.ptr h.next 0)], h.push .dead)) else none
  | _ => none
theorem WR.newDead {K : Keep} {W0 : World} {ρ : Ren} {h : AHeap} {w : World} (H : WR Tryz.prog K W0 ρ h w) {N : Nat} {w' : World} (hb : Below w.heap.size w w') (hN : w.heap.size ≤ N) : WR Tryz.prog K W0 (ρ.upd h.next ⟨N, 0, none, al0⟩) (h.push .dead) w' := by
  have H' : WR Tryz.prog K W0 ρ h w' := by
    refine ⟨hb.os.trans H.os, hb.tape.trans H.tape, hb.output.trans H.output, Nat.le_trans H.size hb.size, H.klt, fun b hk => ?_, H.fresh, fun n o hn hl => ?_, H.inj, H.nx, H.old, H.gk, H.hid, H.lay⟩
    · rw [hb.block b (Nat.lt_of_lt_of_le (H.klt b hk) H.size)]; exact H.keep b hk
    · obtain ⟨r, hr, hk, ho⟩ := H.obj n o hn hl
      refine ⟨r, hr, hk, ?_⟩
      rw [hb.block _ (H.lt hn hl hr)]
      exact ho
  have hρ := (H.fresh h.next (Nat.le_refl _)).1
  refine H'.adopt (n := h.next) (o := .dead) (r := ⟨N, 0, none, al0⟩) hρ (AHeap.get_push_same _ _) (fun m hm => AHeap.get_push_ne _ _ (Ne.symm hm)) (by simp [AHeap.next_push]) (by simp [AHeap.next_push]) H.nx (fun hk => ?_) (fun m p s hm hl hs e => ?_) trivial
  · have h1 : N < W0.heap.size := H.klt _ hk
    have := H.size
    omega
  · have := H.lt hm hl hs
    have e2 : s.b = N := e
    omega
theorem WR.below {K : Keep} {W0 : World} {ρ : Ren} {h : AHeap} {w w' : World} (H : WR Tryz.prog K W0 ρ h w) (hb : Below w.heap.size w w') : WR Tryz.prog K W0 ρ h w' := by
  refine ⟨hb.os.trans H.os, hb.tape.trans H.tape, hb.output.trans H.output, Nat.le_trans H.size hb.size, H.klt, fun b hk => ?_, H.fresh, fun n o hn hl => ?_, H.inj, H.nx, H.old, H.gk, H.hid, H.lay⟩
  · rw [hb.block b (Nat.lt_of_lt_of_le (H.klt b hk) H.size)]; exact H.keep b hk
  · obtain ⟨r, hr, hk, ho⟩ := H.obj n o hn hl
    refine ⟨r, hr, hk, ?_⟩
    rw [hb.block _ (H.lt hn hl hr)]
    exact ho
theorem str_arg {ρ : Ren} {l : List Nat} {args' : Array Value} (h : VL ρ [.str l] args'.toList) : ∃ bs : ByteArray, args' = #[.string bs] ∧ bs.data.toList.map UInt8.toNat = l := by
  rcases args' with ⟨al⟩
  have h2 : VL ρ [.str l] al := h
  cases h2 with
  | cons hx hl => cases hl; cases hx; rename_i bs e; exact ⟨bs, rfl, e⟩
theorem atoi_ok : PrimOK 73 (.fn atoiP) := by
  intro args h v h' hp
  refine ⟨⟨_, Tryz.func73, by kernel_rfl, by kernel_rfl⟩, fun K W0 ρ w args' hargs H => ?_⟩
  have hp' : atoiP args h = some (v, h') := hp
  unfold atoiP at hp'
  split at hp'
  · rename_i l
    split at hp'
    · rename_i hl
      obtain ⟨bs, rfl, hbs⟩ := str_arg hargs
      have e1 : l.map Nat.toUInt8 = bs.data.toList := by
        rw [← hbs, List.map_map]
        conv => rhs; rw [← List.map_id bs.data.toList]
        exact List.map_congr_left fun x _ => by simp
      rw [e1] at hp'
      have e2 : bs.size = l.length := by rw [← hbs]; simp
      split at hp'
      · rename_i z hz
        cases hp'
        refine (Tryz.strconv_Atoi_ok bs (by omega) z hz w).mono ?_
        rintro e w' ⟨rfl, hw⟩
        refine ⟨_, ρ, rfl, Ren.le_refl _, .tup (.cons (.int _ _) (.cons .niliface .nil)), ?_⟩
        rcases hw with rfl | ⟨t, rfl⟩
        · exact H
        · exact H.below (Lib.bytesWorld_below _ _ _)
      · rename_i hz
        cases hp'
        obtain ⟨_, ⟨te, pe, e1, f1, h1⟩, _⟩ := lay_laid H
        refine (Tryz.strconv_Atoi_syntax bs (by omega) hz (.iface te pe) w (by unfold World.cell?; rw [h1]; rfl) (.inr ⟨te, pe, rfl⟩)).mono ?_
        rintro e w' ⟨N, rfl, hN, _, hb⟩
        exact ⟨_, ρ.upd h.next ⟨N, 0, none, al0⟩, rfl, Ren.le_upd _ (H.fresh h.next (Nat.le_refl _)).1, .tup (.cons (.int _ _) (.cons (.iface (.ptr (Ren.upd_same _ _ _))) .nil)), H.newDead hb hN⟩
      · rename_i hz
        cases hp'
        obtain ⟨_, _, ⟨te, pe, e1, f1, h1⟩⟩ := lay_laid H
        refine (Tryz.strconv_Atoi_range bs (by omega) hz (.iface te pe) w (by unfold World.cell?; rw [h1]; rfl) (.inr ⟨te, pe, rfl⟩)).mono ?_
        rintro e w' ⟨N, rfl, hN, _, hb⟩
        exact ⟨_, ρ.upd h.next ⟨N, 0, none, al0⟩, rfl, Ren.le_upd _ (H.fresh h.next (Nat.le_refl _)).1, .tup (.cons (.int _ _) (.cons (.iface (.ptr (Ren.upd_same _ _ _))) .nil)), H.newDead hb hN⟩
    · cases hp'
  · cases hp'
def prL2 : List (Nat × Prim) := [(52, .copyCheck 52), (34, .fn itoaP), (13, .fn aliveP), (73, .fn atoiP)]
def E2 : Env := ⟨prL2.foldl (fun t p => t.set p.1 p.2) .nil, tiT, fnT, eqT, plT⟩
theorem env2 : EnvOK E2 Tryz.prog := envOK rfl rfl rfl
theorem primS2 : PrimS E2 Tryz.prog := by
  refine primS_of (L := prL2) rfl fun f p hfp => ?_
  simp only [prL2, List.mem_cons, List.not_mem_nil, or_false, Prod.mk.injEq] at hfp
  rcases hfp with ⟨rfl, rfl⟩ | ⟨rfl, rfl⟩ | ⟨rfl, rfl⟩ | ⟨rfl, rfl⟩
  · exact fun args h v h' hp => copyCheck_prim hp
  · exact itoa_ok
  · exact alive_ok
  · exact atoi_ok
theorem call2 (lf n : Nat) : CallS Tryz.prog (callN E2 lf n) := callN_sound' env2 (names_of rfl) primS2 lf n
theorem prim2_none {f : FuncId} (h : f ≠ 52 ∧ f ≠ 34 ∧ f ≠ 13 ∧ f ≠ 73) : E2.prim.get f = none := by
  show ((((T.nil.set 52 (.copyCheck 52)).set 34 (.fn itoaP)).set 13 (.fn aliveP)).set 73 (.fn atoiP) : T Prim).get f = none
  rw [T.get_set_ne _ _ (Ne.symm h.2.2.2), T.get_set_ne _ _ (Ne.symm h.2.2.1), T.get_set_ne _ _ (Ne.symm h.2.1), T.get_set_ne _ _ (Ne.symm h.1), T.get_nil]
theorem alive_c (h : AHeap) : Ec E2 13 [] h fun v h' => v = .bool true ∧ h' = h := by
  refine Ec.of_prim (p := .fn aliveP) (v := .bool true) (h' := h) ?_ rfl ⟨rfl, rfl⟩
  show ((((T.nil.set 52 (.copyCheck 52)).set 34 (.fn itoaP)).set 13 (.fn aliveP)).set 73 (.fn atoiP) : T Prim).get 13 = _
  rw [T.get_set_ne _ _ (by omega), T.get_set_same]
end
end Go.AX

/-
  Contracts of functions of this seat, for every input that each theorem names.
-/
import Derived.Test.YtdlebiapcceneaaGreatDoorNds1
set_option linter.unusedVariables false
set_option linter.unusedSimpArgs false
set_option linter.unusedSectionVars false
namespace Go.AX
open Go Go.Proofs
noncomputable section
def c3 : CCode :=
 (.seq
  (.region [⟨some 2, none, .mv (.c (.bool false))⟩])
  (.seq
   (.region [⟨some 8, none, .mv (.t 0)⟩, ⟨some 9, none, .call (.c (.func 11 [] [])) [(.t 8)]⟩, ⟨some 7, none, .mv (.t 9)⟩, ⟨some 10, none, .extract 0 (.t 7)⟩, ⟨some 11, none, .extract 1 (.t 7)⟩, ⟨some 3, none, .mv (.t 10)⟩, ⟨some 4, none, .mv (.t 11)⟩])
   (.seq
    (.region [⟨some 13, none, .mv (.t 0)⟩, ⟨some 14, none, .call (.c (.func 12 [] [])) [(.t 13)]⟩, ⟨some 12, none, .mv (.t 14)⟩, ⟨some 15, none, .extract 0 (.t 12)⟩, ⟨some 16, none, .extract 1 (.t 12)⟩, ⟨some 5, none, .mv (.t 15)⟩, ⟨some 6, none, .mv (.t 16)⟩])
    (.seq
     (.region [⟨some 17, none, .call (.c (.func 13 [] [])) []⟩, ⟨some 18, none, .mv (.t 17)⟩, ⟨some 19, some (18, true), .mv (.t 0)⟩, ⟨some 20, some (18, true), .call (.c (.func 14 [] [])) [(.t 19)]⟩, ⟨some 21, some (18, true), .mv (.t 0)⟩, ⟨some 22, some (18, true), .call (.c (.func 15 [] [])) [(.t 21)]⟩, ⟨some 23, some (18, true), .bin .eql .none (.t 20) (.t 22)⟩, ⟨some 24, none, .pick (.t 18) (.t 23) (.c (.bool false))⟩, ⟨some 25, none, .mv (.t 24)⟩, ⟨some 26, some (25, true), .mv (.t 3)⟩, ⟨some 27, some (25, true), .mv (.t 5)⟩, ⟨some 28, some (25, true), .bin .eql .none (.t 26) (.t 27)⟩, ⟨some 29, none, .pick (.t 25) (.t 28) (.c (.bool false))⟩, ⟨some 30, none, .mv (.t 29)⟩, ⟨some 31, some (30, true), .mv (.t 4)⟩, ⟨some 32, some (30, true), .mv (.t 6)⟩, ⟨some 33, some (30, true), .bin .eql .none (.t 31) (.t 32)⟩, ⟨some 34, none, .pick (.t 30) (.t 33) (.c (.bool false))⟩, ⟨some 2, none, .mv (.t 34)⟩])
     .ret))))
def c11_l0 : CCode :=
 (.seq
  (.region [⟨some 52, none, .bin .lss .none (.t 51) (.t 50)⟩])
  (.seq
   (.cond (.t 52)
    .skip
    (.exit 2))
   (.seq
    (.block 3
     (.seq
      (.region [⟨some 53, none, .mv (.t 51)⟩, ⟨some 54, none, .ixSl 2 (.t 49) (.t 51)⟩, ⟨some 55, none, .loadN 2 (.t 54)⟩, ⟨some 9, none, .box 57 (.c (.agg [(.str []), (.int .i64 0)]))⟩, ⟨some 8, none, .mv (.t 53)⟩, ⟨none, none, .store 2 (.t 9) (.t 55)⟩])
      (.seq
       (.seq
        (.region [⟨some 56, none, .mv (.t 8)⟩, ⟨some 57, none, .bin .eql .none (.t 56) (.c (.int .i64 0))⟩])
        (.cond (.t 57)
         (.region [⟨some 58, none, .call (.c (.func 33 [] [])) [(.t 5), (.c (.int .u8 40))]⟩])
         (.region [⟨some 59, none, .call (.c (.func 33 [] [])) [(.t 5), (.c (.int .u8 124))]⟩])))
       (.seq
        (.region [⟨some 60, none, .fAddr 0 (.t 9)⟩, ⟨some 61, none, .load1 (.t 60)⟩, ⟨some 62, none, .call (.c (.func 32 [] [])) [(.t 5), (.t 61)]⟩])
        (.seq
         (.region [⟨some 63, none, .fAddr 1 (.t 9)⟩, ⟨some 64, none, .load1 (.t 63)⟩, ⟨some 65, none, .bin .neq .none (.t 64) (.c (.int .i64 0))⟩])
         (.cond (.t 65)
          (.region [⟨some 66, none, .fAddr 1 (.t 9)⟩, ⟨some 67, none, .load1 (.t 66)⟩, ⟨some 68, none, .call (.c (.func 34 [] [])) [(.t 67)]⟩, ⟨some 69, none, .bin .add .none (.c (.str [58])) (.t 68)⟩, ⟨some 70, none, .call (.c (.func 32 [] [])) [(.t 5), (.t 69)]⟩])
          .skip))))))
    (.region [⟨some 71, none, .bin .add .none (.t 51) (.c (.int .i64 1))⟩, ⟨some 51, none, .mv (.t 71)⟩]))))
def c11_l1 : CCode :=
 (.seq
  (.region [⟨some 18, none, .bin .lss .none (.t 17) (.t 16)⟩])
  (.seq
   (.cond (.t 18)
    .skip
    (.exit 0))
   (.seq
    (.block 1
     (.seq
      (.region [⟨some 19, none, .ixSl 1 (.t 15) (.t 17)⟩, ⟨some 20, none, .loadN 1 (.t 19)⟩, ⟨some 7, none, .box 55 (.c (.agg [.nilslice]))⟩, ⟨none, none, .store 1 (.t 7) (.t 20)⟩])
      (.seq
       (.seq
        (.region [⟨some 21, none, .fAddr 0 (.t 7)⟩, ⟨some 22, none, .load1 (.t 21)⟩, ⟨some 23, none, .len .slice (.t 22)⟩, ⟨some 24, none, .bin .eql .none (.t 23) (.c (.int .i64 1))⟩, ⟨some 25, none, .mv (.t 24)⟩, ⟨some 26, some (25, true), .fAddr 0 (.t 7)⟩, ⟨some 27, some (25, true), .load1 (.t 26)⟩, ⟨some 28, some (25, true), .ixSl 2 (.t 27) (.c (.int .i64 0))⟩, ⟨some 29, some (25, true), .fAddr 0 (.t 28)⟩, ⟨some 30, some (25, true), .load1 (.t 29)⟩, ⟨some 31, some (25, true), .len .str (.t 30)⟩, ⟨some 32, some (25, true), .bin .eql .none (.t 31) (.c (.int .i64 1))⟩, ⟨some 33, none, .pick (.t 25) (.t 32) (.c (.bool false))⟩, ⟨some 34, none, .mv (.t 33)⟩, ⟨some 35, some (34, true), .fAddr 0 (.t 7)⟩, ⟨some 36, some (34, true), .load1 (.t 35)⟩, ⟨some 37, some (34, true), .ixSl 2 (.t 36) (.c (.int .i64 0))⟩, ⟨some 38, some (34, true), .fAddr 1 (.t 37)⟩, ⟨some 39, some (34, true), .load1 (.t 38)⟩, ⟨some 40, some (34, true), .bin .eql .none (.t 39) (.c (.int .i64 0))⟩, ⟨some 41, none, .pick (.t 34) (.t 40) (.c (.bool false))⟩])
        (.cond (.t 41)
         (.seq
          (.region [⟨some 42, none, .fAddr 0 (.t 7)⟩, ⟨some 43, none, .load1 (.t 42)⟩, ⟨some 44, none, .ixSl 2 (.t 43) (.c (.int .i64 0))⟩, ⟨some 45, none, .fAddr 0 (.t 44)⟩, ⟨some 46, none, .load1 (.t 45)⟩, ⟨some 47, none, .call (.c (.func 32 [] [])) [(.t 5), (.t 46)]⟩])
          (.exit 1))
         .skip))
       (.seq
        (.seq
         (.region [⟨some 48, none, .fAddr 0 (.t 7)⟩, ⟨some 49, none, .load1 (.t 48)⟩, ⟨some 50, none, .len .slice (.t 49)⟩, ⟨some 51, none, .mv (.c (.int .i64 0))⟩])
         (.block 2
          (.loop c11_l0)))
        (.region [⟨some 72, none, .call (.c (.func 33 [] [])) [(.t 5), (.c (.int .u8 41))]⟩])))))
    (.region [⟨some 73, none, .bin .add .none (.t 17) (.c (.int .i64 1))⟩, ⟨some 17, none, .mv (.t 73)⟩]))))
def c11 : CCode :=
 (.seq
  (.region [⟨some 2, none, .mv (.c (.str []))⟩, ⟨some 3, none, .mv (.c (.int .i64 0))⟩])
  (.seq
   (.seq
    (.region [⟨some 10, none, .mv (.t 0)⟩, ⟨some 11, none, .call (.c (.func 14 [] [])) [(.t 10)]⟩, ⟨some 4, none, .mv (.t 11)⟩])
    (.seq
     (.region [⟨some 12, none, .mv (.t 4)⟩, ⟨some 13, none, .bin .neq .none (.t 12) (.c (.int .i64 0))⟩])
     (.cond (.t 13)
      (.seq
       (.region [⟨some 14, none, .mv (.t 4)⟩, ⟨some 2, none, .mv (.c (.str []))⟩, ⟨some 3, none, .mv (.t 14)⟩])
       .ret)
      .skip)))
   (.seq
    (.region [⟨some 5, none, .box 52 (.c (.agg [.nilptr, .nilslice]))⟩])
    (.seq
     (.seq
      (.region [⟨some 15, none, .mv (.t 0)⟩, ⟨some 16, none, .len .slice (.t 15)⟩, ⟨some 17, none, .mv (.c (.int .i64 0))⟩])
      (.block 0
       (.loop c11_l1)))
     (.seq
      (.region [⟨some 74, none, .call (.c (.func 35 [] [])) [(.t 5)]⟩, ⟨some 2, none, .mv (.t 74)⟩, ⟨some 3, none, .mv (.c (.int .i64 0))⟩])
      .ret)))))
theorem code11 : E2.code 11 = some (c11, [.tmp 2, .tmp 3]) := by kernel_rfl
def c14_l0 : CCode :=
 (.seq
  (.region [⟨some 11, none, .bin .lss .none (.t 10) (.t 9)⟩])
  (.seq
   (.cond (.t 11)
    .skip
    (.exit 0))
   (.seq
    (.block 1
     (.seq
      (.region [⟨some 12, none, .ixSl 1 (.t 8) (.t 10)⟩, ⟨some 13, none, .loadN 1 (.t 12)⟩, ⟨some 4, none, .box 55 (.c (.agg [.nilslice]))⟩, ⟨none, none, .store 1 (.t 4) (.t 13)⟩])
      (.seq
       (.region [⟨some 14, none, .loadN 1 (.t 4)⟩, ⟨some 15, none, .call (.c (.func 40 [] [])) [(.t 14)]⟩, ⟨some 16, none, .not (.t 15)⟩])
       (.cond (.t 16)
        (.seq
         (.region [⟨some 2, none, .mv (.c (.int .i64 1))⟩])
         .ret)
        .skip))))
    (.region [⟨some 17, none, .bin .add .none (.t 10) (.c (.int .i64 1))⟩, ⟨some 10, none, .mv (.t 17)⟩]))))
def c14 : CCode :=
 (.seq
  (.region [⟨some 2, none, .mv (.c (.int .i64 0))⟩])
  (.seq
   (.seq
    (.region [⟨some 5, none, .mv (.t 0)⟩, ⟨some 6, none, .len .slice (.t 5)⟩, ⟨some 7, none, .bin .gtr .none (.t 6) (.c (.int .i64 32))⟩])
    (.cond (.t 7)
     (.seq
      (.region [⟨some 2, none, .mv (.c (.int .i64 2))⟩])
      .ret)
     .skip))
   (.seq
    (.seq
     (.region [⟨some 8, none, .mv (.t 0)⟩, ⟨some 9, none, .len .slice (.t 8)⟩, ⟨some 10, none, .mv (.c (.int .i64 0))⟩])
     (.block 0
      (.loop c14_l0)))
    (.seq
     (.region [⟨some 2, none, .mv (.c (.int .i64 0))⟩])
     .ret))))
theorem code14 : E2.code 14 = some (c14, [.tmp 2]) := by kernel_rfl
def c23 : CCode :=
 (.seq
  (.region [⟨some 2, none, .mv (.c (.bool false))⟩])
  (.seq
   (.region [⟨some 3, none, .mv (.t 0)⟩, ⟨some 4, none, .bin .geq .none (.t 3) (.c (.int .u8 97))⟩, ⟨some 5, none, .mv (.t 4)⟩, ⟨some 6, some (5, true), .mv (.t 0)⟩, ⟨some 7, some (5, true), .bin .leq .none (.t 6) (.c (.int .u8 122))⟩, ⟨some 8, none, .pick (.t 5) (.t 7) (.c (.bool false))⟩, ⟨some 9, none, .mv (.t 8)⟩, ⟨some 10, some (9, false), .mv (.t 0)⟩, ⟨some 11, some (9, false), .bin .geq .none (.t 10) (.c (.int .u8 48))⟩, ⟨some 12, some (9, false), .mv (.t 11)⟩, ⟨some 13, some (12, true), .mv (.t 0)⟩, ⟨some 14, some (12, true), .bin .leq .none (.t 13) (.c (.int .u8 57))⟩, ⟨some 15, some (9, false), .pick (.t 12) (.t 14) (.c (.bool false))⟩, ⟨some 16, none, .pick (.t 9) (.c (.bool true)) (.t 15)⟩, ⟨some 17, none, .mv (.t 16)⟩, ⟨some 18, some (17, false), .mv (.t 0)⟩, ⟨some 19, some (17, false), .bin .eql .none (.t 18) (.c (.int .u8 32))⟩, ⟨some 20, none, .pick (.t 17) (.c (.bool true)) (.t 19)⟩, ⟨some 21, none, .mv (.t 20)⟩, ⟨some 22, some (21, false), .mv (.t 0)⟩, ⟨some 23, some (21, false), .bin .eql .none (.t 22) (.c (.int .u8 45))⟩, ⟨some 24, none, .pick (.t 21) (.c (.bool true)) (.t 23)⟩, ⟨some 2, none, .mv (.t 24)⟩])
   .ret))
theorem code23 : E2.code 23 = some (c23, [.tmp 2]) := by kernel_rfl
def c32 : CCode :=
 (.seq
  (.region [⟨some 4, none, .mv (.c (.int .i64 0))⟩, ⟨some 5, none, .mv (.c .niliface)⟩])
  (.seq
   (.region [⟨some 6, none, .mv (.t 0)⟩, ⟨some 7, none, .call (.c (.func 52 [] [])) [(.t 6)]⟩])
   (.seq
    (.region [⟨some 8, none, .mv (.t 0)⟩, ⟨some 9, none, .mv (.t 0)⟩, ⟨some 10, none, .nilCheck (.t 9)⟩, ⟨some 11, none, .fAddr 1 (.t 10)⟩, ⟨some 12, none, .load1 (.t 11)⟩, ⟨some 13, none, .mv (.t 1)⟩, ⟨some 14, none, .append 5 1 (.t 12) (.t 13)⟩, ⟨some 15, none, .nilCheck (.t 8)⟩, ⟨some 16, none, .fAddr 1 (.t 15)⟩, ⟨none, none, .store 1 (.t 16) (.t 14)⟩])
    (.seq
     (.region [⟨some 17, none, .mv (.t 1)⟩, ⟨some 18, none, .len .str (.t 17)⟩, ⟨some 4, none, .mv (.t 18)⟩, ⟨some 5, none, .mv (.c .niliface)⟩])
     .ret))))
theorem code32 : E2.code 32 = some (c32, [.tmp 4, .tmp 5]) := by kernel_rfl
def c33 : CCode :=
 (.seq
  (.region [⟨some 4, none, .mv (.c .niliface)⟩])
  (.seq
   (.region [⟨some 5, none, .mv (.t 0)⟩, ⟨some 6, none, .call (.c (.func 52 [] [])) [(.t 5)]⟩])
   (.seq
    (.region [⟨some 7, none, .mv (.t 0)⟩, ⟨some 8, none, .mv (.t 0)⟩, ⟨some 9, none, .nilCheck (.t 8)⟩, ⟨some 10, none, .fAddr 1 (.t 9)⟩, ⟨some 11, none, .load1 (.t 10)⟩, ⟨some 12, none, .mv (.t 1)⟩, ⟨some 13, none, .buildSlice 5 1 [(.int .u8 0)] [(0, 1, (.t 12))]⟩, ⟨some 14, none, .append 5 1 (.t 11) (.t 13)⟩, ⟨some 15, none, .nilCheck (.t 7)⟩, ⟨some 16, none, .fAddr 1 (.t 15)⟩, ⟨none, none, .store 1 (.t 16) (.t 14)⟩])
    (.seq
     (.region [⟨some 4, none, .mv (.c .niliface)⟩])
     .ret))))
theorem code33 : E2.code 33 = some (c33, [.tmp 4]) := by kernel_rfl
def c35 : CCode :=
 (.seq
  (.region [⟨some 2, none, .mv (.c (.str []))⟩])
  (.seq
   (.drawn 12 [⟨⟨some 3, none, .mv (.t 0)⟩, 0, .pure, []⟩, ⟨⟨some 4, none, .nilCheck (.t 3)⟩, 1, .pure, []⟩, ⟨⟨some 5, none, .fAddr 1 (.t 4)⟩, 2, .pure, []⟩, ⟨⟨some 6, none, .load1 (.t 5)⟩, 3, .read, []⟩, ⟨⟨some 8, none, .mv (.t 0)⟩, 5, .pure, []⟩, ⟨⟨some 9, none, .nilCheck (.t 8)⟩, 6, .pure, []⟩, ⟨⟨some 10, none, .fAddr 1 (.t 9)⟩, 7, .pure, []⟩, ⟨⟨some 11, none, .load1 (.t 10)⟩, 8, .read, []⟩, ⟨⟨some 12, none, .len .slice (.t 11)⟩, 9, .pure, []⟩, ⟨⟨some 7, none, .sliceData (.t 6)⟩, 4, .pure, []⟩, ⟨⟨some 13, none, .unsafeStr 5 (.t 7) (.t 12)⟩, 10, .wr, []⟩, ⟨⟨some 2, none, .mv (.t 13)⟩, 11, .pure, []⟩])
   .ret))
theorem code35 : E2.code 35 = some (c35, [.tmp 2]) := by kernel_rfl
def c40_l0 : CCode :=
 (.seq
  (.region [⟨some 21, none, .bin .lss .none (.t 20) (.t 19)⟩])
  (.seq
   (.cond (.t 21)
    .skip
    (.exit 0))
   (.seq
    (.block 1
     (.seq
      (.region [⟨some 22, none, .ixSl 2 (.t 18) (.t 20)⟩, ⟨some 23, none, .loadN 2 (.t 22)⟩, ⟨some 5, none, .box 57 (.c (.agg [(.str []), (.int .i64 0)]))⟩, ⟨none, none, .store 2 (.t 5) (.t 23)⟩])
      (.seq
       (.seq
        (.region [⟨some 24, none, .fAddr 0 (.t 5)⟩, ⟨some 25, none, .load1 (.t 24)⟩, ⟨some 26, none, .len .str (.t 25)⟩, ⟨some 27, none, .bin .gtr .none (.t 26) (.c (.int .i64 3))⟩, ⟨some 28, none, .mv (.t 27)⟩, ⟨some 29, some (28, false), .fAddr 0 (.t 5)⟩, ⟨some 30, some (28, false), .load1 (.t 29)⟩, ⟨some 31, some (28, false), .call (.c (.func 49 [] [])) [(.t 30)]⟩, ⟨some 32, some (28, false), .not (.t 31)⟩, ⟨some 33, none, .pick (.t 28) (.c (.bool true)) (.t 32)⟩, ⟨some 34, none, .mv (.t 33)⟩, ⟨some 35, some (34, false), .fAddr 1 (.t 5)⟩, ⟨some 36, some (34, false), .load1 (.t 35)⟩, ⟨some 37, some (34, false), .bin .lss .none (.t 36) (.c (.int .i64 0))⟩, ⟨some 38, none, .pick (.t 34) (.c (.bool true)) (.t 37)⟩, ⟨some 39, none, .mv (.t 38)⟩, ⟨some 40, some (39, false), .fAddr 1 (.t 5)⟩, ⟨some 41, some (39, false), .load1 (.t 40)⟩, ⟨some 42, some (39, false), .bin .gtr .none (.t 41) (.c (.int .i64 1000))⟩, ⟨some 43, none, .pick (.t 39) (.c (.bool true)) (.t 42)⟩, ⟨some 44, none, .mv (.t 43)⟩, ⟨some 45, some (44, false), .mv (.t 3)⟩, ⟨some 46, some (44, false), .fAddr 0 (.t 5)⟩, ⟨some 47, some (44, false), .load1 (.t 46)⟩, ⟨some 48, some (44, false), .lookup (.one .s) (.bool false) (.t 45) (.t 47) false⟩, ⟨some 49, none, .pick (.t 44) (.c (.bool true)) (.t 48)⟩])
        (.cond (.t 49)
         (.seq
          (.region [⟨some 2, none, .mv (.c (.bool false))⟩])
          .ret)
         .skip))
       (.region [⟨some 50, none, .mv (.t 3)⟩, ⟨some 51, none, .fAddr 0 (.t 5)⟩, ⟨some 52, none, .load1 (.t 51)⟩, ⟨none, none, .mapPut (.one .s) (.t 50) (.t 52) (.c (.bool true))⟩]))))
    (.region [⟨some 53, none, .bin .add .none (.t 20) (.c (.int .i64 1))⟩, ⟨some 20, none, .mv (.t 53)⟩]))))
def c40 : CCode :=
 (.seq
  (.region [⟨some 1, none, .box 55 (.t 0)⟩, ⟨some 2, none, .mv (.c (.bool false))⟩])
  (.seq
   (.seq
    (.region [⟨some 6, none, .fAddr 0 (.t 1)⟩, ⟨some 7, none, .load1 (.t 6)⟩, ⟨some 8, none, .len .slice (.t 7)⟩, ⟨some 9, none, .bin .lss .none (.t 8) (.c (.int .i64 1))⟩, ⟨some 10, none, .mv (.t 9)⟩, ⟨some 11, some (10, false), .fAddr 0 (.t 1)⟩, ⟨some 12, some (10, false), .load1 (.t 11)⟩, ⟨some 13, some (10, false), .len .slice (.t 12)⟩, ⟨some 14, some (10, false), .bin .gtr .none (.t 13) (.c (.int .i64 8))⟩, ⟨some 15, none, .pick (.t 10) (.c (.bool true)) (.t 14)⟩])
    (.cond (.t 15)
     (.seq
      (.region [⟨some 2, none, .mv (.c (.bool false))⟩])
      .ret)
     .skip))
   (.seq
    (.region [⟨some 16, none, .mkMap⟩, ⟨some 3, none, .mv (.t 16)⟩])
    (.seq
     (.seq
      (.region [⟨some 17, none, .fAddr 0 (.t 1)⟩, ⟨some 18, none, .load1 (.t 17)⟩, ⟨some 19, none, .len .slice (.t 18)⟩, ⟨some 20, none, .mv (.c (.int .i64 0))⟩])
      (.block 0
       (.loop c40_l0)))
     (.seq
      (.region [⟨some 2, none, .mv (.c (.bool true))⟩])
      .ret)))))
theorem code40 : E2.code 40 = some (c40, [.tmp 2]) := by kernel_rfl
def c46_l0 : CCode :=
 (.seq
  (.seq
   (.region [⟨some 4, none, .mv (.t 3)⟩, ⟨some 5, none, .bin .lss .none (.t 4) (.c (.int .i64 38))⟩])
   (.cond (.t 5)
    .skip
    (.exit 0)))
  (.seq
   (.block 1
    (.seq
     (.region [⟨some 8, none, .mv (.t 3)⟩, ⟨some 9, none, .ixStr (.c (.str [32, 45, 48, 49, 50, 51, 52, 53, 54, 55, 56, 57, 97, 98, 99, 100, 101, 102, 103, 104, 105, 106, 107, 108, 109, 110, 111, 112, 113, 114, 115, 116, 117, 118, 119, 120, 121, 122])) (.t 8)⟩, ⟨some 10, none, .mv (.t 0)⟩, ⟨some 11, none, .bin .eql .none (.t 9) (.t 10)⟩])
     (.cond (.t 11)
      (.seq
       (.region [⟨some 12, none, .mv (.t 3)⟩, ⟨some 2, none, .mv (.t 12)⟩])
       .ret)
      .skip)))
   (.region [⟨some 6, none, .mv (.t 3)⟩, ⟨some 7, none, .bin .add .none (.t 6) (.c (.int .i64 1))⟩, ⟨some 3, none, .mv (.t 7)⟩])))
def c46 : CCode :=
 (.seq
  (.region [⟨some 2, none, .mv (.c (.int .i64 0))⟩])
  (.seq
   (.seq
    (.region [⟨some 3, none, .mv (.c (.int .i64 0))⟩])
    (.block 0
     (.loop c46_l0)))
   (.seq
    (.region [⟨some 2, none, .mv (.c (.int .i64 (-1)))⟩])
    .ret)))
def c49_l0 : CCode :=
 (.seq
  (.region [⟨some 7, none, .bin .lss .none (.t 6) (.t 5)⟩])
  (.seq
   (.cond (.t 7)
    .skip
    (.exit 0))
   (.seq
    (.block 1
     (.seq
      (.region [⟨some 8, none, .mv (.t 6)⟩, ⟨some 3, none, .mv (.t 8)⟩])
      (.seq
       (.region [⟨some 9, none, .mv (.t 0)⟩, ⟨some 10, none, .mv (.t 3)⟩, ⟨some 11, none, .ixStr (.t 9) (.t 10)⟩, ⟨some 12, none, .call (.c (.func 23 [] [])) [(.t 11)]⟩, ⟨some 13, none, .not (.t 12)⟩])
       (.cond (.t 13)
        (.seq
         (.region [⟨some 2, none, .mv (.c (.bool false))⟩])
         .ret)
        .skip))))
    (.region [⟨some 14, none, .bin .add .none (.t 6) (.c (.int .i64 1))⟩, ⟨some 6, none, .mv (.t 14)⟩]))))
def c49 : CCode :=
 (.seq
  (.region [⟨some 2, none, .mv (.c (.bool false))⟩])
  (.seq
   (.seq
    (.region [⟨some 4, none, .mv (.t 0)⟩, ⟨some 5, none, .len .str (.t 4)⟩, ⟨some 6, none, .mv (.c (.int .i64 0))⟩])
    (.block 0
     (.loop c49_l0)))
   (.seq
    (.region [⟨some 2, none, .mv (.c (.bool true))⟩])
    .ret)))
theorem code49 : E2.code 49 = some (c49, [.tmp 2]) := by kernel_rfl
end
end Go.AX
namespace Go.AX
open Go Go.Proofs
noncomputable section
def c18_l0 : CCode :=
 (.seq
  (.seq
   (.region [⟨some 31, none, .mv (.t 6)⟩, ⟨some 32, none, .mv (.t 0)⟩, ⟨some 33, none, .mv (.t 5)⟩, ⟨some 34, none, .ixSl 1 (.t 32) (.t 33)⟩, ⟨some 35, none, .fAddr 0 (.t 34)⟩, ⟨some 36, none, .load1 (.t 35)⟩, ⟨some 37, none, .len .slice (.t 36)⟩, ⟨some 38, none, .bin .lss .none (.t 31) (.t 37)⟩])
   (.cond (.t 38)
    .skip
    (.exit 2)))
  (.seq
   (.block 3
    (.seq
     (.drawn 17 [⟨⟨some 41, none, .mv (.t 0)⟩, 0, .pure, []⟩, ⟨⟨some 42, none, .mv (.t 5)⟩, 1, .pure, []⟩, ⟨⟨some 43, none, .ixSl 1 (.t 41) (.t 42)⟩, 2, .pure, []⟩, ⟨⟨some 44, none, .fAddr 0 (.t 43)⟩, 3, .pure, []⟩, ⟨⟨some 45, none, .load1 (.t 44)⟩, 4, .read, []⟩, ⟨⟨some 46, none, .mv (.t 6)⟩, 5, .pure, []⟩, ⟨⟨some 47, none, .ixSl 2 (.t 45) (.t 46)⟩, 6, .pure, []⟩, ⟨⟨some 48, none, .loadN 2 (.t 47)⟩, 7, .read, []⟩, ⟨⟨some 49, none, .mv (.t 1)⟩, 8, .pure, []⟩, ⟨⟨some 50, none, .mv (.t 5)⟩, 9, .pure, []⟩, ⟨⟨some 51, none, .ixSl 1 (.t 49) (.t 50)⟩, 10, .pure, []⟩, ⟨⟨some 52, none, .fAddr 0 (.t 51)⟩, 11, .pure, []⟩, ⟨⟨some 53, none, .load1 (.t 52)⟩, 12, .read, []⟩, ⟨⟨some 54, none, .mv (.t 6)⟩, 13, .pure, []⟩, ⟨⟨some 55, none, .ixSl 2 (.t 53) (.t 54)⟩, 14, .pure, []⟩, ⟨⟨some 56, none, .loadN 2 (.t 55)⟩, 15, .read, []⟩, ⟨⟨some 57, none, .bin .neq (.agg [(0, .s), (1, .i)]) (.t 48) (.t 56)⟩, 16, .pure, []⟩])
     (.cond (.t 57)
      (.seq
       (.region [⟨some 4, none, .mv (.c (.bool false))⟩])
       .ret)
      .skip)))
   (.region [⟨some 39, none, .mv (.t 6)⟩, ⟨some 40, none, .bin .add .none (.t 39) (.c (.int .i64 1))⟩, ⟨some 6, none, .mv (.t 40)⟩])))
def c18_l1 : CCode :=
 (.seq
  (.seq
   (.region [⟨some 12, none, .mv (.t 5)⟩, ⟨some 13, none, .mv (.t 0)⟩, ⟨some 14, none, .len .slice (.t 13)⟩, ⟨some 15, none, .bin .lss .none (.t 12) (.t 14)⟩])
   (.cond (.t 15)
    .skip
    (.exit 0)))
  (.seq
   (.block 1
    (.seq
     (.seq
      (.drawn 13 [⟨⟨some 18, none, .mv (.t 0)⟩, 0, .pure, []⟩, ⟨⟨some 19, none, .mv (.t 5)⟩, 1, .pure, []⟩, ⟨⟨some 20, none, .ixSl 1 (.t 18) (.t 19)⟩, 2, .pure, []⟩, ⟨⟨some 21, none, .fAddr 0 (.t 20)⟩, 3, .pure, []⟩, ⟨⟨some 22, none, .load1 (.t 21)⟩, 4, .read, []⟩, ⟨⟨some 23, none, .len .slice (.t 22)⟩, 5, .pure, []⟩, ⟨⟨some 24, none, .mv (.t 1)⟩, 6, .pure, []⟩, ⟨⟨some 25, none, .mv (.t 5)⟩, 7, .pure, []⟩, ⟨⟨some 26, none, .ixSl 1 (.t 24) (.t 25)⟩, 8, .pure, []⟩, ⟨⟨some 27, none, .fAddr 0 (.t 26)⟩, 9, .pure, []⟩, ⟨⟨some 28, none, .load1 (.t 27)⟩, 10, .read, []⟩, ⟨⟨some 29, none, .len .slice (.t 28)⟩, 11, .pure, []⟩, ⟨⟨some 30, none, .bin .neq .none (.t 23) (.t 29)⟩, 12, .pure, []⟩])
      (.cond (.t 30)
       (.seq
        (.region [⟨some 4, none, .mv (.c (.bool false))⟩])
        .ret)
       .skip))
     (.seq
      (.region [⟨some 6, none, .mv (.c (.int .i64 0))⟩])
      (.block 2
       (.loop c18_l0)))))
   (.region [⟨some 16, none, .mv (.t 5)⟩, ⟨some 17, none, .bin .add .none (.t 16) (.c (.int .i64 1))⟩, ⟨some 5, none, .mv (.t 17)⟩])))
def c18 : CCode :=
 (.seq
  (.region [⟨some 4, none, .mv (.c (.bool false))⟩])
  (.seq
   (.seq
    (.region [⟨some 7, none, .mv (.t 0)⟩, ⟨some 8, none, .len .slice (.t 7)⟩, ⟨some 9, none, .mv (.t 1)⟩, ⟨some 10, none, .len .slice (.t 9)⟩, ⟨some 11, none, .bin .neq .none (.t 8) (.t 10)⟩])
    (.cond (.t 11)
     (.seq
      (.region [⟨some 4, none, .mv (.c (.bool false))⟩])
      .ret)
     .skip))
   (.seq
    (.seq
     (.region [⟨some 5, none, .mv (.c (.int .i64 0))⟩])
     (.block 0
      (.loop c18_l1)))
    (.seq
     (.region [⟨some 4, none, .mv (.c (.bool true))⟩])
     .ret))))
theorem code18 : E2.code 18 = some (c18, [.tmp 4]) := by kernel_rfl
def c51_l0 : CCode :=
 (.seq
  (.seq
   (.region [⟨some 6, none, .mv (.t 5)⟩, ⟨some 7, none, .fAddr 0 (.t 2)⟩, ⟨some 8, none, .load1 (.t 7)⟩, ⟨some 9, none, .len .slice (.t 8)⟩, ⟨some 10, none, .bin .lss .none (.t 6) (.t 9)⟩])
   (.cond (.t 10)
    .skip
    (.exit 0)))
  (.seq
   (.block 1
    (.seq
     (.region [⟨some 13, none, .fAddr 0 (.t 2)⟩, ⟨some 14, none, .load1 (.t 13)⟩, ⟨some 15, none, .mv (.t 5)⟩, ⟨some 16, none, .ixSl 2 (.t 14) (.t 15)⟩, ⟨some 17, none, .fAddr 0 (.t 16)⟩, ⟨some 18, none, .load1 (.t 17)⟩, ⟨some 19, none, .mv (.t 1)⟩, ⟨some 20, none, .bin .eql .none (.t 18) (.t 19)⟩])
     (.cond (.t 20)
      (.seq
       (.region [⟨some 21, none, .fAddr 0 (.t 2)⟩, ⟨some 22, none, .load1 (.t 21)⟩, ⟨some 23, none, .mv (.t 5)⟩, ⟨some 24, none, .ixSl 2 (.t 22) (.t 23)⟩, ⟨some 25, none, .fAddr 1 (.t 24)⟩, ⟨some 26, none, .load1 (.t 25)⟩, ⟨some 4, none, .mv (.t 26)⟩])
       .ret)
      .skip)))
   (.region [⟨some 11, none, .mv (.t 5)⟩, ⟨some 12, none, .bin .add .none (.t 11) (.c (.int .i64 1))⟩, ⟨some 5, none, .mv (.t 12)⟩])))
def c51 : CCode :=
 (.seq
  (.region [⟨some 2, none, .box 55 (.t 0)⟩, ⟨some 4, none, .mv (.c (.int .i64 0))⟩])
  (.seq
   (.seq
    (.region [⟨some 5, none, .mv (.c (.int .i64 0))⟩])
    (.block 0
     (.loop c51_l0)))
   (.seq
    (.region [⟨some 4, none, .mv (.c (.int .i64 (-1)))⟩])
    .ret)))
end
end Go.AX
namespace Go.AX
open Go Go.Proofs
def c5 : CCode :=
 (.seq
  (.region [⟨some 2, none, .mv (.c (.bool false))⟩])
  (.seq
   (.region [⟨some 8, none, .mv (.t 0)⟩, ⟨some 9, none, .call (.c (.func 11 [] [])) [(.t 8)]⟩, ⟨some 7, none, .mv (.t 9)⟩, ⟨some 10, none, .extract 0 (.t 7)⟩, ⟨some 11, none, .extract 1 (.t 7)⟩, ⟨some 3, none, .mv (.t 10)⟩, ⟨some 4, none, .mv (.t 11)⟩])
   (.seq
    (.seq
     (.region [⟨some 12, none, .mv (.t 4)⟩, ⟨some 13, none, .bin .neq .none (.t 12) (.c (.int .i64 0))⟩])
     (.cond (.t 13)
      (.seq
       (.region [⟨some 14, none, .call (.c (.func 13 [] [])) []⟩, ⟨some 15, none, .mv (.t 14)⟩, ⟨some 16, some (15, true), .mv (.t 3)⟩, ⟨some 17, some (15, true), .bin .eql .none (.t 16) (.c (.str []))⟩, ⟨some 18, none, .pick (.t 15) (.t 17) (.c (.bool false))⟩, ⟨some 19, none, .mv (.t 18)⟩, ⟨some 20, some (19, true), .mv (.t 0)⟩, ⟨some 21, some (19, true), .call (.c (.func 14 [] [])) [(.t 20)]⟩, ⟨some 22, some (19, true), .mv (.t 4)⟩, ⟨some 23, some (19, true), .bin .eql .none (.t 21) (.t 22)⟩, ⟨some 24, none, .pick (.t 19) (.t 23) (.c (.bool false))⟩, ⟨some 2, none, .mv (.t 24)⟩])
       .ret)
      .skip))
    (.seq
     (.region [⟨some 26, none, .mv (.t 3)⟩, ⟨some 27, none, .call (.c (.func 16 [] [])) [(.t 26)]⟩, ⟨some 25, none, .mv (.t 27)⟩, ⟨some 28, none, .extract 0 (.t 25)⟩, ⟨some 29, none, .extract 1 (.t 25)⟩, ⟨some 5, none, .mv (.t 28)⟩, ⟨some 6, none, .mv (.t 29)⟩])
     (.seq
      (.region [⟨some 30, none, .call (.c (.func 13 [] [])) []⟩, ⟨some 31, none, .mv (.t 30)⟩, ⟨some 32, some (31, true), .mv (.t 6)⟩, ⟨some 33, some (31, true), .bin .eql .none (.t 32) (.c (.int .i64 0))⟩, ⟨some 34, none, .pick (.t 31) (.t 33) (.c (.bool false))⟩, ⟨some 35, none, .mv (.t 34)⟩, ⟨some 36, some (35, true), .mv (.t 5)⟩, ⟨some 37, some (35, true), .mv (.t 0)⟩, ⟨some 38, some (35, true), .call (.c (.func 18 [] [])) [(.t 36), (.t 37)]⟩, ⟨some 39, none, .pick (.t 35) (.t 38) (.c (.bool false))⟩, ⟨some 2, none, .mv (.t 39)⟩])
      .ret)))))
def c16b_l0 : CCode :=
 (.seq
  (.seq
   (.region [⟨some 11, none, .mv (.t 4)⟩, ⟨some 12, none, .nilCheck (.t 11)⟩, ⟨some 13, none, .fAddr 1 (.t 12)⟩, ⟨some 14, none, .load1 (.t 13)⟩, ⟨some 15, none, .mv (.t 0)⟩, ⟨some 16, none, .len .str (.t 15)⟩, ⟨some 17, none, .bin .lss .none (.t 14) (.t 16)⟩])
   (.cond (.t 17)
    .skip
    (.exit 0)))
  (.block 1
   (.seq
    (.seq
     (.region [⟨some 18, none, .load1 (.t 2)⟩, ⟨some 19, none, .len .slice (.t 18)⟩, ⟨some 20, none, .bin .eql .none (.t 19) (.c (.int .i64 32))⟩])
     (.cond (.t 20)
      (.seq
       (.region [⟨none, none, .store 1 (.t 2) (.c .nilslice)⟩, ⟨none, none, .store 1 (.t 3) (.c (.int .i64 4))⟩])
       .ret)
      .skip))
    (.drawn 6 [⟨⟨some 21, none, .load1 (.t 2)⟩, 0, .read, []⟩, ⟨⟨some 22, none, .mv (.t 4)⟩, 1, .pure, []⟩, ⟨⟨some 23, none, .call (.c (.func 43 [] [])) [(.t 22)]⟩, 2, .wr, [⟨some 21, none, .load1 (.t 2)⟩]⟩, ⟨⟨some 24, none, .buildSlice 55 1 [.nilslice] [(0, 1, (.t 23))]⟩, 3, .new, []⟩, ⟨⟨some 25, none, .append 55 1 (.t 21) (.t 24)⟩, 4, .wr, []⟩, ⟨⟨none, none, .store 1 (.t 2) (.t 25)⟩, 5, .wr, []⟩]))))
def c43_l0 : CCode :=
 (.block 1
  (.seq
   (.region [⟨some 26, none, .mv (.t 0)⟩, ⟨some 27, none, .nilCheck (.t 26)⟩, ⟨some 28, none, .fAddr 1 (.t 27)⟩, ⟨some 29, none, .load1 (.t 28)⟩, ⟨some 30, none, .bin .add .none (.t 29) (.c (.int .i64 1))⟩, ⟨some 31, none, .nilCheck (.t 26)⟩, ⟨some 32, none, .fAddr 1 (.t 31)⟩, ⟨none, none, .store 1 (.t 32) (.t 30)⟩])
   (.seq
    (.drawn 8 [⟨⟨some 33, none, .fAddr 0 (.t 4)⟩, 0, .pure, []⟩, ⟨⟨some 34, none, .load1 (.t 33)⟩, 1, .read, []⟩, ⟨⟨some 35, none, .mv (.t 0)⟩, 2, .pure, []⟩, ⟨⟨some 36, none, .call (.c (.func 58 [] [])) [(.t 35)]⟩, 3, .wr, [⟨some 34, none, .load1 (.t 33)⟩]⟩, ⟨⟨some 37, none, .buildSlice 57 1 [(.str []), (.int .i64 0)] [(0, 2, (.t 36))]⟩, 4, .new, []⟩, ⟨⟨some 38, none, .append 57 2 (.t 34) (.t 37)⟩, 5, .wr, []⟩, ⟨⟨some 39, none, .fAddr 0 (.t 4)⟩, 6, .pure, []⟩, ⟨⟨none, none, .store 1 (.t 39) (.t 38)⟩, 7, .wr, []⟩])
    (.seq
     (.seq
      (.region [⟨some 40, none, .mv (.t 0)⟩, ⟨some 41, none, .call (.c (.func 57 [] [])) [(.t 40)]⟩])
      (.block 2
       (.seq
        (.region [⟨some 43, none, .bin .eql .none (.t 41) (.c (.int .u8 124))⟩, ⟨some 42, none, .mv (.t 43)⟩])
        (.cond (.t 42)
         (.exit 1)
         (.seq
          (.region [⟨some 45, none, .bin .eql .none (.t 41) (.c (.int .u8 41))⟩, ⟨some 44, none, .mv (.t 45)⟩])
          (.cond (.t 44)
           (.seq
            (.region [⟨some 46, none, .mv (.t 0)⟩, ⟨some 47, none, .nilCheck (.t 46)⟩, ⟨some 48, none, .fAddr 1 (.t 47)⟩, ⟨some 49, none, .load1 (.t 48)⟩, ⟨some 50, none, .bin .add .none (.t 49) (.c (.int .i64 1))⟩, ⟨some 51, none, .nilCheck (.t 46)⟩, ⟨some 52, none, .fAddr 1 (.t 51)⟩, ⟨none, none, .store 1 (.t 52) (.t 50)⟩])
            (.seq
             (.region [⟨some 53, none, .loadN 1 (.t 4)⟩, ⟨none, none, .store 1 (.t 2) (.t 53)⟩])
             .ret))
           .skip))))))
     (.region [⟨some 54, none, .build [] []⟩, ⟨some 55, none, .mkIface 75 (.t 54)⟩, ⟨none, none, .bad⟩])))))
def c43 : CCode :=
 (.seq
  (.region [⟨some 2, none, .box 55 (.c (.agg [.nilslice]))⟩])
  (.seq
   (.region [⟨some 5, none, .mv (.t 0)⟩, ⟨some 6, none, .call (.c (.func 57 [] [])) [(.t 5)]⟩, ⟨some 3, none, .mv (.t 6)⟩])
   (.seq
    (.seq
     (.region [⟨some 7, none, .mv (.t 3)⟩, ⟨some 8, none, .call (.c (.func 23 [] [])) [(.t 7)]⟩])
     (.cond (.t 8)
      (.seq
       (.region [⟨some 9, none, .mv (.t 0)⟩, ⟨some 10, none, .nilCheck (.t 9)⟩, ⟨some 11, none, .fAddr 1 (.t 10)⟩, ⟨some 12, none, .load1 (.t 11)⟩, ⟨some 13, none, .bin .add .none (.t 12) (.c (.int .i64 1))⟩, ⟨some 14, none, .nilCheck (.t 9)⟩, ⟨some 15, none, .fAddr 1 (.t 14)⟩, ⟨none, none, .store 1 (.t 15) (.t 13)⟩])
       (.seq
        (.region [⟨some 16, none, .mv (.t 3)⟩, ⟨some 17, none, .buildSlice 5 1 [(.int .u8 0)] [(0, 1, (.t 16))]⟩, ⟨some 18, none, .cBytesStr (.t 17)⟩, ⟨some 19, none, .build [(.str []), (.int .i64 0)] [(0, 1, (.t 18))]⟩, ⟨some 20, none, .buildSlice 57 1 [(.str []), (.int .i64 0)] [(0, 2, (.t 19))]⟩, ⟨some 21, none, .build [.nilslice] [(0, 1, (.t 20))]⟩, ⟨none, none, .store 1 (.t 2) (.t 21)⟩])
        .ret))
      .skip))
    (.seq
     (.seq
      (.region [⟨some 22, none, .mv (.t 3)⟩, ⟨some 23, none, .bin .neq .none (.t 22) (.c (.int .u8 40))⟩])
      (.cond (.t 23)
       (.region [⟨some 24, none, .build [] []⟩, ⟨some 25, none, .mkIface 75 (.t 24)⟩, ⟨none, none, .bad⟩])
       .skip))
     (.seq
      (.region [⟨some 4, none, .box 55 (.c (.agg [.nilslice]))⟩])
      (.block 0
       (.loop c43_l0)))))))
theorem code43 : E2.code 43 = some (c43, [.cell 2 55]) := by kernel_rfl
def c57 : CCode :=
 (.seq
  (.region [⟨some 2, none, .mv (.c (.int .u8 0))⟩])
  (.seq
   (.seq
    (.drawn 10 [⟨⟨some 3, none, .mv (.t 0)⟩, 0, .pure, []⟩, ⟨⟨some 4, none, .nilCheck (.t 3)⟩, 1, .pure, []⟩, ⟨⟨some 5, none, .fAddr 1 (.t 4)⟩, 2, .pure, []⟩, ⟨⟨some 6, none, .load1 (.t 5)⟩, 3, .read, []⟩, ⟨⟨some 7, none, .mv (.t 0)⟩, 4, .pure, []⟩, ⟨⟨some 8, none, .nilCheck (.t 7)⟩, 5, .pure, []⟩, ⟨⟨some 9, none, .fAddr 0 (.t 8)⟩, 6, .pure, []⟩, ⟨⟨some 10, none, .load1 (.t 9)⟩, 7, .read, []⟩, ⟨⟨some 11, none, .len .str (.t 10)⟩, 8, .pure, []⟩, ⟨⟨some 12, none, .bin .lss .none (.t 6) (.t 11)⟩, 9, .pure, []⟩])
    (.cond (.t 12)
     (.seq
      (.drawn 10 [⟨⟨some 13, none, .mv (.t 0)⟩, 0, .pure, []⟩, ⟨⟨some 14, none, .nilCheck (.t 13)⟩, 1, .pure, []⟩, ⟨⟨some 15, none, .fAddr 0 (.t 14)⟩, 2, .pure, []⟩, ⟨⟨some 16, none, .load1 (.t 15)⟩, 3, .read, []⟩, ⟨⟨some 17, none, .mv (.t 0)⟩, 4, .pure, []⟩, ⟨⟨some 18, none, .nilCheck (.t 17)⟩, 5, .pure, []⟩, ⟨⟨some 19, none, .fAddr 1 (.t 18)⟩, 6, .pure, []⟩, ⟨⟨some 20, none, .load1 (.t 19)⟩, 7, .read, []⟩, ⟨⟨some 21, none, .ixStr (.t 16) (.t 20)⟩, 8, .pure, []⟩, ⟨⟨some 2, none, .mv (.t 21)⟩, 9, .pure, []⟩])
      .ret)
     .skip))
   (.seq
    (.region [⟨some 2, none, .mv (.c (.int .u8 0))⟩])
    .ret)))
theorem code57 : E2.code 57 = some (c57, [.tmp 2]) := by kernel_rfl
def c58 : CCode :=
 (.seq
  (.region [⟨some 2, none, .box 57 (.c (.agg [(.str []), (.int .i64 0)]))⟩])
  (.seq
   (.region [⟨some 7, none, .mv (.t 0)⟩, ⟨some 8, none, .call (.c (.func 71 [] [])) [(.t 7), (.c (.func 23 [] []))]⟩, ⟨some 9, none, .build [(.str []), (.int .i64 0)] [(0, 1, (.t 8))]⟩, ⟨some 3, none, .box 57 (.c (.agg [(.str []), (.int .i64 0)]))⟩, ⟨none, none, .store 2 (.t 3) (.t 9)⟩])
   (.seq
    (.seq
     (.region [⟨some 10, none, .mv (.t 0)⟩, ⟨some 11, none, .call (.c (.func 57 [] [])) [(.t 10)]⟩, ⟨some 12, none, .bin .eql .none (.t 11) (.c (.int .u8 58))⟩])
     (.cond (.t 12)
      (.seq
       (.region [⟨some 13, none, .mv (.t 0)⟩, ⟨some 14, none, .nilCheck (.t 13)⟩, ⟨some 15, none, .fAddr 1 (.t 14)⟩, ⟨some 16, none, .load1 (.t 15)⟩, ⟨some 17, none, .bin .add .none (.t 16) (.c (.int .i64 1))⟩, ⟨some 18, none, .nilCheck (.t 13)⟩, ⟨some 19, none, .fAddr 1 (.t 18)⟩, ⟨none, none, .store 1 (.t 19) (.t 17)⟩])
       (.seq
        (.region [⟨some 20, none, .mv (.t 0)⟩, ⟨some 21, none, .call (.c (.func 71 [] [])) [(.t 20), (.c (.func 72 [] []))]⟩, ⟨some 4, none, .mv (.t 21)⟩])
        (.seq
         (.region [⟨some 23, none, .mv (.t 4)⟩, ⟨some 24, none, .call (.c (.func 73 [] [])) [(.t 23)]⟩, ⟨some 22, none, .mv (.t 24)⟩, ⟨some 25, none, .extract 0 (.t 22)⟩, ⟨some 26, none, .extract 1 (.t 22)⟩, ⟨some 5, none, .mv (.t 25)⟩, ⟨some 6, none, .mv (.t 26)⟩])
         (.seq
          (.seq
           (.region [⟨some 27, none, .mv (.t 6)⟩, ⟨some 28, none, .bin .neq (.iface true) (.t 27) (.c .niliface)⟩, ⟨some 29, none, .mv (.t 28)⟩, ⟨some 30, some (29, false), .mv (.t 5)⟩, ⟨some 31, some (29, false), .bin .lss .none (.t 30) (.c (.int .i64 1))⟩, ⟨some 32, none, .pick (.t 29) (.c (.bool true)) (.t 31)⟩, ⟨some 33, none, .mv (.t 32)⟩, ⟨some 34, some (33, false), .mv (.t 5)⟩, ⟨some 35, some (33, false), .bin .gtr .none (.t 34) (.c (.int .i64 1000))⟩, ⟨some 36, none, .pick (.t 33) (.c (.bool true)) (.t 35)⟩, ⟨some 37, none, .mv (.t 36)⟩, ⟨some 38, some (37, false), .mv (.t 5)⟩, ⟨some 39, some (37, false), .call (.c (.func 34 [] [])) [(.t 38)]⟩, ⟨some 40, some (37, false), .mv (.t 4)⟩, ⟨some 41, some (37, false), .bin .neq .none (.t 39) (.t 40)⟩, ⟨some 42, none, .pick (.t 37) (.c (.bool true)) (.t 41)⟩])
           (.cond (.t 42)
            (.region [⟨some 43, none, .build [] []⟩, ⟨some 44, none, .mkIface 75 (.t 43)⟩, ⟨none, none, .bad⟩])
            .skip))
          (.region [⟨some 45, none, .mv (.t 5)⟩, ⟨some 46, none, .fAddr 1 (.t 3)⟩, ⟨none, none, .store 1 (.t 46) (.t 45)⟩])))))
      .skip))
    (.seq
     (.region [⟨some 47, none, .loadN 2 (.t 3)⟩, ⟨none, none, .store 2 (.t 2) (.t 47)⟩])
     .ret))))
theorem code58 : E2.code 58 = some (c58, [.cell 2 57]) := by kernel_rfl
def c71_l0 : CCode :=
 (.seq
  (.seq
   (.drawn 23 [⟨⟨some 10, none, .mv (.t 0)⟩, 0, .pure, []⟩, ⟨⟨some 11, none, .nilCheck (.t 10)⟩, 1, .pure, []⟩, ⟨⟨some 12, none, .fAddr 1 (.t 11)⟩, 2, .pure, []⟩, ⟨⟨some 13, none, .load1 (.t 12)⟩, 3, .read, []⟩, ⟨⟨some 14, none, .mv (.t 0)⟩, 4, .pure, []⟩, ⟨⟨some 15, none, .nilCheck (.t 14)⟩, 5, .pure, []⟩, ⟨⟨some 16, none, .fAddr 0 (.t 15)⟩, 6, .pure, []⟩, ⟨⟨some 17, none, .load1 (.t 16)⟩, 7, .read, []⟩, ⟨⟨some 18, none, .len .str (.t 17)⟩, 8, .pure, []⟩, ⟨⟨some 19, none, .bin .lss .none (.t 13) (.t 18)⟩, 9, .pure, []⟩, ⟨⟨some 20, none, .mv (.t 19)⟩, 10, .pure, []⟩, ⟨⟨some 21, some (20, true), .mv (.t 1)⟩, 11, .pure, []⟩, ⟨⟨some 22, some (20, true), .mv (.t 0)⟩, 12, .pure, []⟩, ⟨⟨some 23, some (20, true), .nilCheck (.t 22)⟩, 13, .pure, []⟩, ⟨⟨some 24, some (20, true), .fAddr 0 (.t 23)⟩, 14, .pure, []⟩, ⟨⟨some 25, some (20, true), .load1 (.t 24)⟩, 15, .read, []⟩, ⟨⟨some 26, some (20, true), .mv (.t 0)⟩, 16, .pure, []⟩, ⟨⟨some 27, some (20, true), .nilCheck (.t 26)⟩, 17, .pure, []⟩, ⟨⟨some 28, some (20, true), .fAddr 1 (.t 27)⟩, 18, .pure, []⟩, ⟨⟨some 29, some (20, true), .load1 (.t 28)⟩, 19, .read, []⟩, ⟨⟨some 30, some (20, true), .ixStr (.t 25) (.t 29)⟩, 20, .pure, []⟩, ⟨⟨some 31, some (20, true), .call (.t 21) [(.t 30)]⟩, 21, .wr, []⟩, ⟨⟨some 32, none, .pick (.t 20) (.t 31) (.c (.bool false))⟩, 22, .pure, []⟩])
   (.cond (.t 32)
    .skip
    (.exit 0)))
  (.block 1
   (.region [⟨some 33, none, .mv (.t 0)⟩, ⟨some 34, none, .nilCheck (.t 33)⟩, ⟨some 35, none, .fAddr 1 (.t 34)⟩, ⟨some 36, none, .load1 (.t 35)⟩, ⟨some 37, none, .bin .add .none (.t 36) (.c (.int .i64 1))⟩, ⟨some 38, none, .nilCheck (.t 33)⟩, ⟨some 39, none, .fAddr 1 (.t 38)⟩, ⟨none, none, .store 1 (.t 39) (.t 37)⟩])))
def c71 : CCode :=
 (.seq
  (.region [⟨some 4, none, .mv (.c (.str []))⟩])
  (.seq
   (.region [⟨some 6, none, .mv (.t 0)⟩, ⟨some 7, none, .nilCheck (.t 6)⟩, ⟨some 8, none, .fAddr 1 (.t 7)⟩, ⟨some 9, none, .load1 (.t 8)⟩, ⟨some 5, none, .mv (.t 9)⟩])
   (.seq
    (.block 0
     (.loop c71_l0))
    (.seq
     (.drawn 11 [⟨⟨some 40, none, .mv (.t 0)⟩, 0, .pure, []⟩, ⟨⟨some 41, none, .nilCheck (.t 40)⟩, 1, .pure, []⟩, ⟨⟨some 42, none, .fAddr 0 (.t 41)⟩, 2, .pure, []⟩, ⟨⟨some 43, none, .load1 (.t 42)⟩, 3, .read, []⟩, ⟨⟨some 44, none, .mv (.t 5)⟩, 4, .pure, []⟩, ⟨⟨some 45, none, .mv (.t 0)⟩, 5, .pure, []⟩, ⟨⟨some 46, none, .nilCheck (.t 45)⟩, 6, .pure, []⟩, ⟨⟨some 47, none, .fAddr 1 (.t 46)⟩, 7, .pure, []⟩, ⟨⟨some 48, none, .load1 (.t 47)⟩, 8, .read, []⟩, ⟨⟨some 49, none, .slStr (.t 43) (some (.t 44)) (some (.t 48))⟩, 9, .pure, []⟩, ⟨⟨some 4, none, .mv (.t 49)⟩, 10, .pure, []⟩])
     .ret))))
theorem code71 : E2.code 71 = some (c71, [.tmp 4]) := by kernel_rfl
def c72 : CCode :=
 (.seq
  (.region [⟨some 2, none, .mv (.c (.bool false))⟩])
  (.seq
   (.region [⟨some 3, none, .mv (.t 0)⟩, ⟨some 4, none, .bin .geq .none (.t 3) (.c (.int .u8 48))⟩, ⟨some 5, none, .mv (.t 4)⟩, ⟨some 6, some (5, true), .mv (.t 0)⟩, ⟨some 7, some (5, true), .bin .leq .none (.t 6) (.c (.int .u8 57))⟩, ⟨some 8, none, .pick (.t 5) (.t 7) (.c (.bool false))⟩, ⟨some 2, none, .mv (.t 8)⟩])
   .ret))
theorem code72 : E2.code 72 = some (c72, [.tmp 2]) := by kernel_rfl
end Go.AX
namespace Go.AX
open Go Go.Proofs
noncomputable section
set_option linter.unusedSimpArgs false
set_option linter.unusedVariables false
attribute [local go_sem] b_seq wp_skip wp_exit wp_ret wp_region b_block wops_nil b_ops b_opsg b_cond condV_lite wo_mv b_bin wo_call callV_func wo_pick b_box wo_load1 wo_loadN wo_store wo_nilCheck wo_not wo_lenStr' wo_lenSl wo_ixStr' wo_ixSl wo_fAddr wo_part1 wo_partN wo_extract wo_cInt wo_cStr wo_mkMap wo_mkIface wo_mkFunc wo_lookup pickV_bool ifT_true ifT_false b_loadV b_loadNV b_storeV nilV_ptr nilV_func nilV_iface notV_bool lenStrV_str lenSlV_nil lenSlV_slice b_ixStrV ixSlV_slice fAddrV_ptr b_part1V partNV_agg b_extractV convV_int strV_str evC_tm evC_cn T.get_set putA_some putA_none onO_some evCs_nil evCs_cons appL_nil appL_cons guardOk_true guardOk_false cellsV_bool cellsV_int cellsV_str cellsV_nilptr cellsV_ptr cellsV_nilslice cellsV_slice cellsV_nilmap cellsV_map cellsV_func cellsV_nilfunc cellsV_iface cellsV_niliface cellsV_agg bin_lss bin_gtr bin_leq bin_geq bin_eql bin_neq bin_add bin_sub bin_eqlS bin_neqS mkFrame_nil mkFrame_cons resA_one resA_two resA_three over_0 over_1 over_2 over_3 over_4 over_5 over0_nil over0_cons Option.getD_some if_true if_false AHeap.next_push AVal.bool.injEq decide_eq_true_eq decide_eq_false_iff_not Bool.not_eq_true' Bool.not_eq_false' Bool.not_eq_true decide_true decide_false Bool.not_true Bool.not_false Int.toNat_natCast Int.natCast_nonneg true_and and_true wo_mapPut wp_drawn' wsts_nil b_pure b_read b_new b_wr wor_none b_org rer_nil rer_load1 rer_loadN wo_append AHeap.next_skip AHeap.next_put' AHeap.mk_push_t AHeap.mk_eta AHeap.mk_skip ldA_skip ldN_skip Nat.add_zero Nat.zero_add b_lite_true b_lite_false eq_self_iff_true not_true_eq_false not_false_eq_true bx_k bx_q bx_x bx_1 undefA_bool putAt_push List.length_cons List.length_nil Nat.le_refl ldA_push_new ldN_push_new List.getElem?_cons_zero List.getElem?_cons_succ List.drop_zero List.drop_succ_cons List.take_succ_cons List.take_zero b_build b_buildSlice evParts_nil evParts_cons b_fillA_nil b_fillA nbeq nble natadd natmul lenL_eq repL_1 repL_2 repL_3 wo_sliceData sdV_nil sdV_slice wo_unsafeStr usV_nil wo_slStr slStrV_str evCo_none evCo_some boundA_none Bool.and_true Bool.true_and wo_minmax2' mm2V_int
def isL (c : Nat) : Bool := decide (97 ≤ c ∧ c ≤ 122 ∨ 48 ≤ c ∧ c ≤ 57 ∨ c = 32 ∨ c = 45)
theorem isLetter_c (c : Nat) (h : AHeap) : Ec E2 23 [.int .u8 (c : Int)] h fun v h' => v = .bool (isL c) ∧ h' = h := by
  refine Ec.of_wpb (prim2_none (by decide)) code23 ?_
  unfold c23
  rcases (show (c < 32 ∧ isL c = false) ∨ (c = 32 ∧ isL c = true) ∨ ((32 < c ∧ c < 45) ∧ isL c = false) ∨ (c = 45 ∧ isL c = true) ∨ ((45 < c ∧ c < 48) ∧ isL c = false) ∨ ((48 ≤ c ∧ c ≤ 57) ∧ isL c = true) ∨ ((57 < c ∧ c < 97) ∧ isL c = false) ∨ ((97 ≤ c ∧ c ≤ 122) ∧ isL c = true) ∨ (122 < c ∧ isL c = false) by unfold isL; simp; omega) with ⟨g, e⟩ | ⟨g, e⟩ | ⟨g, e⟩ | ⟨g, e⟩ | ⟨g, e⟩ | ⟨g, e⟩ | ⟨g, e⟩ | ⟨g, e⟩ | ⟨g, e⟩ <;> rw [e] <;>
    by_cases h1 : (c : Int) < 97 <;> (try (exfalso; omega)) <;> by_cases h2 : (122 : Int) < c <;> (try (exfalso; omega)) <;> by_cases h3 : (c : Int) < 48 <;> (try (exfalso; omega)) <;> by_cases h4 : (57 : Int) < c <;> (try (exfalso; omega)) <;> by_cases h5 : (c : Int) = 32 <;> (try (exfalso; omega)) <;> by_cases h6 : (c : Int) = 45 <;> (try (exfalso; omega)) <;>
    simp only [go_sem, Nat.reduceEqDiff, Int.reduceLT, Int.reduceLE, Int.reduceEq, Nat.reduceLT, Nat.reduceAdd, Nat.reduceMul, Int.reduceToNat, Nat.reduceLeDiff, reduceCtorEq, h1, h2, h3, h4, h5, h6]
def lettered (s : List Nat) : Bool := s.all isL
theorem lettered_take {s : List Nat} {i : Nat} {b : Nat} (hb : s[i]? = some b) : lettered (s.take (i + 1)) = (lettered (s.take i) && isL b) := by
  unfold lettered
  rw [List.take_add_one, hb, List.all_append]
  simp
theorem lettered_false {s : List Nat} {i : Nat} {b : Nat} (hb : s[i]? = some b) (h : isL b = false) : lettered s = false := by
  unfold lettered
  rw [List.all_eq_false]
  exact ⟨b, List.mem_of_getElem? hb, by simp [h]⟩
theorem letters_c (s : List Nat) (h : AHeap) (hs : s.length ≤ 9223372036854775807) : Ec E2 49 [.str s] h fun v h' => v = .bool (lettered s) ∧ h' = h := by
  refine Ec.of_wpb (prim2_none (by decide)) code49 ?_
  unfold c49
  simp only [go_sem, Nat.reduceEqDiff, Int.reduceLT, Int.reduceLE, Int.reduceEq, Nat.reduceLT, Nat.reduceAdd, Nat.reduceMul, Int.reduceToNat, Nat.reduceLeDiff, reduceCtorEq]
  refine b_loop (fun d fr h' => h' = h ∧ fr.get 0 = some (.str s) ∧ fr.get 5 = some (.int .i64 (s.length : Int)) ∧ ∃ i : Nat, fr.get 6 = some (.int .i64 (i : Int)) ∧ d + i = s.length ∧ lettered (s.take i) = true) s.length ⟨rfl, by simp [T.get_set], by simp [T.get_set], 0, by simp [T.get_set], rfl, rfl⟩ ?_
  rintro d fr h' ⟨rfl, h0, h5, i, h6, hd, hl⟩
  unfold c49_l0
  simp only [go_sem, Nat.reduceEqDiff, Int.reduceLT, Int.reduceLE, Int.reduceEq, Nat.reduceLT, Nat.reduceAdd, Nat.reduceMul, Int.reduceToNat, Nat.reduceLeDiff, reduceCtorEq, h0, h5, h6]
  refine b_lite (fun hc => ?_) (fun hc => ?_) <;> (try simp only [go_sem, Nat.reduceEqDiff, Int.reduceLT, Int.reduceLE, Int.reduceEq, Nat.reduceLT, Nat.reduceAdd, Nat.reduceMul, Int.reduceToNat, Nat.reduceLeDiff, reduceCtorEq, h0, h5, h6])
  · obtain ⟨b, hb⟩ : ∃ b, s[i]? = some b := ⟨_, List.getElem?_eq_getElem (by omega)⟩
    rw [hb]
    simp only [go_sem, Nat.reduceEqDiff, Int.reduceLT, Int.reduceLE, Int.reduceEq, Nat.reduceLT, Nat.reduceAdd, Nat.reduceMul, Int.reduceToNat, Nat.reduceLeDiff, reduceCtorEq, h0, h5, h6]
    refine ⟨by decide, ?_⟩
    refine (isLetter_c b h').mono ?_
    rintro v h1 ⟨rfl, rfl⟩
    simp only [go_sem, Nat.reduceEqDiff, Int.reduceLT, Int.reduceLE, Int.reduceEq, Nat.reduceLT, Nat.reduceAdd, Nat.reduceMul, Int.reduceToNat, Nat.reduceLeDiff, reduceCtorEq, h0, h5, h6]
    refine b_lite (fun e => ?_) (fun e => ?_) <;> (try simp only [go_sem, Nat.reduceEqDiff, Int.reduceLT, Int.reduceLE, Int.reduceEq, Nat.reduceLT, Nat.reduceAdd, Nat.reduceMul, Int.reduceToNat, Nat.reduceLeDiff, reduceCtorEq, h0, h5, h6])
    · rw [lettered_false hb e]
    · refine ⟨d - 1, by omega, i + 1, ?_, by omega, ?_⟩
      · rw [wrap_i64 (by omega) (by omega)]; rfl
      · rw [lettered_take hb, hl]; simpa using e
  · have : i = s.length := by omega
    rw [this, List.take_length] at hl
    rw [hl]
end
end Go.AX
namespace Go.AX
open Go Go.Proofs
noncomputable section
set_option linter.unusedSimpArgs false
set_option linter.unusedVariables false
attribute [local go_sem] b_seq wp_skip wp_exit wp_ret wp_region b_block wops_nil b_ops b_opsg b_cond condV_lite wo_mv b_bin wo_call callV_func wo_pick b_box wo_load1 wo_loadN wo_store wo_nilCheck wo_not wo_lenStr' wo_lenSl wo_ixStr' wo_ixSl wo_fAddr wo_part1 wo_partN wo_extract wo_cInt wo_cStr wo_mkMap wo_mkIface wo_mkFunc wo_lookup pickV_bool ifT_true ifT_false b_loadV b_loadNV b_storeV nilV_ptr nilV_func nilV_iface notV_bool lenStrV_str lenSlV_nil lenSlV_slice b_ixStrV ixSlV_slice fAddrV_ptr b_part1V partNV_agg b_extractV convV_int strV_str evC_tm evC_cn T.get_set putA_some putA_none onO_some evCs_nil evCs_cons appL_nil appL_cons guardOk_true guardOk_false cellsV_bool cellsV_int cellsV_str cellsV_nilptr cellsV_ptr cellsV_nilslice cellsV_slice cellsV_nilmap cellsV_map cellsV_func cellsV_nilfunc cellsV_iface cellsV_niliface cellsV_agg bin_lss bin_gtr bin_leq bin_geq bin_eql bin_neq bin_add bin_sub bin_eqlS bin_neqS mkFrame_nil mkFrame_cons resA_one resA_two resA_three over_0 over_1 over_2 over_3 over_4 over_5 over0_nil over0_cons Option.getD_some if_true if_false AHeap.next_push AVal.bool.injEq decide_eq_true_eq decide_eq_false_iff_not Bool.not_eq_true' Bool.not_eq_false' Bool.not_eq_true decide_true decide_false Bool.not_true Bool.not_false Int.toNat_natCast Int.natCast_nonneg true_and and_true wo_mapPut wp_drawn' wsts_nil b_pure b_read b_new b_wr wor_none b_org rer_nil rer_load1 rer_loadN wo_append AHeap.next_skip AHeap.next_put' AHeap.mk_push_t AHeap.mk_eta AHeap.mk_skip ldA_skip ldN_skip Nat.add_zero Nat.zero_add b_lite_true b_lite_false eq_self_iff_true not_true_eq_false not_false_eq_true bx_k bx_q bx_x bx_1 undefA_bool putAt_push List.length_cons List.length_nil Nat.le_refl ldA_push_new ldN_push_new List.getElem?_cons_zero List.getElem?_cons_succ List.drop_zero List.drop_succ_cons List.take_succ_cons List.take_zero b_build b_buildSlice evParts_nil evParts_cons b_fillA_nil b_fillA nbeq nble natadd natmul lenL_eq repL_1 repL_2 repL_3 wo_sliceData sdV_nil sdV_slice wo_unsafeStr usV_nil wo_slStr slStrV_str evCo_none evCo_some boundA_none Bool.and_true Bool.true_and wo_minmax2' mm2V_int
abbrev Alt := List Nat × Int
def altC (a : Alt) : List AVal := [.str a.1, .int .i64 a.2]
def AltsA (h : AHeap) (v : AVal) (alts : List Alt) : Prop := SlA h 2 v (alts.map altC) ∧ ∀ a, a ∈ alts → a.1.length ≤ 9223372036854775807
def CellsA (h : AHeap) (v : AVal) (cells : List (List Alt)) : Prop := ∃ vs : List AVal, SlA h 1 v (vs.map fun x => [x]) ∧ All2 (AltsA h) vs cells
theorem AltsA.mono {h h' : AHeap} (hle : Hle h h') {v : AVal} {alts : List Alt} (H : AltsA h v alts) : AltsA h' v alts := ⟨H.1.mono hle, H.2⟩
theorem CellsA.mono {h h' : AHeap} (hle : Hle h h') {v : AVal} {cells : List (List Alt)} (H : CellsA h v cells) : CellsA h' v cells := by
  obtain ⟨vs, h1, h2, h3⟩ := H
  exact ⟨vs, h1.mono hle, h2, fun i x y hx hy => (h3 i x y hx hy).mono hle⟩
theorem AltsA.len {h : AHeap} {v : AVal} {alts : List Alt} (H : AltsA h v alts) (h' : AHeap) (K : AVal → AHeap → Prop) : lenSlV v h' K = K (.int .i64 (alts.length : Int)) h' := by
  rw [H.1.len]; simp
theorem AltsA.at {h : AHeap} {v : AVal} {alts : List Alt} (H : AltsA h v alts) {j : Nat} {a : Alt} (hx : alts[j]? = some a) :
    ∃ b o, b < h.next ∧ (∀ (k : IntKind) (i : Int) (h' : AHeap) (K : AVal → AHeap → Prop), i = (j : Int) → ixSlV 2 v (.int k i) h' K = K (.ptr b o) h') ∧
      ldA h b o = some (.str a.1) ∧ ldA h b (o + 1) = some (.int .i64 a.2) ∧ ldN h b o 2 = some [.str a.1, .int .i64 a.2] := by
  obtain ⟨b, o, hr, hix⟩ := H.1.ix (j := j) (x := altC a) (by rw [List.getElem?_map, hx]; rfl)
  refine ⟨b, o, hr.1, hix, ?_, ?_, ?_⟩
  · exact hr.ldA (i := 0) rfl
  · exact hr.ldA (i := 1) rfl
  · exact hr.ldN (i := 0) (n := 2) (by simp [altC])
theorem CellsA.len {h : AHeap} {v : AVal} {cells : List (List Alt)} (H : CellsA h v cells) (h' : AHeap) (K : AVal → AHeap → Prop) : lenSlV v h' K = K (.int .i64 (cells.length : Int)) h' := by
  obtain ⟨vs, h1, h2, _⟩ := H
  rw [h1.len]; simp [h2]
theorem CellsA.at {h : AHeap} {v : AVal} {cells : List (List Alt)} (H : CellsA h v cells) {j : Nat} {c : List Alt} (hx : cells[j]? = some c) :
    ∃ b o x, b < h.next ∧ (∀ (k : IntKind) (i : Int) (h' : AHeap) (K : AVal → AHeap → Prop), i = (j : Int) → ixSlV 1 v (.int k i) h' K = K (.ptr b o) h') ∧
      ldA h b o = some x ∧ ldN h b o 1 = some [x] ∧ AltsA h x c ∧ x.flat = true := by
  obtain ⟨vs, h1, h2, h3⟩ := H
  obtain ⟨x, hxv⟩ : ∃ x, vs[j]? = some x := ⟨_, List.getElem?_eq_getElem (by rw [h2]; exact (List.getElem?_eq_some_iff.1 hx).1)⟩
  obtain ⟨b, o, hr, hix⟩ := h1.ix (j := j) (x := [x]) (by rw [List.getElem?_map, hxv]; rfl)
  refine ⟨b, o, x, hr.1, hix, ?_, ?_, h3 j x c hxv hx, ?_⟩
  · exact hr.ldA (i := 0) rfl
  · exact hr.ldN (i := 0) (n := 1) (by simp)
  · obtain ⟨_, _, _, _, _, _, _, hf⟩ := hr
    exact hf x (by simp)
theorem AltsA.flat {h : AHeap} {v : AVal} {alts : List Alt} (H : AltsA h v alts) : v.flat = true := by
  rcases H.1.2 with ⟨_, rfl⟩ | ⟨_, _, _, _, rfl, _⟩ <;> rfl
theorem AltsA.cells {h : AHeap} {v : AVal} {alts : List Alt} (H : AltsA h v alts) : cellsV v = some [v] := cellsV_flat H.flat
theorem lookV_none {q : KeyK} {z m k : AVal} {h : AHeap} {K : AVal → AHeap → Prop} {es : List (AVal × AVal × Nat)} (hm : mapAt h m = some es) (hk : keyOk q k = true) (hf : findA q k es 0 = some none) : lookV q z m k false h K = K z h := by
  unfold lookV
  rw [hm]
  show (keyOk q k = true ∧ onO (findA q k es 0) _) = _
  rw [hf, hk]
  simp [onO, ifT]
theorem lookV_some {q : KeyK} {z m k v : AVal} {i : Nat} {h : AHeap} {K : AVal → AHeap → Prop} {es : List (AVal × AVal × Nat)} (hm : mapAt h m = some es) (hk : keyOk q k = true) (hf : findA q k es 0 = some (some (i, v))) : lookV q z m k false h K = K v h := by
  unfold lookV
  rw [hm]
  show (keyOk q k = true ∧ onO (findA q k es 0) _) = _
  rw [hf, hk]
  simp [onO, ifT]
theorem mapAt_map {h : AHeap} {r : Nat} {es : List (AVal × AVal × Nat)} {c : Nat} (hg : h.get r = some (.map es c)) : mapAt h (.map r) = some es := by
  show onMapO (h.get r) (fun es _ => some es) = _
  rw [hg]; rfl
theorem putV_new {q : KeyK} {r : Nat} {k v : AVal} {h : AHeap} {K : AVal → AHeap → Prop} {es : List (AVal × AVal × Nat)} {c : Nat} (hg : h.get r = some (.map es c)) (hk : keyOk q k = true) (hf : findA q k es 0 = some none) : putV q (.map r) k v h K = K undefA (h.put r (.map (es ++ [(k, v, c)]) (c + 1))) := by
  show putO q r k v h K (h.get r) = _
  rw [hg]
  show (keyOk q k = true ∧ onO (findA q k es 0) _) = _
  rw [hf, hk]
  simp [onO]
def SeenIs (es : List (AVal × AVal × Nat)) (l : List (List Nat)) : Prop := ∀ s, (s ∈ l → ∃ i, findA (.one .s) (.str s) es 0 = some (some (i, .bool true))) ∧ (s ∉ l → findA (.one .s) (.str s) es 0 = some none)
theorem SeenIs.nil : SeenIs [] [] := fun s => ⟨(fun h => by cases h), fun _ => rfl⟩
theorem SeenIs.snoc {es : List (AVal × AVal × Nat)} {l : List (List Nat)} (H : SeenIs es l) (t : List Nat) (c : Nat) (ht : t ∉ l) : SeenIs (es ++ [(.str t, .bool true, c)]) (l ++ [t]) := by
  intro s
  obtain ⟨h1, h2⟩ := H s
  obtain ⟨g1, g2⟩ := findA_snoc (.one .s) (.str s) (.str t, .bool true, c) es 0
  constructor
  · intro hs
    by_cases hl : s ∈ l
    · obtain ⟨i, hi⟩ := h1 hl
      exact ⟨i, g1 _ hi⟩
    · have e : s = t := by simpa [hl] using hs
      subst e
      refine ⟨0 + es.length, (g2 (h2 hl)).trans ?_⟩
      rw [beqA_str]
      simp [ob, ifT]
  · intro hs
    have hl : s ∉ l := fun h => hs (by simp [h])
    have hne : ¬ s = t := fun h => hs (by simp [h])
    rw [g2 (h2 hl), beqA_str]
    simp [ob, ifT, hne]
def altOk (a : Alt) : Prop := a.1.length ≤ 3 ∧ lettered a.1 = true ∧ 0 ≤ a.2 ∧ a.2 ≤ 1000
def goodP (alts : List Alt) : Prop := (∀ a, a ∈ alts → altOk a) ∧ (alts.map Prod.fst).Nodup
def validP (alts : List Alt) : Prop := 1 ≤ alts.length ∧ alts.length ≤ 8 ∧ goodP alts
instance (alts : List Alt) : Decidable (validP alts) := Classical.propDecidable _
theorem goodP.snoc {alts : List Alt} {i : Nat} {a : Alt} (ha : alts[i]? = some a) (h : goodP (alts.take i)) (h1 : altOk a) (h2 : a.1 ∉ (alts.take i).map Prod.fst) : goodP (alts.take (i + 1)) := by
  rw [List.take_add_one, ha]
  refine ⟨fun x hx => ?_, ?_⟩
  · rcases List.mem_append.1 hx with hx | hx
    · exact h.1 x hx
    · simp at hx; subst hx; exact h1
  · rw [List.map_append, List.nodup_append]
    refine ⟨h.2, by simp, fun x hx y hy => ?_⟩
    simp at hy
    subst hy
    rintro rfl
    exact h2 hx
theorem goodP.at {alts : List Alt} (h : goodP alts) {i : Nat} {a : Alt} (ha : alts[i]? = some a) : altOk a ∧ a.1 ∉ (alts.take i).map Prod.fst := by
  refine ⟨h.1 a (List.mem_of_getElem? ha), fun hm => ?_⟩
  obtain ⟨x, hx, he⟩ := List.mem_map.1 hm
  obtain ⟨j, hj⟩ := List.mem_iff_getElem?.1 hx
  rw [List.getElem?_take] at hj
  split at hj
  · rename_i hji
    have h3 := h.2
    have hi := (List.getElem?_eq_some_iff.1 ha)
    have hjj := (List.getElem?_eq_some_iff.1 hj)
    obtain ⟨hi1, hi2⟩ := hi
    obtain ⟨hj1, hj2⟩ := hjj
    have := (List.pairwise_iff_getElem.1 h3) j i (by simpa using hj1) (by simpa using hi1) hji
    simp only [List.getElem_map, hi2, hj2] at this
    exact this he
  · cases hj
end
end Go.AX

/-
  Contracts of functions of this seat, for every input that each theorem names.
-/
import Derived.Test.YtdlebiapcceneaaGreatDoorNes1
import Derived.Lib.ItoaLen
set_option linter.unusedVariables false
set_option linter.unusedSimpArgs false
set_option linter.unusedSectionVars false
namespace Go.AX
open Go Go.Proofs
noncomputable section
def c3 : CCode :=
 (.seq
  (.region [⟨some 2, none, .mv (.c (.bool false))⟩])
  (.seq
   (.region [⟨some 8, none, .mv (.t 0)⟩, ⟨some 9, none, .call (.c (.func 11 [] [])) [(.t 8)]⟩, ⟨some 7, none, .mv (.t 9)⟩, ⟨some 10, none, .extract 0 (.t 7)⟩, ⟨some 11, none, .extract 1 (.t 7)⟩, ⟨some 3, none, .mv (.t 10)⟩, ⟨some 4, none, .mv (.t 11)⟩])
   (.seq
    (.region [⟨some 13, none, .mv (.t 0)⟩, ⟨some 14, none, .call (.c (.func 12 [] [])) [(.t 13)]⟩, ⟨some 12, none, .mv (.t 14)⟩, ⟨some 15, none, .extract 0 (.t 12)⟩, ⟨some 16, none, .extract 1 (.t 12)⟩, ⟨some 5, none, .mv (.t 15)⟩, ⟨some 6, none, .mv (.t 16)⟩])
    (.seq
     (.region [⟨some 17, none, .call (.c (.func 13 [] [])) []⟩, ⟨some 18, none, .mv (.t 17)⟩, ⟨some 19, some (18, true), .mv (.t 0)⟩, ⟨some 20, some (18, true), .call (.c (.func 14 [] [])) [(.t 19)]⟩, ⟨some 21, some (18, true), .mv (.t 0)⟩, ⟨some 22, some (18, true), .call (.c (.func 15 [] [])) [(.t 21)]⟩, ⟨some 23, some (18, true), .bin .eql .none (.t 20) (.t 22)⟩, ⟨some 24, none, .pick (.t 18) (.t 23) (.c (.bool false))⟩, ⟨some 25, none, .mv (.t 24)⟩, ⟨some 26, some (25, true), .mv (.t 3)⟩, ⟨some 27, some (25, true), .mv (.t 5)⟩, ⟨some 28, some (25, true), .bin .eql .none (.t 26) (.t 27)⟩, ⟨some 29, none, .pick (.t 25) (.t 28) (.c (.bool false))⟩, ⟨some 30, none, .mv (.t 29)⟩, ⟨some 31, some (30, true), .mv (.t 4)⟩, ⟨some 32, some (30, true), .mv (.t 6)⟩, ⟨some 33, some (30, true), .bin .eql .none (.t 31) (.t 32)⟩, ⟨some 34, none, .pick (.t 30) (.t 33) (.c (.bool false))⟩, ⟨some 2, none, .mv (.t 34)⟩])
     .ret))))
def c11_l0 : CCode :=
 (.seq
  (.region [⟨some 52, none, .bin .lss .none (.t 51) (.t 50)⟩])
  (.seq
   (.cond (.t 52)
    .skip
    (.exit 2))
   (.seq
    (.block 3
     (.seq
      (.region [⟨some 53, none, .mv (.t 51)⟩, ⟨some 54, none, .ixSl 2 (.t 49) (.t 51)⟩, ⟨some 55, none, .loadN 2 (.t 54)⟩, ⟨some 9, none, .box 57 (.c (.agg [(.str []), (.int .i64 0)]))⟩, ⟨some 8, none, .mv (.t 53)⟩, ⟨none, none, .store 2 (.t 9) (.t 55)⟩])
      (.seq
       (.seq
        (.region [⟨some 56, none, .mv (.t 8)⟩, ⟨some 57, none, .bin .eql .none (.t 56) (.c (.int .i64 0))⟩])
        (.cond (.t 57)
         (.region [⟨some 58, none, .call (.c (.func 33 [] [])) [(.t 5), (.c (.int .u8 40))]⟩])
         (.region [⟨some 59, none, .call (.c (.func 33 [] [])) [(.t 5), (.c (.int .u8 124))]⟩])))
       (.seq
        (.region [⟨some 60, none, .fAddr 0 (.t 9)⟩, ⟨some 61, none, .load1 (.t 60)⟩, ⟨some 62, none, .call (.c (.func 32 [] [])) [(.t 5), (.t 61)]⟩])
        (.seq
         (.region [⟨some 63, none, .fAddr 1 (.t 9)⟩, ⟨some 64, none, .load1 (.t 63)⟩, ⟨some 65, none, .bin .neq .none (.t 64) (.c (.int .i64 0))⟩])
         (.cond (.t 65)
          (.region [⟨some 66, none, .fAddr 1 (.t 9)⟩, ⟨some 67, none, .load1 (.t 66)⟩, ⟨some 68, none, .call (.c (.func 34 [] [])) [(.t 67)]⟩, ⟨some 69, none, .bin .add .none (.c (.str [58])) (.t 68)⟩, ⟨some 70, none, .call (.c (.func 32 [] [])) [(.t 5), (.t 69)]⟩])
          .skip))))))
    (.region [⟨some 71, none, .bin .add .none (.t 51) (.c (.int .i64 1))⟩, ⟨some 51, none, .mv (.t 71)⟩]))))
def c11_l1 : CCode :=
 (.seq
  (.region [⟨some 18, none, .bin .lss .none (.t 17) (.t 16)⟩])
  (.seq
   (.cond (.t 18)
    .skip
    (.exit 0))
   (.seq
    (.block 1
     (.seq
      (.region [⟨some 19, none, .ixSl 1 (.t 15) (.t 17)⟩, ⟨some 20, none, .loadN 1 (.t 19)⟩, ⟨some 7, none, .box 55 (.c (.agg [.nilslice]))⟩, ⟨none, none, .store 1 (.t 7) (.t 20)⟩])
      (.seq
       (.seq
        (.region [⟨some 21, none, .fAddr 0 (.t 7)⟩, ⟨some 22, none, .load1 (.t 21)⟩, ⟨some 23, none, .len .slice (.t 22)⟩, ⟨some 24, none, .bin .eql .none (.t 23) (.c (.int .i64 1))⟩, ⟨some 25, none, .mv (.t 24)⟩, ⟨some 26, some (25, true), .fAddr 0 (.t 7)⟩, ⟨some 27, some (25, true), .load1 (.t 26)⟩, ⟨some 28, some (25, true), .ixSl 2 (.t 27) (.c (.int .i64 0))⟩, ⟨some 29, some (25, true), .fAddr 0 (.t 28)⟩, ⟨some 30, some (25, true), .load1 (.t 29)⟩, ⟨some 31, some (25, true), .len .str (.t 30)⟩, ⟨some 32, some (25, true), .bin .eql .none (.t 31) (.c (.int .i64 1))⟩, ⟨some 33, none, .pick (.t 25) (.t 32) (.c (.bool false))⟩, ⟨some 34, none, .mv (.t 33)⟩, ⟨some 35, some (34, true), .fAddr 0 (.t 7)⟩, ⟨some 36, some (34, true), .load1 (.t 35)⟩, ⟨some 37, some (34, true), .ixSl 2 (.t 36) (.c (.int .i64 0))⟩, ⟨some 38, some (34, true), .fAddr 1 (.t 37)⟩, ⟨some 39, some (34, true), .load1 (.t 38)⟩, ⟨some 40, some (34, true), .bin .eql .none (.t 39) (.c (.int .i64 0))⟩, ⟨some 41, none, .pick (.t 34) (.t 40) (.c (.bool false))⟩])
        (.cond (.t 41)
         (.seq
          (.region [⟨some 42, none, .fAddr 0 (.t 7)⟩, ⟨some 43, none, .load1 (.t 42)⟩, ⟨some 44, none, .ixSl 2 (.t 43) (.c (.int .i64 0))⟩, ⟨some 45, none, .fAddr 0 (.t 44)⟩, ⟨some 46, none, .load1 (.t 45)⟩, ⟨some 47, none, .call (.c (.func 32 [] [])) [(.t 5), (.t 46)]⟩])
          (.exit 1))
         .skip))
       (.seq
        (.seq
         (.region [⟨some 48, none, .fAddr 0 (.t 7)⟩, ⟨some 49, none, .load1 (.t 48)⟩, ⟨some 50, none, .len .slice (.t 49)⟩, ⟨some 51, none, .mv (.c (.int .i64 0))⟩])
         (.block 2
          (.loop c11_l0)))
        (.region [⟨some 72, none, .call (.c (.func 33 [] [])) [(.t 5), (.c (.int .u8 41))]⟩])))))
    (.region [⟨some 73, none, .bin .add .none (.t 17) (.c (.int .i64 1))⟩, ⟨some 17, none, .mv (.t 73)⟩]))))
def c11 : CCode :=
 (.seq
  (.region [⟨some 2, none, .mv (.c (.str []))⟩, ⟨some 3, none, .mv (.c (.int .i64 0))⟩])
  (.seq
   (.seq
    (.region [⟨some 10, none, .mv (.t 0)⟩, ⟨some 11, none, .call (.c (.func 14 [] [])) [(.t 10)]⟩, ⟨some 4, none, .mv (.t 11)⟩])
    (.seq
     (.region [⟨some 12, none, .mv (.t 4)⟩, ⟨some 13, none, .bin .neq .none (.t 12) (.c (.int .i64 0))⟩])
     (.cond (.t 13)
      (.seq
       (.region [⟨some 14, none, .mv (.t 4)⟩, ⟨some 2, none, .mv (.c (.str []))⟩, ⟨some 3, none, .mv (.t 14)⟩])
       .ret)
      .skip)))
   (.seq
    (.region [⟨some 5, none, .box 52 (.c (.agg [.nilptr, .nilslice]))⟩])
    (.seq
     (.seq
      (.region [⟨some 15, none, .mv (.t 0)⟩, ⟨some 16, none, .len .slice (.t 15)⟩, ⟨some 17, none, .mv (.c (.int .i64 0))⟩])
      (.block 0
       (.loop c11_l1)))
     (.seq
      (.region [⟨some 74, none, .call (.c (.func 35 [] [])) [(.t 5)]⟩, ⟨some 2, none, .mv (.t 74)⟩, ⟨some 3, none, .mv (.c (.int .i64 0))⟩])
      .ret)))))
theorem code11 : E2.code 11 = some (c11, [.tmp 2, .tmp 3]) := by kernel_rfl
def c12_l0 : CCode :=
 (.seq
  (.seq
   (.region [⟨some 52, none, .mv (.t 8)⟩, ⟨some 53, none, .mv (.t 7)⟩, ⟨some 54, none, .len .slice (.t 53)⟩, ⟨some 55, none, .bin .lss .none (.t 52) (.t 54)⟩])
   (.cond (.t 55)
    .skip
    (.exit 2)))
  (.seq
   (.block 3
    (.seq
     (.seq
      (.region [⟨some 58, none, .mv (.t 8)⟩, ⟨some 59, none, .bin .gtr .none (.t 58) (.c (.int .i64 0))⟩])
      (.cond (.t 59)
       (.region [⟨some 60, none, .mv (.t 5)⟩, ⟨some 61, none, .bin .add .none (.t 60) (.c (.str [124]))⟩, ⟨some 5, none, .mv (.t 61)⟩])
       .skip))
     (.seq
      (.region [⟨some 62, none, .mv (.t 7)⟩, ⟨some 63, none, .mv (.t 8)⟩, ⟨some 64, none, .ixSl 2 (.t 62) (.t 63)⟩, ⟨some 65, none, .loadN 2 (.t 64)⟩, ⟨some 66, none, .call (.c (.func 36 [] [])) [(.t 65)]⟩, ⟨some 9, none, .mv (.t 66)⟩])
      (.region [⟨some 67, none, .mv (.t 5)⟩, ⟨some 68, none, .mv (.t 9)⟩, ⟨some 69, none, .bin .add .none (.t 67) (.t 68)⟩, ⟨some 5, none, .mv (.t 69)⟩]))))
   (.region [⟨some 56, none, .mv (.t 8)⟩, ⟨some 57, none, .bin .add .none (.t 56) (.c (.int .i64 1))⟩, ⟨some 8, none, .mv (.t 57)⟩])))
def c12_l1 : CCode :=
 (.seq
  (.seq
   (.region [⟨some 15, none, .mv (.t 6)⟩, ⟨some 16, none, .mv (.t 0)⟩, ⟨some 17, none, .len .slice (.t 16)⟩, ⟨some 18, none, .bin .lss .none (.t 15) (.t 17)⟩])
   (.cond (.t 18)
    .skip
    (.exit 0)))
  (.seq
   (.block 1
    (.seq
     (.region [⟨some 21, none, .mv (.t 0)⟩, ⟨some 22, none, .mv (.t 6)⟩, ⟨some 23, none, .ixSl 1 (.t 21) (.t 22)⟩, ⟨some 24, none, .fAddr 0 (.t 23)⟩, ⟨some 25, none, .load1 (.t 24)⟩, ⟨some 7, none, .mv (.t 25)⟩])
     (.seq
      (.seq
       (.region [⟨some 26, none, .mv (.t 7)⟩, ⟨some 27, none, .len .slice (.t 26)⟩, ⟨some 28, none, .bin .eql .none (.t 27) (.c (.int .i64 1))⟩, ⟨some 29, none, .mv (.t 28)⟩, ⟨some 30, some (29, true), .mv (.t 7)⟩, ⟨some 31, some (29, true), .ixSl 2 (.t 30) (.c (.int .i64 0))⟩, ⟨some 32, some (29, true), .fAddr 0 (.t 31)⟩, ⟨some 33, some (29, true), .load1 (.t 32)⟩, ⟨some 34, some (29, true), .len .str (.t 33)⟩, ⟨some 35, some (29, true), .bin .eql .none (.t 34) (.c (.int .i64 1))⟩, ⟨some 36, none, .pick (.t 29) (.t 35) (.c (.bool false))⟩, ⟨some 37, none, .mv (.t 36)⟩, ⟨some 38, some (37, true), .mv (.t 7)⟩, ⟨some 39, some (37, true), .ixSl 2 (.t 38) (.c (.int .i64 0))⟩, ⟨some 40, some (37, true), .fAddr 1 (.t 39)⟩, ⟨some 41, some (37, true), .load1 (.t 40)⟩, ⟨some 42, some (37, true), .bin .eql .none (.t 41) (.c (.int .i64 0))⟩, ⟨some 43, none, .pick (.t 37) (.t 42) (.c (.bool false))⟩])
       (.cond (.t 43)
        (.seq
         (.region [⟨some 44, none, .mv (.t 5)⟩, ⟨some 45, none, .mv (.t 7)⟩, ⟨some 46, none, .ixSl 2 (.t 45) (.c (.int .i64 0))⟩, ⟨some 47, none, .fAddr 0 (.t 46)⟩, ⟨some 48, none, .load1 (.t 47)⟩, ⟨some 49, none, .bin .add .none (.t 44) (.t 48)⟩, ⟨some 5, none, .mv (.t 49)⟩])
         (.exit 1))
        .skip))
      (.seq
       (.region [⟨some 50, none, .mv (.t 5)⟩, ⟨some 51, none, .bin .add .none (.t 50) (.c (.str [40]))⟩, ⟨some 5, none, .mv (.t 51)⟩])
       (.seq
        (.seq
         (.region [⟨some 8, none, .mv (.c (.int .i64 0))⟩])
         (.block 2
          (.loop c12_l0)))
        (.region [⟨some 70, none, .mv (.t 5)⟩, ⟨some 71, none, .bin .add .none (.t 70) (.c (.str [41]))⟩, ⟨some 5, none, .mv (.t 71)⟩]))))))
   (.region [⟨some 19, none, .mv (.t 6)⟩, ⟨some 20, none, .bin .add .none (.t 19) (.c (.int .i64 1))⟩, ⟨some 6, none, .mv (.t 20)⟩])))
def c12 : CCode :=
 (.seq
  (.region [⟨some 2, none, .mv (.c (.str []))⟩, ⟨some 3, none, .mv (.c (.int .i64 0))⟩])
  (.seq
   (.region [⟨some 10, none, .mv (.t 0)⟩, ⟨some 11, none, .call (.c (.func 15 [] [])) [(.t 10)]⟩, ⟨some 4, none, .mv (.t 11)⟩])
   (.seq
    (.seq
     (.region [⟨some 12, none, .mv (.t 4)⟩, ⟨some 13, none, .bin .neq .none (.t 12) (.c (.int .i64 0))⟩])
     (.cond (.t 13)
      (.seq
       (.region [⟨some 14, none, .mv (.t 4)⟩, ⟨some 2, none, .mv (.c (.str []))⟩, ⟨some 3, none, .mv (.t 14)⟩])
       .ret)
      .skip))
    (.seq
     (.region [⟨some 5, none, .mv (.c (.str []))⟩])
     (.seq
      (.seq
       (.region [⟨some 6, none, .mv (.c (.int .i64 0))⟩])
       (.block 0
        (.loop c12_l1)))
      (.seq
       (.region [⟨some 72, none, .mv (.t 5)⟩, ⟨some 2, none, .mv (.t 72)⟩, ⟨some 3, none, .mv (.c (.int .i64 0))⟩])
       .ret))))))
theorem code12 : E2.code 12 = some (c12, [.tmp 2, .tmp 3]) := by kernel_rfl
def c14_l0 : CCode :=
 (.seq
  (.region [⟨some 11, none, .bin .lss .none (.t 10) (.t 9)⟩])
  (.seq
   (.cond (.t 11)
    .skip
    (.exit 0))
   (.seq
    (.block 1
     (.seq
      (.region [⟨some 12, none, .ixSl 1 (.t 8) (.t 10)⟩, ⟨some 13, none, .loadN 1 (.t 12)⟩, ⟨some 4, none, .box 55 (.c (.agg [.nilslice]))⟩, ⟨none, none, .store 1 (.t 4) (.t 13)⟩])
      (.seq
       (.region [⟨some 14, none, .loadN 1 (.t 4)⟩, ⟨some 15, none, .call (.c (.func 40 [] [])) [(.t 14)]⟩, ⟨some 16, none, .not (.t 15)⟩])
       (.cond (.t 16)
        (.seq
         (.region [⟨some 2, none, .mv (.c (.int .i64 1))⟩])
         .ret)
        .skip))))
    (.region [⟨some 17, none, .bin .add .none (.t 10) (.c (.int .i64 1))⟩, ⟨some 10, none, .mv (.t 17)⟩]))))
def c14 : CCode :=
 (.seq
  (.region [⟨some 2, none, .mv (.c (.int .i64 0))⟩])
  (.seq
   (.seq
    (.region [⟨some 5, none, .mv (.t 0)⟩, ⟨some 6, none, .len .slice (.t 5)⟩, ⟨some 7, none, .bin .gtr .none (.t 6) (.c (.int .i64 32))⟩])
    (.cond (.t 7)
     (.seq
      (.region [⟨some 2, none, .mv (.c (.int .i64 2))⟩])
      .ret)
     .skip))
   (.seq
    (.seq
     (.region [⟨some 8, none, .mv (.t 0)⟩, ⟨some 9, none, .len .slice (.t 8)⟩, ⟨some 10, none, .mv (.c (.int .i64 0))⟩])
     (.block 0
      (.loop c14_l0)))
    (.seq
     (.region [⟨some 2, none, .mv (.c (.int .i64 0))⟩])
     .ret))))
theorem code14 : E2.code 14 = some (c14, [.tmp 2]) := by kernel_rfl
def c15_l0 : CCode :=
 (.seq
  (.seq
   (.region [⟨some 8, none, .mv (.t 3)⟩, ⟨some 9, none, .mv (.t 0)⟩, ⟨some 10, none, .len .slice (.t 9)⟩, ⟨some 11, none, .bin .lss .none (.t 8) (.t 10)⟩])
   (.cond (.t 11)
    .skip
    (.exit 0)))
  (.seq
   (.block 1
    (.seq
     (.region [⟨some 14, none, .mv (.t 0)⟩, ⟨some 15, none, .mv (.t 3)⟩, ⟨some 16, none, .ixSl 1 (.t 14) (.t 15)⟩, ⟨some 17, none, .loadN 1 (.t 16)⟩, ⟨some 18, none, .call (.c (.func 41 [] [])) [(.t 17)]⟩, ⟨some 4, none, .mv (.t 18)⟩])
     (.seq
      (.region [⟨some 19, none, .mv (.t 4)⟩, ⟨some 20, none, .not (.t 19)⟩])
      (.cond (.t 20)
       (.seq
        (.region [⟨some 2, none, .mv (.c (.int .i64 1))⟩])
        .ret)
       .skip))))
   (.region [⟨some 12, none, .mv (.t 3)⟩, ⟨some 13, none, .bin .add .none (.t 12) (.c (.int .i64 1))⟩, ⟨some 3, none, .mv (.t 13)⟩])))
def c15 : CCode :=
 (.seq
  (.region [⟨some 2, none, .mv (.c (.int .i64 0))⟩])
  (.seq
   (.seq
    (.region [⟨some 5, none, .mv (.t 0)⟩, ⟨some 6, none, .len .slice (.t 5)⟩, ⟨some 7, none, .bin .gtr .none (.t 6) (.c (.int .i64 32))⟩])
    (.cond (.t 7)
     (.seq
      (.region [⟨some 2, none, .mv (.c (.int .i64 2))⟩])
      .ret)
     .skip))
   (.seq
    (.seq
     (.region [⟨some 3, none, .mv (.c (.int .i64 0))⟩])
     (.block 0
      (.loop c15_l0)))
    (.seq
     (.region [⟨some 2, none, .mv (.c (.int .i64 0))⟩])
     .ret))))
theorem code15 : E2.code 15 = some (c15, [.tmp 2]) := by kernel_rfl
def c23 : CCode :=
 (.seq
  (.region [⟨some 2, none, .mv (.c (.bool false))⟩])
  (.seq
   (.region [⟨some 3, none, .mv (.t 0)⟩, ⟨some 4, none, .bin .geq .none (.t 3) (.c (.int .u8 97))⟩, ⟨some 5, none, .mv (.t 4)⟩, ⟨some 6, some (5, true), .mv (.t 0)⟩, ⟨some 7, some (5, true), .bin .leq .none (.t 6) (.c (.int .u8 122))⟩, ⟨some 8, none, .pick (.t 5) (.t 7) (.c (.bool false))⟩, ⟨some 9, none, .mv (.t 8)⟩, ⟨some 10, some (9, false), .mv (.t 0)⟩, ⟨some 11, some (9, false), .bin .geq .none (.t 10) (.c (.int .u8 48))⟩, ⟨some 12, some (9, false), .mv (.t 11)⟩, ⟨some 13, some (12, true), .mv (.t 0)⟩, ⟨some 14, some (12, true), .bin .leq .none (.t 13) (.c (.int .u8 57))⟩, ⟨some 15, some (9, false), .pick (.t 12) (.t 14) (.c (.bool false))⟩, ⟨some 16, none, .pick (.t 9) (.c (.bool true)) (.t 15)⟩, ⟨some 17, none, .mv (.t 16)⟩, ⟨some 18, some (17, false), .mv (.t 0)⟩, ⟨some 19, some (17, false), .bin .eql .none (.t 18) (.c (.int .u8 32))⟩, ⟨some 20, none, .pick (.t 17) (.c (.bool true)) (.t 19)⟩, ⟨some 21, none, .mv (.t 20)⟩, ⟨some 22, some (21, false), .mv (.t 0)⟩, ⟨some 23, some (21, false), .bin .eql .none (.t 22) (.c (.int .u8 45))⟩, ⟨some 24, none, .pick (.t 21) (.c (.bool true)) (.t 23)⟩, ⟨some 2, none, .mv (.t 24)⟩])
   .ret))
theorem code23 : E2.code 23 = some (c23, [.tmp 2]) := by kernel_rfl
def c32 : CCode :=
 (.seq
  (.region [⟨some 4, none, .mv (.c (.int .i64 0))⟩, ⟨some 5, none, .mv (.c .niliface)⟩])
  (.seq
   (.region [⟨some 6, none, .mv (.t 0)⟩, ⟨some 7, none, .call (.c (.func 52 [] [])) [(.t 6)]⟩])
   (.seq
    (.region [⟨some 8, none, .mv (.t 0)⟩, ⟨some 9, none, .mv (.t 0)⟩, ⟨some 10, none, .nilCheck (.t 9)⟩, ⟨some 11, none, .fAddr 1 (.t 10)⟩, ⟨some 12, none, .load1 (.t 11)⟩, ⟨some 13, none, .mv (.t 1)⟩, ⟨some 14, none, .append 5 1 (.t 12) (.t 13)⟩, ⟨some 15, none, .nilCheck (.t 8)⟩, ⟨some 16, none, .fAddr 1 (.t 15)⟩, ⟨none, none, .store 1 (.t 16) (.t 14)⟩])
    (.seq
     (.region [⟨some 17, none, .mv (.t 1)⟩, ⟨some 18, none, .len .str (.t 17)⟩, ⟨some 4, none, .mv (.t 18)⟩, ⟨some 5, none, .mv (.c .niliface)⟩])
     .ret))))
theorem code32 : E2.code 32 = some (c32, [.tmp 4, .tmp 5]) := by kernel_rfl
def c33 : CCode :=
 (.seq
  (.region [⟨some 4, none, .mv (.c .niliface)⟩])
  (.seq
   (.region [⟨some 5, none, .mv (.t 0)⟩, ⟨some 6, none, .call (.c (.func 52 [] [])) [(.t 5)]⟩])
   (.seq
    (.region [⟨some 7, none, .mv (.t 0)⟩, ⟨some 8, none, .mv (.t 0)⟩, ⟨some 9, none, .nilCheck (.t 8)⟩, ⟨some 10, none, .fAddr 1 (.t 9)⟩, ⟨some 11, none, .load1 (.t 10)⟩, ⟨some 12, none, .mv (.t 1)⟩, ⟨some 13, none, .buildSlice 5 1 [(.int .u8 0)] [(0, 1, (.t 12))]⟩, ⟨some 14, none, .append 5 1 (.t 11) (.t 13)⟩, ⟨some 15, none, .nilCheck (.t 7)⟩, ⟨some 16, none, .fAddr 1 (.t 15)⟩, ⟨none, none, .store 1 (.t 16) (.t 14)⟩])
    (.seq
     (.region [⟨some 4, none, .mv (.c .niliface)⟩])
     .ret))))
theorem code33 : E2.code 33 = some (c33, [.tmp 4]) := by kernel_rfl
def c35 : CCode :=
 (.seq
  (.region [⟨some 2, none, .mv (.c (.str []))⟩])
  (.seq
   (.drawn 12 [⟨⟨some 3, none, .mv (.t 0)⟩, 0, .pure, []⟩, ⟨⟨some 4, none, .nilCheck (.t 3)⟩, 1, .pure, []⟩, ⟨⟨some 5, none, .fAddr 1 (.t 4)⟩, 2, .pure, []⟩, ⟨⟨some 6, none, .load1 (.t 5)⟩, 3, .read, []⟩, ⟨⟨some 8, none, .mv (.t 0)⟩, 5, .pure, []⟩, ⟨⟨some 9, none, .nilCheck (.t 8)⟩, 6, .pure, []⟩, ⟨⟨some 10, none, .fAddr 1 (.t 9)⟩, 7, .pure, []⟩, ⟨⟨some 11, none, .load1 (.t 10)⟩, 8, .read, []⟩, ⟨⟨some 12, none, .len .slice (.t 11)⟩, 9, .pure, []⟩, ⟨⟨some 7, none, .sliceData (.t 6)⟩, 4, .pure, []⟩, ⟨⟨some 13, none, .unsafeStr 5 (.t 7) (.t 12)⟩, 10, .wr, []⟩, ⟨⟨some 2, none, .mv (.t 13)⟩, 11, .pure, []⟩])
   .ret))
theorem code35 : E2.code 35 = some (c35, [.tmp 2]) := by kernel_rfl
def c36 : CCode :=
 (.seq
  (.region [⟨some 1, none, .box 57 (.t 0)⟩, ⟨some 2, none, .mv (.c (.str []))⟩])
  (.seq
   (.seq
    (.region [⟨some 3, none, .fAddr 1 (.t 1)⟩, ⟨some 4, none, .load1 (.t 3)⟩, ⟨some 5, none, .bin .eql .none (.t 4) (.c (.int .i64 0))⟩])
    (.cond (.t 5)
     (.seq
      (.region [⟨some 6, none, .fAddr 0 (.t 1)⟩, ⟨some 7, none, .load1 (.t 6)⟩, ⟨some 2, none, .mv (.t 7)⟩])
      .ret)
     .skip))
   (.seq
    (.drawn 8 [⟨⟨some 8, none, .fAddr 0 (.t 1)⟩, 0, .pure, []⟩, ⟨⟨some 9, none, .load1 (.t 8)⟩, 1, .read, []⟩, ⟨⟨some 10, none, .bin .add .none (.t 9) (.c (.str [58]))⟩, 2, .pure, []⟩, ⟨⟨some 11, none, .fAddr 1 (.t 1)⟩, 3, .pure, []⟩, ⟨⟨some 12, none, .load1 (.t 11)⟩, 4, .read, []⟩, ⟨⟨some 13, none, .call (.c (.func 34 [] [])) [(.t 12)]⟩, 5, .wr, [⟨some 9, none, .load1 (.t 8)⟩]⟩, ⟨⟨some 14, none, .bin .add .none (.t 10) (.t 13)⟩, 6, .pure, []⟩, ⟨⟨some 2, none, .mv (.t 14)⟩, 7, .pure, []⟩])
    .ret)))
theorem code36 : E2.code 36 = some (c36, [.tmp 2]) := by kernel_rfl
def c40_l0 : CCode :=
 (.seq
  (.region [⟨some 21, none, .bin .lss .none (.t 20) (.t 19)⟩])
  (.seq
   (.cond (.t 21)
    .skip
    (.exit 0))
   (.seq
    (.block 1
     (.seq
      (.region [⟨some 22, none, .ixSl 2 (.t 18) (.t 20)⟩, ⟨some 23, none, .loadN 2 (.t 22)⟩, ⟨some 5, none, .box 57 (.c (.agg [(.str []), (.int .i64 0)]))⟩, ⟨none, none, .store 2 (.t 5) (.t 23)⟩])
      (.seq
       (.seq
        (.region [⟨some 24, none, .fAddr 0 (.t 5)⟩, ⟨some 25, none, .load1 (.t 24)⟩, ⟨some 26, none, .len .str (.t 25)⟩, ⟨some 27, none, .bin .gtr .none (.t 26) (.c (.int .i64 3))⟩, ⟨some 28, none, .mv (.t 27)⟩, ⟨some 29, some (28, false), .fAddr 0 (.t 5)⟩, ⟨some 30, some (28, false), .load1 (.t 29)⟩, ⟨some 31, some (28, false), .call (.c (.func 49 [] [])) [(.t 30)]⟩, ⟨some 32, some (28, false), .not (.t 31)⟩, ⟨some 33, none, .pick (.t 28) (.c (.bool true)) (.t 32)⟩, ⟨some 34, none, .mv (.t 33)⟩, ⟨some 35, some (34, false), .fAddr 1 (.t 5)⟩, ⟨some 36, some (34, false), .load1 (.t 35)⟩, ⟨some 37, some (34, false), .bin .lss .none (.t 36) (.c (.int .i64 0))⟩, ⟨some 38, none, .pick (.t 34) (.c (.bool true)) (.t 37)⟩, ⟨some 39, none, .mv (.t 38)⟩, ⟨some 40, some (39, false), .fAddr 1 (.t 5)⟩, ⟨some 41, some (39, false), .load1 (.t 40)⟩, ⟨some 42, some (39, false), .bin .gtr .none (.t 41) (.c (.int .i64 1000))⟩, ⟨some 43, none, .pick (.t 39) (.c (.bool true)) (.t 42)⟩, ⟨some 44, none, .mv (.t 43)⟩, ⟨some 45, some (44, false), .mv (.t 3)⟩, ⟨some 46, some (44, false), .fAddr 0 (.t 5)⟩, ⟨some 47, some (44, false), .load1 (.t 46)⟩, ⟨some 48, some (44, false), .lookup (.one .s) (.bool false) (.t 45) (.t 47) false⟩, ⟨some 49, none, .pick (.t 44) (.c (.bool true)) (.t 48)⟩])
        (.cond (.t 49)
         (.seq
          (.region [⟨some 2, none, .mv (.c (.bool false))⟩])
          .ret)
         .skip))
       (.region [⟨some 50, none, .mv (.t 3)⟩, ⟨some 51, none, .fAddr 0 (.t 5)⟩, ⟨some 52, none, .load1 (.t 51)⟩, ⟨none, none, .mapPut (.one .s) (.t 50) (.t 52) (.c (.bool true))⟩]))))
    (.region [⟨some 53, none, .bin .add .none (.t 20) (.c (.int .i64 1))⟩, ⟨some 20, none, .mv (.t 53)⟩]))))
def c40 : CCode :=
 (.seq
  (.region [⟨some 1, none, .box 55 (.t 0)⟩, ⟨some 2, none, .mv (.c (.bool false))⟩])
  (.seq
   (.seq
    (.region [⟨some 6, none, .fAddr 0 (.t 1)⟩, ⟨some 7, none, .load1 (.t 6)⟩, ⟨some 8, none, .len .slice (.t 7)⟩, ⟨some 9, none, .bin .lss .none (.t 8) (.c (.int .i64 1))⟩, ⟨some 10, none, .mv (.t 9)⟩, ⟨some 11, some (10, false), .fAddr 0 (.t 1)⟩, ⟨some 12, some (10, false), .load1 (.t 11)⟩, ⟨some 13, some (10, false), .len .slice (.t 12)⟩, ⟨some 14, some (10, false), .bin .gtr .none (.t 13) (.c (.int .i64 8))⟩, ⟨some 15, none, .pick (.t 10) (.c (.bool true)) (.t 14)⟩])
    (.cond (.t 15)
     (.seq
      (.region [⟨some 2, none, .mv (.c (.bool false))⟩])
      .ret)
     .skip))
   (.seq
    (.region [⟨some 16, none, .mkMap⟩, ⟨some 3, none, .mv (.t 16)⟩])
    (.seq
     (.seq
      (.region [⟨some 17, none, .fAddr 0 (.t 1)⟩, ⟨some 18, none, .load1 (.t 17)⟩, ⟨some 19, none, .len .slice (.t 18)⟩, ⟨some 20, none, .mv (.c (.int .i64 0))⟩])
      (.block 0
       (.loop c40_l0)))
     (.seq
      (.region [⟨some 2, none, .mv (.c (.bool true))⟩])
      .ret)))))
theorem code40 : E2.code 40 = some (c40, [.tmp 2]) := by kernel_rfl
def c41_l0 : CCode :=
 (.seq
  (.seq
   (.region [⟨some 60, none, .mv (.t 5)⟩, ⟨some 61, none, .mv (.t 3)⟩, ⟨some 62, none, .bin .lss .none (.t 60) (.t 61)⟩])
   (.cond (.t 62)
    .skip
    (.exit 2)))
  (.seq
   (.block 3
    (.seq
     (.drawn 13 [⟨⟨some 65, none, .fAddr 0 (.t 1)⟩, 0, .pure, []⟩, ⟨⟨some 66, none, .load1 (.t 65)⟩, 1, .read, []⟩, ⟨⟨some 67, none, .mv (.t 5)⟩, 2, .pure, []⟩, ⟨⟨some 68, none, .ixSl 2 (.t 66) (.t 67)⟩, 3, .pure, []⟩, ⟨⟨some 69, none, .fAddr 0 (.t 68)⟩, 4, .pure, []⟩, ⟨⟨some 70, none, .load1 (.t 69)⟩, 5, .read, []⟩, ⟨⟨some 71, none, .fAddr 0 (.t 1)⟩, 6, .pure, []⟩, ⟨⟨some 72, none, .load1 (.t 71)⟩, 7, .read, []⟩, ⟨⟨some 73, none, .mv (.t 3)⟩, 8, .pure, []⟩, ⟨⟨some 74, none, .ixSl 2 (.t 72) (.t 73)⟩, 9, .pure, []⟩, ⟨⟨some 75, none, .fAddr 0 (.t 74)⟩, 10, .pure, []⟩, ⟨⟨some 76, none, .load1 (.t 75)⟩, 11, .read, []⟩, ⟨⟨some 77, none, .bin .eql .none (.t 70) (.t 76)⟩, 12, .pure, []⟩])
     (.cond (.t 77)
      (.seq
       (.region [⟨some 2, none, .mv (.c (.bool false))⟩])
       .ret)
      .skip)))
   (.region [⟨some 63, none, .mv (.t 5)⟩, ⟨some 64, none, .bin .add .none (.t 63) (.c (.int .i64 1))⟩, ⟨some 5, none, .mv (.t 64)⟩])))
def c41_l1 : CCode :=
 (.seq
  (.seq
   (.region [⟨some 16, none, .mv (.t 3)⟩, ⟨some 17, none, .fAddr 0 (.t 1)⟩, ⟨some 18, none, .load1 (.t 17)⟩, ⟨some 19, none, .len .slice (.t 18)⟩, ⟨some 20, none, .bin .lss .none (.t 16) (.t 19)⟩])
   (.cond (.t 20)
    .skip
    (.exit 0)))
  (.seq
   (.block 1
    (.seq
     (.region [⟨some 23, none, .fAddr 0 (.t 1)⟩, ⟨some 24, none, .load1 (.t 23)⟩, ⟨some 25, none, .mv (.t 3)⟩, ⟨some 26, none, .ixSl 2 (.t 24) (.t 25)⟩, ⟨some 27, none, .fAddr 0 (.t 26)⟩, ⟨some 28, none, .load1 (.t 27)⟩, ⟨some 29, none, .call (.c (.func 50 [] [])) [(.t 28)]⟩, ⟨some 4, none, .mv (.t 29)⟩])
     (.seq
      (.seq
       (.region [⟨some 30, none, .mv (.t 4)⟩, ⟨some 31, none, .not (.t 30)⟩, ⟨some 32, none, .mv (.t 31)⟩, ⟨some 33, some (32, false), .fAddr 0 (.t 1)⟩, ⟨some 34, some (32, false), .load1 (.t 33)⟩, ⟨some 35, some (32, false), .mv (.t 3)⟩, ⟨some 36, some (32, false), .ixSl 2 (.t 34) (.t 35)⟩, ⟨some 37, some (32, false), .fAddr 0 (.t 36)⟩, ⟨some 38, some (32, false), .load1 (.t 37)⟩, ⟨some 39, some (32, false), .len .str (.t 38)⟩, ⟨some 40, some (32, false), .bin .gtr .none (.t 39) (.c (.int .i64 3))⟩, ⟨some 41, none, .pick (.t 32) (.c (.bool true)) (.t 40)⟩, ⟨some 42, none, .mv (.t 41)⟩, ⟨some 43, some (42, false), .fAddr 0 (.t 1)⟩, ⟨some 44, some (42, false), .load1 (.t 43)⟩, ⟨some 45, some (42, false), .mv (.t 3)⟩, ⟨some 46, some (42, false), .ixSl 2 (.t 44) (.t 45)⟩, ⟨some 47, some (42, false), .fAddr 1 (.t 46)⟩, ⟨some 48, some (42, false), .load1 (.t 47)⟩, ⟨some 49, some (42, false), .bin .lss .none (.t 48) (.c (.int .i64 0))⟩, ⟨some 50, none, .pick (.t 42) (.c (.bool true)) (.t 49)⟩, ⟨some 51, none, .mv (.t 50)⟩, ⟨some 52, some (51, false), .fAddr 0 (.t 1)⟩, ⟨some 53, some (51, false), .load1 (.t 52)⟩, ⟨some 54, some (51, false), .mv (.t 3)⟩, ⟨some 55, some (51, false), .ixSl 2 (.t 53) (.t 54)⟩, ⟨some 56, some (51, false), .fAddr 1 (.t 55)⟩, ⟨some 57, some (51, false), .load1 (.t 56)⟩, ⟨some 58, some (51, false), .bin .gtr .none (.t 57) (.c (.int .i64 1000))⟩, ⟨some 59, none, .pick (.t 51) (.c (.bool true)) (.t 58)⟩])
       (.cond (.t 59)
        (.seq
         (.region [⟨some 2, none, .mv (.c (.bool false))⟩])
         .ret)
        .skip))
      (.seq
       (.region [⟨some 5, none, .mv (.c (.int .i64 0))⟩])
       (.block 2
        (.loop c41_l0))))))
   (.region [⟨some 21, none, .mv (.t 3)⟩, ⟨some 22, none, .bin .add .none (.t 21) (.c (.int .i64 1))⟩, ⟨some 3, none, .mv (.t 22)⟩])))
def c41 : CCode :=
 (.seq
  (.region [⟨some 1, none, .box 55 (.t 0)⟩, ⟨some 2, none, .mv (.c (.bool false))⟩])
  (.seq
   (.seq
    (.region [⟨some 6, none, .fAddr 0 (.t 1)⟩, ⟨some 7, none, .load1 (.t 6)⟩, ⟨some 8, none, .len .slice (.t 7)⟩, ⟨some 9, none, .bin .lss .none (.t 8) (.c (.int .i64 1))⟩, ⟨some 10, none, .mv (.t 9)⟩, ⟨some 11, some (10, false), .fAddr 0 (.t 1)⟩, ⟨some 12, some (10, false), .load1 (.t 11)⟩, ⟨some 13, some (10, false), .len .slice (.t 12)⟩, ⟨some 14, some (10, false), .bin .gtr .none (.t 13) (.c (.int .i64 8))⟩, ⟨some 15, none, .pick (.t 10) (.c (.bool true)) (.t 14)⟩])
    (.cond (.t 15)
     (.seq
      (.region [⟨some 2, none, .mv (.c (.bool false))⟩])
      .ret)
     .skip))
   (.seq
    (.seq
     (.region [⟨some 3, none, .mv (.c (.int .i64 0))⟩])
     (.block 0
      (.loop c41_l1)))
    (.seq
     (.region [⟨some 2, none, .mv (.c (.bool true))⟩])
     .ret))))
theorem code41 : E2.code 41 = some (c41, [.tmp 2]) := by kernel_rfl
def c46_l0 : CCode :=
 (.seq
  (.seq
   (.region [⟨some 4, none, .mv (.t 3)⟩, ⟨some 5, none, .bin .lss .none (.t 4) (.c (.int .i64 38))⟩])
   (.cond (.t 5)
    .skip
    (.exit 0)))
  (.seq
   (.block 1
    (.seq
     (.region [⟨some 8, none, .mv (.t 3)⟩, ⟨some 9, none, .ixStr (.c (.str [32, 45, 48, 49, 50, 51, 52, 53, 54, 55, 56, 57, 97, 98, 99, 100, 101, 102, 103, 104, 105, 106, 107, 108, 109, 110, 111, 112, 113, 114, 115, 116, 117, 118, 119, 120, 121, 122])) (.t 8)⟩, ⟨some 10, none, .mv (.t 0)⟩, ⟨some 11, none, .bin .eql .none (.t 9) (.t 10)⟩])
     (.cond (.t 11)
      (.seq
       (.region [⟨some 12, none, .mv (.t 3)⟩, ⟨some 2, none, .mv (.t 12)⟩])
       .ret)
      .skip)))
   (.region [⟨some 6, none, .mv (.t 3)⟩, ⟨some 7, none, .bin .add .none (.t 6) (.c (.int .i64 1))⟩, ⟨some 3, none, .mv (.t 7)⟩])))
def c46 : CCode :=
 (.seq
  (.region [⟨some 2, none, .mv (.c (.int .i64 0))⟩])
  (.seq
   (.seq
    (.region [⟨some 3, none, .mv (.c (.int .i64 0))⟩])
    (.block 0
     (.loop c46_l0)))
   (.seq
    (.region [⟨some 2, none, .mv (.c (.int .i64 (-1)))⟩])
    .ret)))
theorem code46 : E2.code 46 = some (c46, [.tmp 2]) := by kernel_rfl
def c49_l0 : CCode :=
 (.seq
  (.region [⟨some 7, none, .bin .lss .none (.t 6) (.t 5)⟩])
  (.seq
   (.cond (.t 7)
    .skip
    (.exit 0))
   (.seq
    (.block 1
     (.seq
      (.region [⟨some 8, none, .mv (.t 6)⟩, ⟨some 3, none, .mv (.t 8)⟩])
      (.seq
       (.region [⟨some 9, none, .mv (.t 0)⟩, ⟨some 10, none, .mv (.t 3)⟩, ⟨some 11, none, .ixStr (.t 9) (.t 10)⟩, ⟨some 12, none, .call (.c (.func 23 [] [])) [(.t 11)]⟩, ⟨some 13, none, .not (.t 12)⟩])
       (.cond (.t 13)
        (.seq
         (.region [⟨some 2, none, .mv (.c (.bool false))⟩])
         .ret)
        .skip))))
    (.region [⟨some 14, none, .bin .add .none (.t 6) (.c (.int .i64 1))⟩, ⟨some 6, none, .mv (.t 14)⟩]))))
def c49 : CCode :=
 (.seq
  (.region [⟨some 2, none, .mv (.c (.bool false))⟩])
  (.seq
   (.seq
    (.region [⟨some 4, none, .mv (.t 0)⟩, ⟨some 5, none, .len .str (.t 4)⟩, ⟨some 6, none, .mv (.c (.int .i64 0))⟩])
    (.block 0
     (.loop c49_l0)))
   (.seq
    (.region [⟨some 2, none, .mv (.c (.bool true))⟩])
    .ret)))
theorem code49 : E2.code 49 = some (c49, [.tmp 2]) := by kernel_rfl
def c50_l0 : CCode :=
 (.seq
  (.seq
   (.region [⟨some 4, none, .mv (.t 3)⟩, ⟨some 5, none, .mv (.t 0)⟩, ⟨some 6, none, .len .str (.t 5)⟩, ⟨some 7, none, .bin .lss .none (.t 4) (.t 6)⟩])
   (.cond (.t 7)
    .skip
    (.exit 0)))
  (.seq
   (.block 1
    (.seq
     (.region [⟨some 10, none, .mv (.t 0)⟩, ⟨some 11, none, .mv (.t 3)⟩, ⟨some 12, none, .ixStr (.t 10) (.t 11)⟩, ⟨some 13, none, .call (.c (.func 46 [] [])) [(.t 12)]⟩, ⟨some 14, none, .bin .lss .none (.t 13) (.c (.int .i64 0))⟩])
     (.cond (.t 14)
      (.seq
       (.region [⟨some 2, none, .mv (.c (.bool false))⟩])
       .ret)
      .skip)))
   (.region [⟨some 8, none, .mv (.t 3)⟩, ⟨some 9, none, .bin .add .none (.t 8) (.c (.int .i64 1))⟩, ⟨some 3, none, .mv (.t 9)⟩])))
def c50 : CCode :=
 (.seq
  (.region [⟨some 2, none, .mv (.c (.bool false))⟩])
  (.seq
   (.seq
    (.region [⟨some 3, none, .mv (.c (.int .i64 0))⟩])
    (.block 0
     (.loop c50_l0)))
   (.seq
    (.region [⟨some 2, none, .mv (.c (.bool true))⟩])
    .ret)))
theorem code50 : E2.code 50 = some (c50, [.tmp 2]) := by kernel_rfl
end
end Go.AX
namespace Go.AX
open Go Go.Proofs
noncomputable section
set_option linter.unusedSimpArgs false
set_option linter.unusedVariables false
attribute [local go_sem] b_seq wp_skip wp_exit wp_ret wp_region b_block wops_nil b_ops b_opsg b_cond condV_lite wo_mv b_bin wo_call callV_func wo_pick b_box wo_load1 wo_loadN wo_store wo_nilCheck wo_not wo_lenStr' wo_lenSl wo_ixStr' wo_ixSl wo_fAddr wo_part1 wo_partN wo_extract wo_cInt wo_cStr wo_mkMap wo_mkIface wo_mkFunc wo_lookup pickV_bool ifT_true ifT_false b_loadV b_loadNV b_storeV nilV_ptr nilV_func nilV_iface notV_bool lenStrV_str lenSlV_nil lenSlV_slice b_ixStrV ixSlV_slice fAddrV_ptr b_part1V partNV_agg b_extractV convV_int strV_str evC_tm evC_cn T.get_set putA_some putA_none onO_some evCs_nil evCs_cons appL_nil appL_cons guardOk_true guardOk_false cellsV_bool cellsV_int cellsV_str cellsV_nilptr cellsV_ptr cellsV_nilslice cellsV_slice cellsV_nilmap cellsV_map cellsV_func cellsV_nilfunc cellsV_iface cellsV_niliface cellsV_agg bin_lss bin_gtr bin_leq bin_geq bin_eql bin_neq bin_add bin_sub bin_eqlS bin_neqS mkFrame_nil mkFrame_cons resA_one resA_two resA_three over_0 over_1 over_2 over_3 over_4 over_5 over0_nil over0_cons Option.getD_some if_true if_false AHeap.next_push AVal.bool.injEq decide_eq_true_eq decide_eq_false_iff_not Bool.not_eq_true' Bool.not_eq_false' Bool.not_eq_true decide_true decide_false Bool.not_true Bool.not_false Int.toNat_natCast Int.natCast_nonneg true_and and_true wo_mapPut wp_drawn' wsts_nil b_pure b_read b_new b_wr wor_none b_org rer_nil rer_load1 rer_loadN wo_append AHeap.next_skip AHeap.next_put' AHeap.mk_push_t AHeap.mk_eta AHeap.mk_skip ldA_skip ldN_skip Nat.add_zero Nat.zero_add b_lite_true b_lite_false eq_self_iff_true not_true_eq_false not_false_eq_true bx_k bx_q bx_x bx_1 undefA_bool putAt_push List.length_cons List.length_nil Nat.le_refl ldA_push_new ldN_push_new List.getElem?_cons_zero List.getElem?_cons_succ List.drop_zero List.drop_succ_cons List.take_succ_cons List.take_zero b_build b_buildSlice evParts_nil evParts_cons b_fillA_nil b_fillA nbeq nble natadd natmul lenL_eq repL_1 repL_2 repL_3 wo_sliceData sdV_nil sdV_slice wo_unsafeStr usV_nil wo_slStr slStrV_str evCo_none evCo_some boundA_none Bool.and_true Bool.true_and wo_minmax2' mm2V_int
def alph : List Nat := [32, 45, 48, 49, 50, 51, 52, 53, 54, 55, 56, 57, 97, 98, 99, 100, 101, 102, 103, 104, 105, 106, 107, 108, 109, 110, 111, 112, 113, 114, 115, 116, 117, 118, 119, 120, 121, 122]
def isL (c : Nat) : Bool := decide (97 ≤ c ∧ c ≤ 122 ∨ 48 ≤ c ∧ c ≤ 57 ∨ c = 32 ∨ c = 45)
theorem alph_at : ∀ i, i < 38 → ∃ c, alph[i]? = some c ∧ isL c = true := by
  intro i hi
  have h : (List.range 38).all (fun i => match alph[i]? with | some c => isL c | none => false) = true := by kernel_rfl
  have := List.all_eq_true.1 h i (List.mem_range.2 hi)
  split at this
  · rename_i c hc; exact ⟨c, hc, this⟩
  · cases this
theorem isL_alph {c : Nat} (h : isL c = true) : ∃ i, i < 38 ∧ alph[i]? = some c := by
  have h1 : (List.range 128).all (fun c => !(isL c) || (List.range 38).any fun i => alph[i]? == some c) = true := by kernel_rfl
  have hc : c < 128 := by unfold isL at h; simp at h; omega
  have := List.all_eq_true.1 h1 c (List.mem_range.2 hc)
  rw [h] at this
  simp only [Bool.not_true, Bool.false_or, List.any_eq_true, List.mem_range, beq_iff_eq] at this
  exact this
theorem isLetter_c (c : Nat) (h : AHeap) : Ec E2 23 [.int .u8 (c : Int)] h fun v h' => v = .bool (isL c) ∧ h' = h := by
  refine Ec.of_wpb (prim2_none (by decide)) code23 ?_
  unfold c23
  rcases (show (c < 32 ∧ isL c = false) ∨ (c = 32 ∧ isL c = true) ∨ ((32 < c ∧ c < 45) ∧ isL c = false) ∨ (c = 45 ∧ isL c = true) ∨ ((45 < c ∧ c < 48) ∧ isL c = false) ∨ ((48 ≤ c ∧ c ≤ 57) ∧ isL c = true) ∨ ((57 < c ∧ c < 97) ∧ isL c = false) ∨ ((97 ≤ c ∧ c ≤ 122) ∧ isL c = true) ∨ (122 < c ∧ isL c = false) by unfold isL; simp; omega) with ⟨g, e⟩ | ⟨g, e⟩ | ⟨g, e⟩ | ⟨g, e⟩ | ⟨g, e⟩ | ⟨g, e⟩ | ⟨g, e⟩ | ⟨g, e⟩ | ⟨g, e⟩ <;> rw [e] <;>
    by_cases h1 : (c : Int) < 97 <;> (try (exfalso; omega)) <;> by_cases h2 : (122 : Int) < c <;> (try (exfalso; omega)) <;> by_cases h3 : (c : Int) < 48 <;> (try (exfalso; omega)) <;> by_cases h4 : (57 : Int) < c <;> (try (exfalso; omega)) <;> by_cases h5 : (c : Int) = 32 <;> (try (exfalso; omega)) <;> by_cases h6 : (c : Int) = 45 <;> (try (exfalso; omega)) <;>
    simp only [go_sem, Nat.reduceEqDiff, Int.reduceLT, Int.reduceLE, Int.reduceEq, Nat.reduceLT, Nat.reduceAdd, Nat.reduceMul, Int.reduceToNat, Nat.reduceLeDiff, reduceCtorEq, h1, h2, h3, h4, h5, h6]
theorem place_c (c : Nat) (h : AHeap) : Ec E2 46 [.int .u8 (c : Int)] h fun v h' => (∃ n : Int, v = .int .i64 n ∧ decide (0 ≤ n) = isL c ∧ (0 ≤ n → alph[n.toNat]? = some c)) ∧ h' = h := by
  refine Ec.of_wpb (prim2_none (by decide)) code46 ?_
  unfold c46
  simp only [go_sem, Nat.reduceEqDiff, Int.reduceLT, Int.reduceLE, Int.reduceEq, Nat.reduceLT, Nat.reduceAdd, Nat.reduceMul, Int.reduceToNat, Nat.reduceLeDiff, reduceCtorEq]
  refine b_loop (fun d fr h' => h' = h ∧ fr.get 0 = some (.int .u8 (c : Int)) ∧ ∃ i : Nat, fr.get 3 = some (.int .i64 (i : Int)) ∧ d + i = 38 ∧ ∀ j, j < i → alph[j]? ≠ some c) 38 ⟨rfl, by rfl, 0, by simp [T.get_set], rfl, by simp⟩ ?_
  rintro d fr h' ⟨rfl, h0, i, h3, hd, hlt⟩
  unfold c46_l0
  simp only [go_sem, Nat.reduceEqDiff, Int.reduceLT, Int.reduceLE, Int.reduceEq, Nat.reduceLT, Nat.reduceAdd, Nat.reduceMul, Int.reduceToNat, Nat.reduceLeDiff, reduceCtorEq, h0, h3]
  refine b_lite (fun hc => ?_) (fun hc => ?_) <;> (try simp only [go_sem, Nat.reduceEqDiff, Int.reduceLT, Int.reduceLE, Int.reduceEq, Nat.reduceLT, Nat.reduceAdd, Nat.reduceMul, Int.reduceToNat, Nat.reduceLeDiff, reduceCtorEq, h0, h3])
  · obtain ⟨b, hb, hb2⟩ := alph_at i (by omega)
    show onO (alph[i]?) _
    rw [hb]
    simp only [go_sem, Nat.reduceEqDiff, Int.reduceLT, Int.reduceLE, Int.reduceEq, Nat.reduceLT, Nat.reduceAdd, Nat.reduceMul, Int.reduceToNat, Nat.reduceLeDiff, reduceCtorEq, h0, h3]
    refine b_lite (fun e => ?_) (fun e => ?_) <;> (try simp only [go_sem, Nat.reduceEqDiff, Int.reduceLT, Int.reduceLE, Int.reduceEq, Nat.reduceLT, Nat.reduceAdd, Nat.reduceMul, Int.reduceToNat, Nat.reduceLeDiff, reduceCtorEq, h0, h3])
    · have e : b = c := by omega
      subst e
      exact ⟨i, rfl, by rw [hb2]; simp, fun _ => by simpa using hb⟩
    · refine ⟨d - 1, by omega, i + 1, ?_, by omega, fun j hj => ?_⟩
      · rw [wrap_i64 (by omega) (by omega)]; rfl
      · by_cases hji : j = i
        · subst hji; rw [hb]; intro e2; cases e2; exact e rfl
        · exact hlt j (by omega)
  · refine ⟨-1, rfl, ?_, fun h => by omega⟩
    have hi : i = 38 := by omega
    cases hc2 : isL c with
    | false => simp
    | true =>
      obtain ⟨j, hj, hj2⟩ := isL_alph hc2
      exact absurd hj2 (hlt j (by omega))
def lettered (s : List Nat) : Bool := s.all isL
theorem lettered_take {s : List Nat} {i : Nat} {b : Nat} (hb : s[i]? = some b) : lettered (s.take (i + 1)) = (lettered (s.take i) && isL b) := by
  unfold lettered
  rw [List.take_add_one, hb, List.all_append]
  simp
theorem lettered_false {s : List Nat} {i : Nat} {b : Nat} (hb : s[i]? = some b) (h : isL b = false) : lettered s = false := by
  unfold lettered
  rw [List.all_eq_false]
  exact ⟨b, List.mem_of_getElem? hb, by simp [h]⟩
theorem letters_c (s : List Nat) (h : AHeap) (hs : s.length ≤ 9223372036854775807) : Ec E2 49 [.str s] h fun v h' => v = .bool (lettered s) ∧ h' = h := by
  refine Ec.of_wpb (prim2_none (by decide)) code49 ?_
  unfold c49
  simp only [go_sem, Nat.reduceEqDiff, Int.reduceLT, Int.reduceLE, Int.reduceEq, Nat.reduceLT, Nat.reduceAdd, Nat.reduceMul, Int.reduceToNat, Nat.reduceLeDiff, reduceCtorEq]
  refine b_loop (fun d fr h' => h' = h ∧ fr.get 0 = some (.str s) ∧ fr.get 5 = some (.int .i64 (s.length : Int)) ∧ ∃ i : Nat, fr.get 6 = some (.int .i64 (i : Int)) ∧ d + i = s.length ∧ lettered (s.take i) = true) s.length ⟨rfl, by simp [T.get_set], by simp [T.get_set], 0, by simp [T.get_set], rfl, rfl⟩ ?_
  rintro d fr h' ⟨rfl, h0, h5, i, h6, hd, hl⟩
  unfold c49_l0
  simp only [go_sem, Nat.reduceEqDiff, Int.reduceLT, Int.reduceLE, Int.reduceEq, Nat.reduceLT, Nat.reduceAdd, Nat.reduceMul, Int.reduceToNat, Nat.reduceLeDiff, reduceCtorEq, h0, h5, h6]
  refine b_lite (fun hc => ?_) (fun hc => ?_) <;> (try simp only [go_sem, Nat.reduceEqDiff, Int.reduceLT, Int.reduceLE, Int.reduceEq, Nat.reduceLT, Nat.reduceAdd, Nat.reduceMul, Int.reduceToNat, Nat.reduceLeDiff, reduceCtorEq, h0, h5, h6])
  · obtain ⟨b, hb⟩ : ∃ b, s[i]? = some b := ⟨_, List.getElem?_eq_getElem (by omega)⟩
    rw [hb]
    simp only [go_sem, Nat.reduceEqDiff, Int.reduceLT, Int.reduceLE, Int.reduceEq, Nat.reduceLT, Nat.reduceAdd, Nat.reduceMul, Int.reduceToNat, Nat.reduceLeDiff, reduceCtorEq, h0, h5, h6]
    refine ⟨by decide, ?_⟩
    refine (isLetter_c b h').mono ?_
    rintro v h1 ⟨rfl, rfl⟩
    simp only [go_sem, Nat.reduceEqDiff, Int.reduceLT, Int.reduceLE, Int.reduceEq, Nat.reduceLT, Nat.reduceAdd, Nat.reduceMul, Int.reduceToNat, Nat.reduceLeDiff, reduceCtorEq, h0, h5, h6]
    refine b_lite (fun e => ?_) (fun e => ?_) <;> (try simp only [go_sem, Nat.reduceEqDiff, Int.reduceLT, Int.reduceLE, Int.reduceEq, Nat.reduceLT, Nat.reduceAdd, Nat.reduceMul, Int.reduceToNat, Nat.reduceLeDiff, reduceCtorEq, h0, h5, h6])
    · rw [lettered_false hb e]
    · refine ⟨d - 1, by omega, i + 1, ?_, by omega, ?_⟩
      · rw [wrap_i64 (by omega) (by omega)]; rfl
      · rw [lettered_take hb, hl]; simpa using e
  · have : i = s.length := by omega
    rw [this, List.take_length] at hl
    rw [hl]
theorem lettered_c (s : List Nat) (h : AHeap) (hs : s.length ≤ 9223372036854775807) : Ec E2 50 [.str s] h fun v h' => v = .bool (lettered s) ∧ h' = h := by
  refine Ec.of_wpb (prim2_none (by decide)) code50 ?_
  unfold c50
  simp only [go_sem, Nat.reduceEqDiff, Int.reduceLT, Int.reduceLE, Int.reduceEq, Nat.reduceLT, Nat.reduceAdd, Nat.reduceMul, Int.reduceToNat, Nat.reduceLeDiff, reduceCtorEq]
  refine b_loop (fun d fr h' => h' = h ∧ fr.get 0 = some (.str s) ∧ ∃ i : Nat, fr.get 3 = some (.int .i64 (i : Int)) ∧ d + i = s.length ∧ lettered (s.take i) = true) s.length ⟨rfl, by simp [T.get_set], 0, by simp [T.get_set], rfl, rfl⟩ ?_
  rintro d fr h' ⟨rfl, h0, i, h3, hd, hl⟩
  unfold c50_l0
  simp only [go_sem, Nat.reduceEqDiff, Int.reduceLT, Int.reduceLE, Int.reduceEq, Nat.reduceLT, Nat.reduceAdd, Nat.reduceMul, Int.reduceToNat, Nat.reduceLeDiff, reduceCtorEq, h0, h3]
  refine b_lite (fun hc => ?_) (fun hc => ?_) <;> (try simp only [go_sem, Nat.reduceEqDiff, Int.reduceLT, Int.reduceLE, Int.reduceEq, Nat.reduceLT, Nat.reduceAdd, Nat.reduceMul, Int.reduceToNat, Nat.reduceLeDiff, reduceCtorEq, h0, h3])
  · obtain ⟨b, hb⟩ : ∃ b, s[i]? = some b := ⟨_, List.getElem?_eq_getElem (by omega)⟩
    rw [hb]
    simp only [go_sem, Nat.reduceEqDiff, Int.reduceLT, Int.reduceLE, Int.reduceEq, Nat.reduceLT, Nat.reduceAdd, Nat.reduceMul, Int.reduceToNat, Nat.reduceLeDiff, reduceCtorEq, h0, h3]
    refine ⟨by decide, ?_⟩
    refine (place_c b h').mono ?_
    rintro v h1 ⟨⟨n, rfl, hn, _⟩, rfl⟩
    simp only [go_sem, Nat.reduceEqDiff, Int.reduceLT, Int.reduceLE, Int.reduceEq, Nat.reduceLT, Nat.reduceAdd, Nat.reduceMul, Int.reduceToNat, Nat.reduceLeDiff, reduceCtorEq, h0, h3]
    refine b_lite (fun e => ?_) (fun e => ?_) <;> (try simp only [go_sem, Nat.reduceEqDiff, Int.reduceLT, Int.reduceLE, Int.reduceEq, Nat.reduceLT, Nat.reduceAdd, Nat.reduceMul, Int.reduceToNat, Nat.reduceLeDiff, reduceCtorEq, h0, h3])
    · have : isL b = false := by rw [← hn]; simp; omega
      rw [lettered_false hb this]
    · refine ⟨d - 1, by omega, i + 1, ?_, by omega, ?_⟩
      · rw [wrap_i64 (by omega) (by omega)]; rfl
      · rw [lettered_take hb, hl, ← hn]; simp; omega
  · have : i = s.length := by omega
    rw [this, List.take_length] at hl
    rw [hl]
end
end Go.AX
namespace Go.AX
open Go Go.Proofs
noncomputable section
set_option linter.unusedSimpArgs false
set_option linter.unusedVariables false
attribute [local go_sem] b_seq wp_skip wp_exit wp_ret wp_region b_block wops_nil b_ops b_opsg b_cond condV_lite wo_mv b_bin wo_call callV_func wo_pick b_box wo_load1 wo_loadN wo_store wo_nilCheck wo_not wo_lenStr' wo_lenSl wo_ixStr' wo_ixSl wo_fAddr wo_part1 wo_partN wo_extract wo_cInt wo_cStr wo_mkMap wo_mkIface wo_mkFunc wo_lookup pickV_bool ifT_true ifT_false b_loadV b_loadNV b_storeV nilV_ptr nilV_func nilV_iface notV_bool lenStrV_str lenSlV_nil lenSlV_slice b_ixStrV ixSlV_slice fAddrV_ptr b_part1V partNV_agg b_extractV convV_int strV_str evC_tm evC_cn T.get_set putA_some putA_none onO_some evCs_nil evCs_cons appL_nil appL_cons guardOk_true guardOk_false cellsV_bool cellsV_int cellsV_str cellsV_nilptr cellsV_ptr cellsV_nilslice cellsV_slice cellsV_nilmap cellsV_map cellsV_func cellsV_nilfunc cellsV_iface cellsV_niliface cellsV_agg bin_lss bin_gtr bin_leq bin_geq bin_eql bin_neq bin_add bin_sub bin_eqlS bin_neqS mkFrame_nil mkFrame_cons resA_one resA_two resA_three over_0 over_1 over_2 over_3 over_4 over_5 over0_nil over0_cons Option.getD_some if_true if_false AHeap.next_push AVal.bool.injEq decide_eq_true_eq decide_eq_false_iff_not Bool.not_eq_true' Bool.not_eq_false' Bool.not_eq_true decide_true decide_false Bool.not_true Bool.not_false Int.toNat_natCast Int.natCast_nonneg true_and and_true wo_mapPut wp_drawn' wsts_nil b_pure b_read b_new b_wr wor_none b_org rer_nil rer_load1 rer_loadN wo_append AHeap.next_skip AHeap.next_put' AHeap.mk_push_t AHeap.mk_eta AHeap.mk_skip ldA_skip ldN_skip Nat.add_zero Nat.zero_add b_lite_true b_lite_false eq_self_iff_true not_true_eq_false not_false_eq_true bx_k bx_q bx_x bx_1 undefA_bool putAt_push List.length_cons List.length_nil Nat.le_refl ldA_push_new ldN_push_new List.getElem?_cons_zero List.getElem?_cons_succ List.drop_zero List.drop_succ_cons List.take_succ_cons List.take_zero b_build b_buildSlice evParts_nil evParts_cons b_fillA_nil b_fillA nbeq nble natadd natmul lenL_eq repL_1 repL_2 repL_3 wo_sliceData sdV_nil sdV_slice wo_unsafeStr usV_nil wo_slStr slStrV_str evCo_none evCo_some boundA_none Bool.and_true Bool.true_and wo_minmax2' mm2V_int
abbrev Alt := List Nat × Int
def altC (a : Alt) : List AVal := [.str a.1, .int .i64 a.2]
def AltsA (h : AHeap) (v : AVal) (alts : List Alt) : Prop := SlA h 2 v (alts.map altC) ∧ ∀ a, a ∈ alts → a.1.length ≤ 9223372036854775807
def CellsA (h : AHeap) (v : AVal) (cells : List (List Alt)) : Prop := ∃ vs : List AVal, SlA h 1 v (vs.map fun x => [x]) ∧ All2 (AltsA h) vs cells
theorem AltsA.mono {h h' : AHeap} (hle : Hle h h') {v : AVal} {alts : List Alt} (H : AltsA h v alts) : AltsA h' v alts := ⟨H.1.mono hle, H.2⟩
theorem CellsA.mono {h h' : AHeap} (hle : Hle h h') {v : AVal} {cells : List (List Alt)} (H : CellsA h v cells) : CellsA h' v cells := by
  obtain ⟨vs, h1, h2, h3⟩ := H
  exact ⟨vs, h1.mono hle, h2, fun i x y hx hy => (h3 i x y hx hy).mono hle⟩
theorem AltsA.len {h : AHeap} {v : AVal} {alts : List Alt} (H : AltsA h v alts) (h' : AHeap) (K : AVal → AHeap → Prop) : lenSlV v h' K = K (.int .i64 (alts.length : Int)) h' := by
  rw [H.1.len]; simp
theorem AltsA.at {h : AHeap} {v : AVal} {alts : List Alt} (H : AltsA h v alts) {j : Nat} {a : Alt} (hx : alts[j]? = some a) :
    ∃ b o, b < h.next ∧ (∀ (k : IntKind) (i : Int) (h' : AHeap) (K : AVal → AHeap → Prop), i = (j : Int) → ixSlV 2 v (.int k i) h' K = K (.ptr b o) h') ∧
      ldA h b o = some (.str a.1) ∧ ldA h b (o + 1) = some (.int .i64 a.2) ∧ ldN h b o 2 = some [.str a.1, .int .i64 a.2] := by
  obtain ⟨b, o, hr, hix⟩ := H.1.ix (j := j) (x := altC a) (by rw [List.getElem?_map, hx]; rfl)
  refine ⟨b, o, hr.1, hix, ?_, ?_, ?_⟩
  · exact hr.ldA (i := 0) rfl
  · exact hr.ldA (i := 1) rfl
  · exact hr.ldN (i := 0) (n := 2) (by simp [altC])
theorem CellsA.len {h : AHeap} {v : AVal} {cells : List (List Alt)} (H : CellsA h v cells) (h' : AHeap) (K : AVal → AHeap → Prop) : lenSlV v h' K = K (.int .i64 (cells.length : Int)) h' := by
  obtain ⟨vs, h1, h2, _⟩ := H
  rw [h1.len]; simp [h2]
theorem CellsA.at {h : AHeap} {v : AVal} {cells : List (List Alt)} (H : CellsA h v cells) {j : Nat} {c : List Alt} (hx : cells[j]? = some c) :
    ∃ b o x, b < h.next ∧ (∀ (k : IntKind) (i : Int) (h' : AHeap) (K : AVal → AHeap → Prop), i = (j : Int) → ixSlV 1 v (.int k i) h' K = K (.ptr b o) h') ∧
      ldA h b o = some x ∧ ldN h b o 1 = some [x] ∧ AltsA h x c ∧ x.flat = true := by
  obtain ⟨vs, h1, h2, h3⟩ := H
  obtain ⟨x, hxv⟩ : ∃ x, vs[j]? = some x := ⟨_, List.getElem?_eq_getElem (by rw [h2]; exact (List.getElem?_eq_some_iff.1 hx).1)⟩
  obtain ⟨b, o, hr, hix⟩ := h1.ix (j := j) (x := [x]) (by rw [List.getElem?_map, hxv]; rfl)
  refine ⟨b, o, x, hr.1, hix, ?_, ?_, h3 j x c hxv hx, ?_⟩
  · exact hr.ldA (i := 0) rfl
  · exact hr.ldN (i := 0) (n := 1) (by simp)
  · obtain ⟨_, _, _, _, _, _, _, hf⟩ := hr
    exact hf x (by simp)
theorem AltsA.flat {h : AHeap} {v : AVal} {alts : List Alt} (H : AltsA h v alts) : v.flat = true := by
  rcases H.1.2 with ⟨_, rfl⟩ | ⟨_, _, _, _, rfl, _⟩ <;> rfl
theorem AltsA.cells {h : AHeap} {v : AVal} {alts : List Alt} (H : AltsA h v alts) : cellsV v = some [v] := cellsV_flat H.flat
theorem lookV_none {q : KeyK} {z m k : AVal} {h : AHeap} {K : AVal → AHeap → Prop} {es : List (AVal × AVal × Nat)} (hm : mapAt h m = some es) (hk : keyOk q k = true) (hf : findA q k es 0 = some none) : lookV q z m k false h K = K z h := by
  unfold lookV
  rw [hm]
  show (keyOk q k = true ∧ onO (findA q k es 0) _) = _
  rw [hf, hk]
  simp [onO, ifT]
theorem lookV_some {q : KeyK} {z m k v : AVal} {i : Nat} {h : AHeap} {K : AVal → AHeap → Prop} {es : List (AVal × AVal × Nat)} (hm : mapAt h m = some es) (hk : keyOk q k = true) (hf : findA q k es 0 = some (some (i, v))) : lookV q z m k false h K = K v h := by
  unfold lookV
  rw [hm]
  show (keyOk q k = true ∧ onO (findA q k es 0) _) = _
  rw [hf, hk]
  simp [onO, ifT]
theorem mapAt_map {h : AHeap} {r : Nat} {es : List (AVal × AVal × Nat)} {c : Nat} (hg : h.get r = some (.map es c)) : mapAt h (.map r) = some es := by
  show onMapO (h.get r) (fun es _ => some es) = _
  rw [hg]; rfl
theorem putV_new {q : KeyK} {r : Nat} {k v : AVal} {h : AHeap} {K : AVal → AHeap → Prop} {es : List (AVal × AVal × Nat)} {c : Nat} (hg : h.get r = some (.map es c)) (hk : keyOk q k = true) (hf : findA q k es 0 = some none) : putV q (.map r) k v h K = K undefA (h.put r (.map (es ++ [(k, v, c)]) (c + 1))) := by
  show putO q r k v h K (h.get r) = _
  rw [hg]
  show (keyOk q k = true ∧ onO (findA q k es 0) _) = _
  rw [hf, hk]
  simp [onO]
def SeenIs (es : List (AVal × AVal × Nat)) (l : List (List Nat)) : Prop := ∀ s, (s ∈ l → ∃ i, findA (.one .s) (.str s) es 0 = some (some (i, .bool true))) ∧ (s ∉ l → findA (.one .s) (.str s) es 0 = some none)
theorem SeenIs.nil : SeenIs [] [] := fun s => ⟨(fun h => by cases h), fun _ => rfl⟩
theorem SeenIs.snoc {es : List (AVal × AVal × Nat)} {l : List (List Nat)} (H : SeenIs es l) (t : List Nat) (c : Nat) (ht : t ∉ l) : SeenIs (es ++ [(.str t, .bool true, c)]) (l ++ [t]) := by
  intro s
  obtain ⟨h1, h2⟩ := H s
  obtain ⟨g1, g2⟩ := findA_snoc (.one .s) (.str s) (.str t, .bool true, c) es 0
  constructor
  · intro hs
    by_cases hl : s ∈ l
    · obtain ⟨i, hi⟩ := h1 hl
      exact ⟨i, g1 _ hi⟩
    · have e : s = t := by simpa [hl] using hs
      subst e
      refine ⟨0 + es.length, (g2 (h2 hl)).trans ?_⟩
      rw [beqA_str]
      simp [ob, ifT]
  · intro hs
    have hl : s ∉ l := fun h => hs (by simp [h])
    have hne : ¬ s = t := fun h => hs (by simp [h])
    rw [g2 (h2 hl), beqA_str]
    simp [ob, ifT, hne]
def altOk (a : Alt) : Prop := a.1.length ≤ 3 ∧ lettered a.1 = true ∧ 0 ≤ a.2 ∧ a.2 ≤ 1000
def goodP (alts : List Alt) : Prop := (∀ a, a ∈ alts → altOk a) ∧ (alts.map Prod.fst).Nodup
def validP (alts : List Alt) : Prop := 1 ≤ alts.length ∧ alts.length ≤ 8 ∧ goodP alts
instance (alts : List Alt) : Decidable (validP alts) := Classical.propDecidable _
theorem goodP.snoc {alts : List Alt} {i : Nat} {a : Alt} (ha : alts[i]? = some a) (h : goodP (alts.take i)) (h1 : altOk a) (h2 : a.1 ∉ (alts.take i).map Prod.fst) : goodP (alts.take (i + 1)) := by
  rw [List.take_add_one, ha]
  refine ⟨fun x hx => ?_, ?_⟩
  · rcases List.mem_append.1 hx with hx | hx
    · exact h.1 x hx
    · simp at hx; subst hx; exact h1
  · rw [List.map_append, List.nodup_append]
    refine ⟨h.2, by simp, fun x hx y hy => ?_⟩
    simp at hy
    subst hy
    rintro rfl
    exact h2 hx
theorem goodP.at {alts : List Alt} (h : goodP alts) {i : Nat} {a : Alt} (ha : alts[i]? = some a) : altOk a ∧ a.1 ∉ (alts.take i).map Prod.fst := by
  refine ⟨h.1 a (List.mem_of_getElem? ha), fun hm => ?_⟩
  obtain ⟨x, hx, he⟩ := List.mem_map.1 hm
  obtain ⟨j, hj⟩ := List.mem_iff_getElem?.1 hx
  rw [List.getElem?_take] at hj
  split at hj
  · rename_i hji
    have h3 := h.2
    have hi := (List.getElem?_eq_some_iff.1 ha)
    have hjj := (List.getElem?_eq_some_iff.1 hj)
    obtain ⟨hi1, hi2⟩ := hi
    obtain ⟨hj1, hj2⟩ := hjj
    have := (List.pairwise_iff_getElem.1 h3) j i (by simpa using hj1) (by simpa using hi1) hji
    simp only [List.getElem_map, hi2, hj2] at this
    exact this he
  · cases hj
end
end Go.AX
namespace Go.AX
open Go Go.Proofs
noncomputable section
set_option linter.unusedSimpArgs false
set_option linter.unusedVariables false
attribute [local go_sem] b_seq wp_skip wp_exit wp_ret wp_region b_block wops_nil b_ops b_opsg b_cond condV_lite wo_mv b_bin wo_call callV_func wo_pick b_box wo_load1 wo_loadN wo_store wo_nilCheck wo_not wo_lenStr' wo_lenSl wo_ixStr' wo_ixSl wo_fAddr wo_part1 wo_partN wo_extract wo_cInt wo_cStr wo_mkMap wo_mkIface wo_mkFunc wo_lookup pickV_bool ifT_true ifT_false b_loadV b_loadNV b_storeV nilV_ptr nilV_func nilV_iface notV_bool lenStrV_str lenSlV_nil lenSlV_slice b_ixStrV ixSlV_slice fAddrV_ptr b_part1V partNV_agg b_extractV convV_int strV_str evC_tm evC_cn T.get_set putA_some putA_none onO_some evCs_nil evCs_cons appL_nil appL_cons guardOk_true guardOk_false cellsV_bool cellsV_int cellsV_str cellsV_nilptr cellsV_ptr cellsV_nilslice cellsV_slice cellsV_nilmap cellsV_map cellsV_func cellsV_nilfunc cellsV_iface cellsV_niliface cellsV_agg bin_lss bin_gtr bin_leq bin_geq bin_eql bin_neq bin_add bin_sub bin_eqlS bin_neqS mkFrame_nil mkFrame_cons resA_one resA_two resA_three over_0 over_1 over_2 over_3 over_4 over_5 over0_nil over0_cons Option.getD_some if_true if_false AHeap.next_push AVal.bool.injEq decide_eq_true_eq decide_eq_false_iff_not Bool.not_eq_true' Bool.not_eq_false' Bool.not_eq_true decide_true decide_false Bool.not_true Bool.not_false Int.toNat_natCast Int.natCast_nonneg true_and and_true wo_mapPut wp_drawn' wsts_nil b_pure b_read b_new b_wr wor_none b_org rer_nil rer_load1 rer_loadN wo_append AHeap.next_skip AHeap.next_put' AHeap.mk_push_t AHeap.mk_eta AHeap.mk_skip ldA_skip ldN_skip Nat.add_zero Nat.zero_add b_lite_true b_lite_false eq_self_iff_true not_true_eq_false not_false_eq_true bx_k bx_q bx_x bx_1 undefA_bool putAt_push List.length_cons List.length_nil Nat.le_refl ldA_push_new ldN_push_new List.getElem?_cons_zero List.getElem?_cons_succ List.drop_zero List.drop_succ_cons List.take_succ_cons List.take_zero b_build b_buildSlice evParts_nil evParts_cons b_fillA_nil b_fillA nbeq nble natadd natmul lenL_eq repL_1 repL_2 repL_3 wo_sliceData sdV_nil sdV_slice wo_unsafeStr usV_nil wo_slStr slStrV_str evCo_none evCo_some boundA_none Bool.and_true Bool.true_and wo_minmax2' mm2V_int
theorem valid_c (alts : List Alt) (v : AVal) (h : AHeap) (H : AltsA h v alts) : Ec E2 40 [.agg [v]] h fun r h' => r = .bool (decide (validP alts)) ∧ Hle h h' := by
  refine Ec.of_wpb (prim2_none (by decide)) code40 ?_
  unfold c40
  by_cases g1 : (alts.length : Int) < 1
  · simp only [go_sem, Nat.reduceEqDiff, Int.reduceLT, Int.reduceLE, Int.reduceEq, Nat.reduceLT, Nat.reduceAdd, Nat.reduceMul, Int.reduceToNat, Nat.reduceLeDiff, reduceCtorEq, H.cells, H.len, g1]
    have : ¬ validP alts := fun hv => by have := hv.1; omega
    simp only [this, decide_false, true_and]
    exact (Hle.refl h).push _
  by_cases g2 : (8 : Int) < (alts.length : Int)
  · simp only [go_sem, Nat.reduceEqDiff, Int.reduceLT, Int.reduceLE, Int.reduceEq, Nat.reduceLT, Nat.reduceAdd, Nat.reduceMul, Int.reduceToNat, Nat.reduceLeDiff, reduceCtorEq, H.cells, H.len, g1, g2]
    have : ¬ validP alts := fun hv => by have := hv.2.1; omega
    simp only [this, decide_false, true_and]
    exact (Hle.refl h).push _
  have hld : ∀ o, ldA ((h.push (.cells [v] 55)).push o) h.next 0 = some v := fun o => by rw [ldA_push_old (by simp [AHeap.next_push]), ldA_push_new]; rfl
  simp only [go_sem, Nat.reduceEqDiff, Int.reduceLT, Int.reduceLE, Int.reduceEq, Nat.reduceLT, Nat.reduceAdd, Nat.reduceMul, Int.reduceToNat, Nat.reduceLeDiff, reduceCtorEq, H.cells, H.len, g1, g2, hld]
  refine b_loop (fun d fr h' => Hle h h' ∧ fr.get 18 = some v ∧ fr.get 19 = some (.int .i64 (alts.length : Int)) ∧ ∃ r es c, fr.get 3 = some (.map r) ∧ h.next ≤ r ∧ r < h'.next ∧ h'.get r = some (.map es c) ∧
    ∃ i : Nat, fr.get 20 = some (.int .i64 (i : Int)) ∧ d + i = alts.length ∧ goodP (alts.take i) ∧ SeenIs es ((alts.take i).map Prod.fst)) alts.length ?_ ?_
  · refine ⟨((Hle.refl h).push _).push _, by simp [T.get_set], by simp [T.get_set], h.next + 1, [], 0, by simp [T.get_set], by omega, by simp [AHeap.next_push], ?_, 0, by simp [T.get_set], by omega, ?_, ?_⟩
    · exact AHeap.get_push_same (h.push _) _
    · exact ⟨by simp, by simp⟩
    · exact SeenIs.nil
  rintro d fr h' ⟨hle, h18, h19, r, es, c, h3, hr1, hr2, hgr, i, h20, hd, hgood, hseen⟩
  unfold c40_l0
  simp only [go_sem, Nat.reduceEqDiff, Int.reduceLT, Int.reduceLE, Int.reduceEq, Nat.reduceLT, Nat.reduceAdd, Nat.reduceMul, Int.reduceToNat, Nat.reduceLeDiff, reduceCtorEq, h18, h19, h20, h3]
  refine b_lite (fun hc => ?_) (fun hc => ?_)
  · obtain ⟨⟨s, n⟩, ha⟩ : ∃ a, alts[i]? = some a := ⟨_, List.getElem?_eq_getElem (by omega)⟩
    have H' := H.mono hle
    obtain ⟨b, o, hb, hix, hl0, hl1, hlN⟩ := H'.at ha
    have hslen : s.length ≤ 9223372036854775807 := H.2 _ (List.mem_of_getElem? ha)
    have hms : ∀ x, mapAt (h'.push x) (.map r) = some es := fun x => mapAt_map (c := c) (by rw [AHeap.get_push_ne _ _ (by omega)]; exact hgr)
    have hbad : (¬ altOk (s, n) ∨ s ∈ (alts.take i).map Prod.fst) → ¬ validP alts := by
      intro hb hv
      obtain ⟨k1, k2⟩ := hv.2.2.at ha
      rcases hb with hb | hb
      · exact hb k1
      · exact k2 hb
    have hpush : ∀ x, Hle h (h'.push x) := fun x => hle.push x
    by_cases p1 : (3 : Int) < (s.length : Int)
    · simp only [go_sem, Nat.reduceEqDiff, Int.reduceLT, Int.reduceLE, Int.reduceEq, Nat.reduceLT, Nat.reduceAdd, Nat.reduceMul, Int.reduceToNat, Nat.reduceLeDiff, reduceCtorEq, h18, h19, h20, h3, hix, hlN, p1]
      have : ¬ validP alts := hbad (.inl fun hk => by have := hk.1; simp at this; omega)
      simp only [this, decide_false, true_and]
      exact hpush _
    simp only [go_sem, Nat.reduceEqDiff, Int.reduceLT, Int.reduceLE, Int.reduceEq, Nat.reduceLT, Nat.reduceAdd, Nat.reduceMul, Int.reduceToNat, Nat.reduceLeDiff, reduceCtorEq, h18, h19, h20, h3, hix, hlN, p1]
    refine ⟨by decide, ?_⟩
    refine (letters_c s _ hslen).mono ?_
    rintro u h1 ⟨rfl, rfl⟩
    by_cases p2' : lettered s = false
    · simp only [go_sem, Nat.reduceEqDiff, Int.reduceLT, Int.reduceLE, Int.reduceEq, Nat.reduceLT, Nat.reduceAdd, Nat.reduceMul, Int.reduceToNat, Nat.reduceLeDiff, reduceCtorEq, h18, h19, h20, h3, hix, hlN, p1, p2']
      have : ¬ validP alts := hbad (.inl fun hk => by have := hk.2.1; simp [p2'] at this)
      simp only [this, decide_false, true_and]
      exact hpush _
    have p2 : lettered s = true := by simpa using p2'
    by_cases p3 : n < 0
    · simp only [go_sem, Nat.reduceEqDiff, Int.reduceLT, Int.reduceLE, Int.reduceEq, Nat.reduceLT, Nat.reduceAdd, Nat.reduceMul, Int.reduceToNat, Nat.reduceLeDiff, reduceCtorEq, h18, h19, h20, h3, hix, hlN, p1, p2, p3]
      have : ¬ validP alts := hbad (.inl fun hk => by have := hk.2.2.1; simp at this; omega)
      simp only [this, decide_false, true_and]
      exact hpush _
    by_cases p4 : (1000 : Int) < n
    · simp only [go_sem, Nat.reduceEqDiff, Int.reduceLT, Int.reduceLE, Int.reduceEq, Nat.reduceLT, Nat.reduceAdd, Nat.reduceMul, Int.reduceToNat, Nat.reduceLeDiff, reduceCtorEq, h18, h19, h20, h3, hix, hlN, p1, p2, p3, p4]
      have : ¬ validP alts := hbad (.inl fun hk => by have := hk.2.2.2; simp at this; omega)
      simp only [this, decide_false, true_and]
      exact hpush _
    by_cases p5 : s ∈ (alts.take i).map Prod.fst
    · obtain ⟨j, hj⟩ := (hseen s).1 p5
      simp only [go_sem, Nat.reduceEqDiff, Int.reduceLT, Int.reduceLE, Int.reduceEq, Nat.reduceLT, Nat.reduceAdd, Nat.reduceMul, Int.reduceToNat, Nat.reduceLeDiff, reduceCtorEq, h18, h19, h20, h3, hix, hlN, p1, p2, p3, p4, lookV_some (hms _) (keyOk_one _ _) hj]
      have : ¬ validP alts := hbad (.inr p5)
      simp only [this, decide_false, true_and]
      exact hpush _
    have hf := (hseen s).2 p5
    have hgr' : ∀ x, (h'.push x).get r = some (.map es c) := fun x => by rw [AHeap.get_push_ne _ _ (by omega)]; exact hgr
    simp only [go_sem, Nat.reduceEqDiff, Int.reduceLT, Int.reduceLE, Int.reduceEq, Nat.reduceLT, Nat.reduceAdd, Nat.reduceMul, Int.reduceToNat, Nat.reduceLeDiff, reduceCtorEq, h18, h19, h20, h3, hix, hlN, p1, p2, p3, p4, lookV_none (hms _) (keyOk_one _ _) hf, putV_new (hgr' _) (keyOk_one _ _) hf]
    refine ⟨d - 1, by omega, (hpush _).put hr1 _, r, _, c + 1, rfl, hr1, by omega, AHeap.get_put_same _ _ _, i + 1, ?_, by omega, ?_, ?_⟩
    · rw [wrap_i64 (by omega) (by omega)]; rfl
    · exact hgood.snoc ha ⟨by simp; omega, p2, by simp; omega, by simp; omega⟩ p5
    · rw [List.take_add_one, ha]
      simp only [Option.toList_some, List.map_append, List.map_cons, List.map_nil]
      exact hseen.snoc s c p5
  · simp only [go_sem, Nat.reduceEqDiff, Int.reduceLT, Int.reduceLE, Int.reduceEq, Nat.reduceLT, Nat.reduceAdd, Nat.reduceMul, Int.reduceToNat, Nat.reduceLeDiff, reduceCtorEq, h18, h19, h20, h3]
    have hi : i = alts.length := by omega
    rw [hi, List.take_length] at hgood
    have : validP alts := ⟨by omega, by omega, hgood⟩
    simp only [this, decide_true, true_and]
    exact hle
theorem validCell_c (alts : List Alt) (v : AVal) (h : AHeap) (H : AltsA h v alts) : Ec E2 41 [.agg [v]] h fun r h' => r = .bool (decide (validP alts)) ∧ Hle h h' := by
  refine Ec.of_wpb (prim2_none (by decide)) code41 ?_
  unfold c41
  by_cases g1 : (alts.length : Int) < 1
  · simp only [go_sem, Nat.reduceEqDiff, Int.reduceLT, Int.reduceLE, Int.reduceEq, Nat.reduceLT, Nat.reduceAdd, Nat.reduceMul, Int.reduceToNat, Nat.reduceLeDiff, reduceCtorEq, H.cells, H.len, g1]
    have : ¬ validP alts := fun hv => by have := hv.1; omega
    simp only [this, decide_false, true_and]
    exact (Hle.refl h).push _
  by_cases g2 : (8 : Int) < (alts.length : Int)
  · simp only [go_sem, Nat.reduceEqDiff, Int.reduceLT, Int.reduceLE, Int.reduceEq, Nat.reduceLT, Nat.reduceAdd, Nat.reduceMul, Int.reduceToNat, Nat.reduceLeDiff, reduceCtorEq, H.cells, H.len, g1, g2]
    have : ¬ validP alts := fun hv => by have := hv.2.1; omega
    simp only [this, decide_false, true_and]
    exact (Hle.refl h).push _
  simp only [go_sem, Nat.reduceEqDiff, Int.reduceLT, Int.reduceLE, Int.reduceEq, Nat.reduceLT, Nat.reduceAdd, Nat.reduceMul, Int.reduceToNat, Nat.reduceLeDiff, reduceCtorEq, H.cells, H.len, g1, g2]
  have h1n : (h.push (.cells [v] 55)).next = h.next + 1 := rfl
  have h1l : ldA (h.push (.cells [v] 55)) h.next 0 = some v := by rw [ldA_push_new]; rfl
  have h1le : Hle h (h.push (.cells [v] 55)) := (Hle.refl h).push _
  generalize h.push (.cells [v] 55) = h1 at h1n h1l h1le ⊢
  have H1 := H.mono h1le
  refine b_loop (fun d fr h' => Hle h1 h' ∧ fr.get 1 = some (.ptr h.next 0) ∧ ∃ i : Nat, fr.get 3 = some (.int .i64 (i : Int)) ∧ d + i = alts.length ∧ goodP (alts.take i)) alts.length ?_ ?_
  · exact ⟨Hle.refl _, by simp [T.get_set], 0, by simp [T.get_set], by omega, by simp, by simp⟩
  rintro d fr h' ⟨hle, t1, i, t3, hd, hgood⟩
  have hbox : ldA h' h.next 0 = some v := (hle.ldA (by omega) 0).trans h1l
  unfold c41_l1
  simp only [go_sem, Nat.reduceEqDiff, Int.reduceLT, Int.reduceLE, Int.reduceEq, Nat.reduceLT, Nat.reduceAdd, Nat.reduceMul, Int.reduceToNat, Nat.reduceLeDiff, reduceCtorEq, t1, t3, hbox, H.len]
  refine b_lite (fun hc => ?_) (fun hc => ?_)
  · obtain ⟨⟨s, n⟩, ha⟩ : ∃ a, alts[i]? = some a := ⟨_, List.getElem?_eq_getElem (by omega)⟩
    have H' := H1.mono hle
    obtain ⟨b, o, hb, hix, hl0, hl1, hlN⟩ := H'.at ha
    have hslen : s.length ≤ 9223372036854775807 := H.2 _ (List.mem_of_getElem? ha)
    have hbad : (¬ altOk (s, n) ∨ s ∈ (alts.take i).map Prod.fst) → ¬ validP alts := by
      intro hb hv
      obtain ⟨k1, k2⟩ := hv.2.2.at ha
      rcases hb with hb | hb
      · exact hb k1
      · exact k2 hb
    have hout : Hle h h' := h1le.trans hle
    simp only [go_sem, Nat.reduceEqDiff, Int.reduceLT, Int.reduceLE, Int.reduceEq, Nat.reduceLT, Nat.reduceAdd, Nat.reduceMul, Int.reduceToNat, Nat.reduceLeDiff, reduceCtorEq, t1, t3, hbox, hix, hl0, hl1]
    refine ⟨by decide, ?_⟩
    refine (lettered_c s _ hslen).mono ?_
    rintro u h2 ⟨rfl, rfl⟩
    by_cases p2' : lettered s = false
    · simp only [go_sem, Nat.reduceEqDiff, Int.reduceLT, Int.reduceLE, Int.reduceEq, Nat.reduceLT, Nat.reduceAdd, Nat.reduceMul, Int.reduceToNat, Nat.reduceLeDiff, reduceCtorEq, t1, t3, hbox, hix, hl0, hl1, p2']
      have : ¬ validP alts := hbad (.inl fun hk => by have := hk.2.1; simp [p2'] at this)
      simp only [this, decide_false, true_and]
      exact hout
    have p2 : lettered s = true := by simpa using p2'
    by_cases p1 : (3 : Int) < (s.length : Int)
    · simp only [go_sem, Nat.reduceEqDiff, Int.reduceLT, Int.reduceLE, Int.reduceEq, Nat.reduceLT, Nat.reduceAdd, Nat.reduceMul, Int.reduceToNat, Nat.reduceLeDiff, reduceCtorEq, t1, t3, hbox, hix, hl0, hl1, p2, p1]
      have : ¬ validP alts := hbad (.inl fun hk => by have := hk.1; simp at this; omega)
      simp only [this, decide_false, true_and]
      exact hout
    by_cases p3 : n < 0
    · simp only [go_sem, Nat.reduceEqDiff, Int.reduceLT, Int.reduceLE, Int.reduceEq, Nat.reduceLT, Nat.reduceAdd, Nat.reduceMul, Int.reduceToNat, Nat.reduceLeDiff, reduceCtorEq, t1, t3, hbox, hix, hl0, hl1, p2, p1, p3]
      have : ¬ validP alts := hbad (.inl fun hk => by have := hk.2.2.1; simp at this; omega)
      simp only [this, decide_false, true_and]
      exact hout
    by_cases p4 : (1000 : Int) < n
    · simp only [go_sem, Nat.reduceEqDiff, Int.reduceLT, Int.reduceLE, Int.reduceEq, Nat.reduceLT, Nat.reduceAdd, Nat.reduceMul, Int.reduceToNat, Nat.reduceLeDiff, reduceCtorEq, t1, t3, hbox, hix, hl0, hl1, p2, p1, p3, p4]
      have : ¬ validP alts := hbad (.inl fun hk => by have := hk.2.2.2; simp at this; omega)
      simp only [this, decide_false, true_and]
      exact hout
    simp only [go_sem, Nat.reduceEqDiff, Int.reduceLT, Int.reduceLE, Int.reduceEq, Nat.reduceLT, Nat.reduceAdd, Nat.reduceMul, Int.reduceToNat, Nat.reduceLeDiff, reduceCtorEq, t1, t3, hbox, hix, hl0, hl1, p2, p1, p3, p4]
    refine b_loop (fun e fr h'' => Hle h1 h'' ∧ fr.get 1 = some (.ptr h.next 0) ∧ fr.get 3 = some (.int .i64 (i : Int)) ∧ ∃ k : Nat, fr.get 5 = some (.int .i64 (k : Int)) ∧ e + k = i ∧ s ∉ (alts.take k).map Prod.fst) i ?_ ?_
    · exact ⟨hle, by simp [T.get_set, t1], by simp [T.get_set, t3], 0, by simp [T.get_set], by omega, by simp⟩
    rintro e fr2 h'' ⟨hle2, u1, u3, k, u5, he, hk⟩
    have hbox2 : ldA h'' h.next 0 = some v := (hle2.ldA (by omega) 0).trans h1l
    unfold c41_l0
    simp only [go_sem, Nat.reduceEqDiff, Int.reduceLT, Int.reduceLE, Int.reduceEq, Nat.reduceLT, Nat.reduceAdd, Nat.reduceMul, Int.reduceToNat, Nat.reduceLeDiff, reduceCtorEq, u1, u3, u5]
    refine b_lite (fun hc2 => ?_) (fun hc2 => ?_)
    · obtain ⟨⟨s', n'⟩, ha'⟩ : ∃ a, alts[k]? = some a := ⟨_, List.getElem?_eq_getElem (by omega)⟩
      have H'' := H1.mono hle2
      obtain ⟨b1, o1, _, hix1, hm0, _, _⟩ := H''.at ha'
      obtain ⟨b2, o2, _, hix2, hm2, _, _⟩ := H''.at ha
      by_cases hss : s' = s
      · simp only [go_sem, Nat.reduceEqDiff, Int.reduceLT, Int.reduceLE, Int.reduceEq, Nat.reduceLT, Nat.reduceAdd, Nat.reduceMul, Int.reduceToNat, Nat.reduceLeDiff, reduceCtorEq, u1, u3, u5, hbox2, hix1, hix2, hm0, hm2, hss]
        have : ¬ validP alts := by
          refine hbad (.inr (List.mem_map.2 ⟨(s', n'), List.mem_iff_getElem?.2 ⟨k, ?_⟩, hss⟩))
          rw [List.getElem?_take, if_pos (by omega)]
          exact ha'
        simp only [this, decide_false, true_and]
        exact (h1le.trans hle2).skip _
      · simp only [go_sem, Nat.reduceEqDiff, Int.reduceLT, Int.reduceLE, Int.reduceEq, Nat.reduceLT, Nat.reduceAdd, Nat.reduceMul, Int.reduceToNat, Nat.reduceLeDiff, reduceCtorEq, u1, u3, u5, hbox2, hix1, hix2, hm0, hm2, hss]
        refine ⟨e - 1, by omega, hle2.skip _, k + 1, ?_, by omega, ?_⟩
        · rw [wrap_i64 (by omega) (by omega)]; rfl
        · rw [List.take_add_one, ha']
          simp only [Option.toList_some, List.map_append, List.map_cons, List.map_nil, List.mem_append, List.mem_cons, List.not_mem_nil, or_false, not_or]
          exact ⟨hk, fun e => hss e.symm⟩
    · simp only [go_sem, Nat.reduceEqDiff, Int.reduceLT, Int.reduceLE, Int.reduceEq, Nat.reduceLT, Nat.reduceAdd, Nat.reduceMul, Int.reduceToNat, Nat.reduceLeDiff, reduceCtorEq, u1, u3, u5]
      have hki : k = i := by omega
      subst hki
      refine ⟨d - 1, by omega, hle2, k + 1, ?_, by omega, ?_⟩
      · rw [wrap_i64 (by omega) (by omega)]; rfl
      · exact hgood.snoc ha ⟨by simp; omega, p2, by simp; omega, by simp; omega⟩ hk
  · simp only [go_sem, Nat.reduceEqDiff, Int.reduceLT, Int.reduceLE, Int.reduceEq, Nat.reduceLT, Nat.reduceAdd, Nat.reduceMul, Int.reduceToNat, Nat.reduceLeDiff, reduceCtorEq, t1, t3]
    have hi : i = alts.length := by omega
    rw [hi, List.take_length] at hgood
    have : validP alts := ⟨by omega, by omega, hgood⟩
    simp only [this, decide_true, true_and]
    exact h1le.trans hle
end
end Go.AX
namespace Go.AX
open Go Go.Proofs
noncomputable section
set_option linter.unusedSimpArgs false
set_option linter.unusedVariables false
attribute [local go_sem] b_seq wp_skip wp_exit wp_ret wp_region b_block wops_nil b_ops b_opsg b_cond condV_lite wo_mv b_bin wo_call callV_func wo_pick b_box wo_load1 wo_loadN wo_store wo_nilCheck wo_not wo_lenStr' wo_lenSl wo_ixStr' wo_ixSl wo_fAddr wo_part1 wo_partN wo_extract wo_cInt wo_cStr wo_mkMap wo_mkIface wo_mkFunc wo_lookup pickV_bool ifT_true ifT_false b_loadV b_loadNV b_storeV nilV_ptr nilV_func nilV_iface notV_bool lenStrV_str lenSlV_nil lenSlV_slice b_ixStrV ixSlV_slice fAddrV_ptr b_part1V partNV_agg b_extractV convV_int strV_str evC_tm evC_cn T.get_set putA_some putA_none onO_some evCs_nil evCs_cons appL_nil appL_cons guardOk_true guardOk_false cellsV_bool cellsV_int cellsV_str cellsV_nilptr cellsV_ptr cellsV_nilslice cellsV_slice cellsV_nilmap cellsV_map cellsV_func cellsV_nilfunc cellsV_iface cellsV_niliface cellsV_agg bin_lss bin_gtr bin_leq bin_geq bin_eql bin_neq bin_add bin_sub bin_eqlS bin_neqS mkFrame_nil mkFrame_cons resA_one resA_two resA_three over_0 over_1 over_2 over_3 over_4 over_5 over0_nil over0_cons Option.getD_some if_true if_false AHeap.next_push AVal.bool.injEq decide_eq_true_eq decide_eq_false_iff_not Bool.not_eq_true' Bool.not_eq_false' Bool.not_eq_true decide_true decide_false Bool.not_true Bool.not_false Int.toNat_natCast Int.natCast_nonneg true_and and_true wo_mapPut wp_drawn' wsts_nil b_pure b_read b_new b_wr wor_none b_org rer_nil rer_load1 rer_loadN wo_append AHeap.next_skip AHeap.next_put' AHeap.mk_push_t AHeap.mk_eta AHeap.mk_skip ldA_skip ldN_skip Nat.add_zero Nat.zero_add b_lite_true b_lite_false eq_self_iff_true not_true_eq_false not_false_eq_true bx_k bx_q bx_x bx_1 undefA_bool putAt_push List.length_cons List.length_nil Nat.le_refl ldA_push_new ldN_push_new List.getElem?_cons_zero List.getElem?_cons_succ List.drop_zero List.drop_succ_cons List.take_succ_cons List.take_zero b_build b_buildSlice evParts_nil evParts_cons b_fillA_nil b_fillA nbeq nble natadd natmul lenL_eq repL_1 repL_2 repL_3 wo_sliceData sdV_nil sdV_slice wo_unsafeStr usV_nil wo_slStr slStrV_str evCo_none evCo_some boundA_none Bool.and_true Bool.true_and wo_minmax2' mm2V_int
def Bld (A : Nat → Prop) (h : AHeap) (b : Nat) (bs : List Nat) : Prop := b < h.next ∧ ¬ A b ∧ ∃ x buf, h.get b = some (.cells [x, buf] 52) ∧ (x = .nilptr ∨ x = .ptr b 0) ∧ OwnL h 1 5 buf (ofBytes bs) ∧ (∀ c, blkOf buf c → c ≠ b ∧ ¬ A c) ∧ (bs = [] → buf = .nilslice)
theorem Bld.push {A : Nat → Prop} {h : AHeap} {b : Nat} {bs : List Nat} (H : Bld A h b bs) (o : AObj) : Bld (fun c => A c ∨ c = h.next) (h.push o) b bs := by
  obtain ⟨h1, h2, x, buf, h3, h4, h5, h6, h7⟩ := H
  refine ⟨by simp [AHeap.next_push]; omega, fun e => e.elim h2 (fun e => by omega), x, buf, by rw [AHeap.get_push_ne _ _ (by omega)]; exact h3, h4, h5.frame (by simp [AHeap.next_push]) (fun c hc => AHeap.get_push_ne _ _ (by have := h5.blk hc; omega)), fun c hc => ⟨(h6 c hc).1, fun e => e.elim (h6 c hc).2 (fun e => by have := h5.blk hc; omega)⟩, h7⟩
theorem Bld.sub {A A' : Nat → Prop} {h : AHeap} {b : Nat} {bs : List Nat} (H : Bld A h b bs) (hA : ∀ c, A' c → A c) : Bld A' h b bs := by
  obtain ⟨h1, h2, x, buf, h3, h4, h5, h6, h7⟩ := H
  exact ⟨h1, fun e => h2 (hA _ e), x, buf, h3, h4, h5, fun c hc => ⟨(h6 c hc).1, fun e => (h6 c hc).2 (hA _ e)⟩, h7⟩
theorem Bld.new {A : Nat → Prop} {h : AHeap} (hA : ¬ A h.next) : Bld A (h.push (.cells [.nilptr, .nilslice] 52)) h.next [] :=
  ⟨by simp [AHeap.next_push], hA, _, _, AHeap.get_push_same _ _, .inl rfl, .inl ⟨rfl, rfl⟩, (fun c ⟨_, _, _, _, hc⟩ => by cases hc), fun _ => rfl⟩
theorem copy_c {h : AHeap} {b : Nat} {x buf : AVal} (hg : h.get b = some (.cells [x, buf] 52)) (hx : x = .nilptr ∨ x = .ptr b 0) : Ec E2 52 [.ptr b 0] h fun v h' => v = .tup [] ∧ h'.get b = some (.cells [.ptr b 0, buf] 52) ∧ h'.next = h.next ∧ ∀ c, c ≠ b → h'.get c = h.get c := by
  have hp : ∀ v h', primA (.copyCheck 52) [.ptr b 0] h = some (v, h') → Ec E2 52 [.ptr b 0] h fun u h2 => u = v ∧ h2 = h' := fun v h' e => Ec.of_prim prim2_52 e ⟨rfl, rfl⟩
  rcases hx with rfl | rfl
  · refine (hp (.tup []) (h.put b (.cells [.ptr b 0, buf] 52)) ?_).mono ?_
    · show onCells (h.get b) _ = _
      rw [hg]; rfl
    · rintro v h' ⟨rfl, rfl⟩
      exact ⟨rfl, AHeap.get_put_same _ _ _, rfl, fun c hc => AHeap.get_put_ne _ _ (Ne.symm hc)⟩
  · refine (hp (.tup []) h ?_).mono ?_
    · show onCells (h.get b) _ = _
      rw [hg]
      show ifT (and (Nat.beq b b) (Nat.beq 0 0)) (some (AVal.tup [], h)) none = _
      simp [ifT]
    · rintro v h' ⟨rfl, rfl⟩
      exact ⟨rfl, hg, rfl, fun c hc => rfl⟩
def BldP (A : Nat → Prop) (h h' : AHeap) (b : Nat) (bs : List Nat) : Prop := Bld A h' b bs ∧ h.next ≤ h'.next ∧ ∀ c, A c → h'.get c = h.get c
theorem writeString_c (A : Nat → Prop) (h : AHeap) (b : Nat) (bs s : List Nat) (H : Bld A h b bs) (hA : ∀ c, A c → c < h.next) (hm : bs.length + s.length ≤ 1073741824) : Ec E2 32 [.ptr b 0, .str s] h fun _ h' => BldP A h h' b (bs ++ s) := by
  refine Ec.of_wpb (prim2_none (by decide)) code32 ?_
  unfold c32
  obtain ⟨h1, h2, x, buf, h3, h4, h5, h6, h7⟩ := H
  simp only [go_sem, Nat.reduceEqDiff, Int.reduceLT, Int.reduceLE, Int.reduceEq, Nat.reduceLT, Nat.reduceAdd, Nat.reduceMul, Int.reduceToNat, Nat.reduceLeDiff, reduceCtorEq]
  refine ⟨by decide, ?_⟩
  refine (copy_c h3 h4).mono ?_
  rintro v h' ⟨rfl, g1, g2, g3⟩
  have hl : ldA h' b (0 + 1) = some buf := by rw [ldA_cells g1]; rfl
  have hl2 : ldA h' b 1 = some buf := hl
  have own : OwnL h' 1 5 buf (ofBytes bs) := h5.frame (by omega) fun c hc => g3 c (h6 c hc).1
  simp only [go_sem, Nat.reduceEqDiff, Int.reduceLT, Int.reduceLE, Int.reduceEq, Nat.reduceLT, Nat.reduceAdd, Nat.reduceMul, Int.reduceToNat, Nat.reduceLeDiff, reduceCtorEq, hl, hl2]
  by_cases hs : s = []
  · subst hs
    refine appV_zero (srcCells_str _ _) own.form ?_
    have hp : putAt h' b 1 1 [buf] = some (h'.put b (.cells [.ptr b 0, buf] 52)) := putAt_cells (o := 1) (n := 1) (vs := [buf]) g1 rfl (by simp)
    simp only [go_sem, Nat.reduceEqDiff, Int.reduceLT, Int.reduceLE, Int.reduceEq, Nat.reduceLT, Nat.reduceAdd, Nat.reduceMul, Int.reduceToNat, Nat.reduceLeDiff, reduceCtorEq, cellsV_flat (v := buf) (by rcases own.form with rfl | ⟨_, _, _, _, _, rfl⟩ <;> rfl), hp]
    refine ⟨⟨by simp [AHeap.next_put]; omega, h2, _, buf, AHeap.get_put_same _ _ _, .inr rfl, ?_, h6, by simpa using h7⟩, by simp [AHeap.next_put]; omega, fun c hc => ?_⟩
    · rw [List.append_nil]
      exact own.frame (by simp [AHeap.next_put]) fun c hc => AHeap.get_put_ne _ _ (fun e => (h6 c hc).1 e.symm)
    · have : c ≠ b := fun e => h2 (e ▸ hc)
      rw [AHeap.get_put_ne _ _ (Ne.symm this), g3 c this]
  · refine appV_own own (srcCells_str _ _) (fun e => hs (List.eq_nil_of_length_eq_zero e)) (by rw [ofBytes_len]; omega) (by omega) (by rw [ofBytes_len]; omega) ?_
    intro v' h'' ho hn hf hb
    have hgb : h''.get b = some (.cells [.ptr b 0, buf] 52) := by rw [hf b (by omega) (fun hc => (h6 b hc).1 rfl)]; exact g1
    have hp : putAt h'' b 1 1 [v'] = some (h''.put b (.cells [.ptr b 0, v'] 52)) := putAt_cells (o := 1) (n := 1) (vs := [v']) hgb rfl (by simp)
    have hfl : v'.flat = true := by rcases ho.form with rfl | ⟨_, _, _, _, _, rfl⟩ <;> rfl
    have hblk : ∀ c, blkOf v' c → c = h'.next := by
      rintro c ⟨o, n, c2, e, rfl⟩
      obtain ⟨_, _, _, _, he⟩ := hb
      cases he; rfl
    simp only [go_sem, Nat.reduceEqDiff, Int.reduceLT, Int.reduceLE, Int.reduceEq, Nat.reduceLT, Nat.reduceAdd, Nat.reduceMul, Int.reduceToNat, Nat.reduceLeDiff, reduceCtorEq, cellsV_flat hfl, hp]
    refine ⟨⟨by simp [AHeap.next_put]; omega, h2, _, v', AHeap.get_put_same _ _ _, .inr rfl, ?_, fun c hc => ?_, fun e => absurd (List.append_eq_nil_iff.1 e).2 hs⟩, by simp [AHeap.next_put]; omega, fun c hc => ?_⟩
    · rw [ofBytes_app]
      exact ho.frame (by simp [AHeap.next_put]) fun c hc => AHeap.get_put_ne _ _ (fun e => by have := hblk c hc; omega)
    · have := hblk c hc
      exact ⟨by omega, fun e => by have := hA c e; omega⟩
    · have hcb : c ≠ b := fun e => h2 (e ▸ hc)
      have hcl := hA c hc
      rw [AHeap.get_put_ne _ _ (Ne.symm hcb), hf c (by omega) (fun hk => (h6 c hk).2 hc), g3 c hcb]
theorem writeByte_c (A : Nat → Prop) (h : AHeap) (b : Nat) (bs : List Nat) (x : Nat) (H : Bld A h b bs) (hA : ∀ c, A c → c < h.next) (hm : bs.length + 1 ≤ 1073741824) : Ec E2 33 [.ptr b 0, .int .u8 (x : Int)] h fun _ h' => BldP A h h' b (bs ++ [x]) := by
  refine Ec.of_wpb (prim2_none (by decide)) code33 ?_
  unfold c33
  obtain ⟨h1, h2, y, buf, h3, h4, h5, h6, h7⟩ := H
  simp only [go_sem, Nat.reduceEqDiff, Int.reduceLT, Int.reduceLE, Int.reduceEq, Nat.reduceLT, Nat.reduceAdd, Nat.reduceMul, Int.reduceToNat, Nat.reduceLeDiff, reduceCtorEq]
  refine ⟨by decide, ?_⟩
  refine (copy_c h3 h4).mono ?_
  rintro v h' ⟨rfl, g1, g2, g3⟩
  have hl2 : ldA h' b 1 = some buf := by rw [ldA_cells g1]; rfl
  have own : OwnL h' 1 5 buf (ofBytes bs) := h5.frame (by omega) fun c hc => g3 c (h6 c hc).1
  simp only [go_sem, Nat.reduceEqDiff, Int.reduceLT, Int.reduceLE, Int.reduceEq, Nat.reduceLT, Nat.reduceAdd, Nat.reduceMul, Int.reduceToNat, Nat.reduceLeDiff, reduceCtorEq, hl2]
  have hone : ∀ (z : AHeap), SlA (z.push (.cells [.int .u8 (x : Int)] 5)) 1 (.slice z.next 0 1 1 true) [[.int .u8 (x : Int)]] := fun z => ⟨by simp, .inr ⟨_, _, _, _, rfl, .inr (RowA.of_cells (e := 5) (by simp [AHeap.next_push]) (AHeap.get_push_same _ _) (by simp; rfl))⟩⟩
  have own' := own.frame (h' := h'.push (.cells [.int .u8 (x : Int)] 5)) (by simp [AHeap.next_push]) (fun c hc => AHeap.get_push_ne _ _ (by have := own.blk hc; omega))
  refine appV_own own' (srcCells_SlA (hone h') (by simp)) (by simp) (by simp) (by omega) (by rw [ofBytes_len]; simp; omega) ?_
  intro v' h'' ho hn hf hb
  have hn' : h''.next = h'.next + 1 + 1 := hn
  have hgb : h''.get b = some (.cells [.ptr b 0, buf] 52) := by
    rw [hf b (by simp [AHeap.next_push]; omega) (fun hc => (h6 b hc).1 rfl), AHeap.get_push_ne _ _ (by omega)]; exact g1
  have hp : putAt h'' b 1 1 [v'] = some (h''.put b (.cells [.ptr b 0, v'] 52)) := putAt_cells (o := 1) (n := 1) (vs := [v']) hgb rfl (by simp)
  have hfl : v'.flat = true := by rcases ho.form with rfl | ⟨_, _, _, _, _, rfl⟩ <;> rfl
  have hblk : ∀ c, blkOf v' c → c = h'.next + 1 := by
    rintro c ⟨o, n, c2, e, rfl⟩
    obtain ⟨_, _, _, _, he⟩ := hb
    cases he; rfl
  simp only [go_sem, Nat.reduceEqDiff, Int.reduceLT, Int.reduceLE, Int.reduceEq, Nat.reduceLT, Nat.reduceAdd, Nat.reduceMul, Int.reduceToNat, Nat.reduceLeDiff, reduceCtorEq, cellsV_flat hfl, hp]
  refine ⟨⟨by simp [AHeap.next_put]; omega, h2, _, v', AHeap.get_put_same _ _ _, .inr rfl, ?_, fun c hc => ?_, fun e => by simp at e⟩, by simp [AHeap.next_put]; omega, fun c hc => ?_⟩
  · rw [ofBytes_app]
    exact ho.frame (by simp [AHeap.next_put]) fun c hc => AHeap.get_put_ne _ _ (fun e => by have := hblk c hc; omega)
  · have := hblk c hc
    exact ⟨by omega, fun e => by have := hA c e; omega⟩
  · have hcb : c ≠ b := fun e => h2 (e ▸ hc)
    have hcl := hA c hc
    rw [AHeap.get_put_ne _ _ (Ne.symm hcb), hf c (by simp [AHeap.next_push]; omega) (fun hk => (h6 c hk).2 hc), AHeap.get_push_ne _ _ (by omega), g3 c hcb]
theorem string_c (A : Nat → Prop) (h : AHeap) (b : Nat) (bs : List Nat) (H : Bld A h b bs) (hb : ∀ x, x ∈ bs → x < 256) (hm : bs.length < 1073741824) : Ec E2 35 [.ptr b 0] h fun v h' => v = .str bs ∧ h.next ≤ h'.next ∧ ∀ c, A c → h'.get c = h.get c := by
  refine Ec.of_wpb (prim2_none (by decide)) code35 ?_
  unfold c35
  obtain ⟨h1, h2, y, buf, h3, h4, h5, h6, h7⟩ := H
  have hl2 : ldA h b 1 = some buf := by rw [ldA_cells h3]; rfl
  rcases h5 with ⟨rfl, e⟩ | ⟨c, n, rfl, hc, hg, hlen⟩
  · have e0 : bs = [] := by
      have := congrArg List.length e
      rw [ofBytes_len] at this
      exact List.eq_nil_of_length_eq_zero (by simpa using this)
    subst e0
    simp only [go_sem, Nat.reduceEqDiff, Int.reduceLT, Int.reduceLE, Int.reduceEq, Nat.reduceLT, Nat.reduceAdd, Nat.reduceMul, Int.reduceToNat, Nat.reduceLeDiff, reduceCtorEq, hl2]
    refine ⟨by simp [AHeap.skip], fun c _ => rfl⟩
  · rw [ofBytes_len] at hlen
    by_cases hbs : bs.length = 0
    · have := h7 (List.eq_nil_of_length_eq_zero hbs)
      cases this
    · simp only [go_sem, Nat.reduceEqDiff, Int.reduceLT, Int.reduceLE, Int.reduceEq, Nat.reduceLT, Nat.reduceAdd, Nat.reduceMul, Int.reduceToNat, Nat.reduceLeDiff, reduceCtorEq, hl2, usV_own (h := h.skip 12) (k := .i64) (n := (n : Int)) (by omega) hg hb (by omega) hm]
      refine ⟨by omega, ?_⟩
      refine ⟨by simp [AHeap.skip, AHeap.next_put], fun d hd => ?_⟩
      have : d ≠ c := fun e => (h6 c ⟨_, _, _, _, rfl⟩).2 (e ▸ hd)
      rw [AHeap.get_put_ne _ _ (Ne.symm this)]
      rfl
end
end Go.AX
namespace Go.AX
open Go Go.Proofs
noncomputable section
set_option linter.unusedSimpArgs false
set_option linter.unusedVariables false
attribute [local go_sem] b_seq wp_skip wp_exit wp_ret wp_region b_block wops_nil b_ops b_opsg b_cond condV_lite wo_mv b_bin wo_call callV_func wo_pick b_box wo_load1 wo_loadN wo_store wo_nilCheck wo_not wo_lenStr' wo_lenSl wo_ixStr' wo_ixSl wo_fAddr wo_part1 wo_partN wo_extract wo_cInt wo_cStr wo_mkMap wo_mkIface wo_mkFunc wo_lookup pickV_bool ifT_true ifT_false b_loadV b_loadNV b_storeV nilV_ptr nilV_func nilV_iface notV_bool lenStrV_str lenSlV_nil lenSlV_slice b_ixStrV ixSlV_slice fAddrV_ptr b_part1V partNV_agg b_extractV convV_int strV_str evC_tm evC_cn T.get_set putA_some putA_none onO_some evCs_nil evCs_cons appL_nil appL_cons guardOk_true guardOk_false cellsV_bool cellsV_int cellsV_str cellsV_nilptr cellsV_ptr cellsV_nilslice cellsV_slice cellsV_nilmap cellsV_map cellsV_func cellsV_nilfunc cellsV_iface cellsV_niliface cellsV_agg bin_lss bin_gtr bin_leq bin_geq bin_eql bin_neq bin_add bin_sub bin_eqlS bin_neqS mkFrame_nil mkFrame_cons resA_one resA_two resA_three over_0 over_1 over_2 over_3 over_4 over_5 over0_nil over0_cons Option.getD_some if_true if_false AHeap.next_push AVal.bool.injEq decide_eq_true_eq decide_eq_false_iff_not Bool.not_eq_true' Bool.not_eq_false' Bool.not_eq_true decide_true decide_false Bool.not_true Bool.not_false Int.toNat_natCast Int.natCast_nonneg true_and and_true wo_mapPut wp_drawn' wsts_nil b_pure b_read b_new b_wr wor_none b_org rer_nil rer_load1 rer_loadN wo_append AHeap.next_skip AHeap.next_put' AHeap.mk_push_t AHeap.mk_eta AHeap.mk_skip ldA_skip ldN_skip Nat.add_zero Nat.zero_add b_lite_true b_lite_false eq_self_iff_true not_true_eq_false not_false_eq_true bx_k bx_q bx_x bx_1 undefA_bool putAt_push List.length_cons List.length_nil Nat.le_refl ldA_push_new ldN_push_new List.getElem?_cons_zero List.getElem?_cons_succ List.drop_zero List.drop_succ_cons List.take_succ_cons List.take_zero b_build b_buildSlice evParts_nil evParts_cons b_fillA_nil b_fillA nbeq nble natadd natmul lenL_eq repL_1 repL_2 repL_3 wo_sliceData sdV_nil sdV_slice wo_unsafeStr usV_nil wo_slStr slStrV_str evCo_none evCo_some boundA_none Bool.and_true Bool.true_and wo_minmax2' mm2V_int
def allV (cells : List (List Alt)) : Prop := ∀ c, c ∈ cells → validP c
instance (cells : List (List Alt)) : Decidable (allV cells) := Classical.propDecidable _
def checkE (cells : List (List Alt)) : Int := if 32 < cells.length then 2 else if allV cells then 0 else 1
theorem allV.snoc {cells : List (List Alt)} {i : Nat} {c : List Alt} (hc : cells[i]? = some c) (h : allV (cells.take i)) (hv : validP c) : allV (cells.take (i + 1)) := by
  rw [List.take_add_one, hc]
  intro x hx
  rcases List.mem_append.1 hx with hx | hx
  · exact h x hx
  · simp at hx; subst hx; exact hv
theorem checkCells_c (cells : List (List Alt)) (v : AVal) (h : AHeap) (H : CellsA h v cells) : Ec E2 14 [v] h fun r h' => r = .int .i64 (checkE cells) ∧ Hle h h' := by
  refine Ec.of_wpb (prim2_none (by decide)) code14 ?_
  unfold c14
  by_cases g1 : (32 : Int) < (cells.length : Int)
  · simp only [go_sem, Nat.reduceEqDiff, Int.reduceLT, Int.reduceLE, Int.reduceEq, Nat.reduceLT, Nat.reduceAdd, Nat.reduceMul, Int.reduceToNat, Nat.reduceLeDiff, reduceCtorEq, H.len, g1]
    have : checkE cells = 2 := by unfold checkE; rw [if_pos (by omega)]
    rw [this]; exact ⟨rfl, Hle.refl h⟩
  simp only [go_sem, Nat.reduceEqDiff, Int.reduceLT, Int.reduceLE, Int.reduceEq, Nat.reduceLT, Nat.reduceAdd, Nat.reduceMul, Int.reduceToNat, Nat.reduceLeDiff, reduceCtorEq, H.len, g1]
  refine b_loop (fun d fr h' => Hle h h' ∧ fr.get 8 = some v ∧ fr.get 9 = some (.int .i64 (cells.length : Int)) ∧ ∃ i : Nat, fr.get 10 = some (.int .i64 (i : Int)) ∧ d + i = cells.length ∧ allV (cells.take i)) cells.length ?_ ?_
  · exact ⟨Hle.refl h, by simp [T.get_set], by simp [T.get_set], 0, by simp [T.get_set], by omega, fun c hc => by simp at hc⟩
  rintro d fr h' ⟨hle, t8, t9, i, t10, hd, hall⟩
  unfold c14_l0
  simp only [go_sem, Nat.reduceEqDiff, Int.reduceLT, Int.reduceLE, Int.reduceEq, Nat.reduceLT, Nat.reduceAdd, Nat.reduceMul, Int.reduceToNat, Nat.reduceLeDiff, reduceCtorEq, t8, t9, t10]
  refine b_lite (fun hc => ?_) (fun hc => ?_)
  · obtain ⟨c, hci⟩ : ∃ c, cells[i]? = some c := ⟨_, List.getElem?_eq_getElem (by omega)⟩
    obtain ⟨b, o, x, hb, hix, hl0, hlN, hx, hxf⟩ := (H.mono hle).at hci
    simp only [go_sem, Nat.reduceEqDiff, Int.reduceLT, Int.reduceLE, Int.reduceEq, Nat.reduceLT, Nat.reduceAdd, Nat.reduceMul, Int.reduceToNat, Nat.reduceLeDiff, reduceCtorEq, t8, t9, t10, hix, hlN]
    refine ⟨by decide, ?_⟩
    refine (valid_c c x _ (hx.mono ((Hle.refl h').push _))).mono ?_
    rintro r h1 ⟨rfl, hle1⟩
    have hle2 := (hle.push _).trans hle1
    by_cases hv : validP c
    · simp only [go_sem, Nat.reduceEqDiff, Int.reduceLT, Int.reduceLE, Int.reduceEq, Nat.reduceLT, Nat.reduceAdd, Nat.reduceMul, Int.reduceToNat, Nat.reduceLeDiff, reduceCtorEq, t8, t9, t10, hv]
      refine ⟨d - 1, by omega, hle2, i + 1, ?_, by omega, hall.snoc hci hv⟩
      rw [wrap_i64 (by omega) (by omega)]; rfl
    · simp only [go_sem, Nat.reduceEqDiff, Int.reduceLT, Int.reduceLE, Int.reduceEq, Nat.reduceLT, Nat.reduceAdd, Nat.reduceMul, Int.reduceToNat, Nat.reduceLeDiff, reduceCtorEq, t8, t9, t10, hv]
      have : checkE cells = 1 := by unfold checkE; rw [if_neg (by omega), if_neg (fun h => hv (h c (List.mem_of_getElem? hci)))]
      rw [this]; exact ⟨rfl, hle2⟩
  · simp only [go_sem, Nat.reduceEqDiff, Int.reduceLT, Int.reduceLE, Int.reduceEq, Nat.reduceLT, Nat.reduceAdd, Nat.reduceMul, Int.reduceToNat, Nat.reduceLeDiff, reduceCtorEq, t8, t9, t10]
    have hi : i = cells.length := by omega
    rw [hi, List.take_length] at hall
    have : checkE cells = 0 := by unfold checkE; rw [if_neg (by omega), if_pos hall]
    rw [this]; exact ⟨rfl, hle⟩
theorem checkCellsR_c (cells : List (List Alt)) (v : AVal) (h : AHeap) (H : CellsA h v cells) : Ec E2 15 [v] h fun r h' => r = .int .i64 (checkE cells) ∧ Hle h h' := by
  refine Ec.of_wpb (prim2_none (by decide)) code15 ?_
  unfold c15
  by_cases g1 : (32 : Int) < (cells.length : Int)
  · simp only [go_sem, Nat.reduceEqDiff, Int.reduceLT, Int.reduceLE, Int.reduceEq, Nat.reduceLT, Nat.reduceAdd, Nat.reduceMul, Int.reduceToNat, Nat.reduceLeDiff, reduceCtorEq, H.len, g1]
    have : checkE cells = 2 := by unfold checkE; rw [if_pos (by omega)]
    rw [this]; exact ⟨rfl, Hle.refl h⟩
  simp only [go_sem, Nat.reduceEqDiff, Int.reduceLT, Int.reduceLE, Int.reduceEq, Nat.reduceLT, Nat.reduceAdd, Nat.reduceMul, Int.reduceToNat, Nat.reduceLeDiff, reduceCtorEq, H.len, g1]
  refine b_loop (fun d fr h' => Hle h h' ∧ fr.get 0 = some v ∧ ∃ i : Nat, fr.get 3 = some (.int .i64 (i : Int)) ∧ d + i = cells.length ∧ allV (cells.take i)) cells.length ?_ ?_
  · exact ⟨Hle.refl h, by simp [T.get_set], 0, by simp [T.get_set], by omega, fun c hc => by simp at hc⟩
  rintro d fr h' ⟨hle, t0, i, t3, hd, hall⟩
  unfold c15_l0
  simp only [go_sem, Nat.reduceEqDiff, Int.reduceLT, Int.reduceLE, Int.reduceEq, Nat.reduceLT, Nat.reduceAdd, Nat.reduceMul, Int.reduceToNat, Nat.reduceLeDiff, reduceCtorEq, t0, t3, H.len]
  refine b_lite (fun hc => ?_) (fun hc => ?_)
  · obtain ⟨c, hci⟩ : ∃ c, cells[i]? = some c := ⟨_, List.getElem?_eq_getElem (by omega)⟩
    obtain ⟨b, o, x, hb, hix, hl0, hlN, hx, hxf⟩ := (H.mono hle).at hci
    simp only [go_sem, Nat.reduceEqDiff, Int.reduceLT, Int.reduceLE, Int.reduceEq, Nat.reduceLT, Nat.reduceAdd, Nat.reduceMul, Int.reduceToNat, Nat.reduceLeDiff, reduceCtorEq, t0, t3, hix, hlN]
    refine ⟨by decide, ?_⟩
    refine (validCell_c c x _ hx).mono ?_
    rintro r h1 ⟨rfl, hle1⟩
    have hle2 := hle.trans hle1
    by_cases hv : validP c
    · simp only [go_sem, Nat.reduceEqDiff, Int.reduceLT, Int.reduceLE, Int.reduceEq, Nat.reduceLT, Nat.reduceAdd, Nat.reduceMul, Int.reduceToNat, Nat.reduceLeDiff, reduceCtorEq, t0, t3, hv]
      refine ⟨d - 1, by omega, hle2, i + 1, ?_, by omega, hall.snoc hci hv⟩
      rw [wrap_i64 (by omega) (by omega)]; rfl
    · simp only [go_sem, Nat.reduceEqDiff, Int.reduceLT, Int.reduceLE, Int.reduceEq, Nat.reduceLT, Nat.reduceAdd, Nat.reduceMul, Int.reduceToNat, Nat.reduceLeDiff, reduceCtorEq, t0, t3, hv]
      have : checkE cells = 1 := by unfold checkE; rw [if_neg (by omega), if_neg (fun h => hv (h c (List.mem_of_getElem? hci)))]
      rw [this]; exact ⟨rfl, hle2⟩
  · simp only [go_sem, Nat.reduceEqDiff, Int.reduceLT, Int.reduceLE, Int.reduceEq, Nat.reduceLT, Nat.reduceAdd, Nat.reduceMul, Int.reduceToNat, Nat.reduceLeDiff, reduceCtorEq, t0, t3]
    have hi : i = cells.length := by omega
    rw [hi, List.take_length] at hall
    have : checkE cells = 0 := by unfold checkE; rw [if_neg (by omega), if_pos hall]
    rw [this]; exact ⟨rfl, hle⟩
def altT (a : Alt) : List Nat := if a.2 = 0 then a.1 else a.1 ++ 58 :: itoaL a.2
theorem itoaL_len {n : Int} (h0 : -9223372036854775808 ≤ n) (h1 : n ≤ 9223372036854775807) : (itoaL n).length ≤ 21 := by
  unfold itoaL
  rw [List.length_map]
  exact Lib.itoa_length_le n h0 h1
theorem itoaL_byte (n : Int) : ∀ b, b ∈ itoaL n → b < 256 := by
  intro b hb
  obtain ⟨x, _, rfl⟩ := List.mem_map.1 hb
  exact UInt8.toNat_lt x
theorem isL_byte {c : Nat} (h : isL c = true) : c < 256 := by unfold isL at h; simp at h; omega
theorem lettered_byte {s : List Nat} (h : lettered s = true) : ∀ b, b ∈ s → b < 256 := fun b hb => isL_byte (by unfold lettered at h; exact List.all_eq_true.1 h b hb)
theorem altT_len {a : Alt} (h : altOk a) : (altT a).length ≤ 25 := by
  unfold altT
  have h1 := h.1
  have h3 := h.2.2.1
  have h4 := h.2.2.2
  split
  · omega
  · have := itoaL_len (n := a.2) (by omega) (by omega)
    simp; omega
theorem altT_byte {a : Alt} (h : altOk a) : ∀ b, b ∈ altT a → b < 256 := by
  intro b hb
  unfold altT at hb
  have hl := lettered_byte h.2.1
  split at hb
  · exact hl b hb
  · rcases List.mem_append.1 hb with hb | hb
    · exact hl b hb
    · rcases List.mem_cons.1 hb with rfl | hb
      · omega
      · exact itoaL_byte _ b hb
theorem altText_c (a : Alt) (h : AHeap) (ha : altOk a) : Ec E2 36 [.agg [.str a.1, .int .i64 a.2]] h fun r h' => r = .str (altT a) ∧ Hle h h' := by
  obtain ⟨s, n⟩ := a
  refine Ec.of_wpb (prim2_none (by decide)) code36 ?_
  unfold c36 altT
  have h1 : s.length ≤ 3 := ha.1
  have h3 : 0 ≤ n := ha.2.2.1
  have h4 : n ≤ 1000 := ha.2.2.2
  by_cases g : n = 0
  · simp only [go_sem, Nat.reduceEqDiff, Int.reduceLT, Int.reduceLE, Int.reduceEq, Nat.reduceLT, Nat.reduceAdd, Nat.reduceMul, Int.reduceToNat, Nat.reduceLeDiff, reduceCtorEq, g]
    exact (Hle.refl h).push _
  have hb1 : s.length + [58].length ≤ 1073741824 := by simp; omega
  have hb2 : (s ++ [58]).length + (itoaL n).length ≤ 1073741824 := by
    have := itoaL_len (n := n) (by omega) (by omega)
    simp; omega
  simp only [go_sem, Nat.reduceEqDiff, Int.reduceLT, Int.reduceLE, Int.reduceEq, Nat.reduceLT, Nat.reduceAdd, Nat.reduceMul, Int.reduceToNat, Nat.reduceLeDiff, reduceCtorEq, g, bin_addS hb1]
  refine ⟨by decide, ?_⟩
  refine (itoa_c n _ (by omega) (by omega)).mono ?_
  rintro r h2 ⟨rfl, rfl⟩
  simp only [go_sem, Nat.reduceEqDiff, Int.reduceLT, Int.reduceLE, Int.reduceEq, Nat.reduceLT, Nat.reduceAdd, Nat.reduceMul, Int.reduceToNat, Nat.reduceLeDiff, reduceCtorEq, g, bin_addS hb2, sameA_str]
  simp only [List.append_assoc, List.cons_append, List.nil_append, true_and]
  exact ((Hle.refl h).push _).skip _
def isOne (c : List Alt) : Bool := match c with
  | [a] => decide (a.1.length = 1) && decide (a.2 = 0)
  | _ => false
def joinA : List Alt → List Nat
  | [] => []
  | a :: l => altT a ++ l.flatMap fun b => 124 :: altT b
def printC (c : List Alt) : List Nat := if isOne c = true then (c.flatMap fun a => a.1) else 40 :: (joinA c ++ [41])
def printS (cells : List (List Alt)) : List Nat := cells.flatMap printC
theorem joinA_snoc {c : List Alt} {k : Nat} {a : Alt} (ha : c[k]? = some a) : joinA (c.take (k + 1)) = joinA (c.take k) ++ (if k = 0 then [] else [124]) ++ altT a := by
  rw [List.take_add_one, ha]
  cases k with
  | zero => simp [joinA]
  | succ k =>
    cases c with
    | nil => simp at ha
    | cons b c => simp [joinA]
theorem joinA_len : ∀ {c : List Alt}, (∀ a, a ∈ c → altOk a) → (joinA c).length ≤ 26 * c.length
  | [], _ => by simp [joinA]
  | a :: l, h => by
    have h1 := altT_len (h a (by simp))
    have h2 : ∀ {l : List Alt}, (∀ a, a ∈ l → altOk a) → (l.flatMap fun b => 124 :: altT b).length ≤ 26 * l.length := by
      intro l
      induction l with
      | nil => intro _; simp
      | cons b l ih =>
        intro h
        have h3 := altT_len (h b (by simp))
        have h4 := ih fun x hx => h x (by simp [hx])
        rw [List.flatMap_cons, List.length_append, List.length_cons, List.length_cons]
        omega
    have h3 := h2 (l := l) fun x hx => h x (by simp [hx])
    unfold joinA
    rw [List.length_append, List.length_cons]
    omega
theorem joinA_byte : ∀ {c : List Alt}, (∀ a, a ∈ c → altOk a) → ∀ b, b ∈ joinA c → b < 256
  | [], _, b, hb => by simp [joinA] at hb
  | a :: l, h, b, hb => by
    unfold joinA at hb
    rcases List.mem_append.1 hb with hb | hb
    · exact altT_byte (h a (by simp)) b hb
    · obtain ⟨x, hx, hb⟩ := List.mem_flatMap.1 hb
      rcases List.mem_cons.1 hb with rfl | hb
      · omega
      · exact altT_byte (h x (by simp [hx])) b hb
theorem isOne_inv {c : List Alt} (h : isOne c = true) : ∃ a : Alt, c = [a] ∧ a.1.length = 1 ∧ a.2 = 0 := by
  unfold isOne at h
  split at h
  · rename_i a
    simp at h
    exact ⟨a, rfl, h.1, h.2⟩
  · cases h
theorem printC_len {c : List Alt} (hv : validP c) : (printC c).length ≤ 210 := by
  unfold printC
  split
  · rename_i h
    obtain ⟨a, rfl, h1, _⟩ := isOne_inv h
    simp [h1]
  · have := joinA_len hv.2.2.1
    have := hv.2.1
    simp; omega
theorem printC_byte {c : List Alt} (hv : validP c) : ∀ b, b ∈ printC c → b < 256 := by
  intro b hb
  unfold printC at hb
  split at hb
  · obtain ⟨a, ha, hb⟩ := List.mem_flatMap.1 hb
    exact lettered_byte (hv.2.2.1 a ha).2.1 b hb
  · rcases List.mem_cons.1 hb with rfl | hb
    · omega
    · rcases List.mem_append.1 hb with hb | hb
      · exact joinA_byte hv.2.2.1 b hb
      · simp at hb; omega
theorem printS_snoc {cells : List (List Alt)} {i : Nat} {c : List Alt} (hc : cells[i]? = some c) : printS (cells.take (i + 1)) = printS (cells.take i) ++ printC c := by
  unfold printS
  rw [List.take_add_one, hc]
  simp
theorem printS_len : ∀ {cells : List (List Alt)}, allV cells → (printS cells).length ≤ 210 * cells.length
  | [], _ => by simp [printS]
  | c :: l, h => by
    have h1 := printC_len (h c (by simp))
    have h2 := printS_len (cells := l) fun x hx => h x (by simp [hx])
    unfold printS at h2 ⊢
    rw [List.flatMap_cons, List.length_append, List.length_cons]
    omega
theorem printS_byte {cells : List (List Alt)} (h : allV cells) : ∀ b, b ∈ printS cells → b < 256 := by
  intro b hb
  obtain ⟨c, hc, hb⟩ := List.mem_flatMap.1 hb
  exact printC_byte (h c hc) b hb
end
end Go.AX

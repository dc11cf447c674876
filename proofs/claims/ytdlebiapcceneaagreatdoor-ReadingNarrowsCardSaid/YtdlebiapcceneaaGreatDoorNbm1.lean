/-
  Contracts of functions of this seat, for every input that each theorem names.
-/
import Derived.Test.YtdlebiapcceneaaGreatDoorNbs1
set_option linter.unusedVariables false
set_option linter.unusedSimpArgs false
set_option linter.unusedSectionVars false
namespace Go.AX
open Go Go.Proofs
noncomputable section
def c3 : CCode :=
 (.seq
  (.region [⟨some 2, none, .mv (.c (.bool false))⟩])
  (.seq
   (.region [⟨some 8, none, .mv (.t 0)⟩, ⟨some 9, none, .call (.c (.func 11 [] [])) [(.t 8)]⟩, ⟨some 7, none, .mv (.t 9)⟩, ⟨some 10, none, .extract 0 (.t 7)⟩, ⟨some 11, none, .extract 1 (.t 7)⟩, ⟨some 3, none, .mv (.t 10)⟩, ⟨some 4, none, .mv (.t 11)⟩])
   (.seq
    (.region [⟨some 13, none, .mv (.t 0)⟩, ⟨some 14, none, .call (.c (.func 12 [] [])) [(.t 13)]⟩, ⟨some 12, none, .mv (.t 14)⟩, ⟨some 15, none, .extract 0 (.t 12)⟩, ⟨some 16, none, .extract 1 (.t 12)⟩, ⟨some 5, none, .mv (.t 15)⟩, ⟨some 6, none, .mv (.t 16)⟩])
    (.seq
     (.region [⟨some 17, none, .call (.c (.func 13 [] [])) []⟩, ⟨some 18, none, .mv (.t 17)⟩, ⟨some 19, some (18, true), .mv (.t 0)⟩, ⟨some 20, some (18, true), .call (.c (.func 14 [] [])) [(.t 19)]⟩, ⟨some 21, some (18, true), .mv (.t 0)⟩, ⟨some 22, some (18, true), .call (.c (.func 15 [] [])) [(.t 21)]⟩, ⟨some 23, some (18, true), .bin .eql .none (.t 20) (.t 22)⟩, ⟨some 24, none, .pick (.t 18) (.t 23) (.c (.bool false))⟩, ⟨some 25, none, .mv (.t 24)⟩, ⟨some 26, some (25, true), .mv (.t 3)⟩, ⟨some 27, some (25, true), .mv (.t 5)⟩, ⟨some 28, some (25, true), .bin .eql .none (.t 26) (.t 27)⟩, ⟨some 29, none, .pick (.t 25) (.t 28) (.c (.bool false))⟩, ⟨some 30, none, .mv (.t 29)⟩, ⟨some 31, some (30, true), .mv (.t 4)⟩, ⟨some 32, some (30, true), .mv (.t 6)⟩, ⟨some 33, some (30, true), .bin .eql .none (.t 31) (.t 32)⟩, ⟨some 34, none, .pick (.t 30) (.t 33) (.c (.bool false))⟩, ⟨some 2, none, .mv (.t 34)⟩])
     .ret))))
def c12_l0 : CCode :=
 (.seq
  (.seq
   (.region [⟨some 52, none, .mv (.t 8)⟩, ⟨some 53, none, .mv (.t 7)⟩, ⟨some 54, none, .len .slice (.t 53)⟩, ⟨some 55, none, .bin .lss .none (.t 52) (.t 54)⟩])
   (.cond (.t 55)
    .skip
    (.exit 2)))
  (.seq
   (.block 3
    (.seq
     (.seq
      (.region [⟨some 58, none, .mv (.t 8)⟩, ⟨some 59, none, .bin .gtr .none (.t 58) (.c (.int .i64 0))⟩])
      (.cond (.t 59)
       (.region [⟨some 60, none, .mv (.t 5)⟩, ⟨some 61, none, .bin .add .none (.t 60) (.c (.str [124]))⟩, ⟨some 5, none, .mv (.t 61)⟩])
       .skip))
     (.seq
      (.region [⟨some 62, none, .mv (.t 7)⟩, ⟨some 63, none, .mv (.t 8)⟩, ⟨some 64, none, .ixSl 2 (.t 62) (.t 63)⟩, ⟨some 65, none, .loadN 2 (.t 64)⟩, ⟨some 66, none, .call (.c (.func 36 [] [])) [(.t 65)]⟩, ⟨some 9, none, .mv (.t 66)⟩])
      (.region [⟨some 67, none, .mv (.t 5)⟩, ⟨some 68, none, .mv (.t 9)⟩, ⟨some 69, none, .bin .add .none (.t 67) (.t 68)⟩, ⟨some 5, none, .mv (.t 69)⟩]))))
   (.region [⟨some 56, none, .mv (.t 8)⟩, ⟨some 57, none, .bin .add .none (.t 56) (.c (.int .i64 1))⟩, ⟨some 8, none, .mv (.t 57)⟩])))
def c12_l1 : CCode :=
 (.seq
  (.seq
   (.region [⟨some 15, none, .mv (.t 6)⟩, ⟨some 16, none, .mv (.t 0)⟩, ⟨some 17, none, .len .slice (.t 16)⟩, ⟨some 18, none, .bin .lss .none (.t 15) (.t 17)⟩])
   (.cond (.t 18)
    .skip
    (.exit 0)))
  (.seq
   (.block 1
    (.seq
     (.region [⟨some 21, none, .mv (.t 0)⟩, ⟨some 22, none, .mv (.t 6)⟩, ⟨some 23, none, .ixSl 1 (.t 21) (.t 22)⟩, ⟨some 24, none, .fAddr 0 (.t 23)⟩, ⟨some 25, none, .load1 (.t 24)⟩, ⟨some 7, none, .mv (.t 25)⟩])
     (.seq
      (.seq
       (.region [⟨some 26, none, .mv (.t 7)⟩, ⟨some 27, none, .len .slice (.t 26)⟩, ⟨some 28, none, .bin .eql .none (.t 27) (.c (.int .i64 1))⟩, ⟨some 29, none, .mv (.t 28)⟩, ⟨some 30, some (29, true), .mv (.t 7)⟩, ⟨some 31, some (29, true), .ixSl 2 (.t 30) (.c (.int .i64 0))⟩, ⟨some 32, some (29, true), .fAddr 0 (.t 31)⟩, ⟨some 33, some (29, true), .load1 (.t 32)⟩, ⟨some 34, some (29, true), .len .str (.t 33)⟩, ⟨some 35, some (29, true), .bin .eql .none (.t 34) (.c (.int .i64 1))⟩, ⟨some 36, none, .pick (.t 29) (.t 35) (.c (.bool false))⟩, ⟨some 37, none, .mv (.t 36)⟩, ⟨some 38, some (37, true), .mv (.t 7)⟩, ⟨some 39, some (37, true), .ixSl 2 (.t 38) (.c (.int .i64 0))⟩, ⟨some 40, some (37, true), .fAddr 1 (.t 39)⟩, ⟨some 41, some (37, true), .load1 (.t 40)⟩, ⟨some 42, some (37, true), .bin .eql .none (.t 41) (.c (.int .i64 0))⟩, ⟨some 43, none, .pick (.t 37) (.t 42) (.c (.bool false))⟩])
       (.cond (.t 43)
        (.seq
         (.region [⟨some 44, none, .mv (.t 5)⟩, ⟨some 45, none, .mv (.t 7)⟩, ⟨some 46, none, .ixSl 2 (.t 45) (.c (.int .i64 0))⟩, ⟨some 47, none, .fAddr 0 (.t 46)⟩, ⟨some 48, none, .load1 (.t 47)⟩, ⟨some 49, none, .bin .add .none (.t 44) (.t 48)⟩, ⟨some 5, none, .mv (.t 49)⟩])
         (.exit 1))
        .skip))
      (.seq
       (.region [⟨some 50, none, .mv (.t 5)⟩, ⟨some 51, none, .bin .add .none (.t 50) (.c (.str [40]))⟩, ⟨some 5, none, .mv (.t 51)⟩])
       (.seq
        (.seq
         (.region [⟨some 8, none, .mv (.c (.int .i64 0))⟩])
         (.block 2
          (.loop c12_l0)))
        (.region [⟨some 70, none, .mv (.t 5)⟩, ⟨some 71, none, .bin .add .none (.t 70) (.c (.str [41]))⟩, ⟨some 5, none, .mv (.t 71)⟩]))))))
   (.region [⟨some 19, none, .mv (.t 6)⟩, ⟨some 20, none, .bin .add .none (.t 19) (.c (.int .i64 1))⟩, ⟨some 6, none, .mv (.t 20)⟩])))
def c12 : CCode :=
 (.seq
  (.region [⟨some 2, none, .mv (.c (.str []))⟩, ⟨some 3, none, .mv (.c (.int .i64 0))⟩])
  (.seq
   (.region [⟨some 10, none, .mv (.t 0)⟩, ⟨some 11, none, .call (.c (.func 15 [] [])) [(.t 10)]⟩, ⟨some 4, none, .mv (.t 11)⟩])
   (.seq
    (.seq
     (.region [⟨some 12, none, .mv (.t 4)⟩, ⟨some 13, none, .bin .neq .none (.t 12) (.c (.int .i64 0))⟩])
     (.cond (.t 13)
      (.seq
       (.region [⟨some 14, none, .mv (.t 4)⟩, ⟨some 2, none, .mv (.c (.str []))⟩, ⟨some 3, none, .mv (.t 14)⟩])
       .ret)
      .skip))
    (.seq
     (.region [⟨some 5, none, .mv (.c (.str []))⟩])
     (.seq
      (.seq
       (.region [⟨some 6, none, .mv (.c (.int .i64 0))⟩])
       (.block 0
        (.loop c12_l1)))
      (.seq
       (.region [⟨some 72, none, .mv (.t 5)⟩, ⟨some 2, none, .mv (.t 72)⟩, ⟨some 3, none, .mv (.c (.int .i64 0))⟩])
       .ret))))))
theorem code12 : E2.code 12 = some (c12, [.tmp 2, .tmp 3]) := by kernel_rfl
def c14_l0 : CCode :=
 (.seq
  (.region [⟨some 11, none, .bin .lss .none (.t 10) (.t 9)⟩])
  (.seq
   (.cond (.t 11)
    .skip
    (.exit 0))
   (.seq
    (.block 1
     (.seq
      (.region [⟨some 12, none, .ixSl 1 (.t 8) (.t 10)⟩, ⟨some 13, none, .loadN 1 (.t 12)⟩, ⟨some 4, none, .box 55 (.c (.agg [.nilslice]))⟩, ⟨none, none, .store 1 (.t 4) (.t 13)⟩])
      (.seq
       (.region [⟨some 14, none, .loadN 1 (.t 4)⟩, ⟨some 15, none, .call (.c (.func 40 [] [])) [(.t 14)]⟩, ⟨some 16, none, .not (.t 15)⟩])
       (.cond (.t 16)
        (.seq
         (.region [⟨some 2, none, .mv (.c (.int .i64 1))⟩])
         .ret)
        .skip))))
    (.region [⟨some 17, none, .bin .add .none (.t 10) (.c (.int .i64 1))⟩, ⟨some 10, none, .mv (.t 17)⟩]))))
def c14 : CCode :=
 (.seq
  (.region [⟨some 2, none, .mv (.c (.int .i64 0))⟩])
  (.seq
   (.seq
    (.region [⟨some 5, none, .mv (.t 0)⟩, ⟨some 6, none, .len .slice (.t 5)⟩, ⟨some 7, none, .bin .gtr .none (.t 6) (.c (.int .i64 32))⟩])
    (.cond (.t 7)
     (.seq
      (.region [⟨some 2, none, .mv (.c (.int .i64 2))⟩])
      .ret)
     .skip))
   (.seq
    (.seq
     (.region [⟨some 8, none, .mv (.t 0)⟩, ⟨some 9, none, .len .slice (.t 8)⟩, ⟨some 10, none, .mv (.c (.int .i64 0))⟩])
     (.block 0
      (.loop c14_l0)))
    (.seq
     (.region [⟨some 2, none, .mv (.c (.int .i64 0))⟩])
     .ret))))
theorem code14 : E2.code 14 = some (c14, [.tmp 2]) := by kernel_rfl
def c15_l0 : CCode :=
 (.seq
  (.seq
   (.region [⟨some 8, none, .mv (.t 3)⟩, ⟨some 9, none, .mv (.t 0)⟩, ⟨some 10, none, .len .slice (.t 9)⟩, ⟨some 11, none, .bin .lss .none (.t 8) (.t 10)⟩])
   (.cond (.t 11)
    .skip
    (.exit 0)))
  (.seq
   (.block 1
    (.seq
     (.region [⟨some 14, none, .mv (.t 0)⟩, ⟨some 15, none, .mv (.t 3)⟩, ⟨some 16, none, .ixSl 1 (.t 14) (.t 15)⟩, ⟨some 17, none, .loadN 1 (.t 16)⟩, ⟨some 18, none, .call (.c (.func 41 [] [])) [(.t 17)]⟩, ⟨some 4, none, .mv (.t 18)⟩])
     (.seq
      (.region [⟨some 19, none, .mv (.t 4)⟩, ⟨some 20, none, .not (.t 19)⟩])
      (.cond (.t 20)
       (.seq
        (.region [⟨some 2, none, .mv (.c (.int .i64 1))⟩])
        .ret)
       .skip))))
   (.region [⟨some 12, none, .mv (.t 3)⟩, ⟨some 13, none, .bin .add .none (.t 12) (.c (.int .i64 1))⟩, ⟨some 3, none, .mv (.t 13)⟩])))
def c15 : CCode :=
 (.seq
  (.region [⟨some 2, none, .mv (.c (.int .i64 0))⟩])
  (.seq
   (.seq
    (.region [⟨some 5, none, .mv (.t 0)⟩, ⟨some 6, none, .len .slice (.t 5)⟩, ⟨some 7, none, .bin .gtr .none (.t 6) (.c (.int .i64 32))⟩])
    (.cond (.t 7)
     (.seq
      (.region [⟨some 2, none, .mv (.c (.int .i64 2))⟩])
      .ret)
     .skip))
   (.seq
    (.seq
     (.region [⟨some 3, none, .mv (.c (.int .i64 0))⟩])
     (.block 0
      (.loop c15_l0)))
    (.seq
     (.region [⟨some 2, none, .mv (.c (.int .i64 0))⟩])
     .ret))))
theorem code15 : E2.code 15 = some (c15, [.tmp 2]) := by kernel_rfl
def c23 : CCode :=
 (.seq
  (.region [⟨some 2, none, .mv (.c (.bool false))⟩])
  (.seq
   (.region [⟨some 3, none, .mv (.t 0)⟩, ⟨some 4, none, .bin .geq .none (.t 3) (.c (.int .u8 97))⟩, ⟨some 5, none, .mv (.t 4)⟩, ⟨some 6, some (5, true), .mv (.t 0)⟩, ⟨some 7, some (5, true), .bin .leq .none (.t 6) (.c (.int .u8 122))⟩, ⟨some 8, none, .pick (.t 5) (.t 7) (.c (.bool false))⟩, ⟨some 9, none, .mv (.t 8)⟩, ⟨some 10, some (9, false), .mv (.t 0)⟩, ⟨some 11, some (9, false), .bin .geq .none (.t 10) (.c (.int .u8 48))⟩, ⟨some 12, some (9, false), .mv (.t 11)⟩, ⟨some 13, some (12, true), .mv (.t 0)⟩, ⟨some 14, some (12, true), .bin .leq .none (.t 13) (.c (.int .u8 57))⟩, ⟨some 15, some (9, false), .pick (.t 12) (.t 14) (.c (.bool false))⟩, ⟨some 16, none, .pick (.t 9) (.c (.bool true)) (.t 15)⟩, ⟨some 17, none, .mv (.t 16)⟩, ⟨some 18, some (17, false), .mv (.t 0)⟩, ⟨some 19, some (17, false), .bin .eql .none (.t 18) (.c (.int .u8 32))⟩, ⟨some 20, none, .pick (.t 17) (.c (.bool true)) (.t 19)⟩, ⟨some 21, none, .mv (.t 20)⟩, ⟨some 22, some (21, false), .mv (.t 0)⟩, ⟨some 23, some (21, false), .bin .eql .none (.t 22) (.c (.int .u8 45))⟩, ⟨some 24, none, .pick (.t 21) (.c (.bool true)) (.t 23)⟩, ⟨some 2, none, .mv (.t 24)⟩])
   .ret))
theorem code23 : E2.code 23 = some (c23, [.tmp 2]) := by kernel_rfl
def c36 : CCode :=
 (.seq
  (.region [⟨some 1, none, .box 57 (.t 0)⟩, ⟨some 2, none, .mv (.c (.str []))⟩])
  (.seq
   (.seq
    (.region [⟨some 3, none, .fAddr 1 (.t 1)⟩, ⟨some 4, none, .load1 (.t 3)⟩, ⟨some 5, none, .bin .eql .none (.t 4) (.c (.int .i64 0))⟩])
    (.cond (.t 5)
     (.seq
      (.region [⟨some 6, none, .fAddr 0 (.t 1)⟩, ⟨some 7, none, .load1 (.t 6)⟩, ⟨some 2, none, .mv (.t 7)⟩])
      .ret)
     .skip))
   (.seq
    (.drawn 8 [⟨⟨some 8, none, .fAddr 0 (.t 1)⟩, 0, .pure, []⟩, ⟨⟨some 9, none, .load1 (.t 8)⟩, 1, .read, []⟩, ⟨⟨some 10, none, .bin .add .none (.t 9) (.c (.str [58]))⟩, 2, .pure, []⟩, ⟨⟨some 11, none, .fAddr 1 (.t 1)⟩, 3, .pure, []⟩, ⟨⟨some 12, none, .load1 (.t 11)⟩, 4, .read, []⟩, ⟨⟨some 13, none, .call (.c (.func 34 [] [])) [(.t 12)]⟩, 5, .wr, [⟨some 9, none, .load1 (.t 8)⟩]⟩, ⟨⟨some 14, none, .bin .add .none (.t 10) (.t 13)⟩, 6, .pure, []⟩, ⟨⟨some 2, none, .mv (.t 14)⟩, 7, .pure, []⟩])
    .ret)))
theorem code36 : E2.code 36 = some (c36, [.tmp 2]) := by kernel_rfl
def c40_l0 : CCode :=
 (.seq
  (.region [⟨some 21, none, .bin .lss .none (.t 20) (.t 19)⟩])
  (.seq
   (.cond (.t 21)
    .skip
    (.exit 0))
   (.seq
    (.block 1
     (.seq
      (.region [⟨some 22, none, .ixSl 2 (.t 18) (.t 20)⟩, ⟨some 23, none, .loadN 2 (.t 22)⟩, ⟨some 5, none, .box 57 (.c (.agg [(.str []), (.int .i64 0)]))⟩, ⟨none, none, .store 2 (.t 5) (.t 23)⟩])
      (.seq
       (.seq
        (.region [⟨some 24, none, .fAddr 0 (.t 5)⟩, ⟨some 25, none, .load1 (.t 24)⟩, ⟨some 26, none, .len .str (.t 25)⟩, ⟨some 27, none, .bin .gtr .none (.t 26) (.c (.int .i64 3))⟩, ⟨some 28, none, .mv (.t 27)⟩, ⟨some 29, some (28, false), .fAddr 0 (.t 5)⟩, ⟨some 30, some (28, false), .load1 (.t 29)⟩, ⟨some 31, some (28, false), .call (.c (.func 49 [] [])) [(.t 30)]⟩, ⟨some 32, some (28, false), .not (.t 31)⟩, ⟨some 33, none, .pick (.t 28) (.c (.bool true)) (.t 32)⟩, ⟨some 34, none, .mv (.t 33)⟩, ⟨some 35, some (34, false), .fAddr 1 (.t 5)⟩, ⟨some 36, some (34, false), .load1 (.t 35)⟩, ⟨some 37, some (34, false), .bin .lss .none (.t 36) (.c (.int .i64 0))⟩, ⟨some 38, none, .pick (.t 34) (.c (.bool true)) (.t 37)⟩, ⟨some 39, none, .mv (.t 38)⟩, ⟨some 40, some (39, false), .fAddr 1 (.t 5)⟩, ⟨some 41, some (39, false), .load1 (.t 40)⟩, ⟨some 42, some (39, false), .bin .gtr .none (.t 41) (.c (.int .i64 1000))⟩, ⟨some 43, none, .pick (.t 39) (.c (.bool true)) (.t 42)⟩, ⟨some 44, none, .mv (.t 43)⟩, ⟨some 45, some (44, false), .mv (.t 3)⟩, ⟨some 46, some (44, false), .fAddr 0 (.t 5)⟩, ⟨some 47, some (44, false), .load1 (.t 46)⟩, ⟨some 48, some (44, false), .lookup (.one .s) (.bool false) (.t 45) (.t 47) false⟩, ⟨some 49, none, .pick (.t 44) (.c (.bool true)) (.t 48)⟩])
        (.cond (.t 49)
         (.seq
          (.region [⟨some 2, none, .mv (.c (.bool false))⟩])
          .ret)
         .skip))
       (.region [⟨some 50, none, .mv (.t 3)⟩, ⟨some 51, none, .fAddr 0 (.t 5)⟩, ⟨some 52, none, .load1 (.t 51)⟩, ⟨none, none, .mapPut (.one .s) (.t 50) (.t 52) (.c (.bool true))⟩]))))
    (.region [⟨some 53, none, .bin .add .none (.t 20) (.c (.int .i64 1))⟩, ⟨some 20, none, .mv (.t 53)⟩]))))
def c40 : CCode :=
 (.seq
  (.region [⟨some 1, none, .box 55 (.t 0)⟩, ⟨some 2, none, .mv (.c (.bool false))⟩])
  (.seq
   (.seq
    (.region [⟨some 6, none, .fAddr 0 (.t 1)⟩, ⟨some 7, none, .load1 (.t 6)⟩, ⟨some 8, none, .len .slice (.t 7)⟩, ⟨some 9, none, .bin .lss .none (.t 8) (.c (.int .i64 1))⟩, ⟨some 10, none, .mv (.t 9)⟩, ⟨some 11, some (10, false), .fAddr 0 (.t 1)⟩, ⟨some 12, some (10, false), .load1 (.t 11)⟩, ⟨some 13, some (10, false), .len .slice (.t 12)⟩, ⟨some 14, some (10, false), .bin .gtr .none (.t 13) (.c (.int .i64 8))⟩, ⟨some 15, none, .pick (.t 10) (.c (.bool true)) (.t 14)⟩])
    (.cond (.t 15)
     (.seq
      (.region [⟨some 2, none, .mv (.c (.bool false))⟩])
      .ret)
     .skip))
   (.seq
    (.region [⟨some 16, none, .mkMap⟩, ⟨some 3, none, .mv (.t 16)⟩])
    (.seq
     (.seq
      (.region [⟨some 17, none, .fAddr 0 (.t 1)⟩, ⟨some 18, none, .load1 (.t 17)⟩, ⟨some 19, none, .len .slice (.t 18)⟩, ⟨some 20, none, .mv (.c (.int .i64 0))⟩])
      (.block 0
       (.loop c40_l0)))
     (.seq
      (.region [⟨some 2, none, .mv (.c (.bool true))⟩])
      .ret)))))
theorem code40 : E2.code 40 = some (c40, [.tmp 2]) := by kernel_rfl
def c41_l0 : CCode :=
 (.seq
  (.seq
   (.region [⟨some 60, none, .mv (.t 5)⟩, ⟨some 61, none, .mv (.t 3)⟩, ⟨some 62, none, .bin .lss .none (.t 60) (.t 61)⟩])
   (.cond (.t 62)
    .skip
    (.exit 2)))
  (.seq
   (.block 3
    (.seq
     (.drawn 13 [⟨⟨some 65, none, .fAddr 0 (.t 1)⟩, 0, .pure, []⟩, ⟨⟨some 66, none, .load1 (.t 65)⟩, 1, .read, []⟩, ⟨⟨some 67, none, .mv (.t 5)⟩, 2, .pure, []⟩, ⟨⟨some 68, none, .ixSl 2 (.t 66) (.t 67)⟩, 3, .pure, []⟩, ⟨⟨some 69, none, .fAddr 0 (.t 68)⟩, 4, .pure, []⟩, ⟨⟨some 70, none, .load1 (.t 69)⟩, 5, .read, []⟩, ⟨⟨some 71, none, .fAddr 0 (.t 1)⟩, 6, .pure, []⟩, ⟨⟨some 72, none, .load1 (.t 71)⟩, 7, .read, []⟩, ⟨⟨some 73, none, .mv (.t 3)⟩, 8, .pure, []⟩, ⟨⟨some 74, none, .ixSl 2 (.t 72) (.t 73)⟩, 9, .pure, []⟩, ⟨⟨some 75, none, .fAddr 0 (.t 74)⟩, 10, .pure, []⟩, ⟨⟨some 76, none, .load1 (.t 75)⟩, 11, .read, []⟩, ⟨⟨some 77, none, .bin .eql .none (.t 70) (.t 76)⟩, 12, .pure, []⟩])
     (.cond (.t 77)
      (.seq
       (.region [⟨some 2, none, .mv (.c (.bool false))⟩])
       .ret)
      .skip)))
   (.region [⟨some 63, none, .mv (.t 5)⟩, ⟨some 64, none, .bin .add .none (.t 63) (.c (.int .i64 1))⟩, ⟨some 5, none, .mv (.t 64)⟩])))
def c41_l1 : CCode :=
 (.seq
  (.seq
   (.region [⟨some 16, none, .mv (.t 3)⟩, ⟨some 17, none, .fAddr 0 (.t 1)⟩, ⟨some 18, none, .load1 (.t 17)⟩, ⟨some 19, none, .len .slice (.t 18)⟩, ⟨some 20, none, .bin .lss .none (.t 16) (.t 19)⟩])
   (.cond (.t 20)
    .skip
    (.exit 0)))
  (.seq
   (.block 1
    (.seq
     (.region [⟨some 23, none, .fAddr 0 (.t 1)⟩, ⟨some 24, none, .load1 (.t 23)⟩, ⟨some 25, none, .mv (.t 3)⟩, ⟨some 26, none, .ixSl 2 (.t 24) (.t 25)⟩, ⟨some 27, none, .fAddr 0 (.t 26)⟩, ⟨some 28, none, .load1 (.t 27)⟩, ⟨some 29, none, .call (.c (.func 50 [] [])) [(.t 28)]⟩, ⟨some 4, none, .mv (.t 29)⟩])
     (.seq
      (.seq
       (.region [⟨some 30, none, .mv (.t 4)⟩, ⟨some 31, none, .not (.t 30)⟩, ⟨some 32, none, .mv (.t 31)⟩, ⟨some 33, some (32, false), .fAddr 0 (.t 1)⟩, ⟨some 34, some (32, false), .load1 (.t 33)⟩, ⟨some 35, some (32, false), .mv (.t 3)⟩, ⟨some 36, some (32, false), .ixSl 2 (.t 34) (.t 35)⟩, ⟨some 37, some (32, false), .fAddr 0 (.t 36)⟩, ⟨some 38, some (32, false), .load1 (.t 37)⟩, ⟨some 39, some (32, false), .len .str (.t 38)⟩, ⟨some 40, some (32, false), .bin .gtr .none (.t 39) (.c (.int .i64 3))⟩, ⟨some 41, none, .pick (.t 32) (.c (.bool true)) (.t 40)⟩, ⟨some 42, none, .mv (.t 41)⟩, ⟨some 43, some (42, false), .fAddr 0 (.t 1)⟩, ⟨some 44, some (42, false), .load1 (.t 43)⟩, ⟨some 45, some (42, false), .mv (.t 3)⟩, ⟨some 46, some (42, false), .ixSl 2 (.t 44) (.t 45)⟩, ⟨some 47, some (42, false), .fAddr 1 (.t 46)⟩, ⟨some 48, some (42, false), .load1 (.t 47)⟩, ⟨some 49, some (42, false), .bin .lss .none (.t 48) (.c (.int .i64 0))⟩, ⟨some 50, none, .pick (.t 42) (.c (.bool true)) (.t 49)⟩, ⟨some 51, none, .mv (.t 50)⟩, ⟨some 52, some (51, false), .fAddr 0 (.t 1)⟩, ⟨some 53, some (51, false), .load1 (.t 52)⟩, ⟨some 54, some (51, false), .mv (.t 3)⟩, ⟨some 55, some (51, false), .ixSl 2 (.t 53) (.t 54)⟩, ⟨some 56, some (51, false), .fAddr 1 (.t 55)⟩, ⟨some 57, some (51, false), .load1 (.t 56)⟩, ⟨some 58, some (51, false), .bin .gtr .none (.t 57) (.c (.int .i64 1000))⟩, ⟨some 59, none, .pick (.t 51) (.c (.bool true)) (.t 58)⟩])
       (.cond (.t 59)
        (.seq
         (.region [⟨some 2, none, .mv (.c (.bool false))⟩])
         .ret)
        .skip))
      (.seq
       (.region [⟨some 5, none, .mv (.c (.int .i64 0))⟩])
       (.block 2
        (.loop c41_l0))))))
   (.region [⟨some 21, none, .mv (.t 3)⟩, ⟨some 22, none, .bin .add .none (.t 21) (.c (.int .i64 1))⟩, ⟨some 3, none, .mv (.t 22)⟩])))
def c41 : CCode :=
 (.seq
  (.region [⟨some 1, none, .box 55 (.t 0)⟩, ⟨some 2, none, .mv (.c (.bool false))⟩])
  (.seq
   (.seq
    (.region [⟨some 6, none, .fAddr 0 (.t 1)⟩, ⟨some 7, none, .load1 (.t 6)⟩, ⟨some 8, none, .len .slice (.t 7)⟩, ⟨some 9, none, .bin .lss .none (.t 8) (.c (.int .i64 1))⟩, ⟨some 10, none, .mv (.t 9)⟩, ⟨some 11, some (10, false), .fAddr 0 (.t 1)⟩, ⟨some 12, some (10, false), .load1 (.t 11)⟩, ⟨some 13, some (10, false), .len .slice (.t 12)⟩, ⟨some 14, some (10, false), .bin .gtr .none (.t 13) (.c (.int .i64 8))⟩, ⟨some 15, none, .pick (.t 10) (.c (.bool true)) (.t 14)⟩])
    (.cond (.t 15)
     (.seq
      (.region [⟨some 2, none, .mv (.c (.bool false))⟩])
      .ret)
     .skip))
   (.seq
    (.seq
     (.region [⟨some 3, none, .mv (.c (.int .i64 0))⟩])
     (.block 0
      (.loop c41_l1)))
    (.seq
     (.region [⟨some 2, none, .mv (.c (.bool true))⟩])
     .ret))))
theorem code41 : E2.code 41 = some (c41, [.tmp 2]) := by kernel_rfl
def c46_l0 : CCode :=
 (.seq
  (.seq
   (.region [⟨some 4, none, .mv (.t 3)⟩, ⟨some 5, none, .bin .lss .none (.t 4) (.c (.int .i64 38))⟩])
   (.cond (.t 5)
    .skip
    (.exit 0)))
  (.seq
   (.block 1
    (.seq
     (.region [⟨some 8, none, .mv (.t 3)⟩, ⟨some 9, none, .ixStr (.c (.str [32, 45, 48, 49, 50, 51, 52, 53, 54, 55, 56, 57, 97, 98, 99, 100, 101, 102, 103, 104, 105, 106, 107, 108, 109, 110, 111, 112, 113, 114, 115, 116, 117, 118, 119, 120, 121, 122])) (.t 8)⟩, ⟨some 10, none, .mv (.t 0)⟩, ⟨some 11, none, .bin .eql .none (.t 9) (.t 10)⟩])
     (.cond (.t 11)
      (.seq
       (.region [⟨some 12, none, .mv (.t 3)⟩, ⟨some 2, none, .mv (.t 12)⟩])
       .ret)
      .skip)))
   (.region [⟨some 6, none, .mv (.t 3)⟩, ⟨some 7, none, .bin .add .none (.t 6) (.c (.int .i64 1))⟩, ⟨some 3, none, .mv (.t 7)⟩])))
def c46 : CCode :=
 (.seq
  (.region [⟨some 2, none, .mv (.c (.int .i64 0))⟩])
  (.seq
   (.seq
    (.region [⟨some 3, none, .mv (.c (.int .i64 0))⟩])
    (.block 0
     (.loop c46_l0)))
   (.seq
    (.region [⟨some 2, none, .mv (.c (.int .i64 (-1)))⟩])
    .ret)))
theorem code46 : E2.code 46 = some (c46, [.tmp 2]) := by kernel_rfl
def c49_l0 : CCode :=
 (.seq
  (.region [⟨some 7, none, .bin .lss .none (.t 6) (.t 5)⟩])
  (.seq
   (.cond (.t 7)
    .skip
    (.exit 0))
   (.seq
    (.block 1
     (.seq
      (.region [⟨some 8, none, .mv (.t 6)⟩, ⟨some 3, none, .mv (.t 8)⟩])
      (.seq
       (.region [⟨some 9, none, .mv (.t 0)⟩, ⟨some 10, none, .mv (.t 3)⟩, ⟨some 11, none, .ixStr (.t 9) (.t 10)⟩, ⟨some 12, none, .call (.c (.func 23 [] [])) [(.t 11)]⟩, ⟨some 13, none, .not (.t 12)⟩])
       (.cond (.t 13)
        (.seq
         (.region [⟨some 2, none, .mv (.c (.bool false))⟩])
         .ret)
        .skip))))
    (.region [⟨some 14, none, .bin .add .none (.t 6) (.c (.int .i64 1))⟩, ⟨some 6, none, .mv (.t 14)⟩]))))
def c49 : CCode :=
 (.seq
  (.region [⟨some 2, none, .mv (.c (.bool false))⟩])
  (.seq
   (.seq
    (.region [⟨some 4, none, .mv (.t 0)⟩, ⟨some 5, none, .len .str (.t 4)⟩, ⟨some 6, none, .mv (.c (.int .i64 0))⟩])
    (.block 0
     (.loop c49_l0)))
   (.seq
    (.region [⟨some 2, none, .mv (.c (.bool true))⟩])
    .ret)))
theorem code49 : E2.code 49 = some (c49, [.tmp 2]) := by kernel_rfl
def c50_l0 : CCode :=
 (.seq
  (.seq
   (.region [⟨some 4, none, .mv (.t 3)⟩, ⟨some 5, none, .mv (.t 0)⟩, ⟨some 6, none, .len .str (.t 5)⟩, ⟨some 7, none, .bin .lss .none (.t 4) (.t 6)⟩])
   (.cond (.t 7)
    .skip
    (.exit 0)))
  (.seq
   (.block 1
    (.seq
     (.region [⟨some 10, none, .mv (.t 0)⟩, ⟨some 11, none, .mv (.t 3)⟩, ⟨some 12, none, .ixStr (.t 10) (.t 11)⟩, ⟨some 13, none, .call (.c (.func 46 [] [])) [(.t 12)]⟩, ⟨some 14, none, .bin .lss .none (.t 13) (.c (.int .i64 0))⟩])
     (.cond (.t 14)
      (.seq
       (.region [⟨some 2, none, .mv (.c (.bool false))⟩])
       .ret)
      .skip)))
   (.region [⟨some 8, none, .mv (.t 3)⟩, ⟨some 9, none, .bin .add .none (.t 8) (.c (.int .i64 1))⟩, ⟨some 3, none, .mv (.t 9)⟩])))
def c50 : CCode :=
 (.seq
  (.region [⟨some 2, none, .mv (.c (.bool false))⟩])
  (.seq
   (.seq
    (.region [⟨some 3, none, .mv (.c (.int .i64 0))⟩])
    (.block 0
     (.loop c50_l0)))
   (.seq
    (.region [⟨some 2, none, .mv (.c (.bool true))⟩])
    .ret)))
theorem code50 : E2.code 50 = some (c50, [.tmp 2]) := by kernel_rfl
end
end Go.AX
namespace Go.AX
open Go Go.Proofs
noncomputable section
def c10 : CCode :=
 (.seq
  (.region [⟨some 4, none, .mv (.c (.bool false))⟩])
  (.seq
   (.region [⟨some 18, none, .mv (.t 0)⟩, ⟨some 19, none, .call (.c (.func 12 [] [])) [(.t 18)]⟩, ⟨some 17, none, .mv (.t 19)⟩, ⟨some 20, none, .extract 0 (.t 17)⟩, ⟨some 21, none, .extract 1 (.t 17)⟩, ⟨some 5, none, .mv (.t 20)⟩, ⟨some 6, none, .mv (.t 21)⟩])
   (.seq
    (.region [⟨some 23, none, .mv (.t 1)⟩, ⟨some 24, none, .call (.c (.func 12 [] [])) [(.t 23)]⟩, ⟨some 22, none, .mv (.t 24)⟩, ⟨some 25, none, .extract 0 (.t 22)⟩, ⟨some 26, none, .extract 1 (.t 22)⟩, ⟨some 7, none, .mv (.t 25)⟩, ⟨some 8, none, .mv (.t 26)⟩])
    (.seq
     (.region [⟨some 28, none, .mv (.t 0)⟩, ⟨some 29, none, .mv (.t 1)⟩, ⟨some 30, none, .call (.c (.func 30 [] [])) [(.t 28), (.t 29)]⟩, ⟨some 27, none, .mv (.t 30)⟩, ⟨some 31, none, .extract 0 (.t 27)⟩, ⟨some 32, none, .extract 1 (.t 27)⟩, ⟨some 9, none, .mv (.t 31)⟩, ⟨some 10, none, .mv (.t 32)⟩])
     (.seq
      (.region [⟨some 34, none, .mv (.t 0)⟩, ⟨some 35, none, .mv (.t 1)⟩, ⟨some 36, none, .call (.c (.func 31 [] [])) [(.t 34), (.t 35)]⟩, ⟨some 33, none, .mv (.t 36)⟩, ⟨some 37, none, .extract 0 (.t 33)⟩, ⟨some 38, none, .extract 1 (.t 33)⟩, ⟨some 11, none, .mv (.t 37)⟩, ⟨some 12, none, .mv (.t 38)⟩])
      (.seq
       (.region [⟨some 40, none, .mv (.t 0)⟩, ⟨some 41, none, .call (.c (.func 12 [] [])) [(.t 40)]⟩, ⟨some 39, none, .mv (.t 41)⟩, ⟨some 42, none, .extract 0 (.t 39)⟩, ⟨some 43, none, .extract 1 (.t 39)⟩, ⟨some 13, none, .mv (.t 42)⟩, ⟨some 14, none, .mv (.t 43)⟩])
       (.seq
        (.region [⟨some 45, none, .mv (.t 1)⟩, ⟨some 46, none, .call (.c (.func 12 [] [])) [(.t 45)]⟩, ⟨some 44, none, .mv (.t 46)⟩, ⟨some 47, none, .extract 0 (.t 44)⟩, ⟨some 48, none, .extract 1 (.t 44)⟩, ⟨some 15, none, .mv (.t 47)⟩, ⟨some 16, none, .mv (.t 48)⟩])
        (.seq
         (.region [⟨some 49, none, .call (.c (.func 13 [] [])) []⟩, ⟨some 50, none, .mv (.t 49)⟩, ⟨some 51, some (50, true), .mv (.t 10)⟩, ⟨some 52, some (50, true), .mv (.t 12)⟩, ⟨some 53, some (50, true), .bin .eql .none (.t 51) (.t 52)⟩, ⟨some 54, none, .pick (.t 50) (.t 53) (.c (.bool false))⟩, ⟨some 55, none, .mv (.t 54)⟩, ⟨some 56, some (55, true), .mv (.t 9)⟩, ⟨some 57, some (55, true), .mv (.t 11)⟩, ⟨some 58, some (55, true), .call (.c (.func 18 [] [])) [(.t 56), (.t 57)]⟩, ⟨some 59, none, .pick (.t 55) (.t 58) (.c (.bool false))⟩, ⟨some 60, none, .mv (.t 59)⟩, ⟨some 61, some (60, true), .mv (.t 5)⟩, ⟨some 62, some (60, true), .mv (.t 13)⟩, ⟨some 63, some (60, true), .bin .eql .none (.t 61) (.t 62)⟩, ⟨some 64, none, .pick (.t 60) (.t 63) (.c (.bool false))⟩, ⟨some 65, none, .mv (.t 64)⟩, ⟨some 66, some (65, true), .mv (.t 7)⟩, ⟨some 67, some (65, true), .mv (.t 15)⟩, ⟨some 68, some (65, true), .bin .eql .none (.t 66) (.t 67)⟩, ⟨some 69, none, .pick (.t 65) (.t 68) (.c (.bool false))⟩, ⟨some 4, none, .mv (.t 69)⟩])
         .ret))))))))
theorem code10 : E2.code 10 = some (c10, [.tmp 4]) := by kernel_rfl
def c18_l0 : CCode :=
 (.seq
  (.seq
   (.region [⟨some 31, none, .mv (.t 6)⟩, ⟨some 32, none, .mv (.t 0)⟩, ⟨some 33, none, .mv (.t 5)⟩, ⟨some 34, none, .ixSl 1 (.t 32) (.t 33)⟩, ⟨some 35, none, .fAddr 0 (.t 34)⟩, ⟨some 36, none, .load1 (.t 35)⟩, ⟨some 37, none, .len .slice (.t 36)⟩, ⟨some 38, none, .bin .lss .none (.t 31) (.t 37)⟩])
   (.cond (.t 38)
    .skip
    (.exit 2)))
  (.seq
   (.block 3
    (.seq
     (.drawn 17 [⟨⟨some 41, none, .mv (.t 0)⟩, 0, .pure, []⟩, ⟨⟨some 42, none, .mv (.t 5)⟩, 1, .pure, []⟩, ⟨⟨some 43, none, .ixSl 1 (.t 41) (.t 42)⟩, 2, .pure, []⟩, ⟨⟨some 44, none, .fAddr 0 (.t 43)⟩, 3, .pure, []⟩, ⟨⟨some 45, none, .load1 (.t 44)⟩, 4, .read, []⟩, ⟨⟨some 46, none, .mv (.t 6)⟩, 5, .pure, []⟩, ⟨⟨some 47, none, .ixSl 2 (.t 45) (.t 46)⟩, 6, .pure, []⟩, ⟨⟨some 48, none, .loadN 2 (.t 47)⟩, 7, .read, []⟩, ⟨⟨some 49, none, .mv (.t 1)⟩, 8, .pure, []⟩, ⟨⟨some 50, none, .mv (.t 5)⟩, 9, .pure, []⟩, ⟨⟨some 51, none, .ixSl 1 (.t 49) (.t 50)⟩, 10, .pure, []⟩, ⟨⟨some 52, none, .fAddr 0 (.t 51)⟩, 11, .pure, []⟩, ⟨⟨some 53, none, .load1 (.t 52)⟩, 12, .read, []⟩, ⟨⟨some 54, none, .mv (.t 6)⟩, 13, .pure, []⟩, ⟨⟨some 55, none, .ixSl 2 (.t 53) (.t 54)⟩, 14, .pure, []⟩, ⟨⟨some 56, none, .loadN 2 (.t 55)⟩, 15, .read, []⟩, ⟨⟨some 57, none, .bin .neq (.agg [(0, .s), (1, .i)]) (.t 48) (.t 56)⟩, 16, .pure, []⟩])
     (.cond (.t 57)
      (.seq
       (.region [⟨some 4, none, .mv (.c (.bool false))⟩])
       .ret)
      .skip)))
   (.region [⟨some 39, none, .mv (.t 6)⟩, ⟨some 40, none, .bin .add .none (.t 39) (.c (.int .i64 1))⟩, ⟨some 6, none, .mv (.t 40)⟩])))
def c18_l1 : CCode :=
 (.seq
  (.seq
   (.region [⟨some 12, none, .mv (.t 5)⟩, ⟨some 13, none, .mv (.t 0)⟩, ⟨some 14, none, .len .slice (.t 13)⟩, ⟨some 15, none, .bin .lss .none (.t 12) (.t 14)⟩])
   (.cond (.t 15)
    .skip
    (.exit 0)))
  (.seq
   (.block 1
    (.seq
     (.seq
      (.drawn 13 [⟨⟨some 18, none, .mv (.t 0)⟩, 0, .pure, []⟩, ⟨⟨some 19, none, .mv (.t 5)⟩, 1, .pure, []⟩, ⟨⟨some 20, none, .ixSl 1 (.t 18) (.t 19)⟩, 2, .pure, []⟩, ⟨⟨some 21, none, .fAddr 0 (.t 20)⟩, 3, .pure, []⟩, ⟨⟨some 22, none, .load1 (.t 21)⟩, 4, .read, []⟩, ⟨⟨some 23, none, .len .slice (.t 22)⟩, 5, .pure, []⟩, ⟨⟨some 24, none, .mv (.t 1)⟩, 6, .pure, []⟩, ⟨⟨some 25, none, .mv (.t 5)⟩, 7, .pure, []⟩, ⟨⟨some 26, none, .ixSl 1 (.t 24) (.t 25)⟩, 8, .pure, []⟩, ⟨⟨some 27, none, .fAddr 0 (.t 26)⟩, 9, .pure, []⟩, ⟨⟨some 28, none, .load1 (.t 27)⟩, 10, .read, []⟩, ⟨⟨some 29, none, .len .slice (.t 28)⟩, 11, .pure, []⟩, ⟨⟨some 30, none, .bin .neq .none (.t 23) (.t 29)⟩, 12, .pure, []⟩])
      (.cond (.t 30)
       (.seq
        (.region [⟨some 4, none, .mv (.c (.bool false))⟩])
        .ret)
       .skip))
     (.seq
      (.region [⟨some 6, none, .mv (.c (.int .i64 0))⟩])
      (.block 2
       (.loop c18_l0)))))
   (.region [⟨some 16, none, .mv (.t 5)⟩, ⟨some 17, none, .bin .add .none (.t 16) (.c (.int .i64 1))⟩, ⟨some 5, none, .mv (.t 17)⟩])))
def c18 : CCode :=
 (.seq
  (.region [⟨some 4, none, .mv (.c (.bool false))⟩])
  (.seq
   (.seq
    (.region [⟨some 7, none, .mv (.t 0)⟩, ⟨some 8, none, .len .slice (.t 7)⟩, ⟨some 9, none, .mv (.t 1)⟩, ⟨some 10, none, .len .slice (.t 9)⟩, ⟨some 11, none, .bin .neq .none (.t 8) (.t 10)⟩])
    (.cond (.t 11)
     (.seq
      (.region [⟨some 4, none, .mv (.c (.bool false))⟩])
      .ret)
     .skip))
   (.seq
    (.seq
     (.region [⟨some 5, none, .mv (.c (.int .i64 0))⟩])
     (.block 0
      (.loop c18_l1)))
    (.seq
     (.region [⟨some 4, none, .mv (.c (.bool true))⟩])
     .ret))))
theorem code18 : E2.code 18 = some (c18, [.tmp 4]) := by kernel_rfl
def c30_l0 : CCode :=
 (.seq
  (.region [⟨some 52, none, .bin .lss .none (.t 51) (.t 50)⟩])
  (.seq
   (.cond (.t 52)
    .skip
    (.exit 4))
   (.seq
    (.block 5
     (.seq
      (.region [⟨some 53, none, .ixSl 2 (.t 49) (.t 51)⟩, ⟨some 54, none, .loadN 2 (.t 53)⟩, ⟨some 15, none, .box 57 (.c (.agg [(.str []), (.int .i64 0)]))⟩, ⟨none, none, .store 2 (.t 15) (.t 54)⟩])
      (.seq
       (.region [⟨some 55, none, .fAddr 0 (.t 13)⟩, ⟨some 56, none, .load1 (.t 55)⟩, ⟨some 57, none, .fAddr 0 (.t 15)⟩, ⟨some 58, none, .load1 (.t 57)⟩, ⟨some 59, none, .bin .eql .none (.t 56) (.t 58)⟩])
       (.cond (.t 59)
        (.region [⟨some 60, none, .fAddr 0 (.t 11)⟩, ⟨some 61, none, .load1 (.t 60)⟩, ⟨some 62, none, .fAddr 0 (.t 13)⟩, ⟨some 63, none, .load1 (.t 62)⟩, ⟨some 64, none, .fAddr 1 (.t 13)⟩, ⟨some 65, none, .load1 (.t 64)⟩, ⟨some 66, none, .fAddr 1 (.t 15)⟩, ⟨some 67, none, .load1 (.t 66)⟩, ⟨some 68, none, .minmax true [(.t 65), (.t 67)]⟩, ⟨some 69, none, .build [(.str []), (.int .i64 0)] [(0, 1, (.t 63)), (1, 1, (.t 68))]⟩, ⟨some 70, none, .buildSlice 57 1 [(.str []), (.int .i64 0)] [(0, 2, (.t 69))]⟩, ⟨some 71, none, .append 57 2 (.t 61) (.t 70)⟩, ⟨some 72, none, .fAddr 0 (.t 11)⟩, ⟨none, none, .store 1 (.t 72) (.t 71)⟩])
        .skip))))
    (.region [⟨some 73, none, .bin .add .none (.t 51) (.c (.int .i64 1))⟩, ⟨some 51, none, .mv (.t 73)⟩]))))
def c30_l1 : CCode :=
 (.seq
  (.region [⟨some 42, none, .bin .lss .none (.t 41) (.t 40)⟩])
  (.seq
   (.cond (.t 42)
    .skip
    (.exit 2))
   (.seq
    (.block 3
     (.seq
      (.region [⟨some 43, none, .ixSl 2 (.t 39) (.t 41)⟩, ⟨some 44, none, .loadN 2 (.t 43)⟩, ⟨some 13, none, .box 57 (.c (.agg [(.str []), (.int .i64 0)]))⟩, ⟨none, none, .store 2 (.t 13) (.t 44)⟩])
      (.seq
       (.region [⟨some 45, none, .mv (.t 1)⟩, ⟨some 46, none, .mv (.t 9)⟩, ⟨some 47, none, .ixSl 1 (.t 45) (.t 46)⟩, ⟨some 48, none, .fAddr 0 (.t 47)⟩, ⟨some 49, none, .load1 (.t 48)⟩, ⟨some 50, none, .len .slice (.t 49)⟩, ⟨some 51, none, .mv (.c (.int .i64 0))⟩])
       (.block 4
        (.loop c30_l0)))))
    (.region [⟨some 74, none, .bin .add .none (.t 41) (.c (.int .i64 1))⟩, ⟨some 41, none, .mv (.t 74)⟩]))))
def c30_l2 : CCode :=
 (.seq
  (.region [⟨some 34, none, .bin .lss .none (.t 33) (.t 32)⟩])
  (.seq
   (.cond (.t 34)
    .skip
    (.exit 0))
   (.seq
    (.block 1
     (.seq
      (.region [⟨some 35, none, .mv (.t 33)⟩, ⟨some 36, none, .ixSl 1 (.t 31) (.t 33)⟩, ⟨some 37, none, .loadN 1 (.t 36)⟩, ⟨some 10, none, .box 55 (.c (.agg [.nilslice]))⟩, ⟨some 9, none, .mv (.t 35)⟩, ⟨none, none, .store 1 (.t 10) (.t 37)⟩])
      (.seq
       (.region [⟨some 11, none, .box 55 (.c (.agg [.nilslice]))⟩])
       (.seq
        (.seq
         (.region [⟨some 38, none, .fAddr 0 (.t 10)⟩, ⟨some 39, none, .load1 (.t 38)⟩, ⟨some 40, none, .len .slice (.t 39)⟩, ⟨some 41, none, .mv (.c (.int .i64 0))⟩])
         (.block 2
          (.loop c30_l1)))
        (.seq
         (.seq
          (.region [⟨some 75, none, .fAddr 0 (.t 11)⟩, ⟨some 76, none, .load1 (.t 75)⟩, ⟨some 77, none, .len .slice (.t 76)⟩, ⟨some 78, none, .bin .eql .none (.t 77) (.c (.int .i64 0))⟩])
          (.cond (.t 78)
           (.seq
            (.region [⟨some 4, none, .mv (.c .nilslice)⟩, ⟨some 5, none, .mv (.c (.int .i64 8))⟩])
            .ret)
           .skip))
         (.region [⟨some 79, none, .mv (.t 8)⟩, ⟨some 80, none, .loadN 1 (.t 11)⟩, ⟨some 81, none, .buildSlice 55 1 [.nilslice] [(0, 1, (.t 80))]⟩, ⟨some 82, none, .append 55 1 (.t 79) (.t 81)⟩, ⟨some 8, none, .mv (.t 82)⟩]))))))
    (.region [⟨some 83, none, .bin .add .none (.t 33) (.c (.int .i64 1))⟩, ⟨some 33, none, .mv (.t 83)⟩]))))
def c30 : CCode :=
 (.seq
  (.region [⟨some 4, none, .mv (.c .nilslice)⟩, ⟨some 5, none, .mv (.c (.int .i64 0))⟩])
  (.seq
   (.seq
    (.region [⟨some 16, none, .mv (.t 0)⟩, ⟨some 17, none, .call (.c (.func 14 [] [])) [(.t 16)]⟩, ⟨some 6, none, .mv (.t 17)⟩])
    (.seq
     (.region [⟨some 18, none, .mv (.t 6)⟩, ⟨some 19, none, .bin .neq .none (.t 18) (.c (.int .i64 0))⟩])
     (.cond (.t 19)
      (.seq
       (.region [⟨some 20, none, .mv (.t 6)⟩, ⟨some 4, none, .mv (.c .nilslice)⟩, ⟨some 5, none, .mv (.t 20)⟩])
       .ret)
      .skip)))
   (.seq
    (.seq
     (.region [⟨some 21, none, .mv (.t 1)⟩, ⟨some 22, none, .call (.c (.func 14 [] [])) [(.t 21)]⟩, ⟨some 7, none, .mv (.t 22)⟩])
     (.seq
      (.region [⟨some 23, none, .mv (.t 7)⟩, ⟨some 24, none, .bin .neq .none (.t 23) (.c (.int .i64 0))⟩])
      (.cond (.t 24)
       (.seq
        (.region [⟨some 25, none, .mv (.t 7)⟩, ⟨some 4, none, .mv (.c .nilslice)⟩, ⟨some 5, none, .mv (.t 25)⟩])
        .ret)
       .skip)))
    (.seq
     (.seq
      (.region [⟨some 26, none, .mv (.t 0)⟩, ⟨some 27, none, .len .slice (.t 26)⟩, ⟨some 28, none, .mv (.t 1)⟩, ⟨some 29, none, .len .slice (.t 28)⟩, ⟨some 30, none, .bin .neq .none (.t 27) (.t 29)⟩])
      (.cond (.t 30)
       (.seq
        (.region [⟨some 4, none, .mv (.c .nilslice)⟩, ⟨some 5, none, .mv (.c (.int .i64 1))⟩])
        .ret)
       .skip))
     (.seq
      (.region [⟨some 8, none, .mv (.c .nilslice)⟩])
      (.seq
       (.seq
        (.region [⟨some 31, none, .mv (.t 0)⟩, ⟨some 32, none, .len .slice (.t 31)⟩, ⟨some 33, none, .mv (.c (.int .i64 0))⟩])
        (.block 0
         (.loop c30_l2)))
       (.seq
        (.region [⟨some 84, none, .mv (.t 8)⟩, ⟨some 4, none, .mv (.t 84)⟩, ⟨some 5, none, .mv (.c (.int .i64 0))⟩])
        .ret)))))))
theorem code30 : E2.code 30 = some (c30, [.tmp 4, .tmp 5]) := by kernel_rfl
def c31_l0 : CCode :=
 (.seq
  (.seq
   (.region [⟨some 35, none, .mv (.t 11)⟩, ⟨some 36, none, .mv (.t 0)⟩, ⟨some 37, none, .mv (.t 9)⟩, ⟨some 38, none, .ixSl 1 (.t 36) (.t 37)⟩, ⟨some 39, none, .fAddr 0 (.t 38)⟩, ⟨some 40, none, .load1 (.t 39)⟩, ⟨some 41, none, .len .slice (.t 40)⟩, ⟨some 42, none, .bin .lss .none (.t 35) (.t 41)⟩])
   (.cond (.t 42)
    .skip
    (.exit 2)))
  (.seq
   (.block 3
    (.seq
     (.region [⟨some 45, none, .mv (.t 0)⟩, ⟨some 46, none, .mv (.t 9)⟩, ⟨some 47, none, .ixSl 1 (.t 45) (.t 46)⟩, ⟨some 48, none, .fAddr 0 (.t 47)⟩, ⟨some 49, none, .load1 (.t 48)⟩, ⟨some 50, none, .mv (.t 11)⟩, ⟨some 51, none, .ixSl 2 (.t 49) (.t 50)⟩, ⟨some 52, none, .loadN 2 (.t 51)⟩, ⟨some 12, none, .box 57 (.c (.agg [(.str []), (.int .i64 0)]))⟩, ⟨none, none, .store 2 (.t 12) (.t 52)⟩])
     (.seq
      (.drawn 8 [⟨⟨some 53, none, .mv (.t 1)⟩, 0, .pure, []⟩, ⟨⟨some 54, none, .mv (.t 9)⟩, 1, .pure, []⟩, ⟨⟨some 55, none, .ixSl 1 (.t 53) (.t 54)⟩, 2, .pure, []⟩, ⟨⟨some 56, none, .loadN 1 (.t 55)⟩, 3, .read, []⟩, ⟨⟨some 57, none, .fAddr 0 (.t 12)⟩, 4, .pure, []⟩, ⟨⟨some 58, none, .load1 (.t 57)⟩, 5, .read, []⟩, ⟨⟨some 59, none, .call (.c (.func 51 [] [])) [(.t 56), (.t 58)]⟩, 6, .wr, []⟩, ⟨⟨some 13, none, .mv (.t 59)⟩, 7, .pure, []⟩])
      (.seq
       (.region [⟨some 60, none, .mv (.t 13)⟩, ⟨some 61, none, .bin .geq .none (.t 60) (.c (.int .i64 0))⟩])
       (.cond (.t 61)
        (.region [⟨some 62, none, .fAddr 0 (.t 10)⟩, ⟨some 63, none, .load1 (.t 62)⟩, ⟨some 64, none, .fAddr 0 (.t 12)⟩, ⟨some 65, none, .load1 (.t 64)⟩, ⟨some 66, none, .fAddr 1 (.t 12)⟩, ⟨some 67, none, .load1 (.t 66)⟩, ⟨some 68, none, .mv (.t 13)⟩, ⟨some 69, none, .minmax true [(.t 67), (.t 68)]⟩, ⟨some 70, none, .build [(.str []), (.int .i64 0)] [(0, 1, (.t 65)), (1, 1, (.t 69))]⟩, ⟨some 71, none, .buildSlice 57 1 [(.str []), (.int .i64 0)] [(0, 2, (.t 70))]⟩, ⟨some 72, none, .append 57 2 (.t 63) (.t 71)⟩, ⟨some 73, none, .fAddr 0 (.t 10)⟩, ⟨none, none, .store 1 (.t 73) (.t 72)⟩])
        .skip)))))
   (.region [⟨some 43, none, .mv (.t 11)⟩, ⟨some 44, none, .bin .add .none (.t 43) (.c (.int .i64 1))⟩, ⟨some 11, none, .mv (.t 44)⟩])))
def c31_l1 : CCode :=
 (.seq
  (.seq
   (.region [⟨some 29, none, .mv (.t 9)⟩, ⟨some 30, none, .mv (.t 0)⟩, ⟨some 31, none, .len .slice (.t 30)⟩, ⟨some 32, none, .bin .lss .none (.t 29) (.t 31)⟩])
   (.cond (.t 32)
    .skip
    (.exit 0)))
  (.seq
   (.block 1
    (.seq
     (.region [⟨some 10, none, .box 55 (.c (.agg [.nilslice]))⟩])
     (.seq
      (.seq
       (.region [⟨some 11, none, .mv (.c (.int .i64 0))⟩])
       (.block 2
        (.loop c31_l0)))
      (.seq
       (.seq
        (.region [⟨some 74, none, .fAddr 0 (.t 10)⟩, ⟨some 75, none, .load1 (.t 74)⟩, ⟨some 76, none, .len .slice (.t 75)⟩, ⟨some 77, none, .bin .eql .none (.t 76) (.c (.int .i64 0))⟩])
        (.cond (.t 77)
         (.seq
          (.region [⟨some 4, none, .mv (.c .nilslice)⟩, ⟨some 5, none, .mv (.c (.int .i64 8))⟩])
          .ret)
         .skip))
       (.region [⟨some 78, none, .mv (.t 8)⟩, ⟨some 79, none, .loadN 1 (.t 10)⟩, ⟨some 80, none, .buildSlice 55 1 [.nilslice] [(0, 1, (.t 79))]⟩, ⟨some 81, none, .append 55 1 (.t 78) (.t 80)⟩, ⟨some 8, none, .mv (.t 81)⟩])))))
   (.region [⟨some 33, none, .mv (.t 9)⟩, ⟨some 34, none, .bin .add .none (.t 33) (.c (.int .i64 1))⟩, ⟨some 9, none, .mv (.t 34)⟩])))
def c31 : CCode :=
 (.seq
  (.region [⟨some 4, none, .mv (.c .nilslice)⟩, ⟨some 5, none, .mv (.c (.int .i64 0))⟩])
  (.seq
   (.region [⟨some 14, none, .mv (.t 0)⟩, ⟨some 15, none, .call (.c (.func 15 [] [])) [(.t 14)]⟩, ⟨some 6, none, .mv (.t 15)⟩])
   (.seq
    (.seq
     (.region [⟨some 16, none, .mv (.t 6)⟩, ⟨some 17, none, .bin .neq .none (.t 16) (.c (.int .i64 0))⟩])
     (.cond (.t 17)
      (.seq
       (.region [⟨some 18, none, .mv (.t 6)⟩, ⟨some 4, none, .mv (.c .nilslice)⟩, ⟨some 5, none, .mv (.t 18)⟩])
       .ret)
      .skip))
    (.seq
     (.region [⟨some 19, none, .mv (.t 1)⟩, ⟨some 20, none, .call (.c (.func 15 [] [])) [(.t 19)]⟩, ⟨some 7, none, .mv (.t 20)⟩])
     (.seq
      (.seq
       (.region [⟨some 21, none, .mv (.t 7)⟩, ⟨some 22, none, .bin .neq .none (.t 21) (.c (.int .i64 0))⟩])
       (.cond (.t 22)
        (.seq
         (.region [⟨some 23, none, .mv (.t 7)⟩, ⟨some 4, none, .mv (.c .nilslice)⟩, ⟨some 5, none, .mv (.t 23)⟩])
         .ret)
        .skip))
      (.seq
       (.seq
        (.region [⟨some 24, none, .mv (.t 0)⟩, ⟨some 25, none, .len .slice (.t 24)⟩, ⟨some 26, none, .mv (.t 1)⟩, ⟨some 27, none, .len .slice (.t 26)⟩, ⟨some 28, none, .bin .neq .none (.t 25) (.t 27)⟩])
        (.cond (.t 28)
         (.seq
          (.region [⟨some 4, none, .mv (.c .nilslice)⟩, ⟨some 5, none, .mv (.c (.int .i64 1))⟩])
          .ret)
         .skip))
       (.seq
        (.region [⟨some 8, none, .mv (.c .nilslice)⟩])
        (.seq
         (.seq
          (.region [⟨some 9, none, .mv (.c (.int .i64 0))⟩])
          (.block 0
           (.loop c31_l1)))
         (.seq
          (.region [⟨some 82, none, .mv (.t 8)⟩, ⟨some 4, none, .mv (.t 82)⟩, ⟨some 5, none, .mv (.c (.int .i64 0))⟩])
          .ret)))))))))
theorem code31 : E2.code 31 = some (c31, [.tmp 4, .tmp 5]) := by kernel_rfl
def c51_l0 : CCode :=
 (.seq
  (.seq
   (.region [⟨some 6, none, .mv (.t 5)⟩, ⟨some 7, none, .fAddr 0 (.t 2)⟩, ⟨some 8, none, .load1 (.t 7)⟩, ⟨some 9, none, .len .slice (.t 8)⟩, ⟨some 10, none, .bin .lss .none (.t 6) (.t 9)⟩])
   (.cond (.t 10)
    .skip
    (.exit 0)))
  (.seq
   (.block 1
    (.seq
     (.region [⟨some 13, none, .fAddr 0 (.t 2)⟩, ⟨some 14, none, .load1 (.t 13)⟩, ⟨some 15, none, .mv (.t 5)⟩, ⟨some 16, none, .ixSl 2 (.t 14) (.t 15)⟩, ⟨some 17, none, .fAddr 0 (.t 16)⟩, ⟨some 18, none, .load1 (.t 17)⟩, ⟨some 19, none, .mv (.t 1)⟩, ⟨some 20, none, .bin .eql .none (.t 18) (.t 19)⟩])
     (.cond (.t 20)
      (.seq
       (.region [⟨some 21, none, .fAddr 0 (.t 2)⟩, ⟨some 22, none, .load1 (.t 21)⟩, ⟨some 23, none, .mv (.t 5)⟩, ⟨some 24, none, .ixSl 2 (.t 22) (.t 23)⟩, ⟨some 25, none, .fAddr 1 (.t 24)⟩, ⟨some 26, none, .load1 (.t 25)⟩, ⟨some 4, none, .mv (.t 26)⟩])
       .ret)
      .skip)))
   (.region [⟨some 11, none, .mv (.t 5)⟩, ⟨some 12, none, .bin .add .none (.t 11) (.c (.int .i64 1))⟩, ⟨some 5, none, .mv (.t 12)⟩])))
def c51 : CCode :=
 (.seq
  (.region [⟨some 2, none, .box 55 (.t 0)⟩, ⟨some 4, none, .mv (.c (.int .i64 0))⟩])
  (.seq
   (.seq
    (.region [⟨some 5, none, .mv (.c (.int .i64 0))⟩])
    (.block 0
     (.loop c51_l0)))
   (.seq
    (.region [⟨some 4, none, .mv (.c (.int .i64 (-1)))⟩])
    .ret)))
theorem code51 : E2.code 51 = some (c51, [.tmp 4]) := by kernel_rfl
end
end Go.AX
namespace Go.AX
open Go Go.Proofs
noncomputable section
set_option linter.unusedSimpArgs false
set_option linter.unusedVariables false
attribute [local go_sem] b_seq wp_skip wp_exit wp_ret wp_region b_block wops_nil b_ops b_opsg b_cond condV_lite wo_mv b_bin wo_call callV_func wo_pick b_box wo_load1 wo_loadN wo_store wo_nilCheck wo_not wo_lenStr' wo_lenSl wo_ixStr' wo_ixSl wo_fAddr wo_part1 wo_partN wo_extract wo_cInt wo_cStr wo_mkMap wo_mkIface wo_mkFunc wo_lookup pickV_bool ifT_true ifT_false b_loadV b_loadNV b_storeV nilV_ptr nilV_func nilV_iface notV_bool lenStrV_str lenSlV_nil lenSlV_slice b_ixStrV ixSlV_slice fAddrV_ptr b_part1V partNV_agg b_extractV convV_int strV_str evC_tm evC_cn T.get_set putA_some putA_none onO_some evCs_nil evCs_cons appL_nil appL_cons guardOk_true guardOk_false cellsV_bool cellsV_int cellsV_str cellsV_nilptr cellsV_ptr cellsV_nilslice cellsV_slice cellsV_nilmap cellsV_map cellsV_func cellsV_nilfunc cellsV_iface cellsV_niliface cellsV_agg bin_lss bin_gtr bin_leq bin_geq bin_eql bin_neq bin_add bin_sub bin_eqlS bin_neqS mkFrame_nil mkFrame_cons resA_one resA_two resA_three over_0 over_1 over_2 over_3 over_4 over_5 over0_nil over0_cons Option.getD_some if_true if_false AHeap.next_push AVal.bool.injEq decide_eq_true_eq decide_eq_false_iff_not Bool.not_eq_true' Bool.not_eq_false' Bool.not_eq_true decide_true decide_false Bool.not_true Bool.not_false Int.toNat_natCast Int.natCast_nonneg true_and and_true wo_mapPut wp_drawn' wsts_nil b_pure b_read b_new b_wr wor_none b_org rer_nil rer_load1 rer_loadN wo_append AHeap.next_skip AHeap.next_put' AHeap.mk_push_t AHeap.mk_eta AHeap.mk_skip ldA_skip ldN_skip Nat.add_zero Nat.zero_add b_lite_true b_lite_false eq_self_iff_true not_true_eq_false not_false_eq_true bx_k bx_q bx_x bx_1 undefA_bool putAt_push List.length_cons List.length_nil Nat.le_refl ldA_push_new ldN_push_new List.getElem?_cons_zero List.getElem?_cons_succ List.drop_zero List.drop_succ_cons List.take_succ_cons List.take_zero b_build b_buildSlice evParts_nil evParts_cons b_fillA_nil b_fillA nbeq nble natadd natmul lenL_eq repL_1 repL_2 repL_3 wo_sliceData sdV_nil sdV_slice wo_unsafeStr usV_nil wo_slStr slStrV_str evCo_none evCo_some boundA_none Bool.and_true Bool.true_and wo_minmax2' mm2V_int
def alph : List Nat := [32, 45, 48, 49, 50, 51, 52, 53, 54, 55, 56, 57, 97, 98, 99, 100, 101, 102, 103, 104, 105, 106, 107, 108, 109, 110, 111, 112, 113, 114, 115, 116, 117, 118, 119, 120, 121, 122]
def isL (c : Nat) : Bool := decide (97 ≤ c ∧ c ≤ 122 ∨ 48 ≤ c ∧ c ≤ 57 ∨ c = 32 ∨ c = 45)
theorem alph_at : ∀ i, i < 38 → ∃ c, alph[i]? = some c ∧ isL c = true := by
  intro i hi
  have h : (List.range 38).all (fun i => match alph[i]? with | some c => isL c | none => false) = true := by kernel_rfl
  have := List.all_eq_true.1 h i (List.mem_range.2 hi)
  split at this
  · rename_i c hc; exact ⟨c, hc, this⟩
  · cases this
theorem isL_alph {c : Nat} (h : isL c = true) : ∃ i, i < 38 ∧ alph[i]? = some c := by
  have h1 : (List.range 128).all (fun c => !(isL c) || (List.range 38).any fun i => alph[i]? == some c) = true := by kernel_rfl
  have hc : c < 128 := by unfold isL at h; simp at h; omega
  have := List.all_eq_true.1 h1 c (List.mem_range.2 hc)
  rw [h] at this
  simp only [Bool.not_true, Bool.false_or, List.any_eq_true, List.mem_range, beq_iff_eq] at this
  exact this
theorem isLetter_c (c : Nat) (h : AHeap) : Ec E2 23 [.int .u8 (c : Int)] h fun v h' => v = .bool (isL c) ∧ h' = h := by
  refine Ec.of_wpb (prim2_none (by decide)) code23 ?_
  unfold c23
  rcases (show (c < 32 ∧ isL c = false) ∨ (c = 32 ∧ isL c = true) ∨ ((32 < c ∧ c < 45) ∧ isL c = false) ∨ (c = 45 ∧ isL c = true) ∨ ((45 < c ∧ c < 48) ∧ isL c = false) ∨ ((48 ≤ c ∧ c ≤ 57) ∧ isL c = true) ∨ ((57 < c ∧ c < 97) ∧ isL c = false) ∨ ((97 ≤ c ∧ c ≤ 122) ∧ isL c = true) ∨ (122 < c ∧ isL c = false) by unfold isL; simp; omega) with ⟨g, e⟩ | ⟨g, e⟩ | ⟨g, e⟩ | ⟨g, e⟩ | ⟨g, e⟩ | ⟨g, e⟩ | ⟨g, e⟩ | ⟨g, e⟩ | ⟨g, e⟩ <;> rw [e] <;>
    by_cases h1 : (c : Int) < 97 <;> (try (exfalso; omega)) <;> by_cases h2 : (122 : Int) < c <;> (try (exfalso; omega)) <;> by_cases h3 : (c : Int) < 48 <;> (try (exfalso; omega)) <;> by_cases h4 : (57 : Int) < c <;> (try (exfalso; omega)) <;> by_cases h5 : (c : Int) = 32 <;> (try (exfalso; omega)) <;> by_cases h6 : (c : Int) = 45 <;> (try (exfalso; omega)) <;>
    simp only [go_sem, Nat.reduceEqDiff, Int.reduceLT, Int.reduceLE, Int.reduceEq, Nat.reduceLT, Nat.reduceAdd, Nat.reduceMul, Int.reduceToNat, Nat.reduceLeDiff, reduceCtorEq, h1, h2, h3, h4, h5, h6]
theorem place_c (c : Nat) (h : AHeap) : Ec E2 46 [.int .u8 (c : Int)] h fun v h' => (∃ n : Int, v = .int .i64 n ∧ decide (0 ≤ n) = isL c ∧ (0 ≤ n → alph[n.toNat]? = some c)) ∧ h' = h := by
  refine Ec.of_wpb (prim2_none (by decide)) code46 ?_
  unfold c46
  simp only [go_sem, Nat.reduceEqDiff, Int.reduceLT, Int.reduceLE, Int.reduceEq, Nat.reduceLT, Nat.reduceAdd, Nat.reduceMul, Int.reduceToNat, Nat.reduceLeDiff, reduceCtorEq]
  refine b_loop (fun d fr h' => h' = h ∧ fr.get 0 = some (.int .u8 (c : Int)) ∧ ∃ i : Nat, fr.get 3 = some (.int .i64 (i : Int)) ∧ d + i = 38 ∧ ∀ j, j < i → alph[j]? ≠ some c) 38 ⟨rfl, by rfl, 0, by simp [T.get_set], rfl, by simp⟩ ?_
  rintro d fr h' ⟨rfl, h0, i, h3, hd, hlt⟩
  unfold c46_l0
  simp only [go_sem, Nat.reduceEqDiff, Int.reduceLT, Int.reduceLE, Int.reduceEq, Nat.reduceLT, Nat.reduceAdd, Nat.reduceMul, Int.reduceToNat, Nat.reduceLeDiff, reduceCtorEq, h0, h3]
  refine b_lite (fun hc => ?_) (fun hc => ?_) <;> (try simp only [go_sem, Nat.reduceEqDiff, Int.reduceLT, Int.reduceLE, Int.reduceEq, Nat.reduceLT, Nat.reduceAdd, Nat.reduceMul, Int.reduceToNat, Nat.reduceLeDiff, reduceCtorEq, h0, h3])
  · obtain ⟨b, hb, hb2⟩ := alph_at i (by omega)
    show onO (alph[i]?) _
    rw [hb]
    simp only [go_sem, Nat.reduceEqDiff, Int.reduceLT, Int.reduceLE, Int.reduceEq, Nat.reduceLT, Nat.reduceAdd, Nat.reduceMul, Int.reduceToNat, Nat.reduceLeDiff, reduceCtorEq, h0, h3]
    refine b_lite (fun e => ?_) (fun e => ?_) <;> (try simp only [go_sem, Nat.reduceEqDiff, Int.reduceLT, Int.reduceLE, Int.reduceEq, Nat.reduceLT, Nat.reduceAdd, Nat.reduceMul, Int.reduceToNat, Nat.reduceLeDiff, reduceCtorEq, h0, h3])
    · have e : b = c := by omega
      subst e
      exact ⟨i, rfl, by rw [hb2]; simp, fun _ => by simpa using hb⟩
    · refine ⟨d - 1, by omega, i + 1, ?_, by omega, fun j hj => ?_⟩
      · rw [wrap_i64 (by omega) (by omega)]; rfl
      · by_cases hji : j = i
        · subst hji; rw [hb]; intro e2; cases e2; exact e rfl
        · exact hlt j (by omega)
  · refine ⟨-1, rfl, ?_, fun h => by omega⟩
    have hi : i = 38 := by omega
    cases hc2 : isL c with
    | false => simp
    | true =>
      obtain ⟨j, hj, hj2⟩ := isL_alph hc2
      exact absurd hj2 (hlt j (by omega))
def lettered (s : List Nat) : Bool := s.all isL
theorem lettered_take {s : List Nat} {i : Nat} {b : Nat} (hb : s[i]? = some b) : lettered (s.take (i + 1)) = (lettered (s.take i) && isL b) := by
  unfold lettered
  rw [List.take_add_one, hb, List.all_append]
  simp
theorem lettered_false {s : List Nat} {i : Nat} {b : Nat} (hb : s[i]? = some b) (h : isL b = false) : lettered s = false := by
  unfold lettered
  rw [List.all_eq_false]
  exact ⟨b, List.mem_of_getElem? hb, by simp [h]⟩
theorem letters_c (s : List Nat) (h : AHeap) (hs : s.length ≤ 9223372036854775807) : Ec E2 49 [.str s] h fun v h' => v = .bool (lettered s) ∧ h' = h := by
  refine Ec.of_wpb (prim2_none (by decide)) code49 ?_
  unfold c49
  simp only [go_sem, Nat.reduceEqDiff, Int.reduceLT, Int.reduceLE, Int.reduceEq, Nat.reduceLT, Nat.reduceAdd, Nat.reduceMul, Int.reduceToNat, Nat.reduceLeDiff, reduceCtorEq]
  refine b_loop (fun d fr h' => h' = h ∧ fr.get 0 = some (.str s) ∧ fr.get 5 = some (.int .i64 (s.length : Int)) ∧ ∃ i : Nat, fr.get 6 = some (.int .i64 (i : Int)) ∧ d + i = s.length ∧ lettered (s.take i) = true) s.length ⟨rfl, by simp [T.get_set], by simp [T.get_set], 0, by simp [T.get_set], rfl, rfl⟩ ?_
  rintro d fr h' ⟨rfl, h0, h5, i, h6, hd, hl⟩
  unfold c49_l0
  simp only [go_sem, Nat.reduceEqDiff, Int.reduceLT, Int.reduceLE, Int.reduceEq, Nat.reduceLT, Nat.reduceAdd, Nat.reduceMul, Int.reduceToNat, Nat.reduceLeDiff, reduceCtorEq, h0, h5, h6]
  refine b_lite (fun hc => ?_) (fun hc => ?_) <;> (try simp only [go_sem, Nat.reduceEqDiff, Int.reduceLT, Int.reduceLE, Int.reduceEq, Nat.reduceLT, Nat.reduceAdd, Nat.reduceMul, Int.reduceToNat, Nat.reduceLeDiff, reduceCtorEq, h0, h5, h6])
  · obtain ⟨b, hb⟩ : ∃ b, s[i]? = some b := ⟨_, List.getElem?_eq_getElem (by omega)⟩
    rw [hb]
    simp only [go_sem, Nat.reduceEqDiff, Int.reduceLT, Int.reduceLE, Int.reduceEq, Nat.reduceLT, Nat.reduceAdd, Nat.reduceMul, Int.reduceToNat, Nat.reduceLeDiff, reduceCtorEq, h0, h5, h6]
    refine ⟨by decide, ?_⟩
    refine (isLetter_c b h').mono ?_
    rintro v h1 ⟨rfl, rfl⟩
    simp only [go_sem, Nat.reduceEqDiff, Int.reduceLT, Int.reduceLE, Int.reduceEq, Nat.reduceLT, Nat.reduceAdd, Nat.reduceMul, Int.reduceToNat, Nat.reduceLeDiff, reduceCtorEq, h0, h5, h6]
    refine b_lite (fun e => ?_) (fun e => ?_) <;> (try simp only [go_sem, Nat.reduceEqDiff, Int.reduceLT, Int.reduceLE, Int.reduceEq, Nat.reduceLT, Nat.reduceAdd, Nat.reduceMul, Int.reduceToNat, Nat.reduceLeDiff, reduceCtorEq, h0, h5, h6])
    · rw [lettered_false hb e]
    · refine ⟨d - 1, by omega, i + 1, ?_, by omega, ?_⟩
      · rw [wrap_i64 (by omega) (by omega)]; rfl
      · rw [lettered_take hb, hl]; simpa using e
  · have : i = s.length := by omega
    rw [this, List.take_length] at hl
    rw [hl]
theorem lettered_c (s : List Nat) (h : AHeap) (hs : s.length ≤ 9223372036854775807) : Ec E2 50 [.str s] h fun v h' => v = .bool (lettered s) ∧ h' = h := by
  refine Ec.of_wpb (prim2_none (by decide)) code50 ?_
  unfold c50
  simp only [go_sem, Nat.reduceEqDiff, Int.reduceLT, Int.reduceLE, Int.reduceEq, Nat.reduceLT, Nat.reduceAdd, Nat.reduceMul, Int.reduceToNat, Nat.reduceLeDiff, reduceCtorEq]
  refine b_loop (fun d fr h' => h' = h ∧ fr.get 0 = some (.str s) ∧ ∃ i : Nat, fr.get 3 = some (.int .i64 (i : Int)) ∧ d + i = s.length ∧ lettered (s.take i) = true) s.length ⟨rfl, by simp [T.get_set], 0, by simp [T.get_set], rfl, rfl⟩ ?_
  rintro d fr h' ⟨rfl, h0, i, h3, hd, hl⟩
  unfold c50_l0
  simp only [go_sem, Nat.reduceEqDiff, Int.reduceLT, Int.reduceLE, Int.reduceEq, Nat.reduceLT, Nat.reduceAdd, Nat.reduceMul, Int.reduceToNat, Nat.reduceLeDiff, reduceCtorEq, h0, h3]
  refine b_lite (fun hc => ?_) (fun hc => ?_) <;> (try simp only [go_sem, Nat.reduceEqDiff, Int.reduceLT, Int.reduceLE, Int.reduceEq, Nat.reduceLT, Nat.reduceAdd, Nat.reduceMul, Int.reduceToNat, Nat.reduceLeDiff, reduceCtorEq, h0, h3])
  · obtain ⟨b, hb⟩ : ∃ b, s[i]? = some b := ⟨_, List.getElem?_eq_getElem (by omega)⟩
    rw [hb]
    simp only [go_sem, Nat.reduceEqDiff, Int.reduceLT, Int.reduceLE, Int.reduceEq, Nat.reduceLT, Nat.reduceAdd, Nat.reduceMul, Int.reduceToNat, Nat.reduceLeDiff, reduceCtorEq, h0, h3]
    refine ⟨by decide, ?_⟩
    refine (place_c b h').mono ?_
    rintro v h1 ⟨⟨n, rfl, hn, _⟩, rfl⟩
    simp only [go_sem, Nat.reduceEqDiff, Int.reduceLT, Int.reduceLE, Int.reduceEq, Nat.reduceLT, Nat.reduceAdd, Nat.reduceMul, Int.reduceToNat, Nat.reduceLeDiff, reduceCtorEq, h0, h3]
    refine b_lite (fun e => ?_) (fun e => ?_) <;> (try simp only [go_sem, Nat.reduceEqDiff, Int.reduceLT, Int.reduceLE, Int.reduceEq, Nat.reduceLT, Nat.reduceAdd, Nat.reduceMul, Int.reduceToNat, Nat.reduceLeDiff, reduceCtorEq, h0, h3])
    · have : isL b = false := by rw [← hn]; simp; omega
      rw [lettered_false hb this]
    · refine ⟨d - 1, by omega, i + 1, ?_, by omega, ?_⟩
      · rw [wrap_i64 (by omega) (by omega)]; rfl
      · rw [lettered_take hb, hl, ← hn]; simp; omega
  · have : i = s.length := by omega
    rw [this, List.take_length] at hl
    rw [hl]
end
end Go.AX
namespace Go.AX
open Go Go.Proofs
noncomputable section
set_option linter.unusedSimpArgs false
set_option linter.unusedVariables false
attribute [local go_sem] b_seq wp_skip wp_exit wp_ret wp_region b_block wops_nil b_ops b_opsg b_cond condV_lite wo_mv b_bin wo_call callV_func wo_pick b_box wo_load1 wo_loadN wo_store wo_nilCheck wo_not wo_lenStr' wo_lenSl wo_ixStr' wo_ixSl wo_fAddr wo_part1 wo_partN wo_extract wo_cInt wo_cStr wo_mkMap wo_mkIface wo_mkFunc wo_lookup pickV_bool ifT_true ifT_false b_loadV b_loadNV b_storeV nilV_ptr nilV_func nilV_iface notV_bool lenStrV_str lenSlV_nil lenSlV_slice b_ixStrV ixSlV_slice fAddrV_ptr b_part1V partNV_agg b_extractV convV_int strV_str evC_tm evC_cn T.get_set putA_some putA_none onO_some evCs_nil evCs_cons appL_nil appL_cons guardOk_true guardOk_false cellsV_bool cellsV_int cellsV_str cellsV_nilptr cellsV_ptr cellsV_nilslice cellsV_slice cellsV_nilmap cellsV_map cellsV_func cellsV_nilfunc cellsV_iface cellsV_niliface cellsV_agg bin_lss bin_gtr bin_leq bin_geq bin_eql bin_neq bin_add bin_sub bin_eqlS bin_neqS mkFrame_nil mkFrame_cons resA_one resA_two resA_three over_0 over_1 over_2 over_3 over_4 over_5 over0_nil over0_cons Option.getD_some if_true if_false AHeap.next_push AVal.bool.injEq decide_eq_true_eq decide_eq_false_iff_not Bool.not_eq_true' Bool.not_eq_false' Bool.not_eq_true decide_true decide_false Bool.not_true Bool.not_false Int.toNat_natCast Int.natCast_nonneg true_and and_true wo_mapPut wp_drawn' wsts_nil b_pure b_read b_new b_wr wor_none b_org rer_nil rer_load1 rer_loadN wo_append AHeap.next_skip AHeap.next_put' AHeap.mk_push_t AHeap.mk_eta AHeap.mk_skip ldA_skip ldN_skip Nat.add_zero Nat.zero_add b_lite_true b_lite_false eq_self_iff_true not_true_eq_false not_false_eq_true bx_k bx_q bx_x bx_1 undefA_bool putAt_push List.length_cons List.length_nil Nat.le_refl ldA_push_new ldN_push_new List.getElem?_cons_zero List.getElem?_cons_succ List.drop_zero List.drop_succ_cons List.take_succ_cons List.take_zero b_build b_buildSlice evParts_nil evParts_cons b_fillA_nil b_fillA nbeq nble natadd natmul lenL_eq repL_1 repL_2 repL_3 wo_sliceData sdV_nil sdV_slice wo_unsafeStr usV_nil wo_slStr slStrV_str evCo_none evCo_some boundA_none Bool.and_true Bool.true_and wo_minmax2' mm2V_int
abbrev Alt := List Nat × Int
def altC (a : Alt) : List AVal := [.str a.1, .int .i64 a.2]
def AltsA (h : AHeap) (v : AVal) (alts : List Alt) : Prop := SlA h 2 v (alts.map altC) ∧ ∀ a, a ∈ alts → a.1.length ≤ 9223372036854775807
def CellsA (h : AHeap) (v : AVal) (cells : List (List Alt)) : Prop := ∃ vs : List AVal, SlA h 1 v (vs.map fun x => [x]) ∧ All2 (AltsA h) vs cells
theorem AltsA.mono {h h' : AHeap} (hle : Hle h h') {v : AVal} {alts : List Alt} (H : AltsA h v alts) : AltsA h' v alts := ⟨H.1.mono hle, H.2⟩
theorem CellsA.mono {h h' : AHeap} (hle : Hle h h') {v : AVal} {cells : List (List Alt)} (H : CellsA h v cells) : CellsA h' v cells := by
  obtain ⟨vs, h1, h2, h3⟩ := H
  exact ⟨vs, h1.mono hle, h2, fun i x y hx hy => (h3 i x y hx hy).mono hle⟩
theorem AltsA.len {h : AHeap} {v : AVal} {alts : List Alt} (H : AltsA h v alts) (h' : AHeap) (K : AVal → AHeap → Prop) : lenSlV v h' K = K (.int .i64 (alts.length : Int)) h' := by
  rw [H.1.len]; simp
theorem AltsA.at {h : AHeap} {v : AVal} {alts : List Alt} (H : AltsA h v alts) {j : Nat} {a : Alt} (hx : alts[j]? = some a) :
    ∃ b o, b < h.next ∧ (∀ (k : IntKind) (i : Int) (h' : AHeap) (K : AVal → AHeap → Prop), i = (j : Int) → ixSlV 2 v (.int k i) h' K = K (.ptr b o) h') ∧
      ldA h b o = some (.str a.1) ∧ ldA h b (o + 1) = some (.int .i64 a.2) ∧ ldN h b o 2 = some [.str a.1, .int .i64 a.2] := by
  obtain ⟨b, o, hr, hix⟩ := H.1.ix (j := j) (x := altC a) (by rw [List.getElem?_map, hx]; rfl)
  refine ⟨b, o, hr.1, hix, ?_, ?_, ?_⟩
  · exact hr.ldA (i := 0) rfl
  · exact hr.ldA (i := 1) rfl
  · exact hr.ldN (i := 0) (n := 2) (by simp [altC])
theorem CellsA.len {h : AHeap} {v : AVal} {cells : List (List Alt)} (H : CellsA h v cells) (h' : AHeap) (K : AVal → AHeap → Prop) : lenSlV v h' K = K (.int .i64 (cells.length : Int)) h' := by
  obtain ⟨vs, h1, h2, _⟩ := H
  rw [h1.len]; simp [h2]
theorem CellsA.at {h : AHeap} {v : AVal} {cells : List (List Alt)} (H : CellsA h v cells) {j : Nat} {c : List Alt} (hx : cells[j]? = some c) :
    ∃ b o x, b < h.next ∧ (∀ (k : IntKind) (i : Int) (h' : AHeap) (K : AVal → AHeap → Prop), i = (j : Int) → ixSlV 1 v (.int k i) h' K = K (.ptr b o) h') ∧
      ldA h b o = some x ∧ ldN h b o 1 = some [x] ∧ AltsA h x c ∧ x.flat = true := by
  obtain ⟨vs, h1, h2, h3⟩ := H
  obtain ⟨x, hxv⟩ : ∃ x, vs[j]? = some x := ⟨_, List.getElem?_eq_getElem (by rw [h2]; exact (List.getElem?_eq_some_iff.1 hx).1)⟩
  obtain ⟨b, o, hr, hix⟩ := h1.ix (j := j) (x := [x]) (by rw [List.getElem?_map, hxv]; rfl)
  refine ⟨b, o, x, hr.1, hix, ?_, ?_, h3 j x c hxv hx, ?_⟩
  · exact hr.ldA (i := 0) rfl
  · exact hr.ldN (i := 0) (n := 1) (by simp)
  · obtain ⟨_, _, _, _, _, _, _, hf⟩ := hr
    exact hf x (by simp)
theorem AltsA.flat {h : AHeap} {v : AVal} {alts : List Alt} (H : AltsA h v alts) : v.flat = true := by
  rcases H.1.2 with ⟨_, rfl⟩ | ⟨_, _, _, _, rfl, _⟩ <;> rfl
theorem AltsA.cells {h : AHeap} {v : AVal} {alts : List Alt} (H : AltsA h v alts) : cellsV v = some [v] := cellsV_flat H.flat
theorem lookV_none {q : KeyK} {z m k : AVal} {h : AHeap} {K : AVal → AHeap → Prop} {es : List (AVal × AVal × Nat)} (hm : mapAt h m = some es) (hk : keyOk q k = true) (hf : findA q k es 0 = some none) : lookV q z m k false h K = K z h := by
  unfold lookV
  rw [hm]
  show (keyOk q k = true ∧ onO (findA q k es 0) _) = _
  rw [hf, hk]
  simp [onO, ifT]
theorem lookV_some {q : KeyK} {z m k v : AVal} {i : Nat} {h : AHeap} {K : AVal → AHeap → Prop} {es : List (AVal × AVal × Nat)} (hm : mapAt h m = some es) (hk : keyOk q k = true) (hf : findA q k es 0 = some (some (i, v))) : lookV q z m k false h K = K v h := by
  unfold lookV
  rw [hm]
  show (keyOk q k = true ∧ onO (findA q k es 0) _) = _
  rw [hf, hk]
  simp [onO, ifT]
theorem mapAt_map {h : AHeap} {r : Nat} {es : List (AVal × AVal × Nat)} {c : Nat} (hg : h.get r = some (.map es c)) : mapAt h (.map r) = some es := by
  show onMapO (h.get r) (fun es _ => some es) = _
  rw [hg]; rfl
theorem putV_new {q : KeyK} {r : Nat} {k v : AVal} {h : AHeap} {K : AVal → AHeap → Prop} {es : List (AVal × AVal × Nat)} {c : Nat} (hg : h.get r = some (.map es c)) (hk : keyOk q k = true) (hf : findA q k es 0 = some none) : putV q (.map r) k v h K = K undefA (h.put r (.map (es ++ [(k, v, c)]) (c + 1))) := by
  show putO q r k v h K (h.get r) = _
  rw [hg]
  show (keyOk q k = true ∧ onO (findA q k es 0) _) = _
  rw [hf, hk]
  simp [onO]
def SeenIs (es : List (AVal × AVal × Nat)) (l : List (List Nat)) : Prop := ∀ s, (s ∈ l → ∃ i, findA (.one .s) (.str s) es 0 = some (some (i, .bool true))) ∧ (s ∉ l → findA (.one .s) (.str s) es 0 = some none)
theorem SeenIs.nil : SeenIs [] [] := fun s => ⟨(fun h => by cases h), fun _ => rfl⟩
theorem SeenIs.snoc {es : List (AVal × AVal × Nat)} {l : List (List Nat)} (H : SeenIs es l) (t : List Nat) (c : Nat) (ht : t ∉ l) : SeenIs (es ++ [(.str t, .bool true, c)]) (l ++ [t]) := by
  intro s
  obtain ⟨h1, h2⟩ := H s
  obtain ⟨g1, g2⟩ := findA_snoc (.one .s) (.str s) (.str t, .bool true, c) es 0
  constructor
  · intro hs
    by_cases hl : s ∈ l
    · obtain ⟨i, hi⟩ := h1 hl
      exact ⟨i, g1 _ hi⟩
    · have e : s = t := by simpa [hl] using hs
      subst e
      refine ⟨0 + es.length, (g2 (h2 hl)).trans ?_⟩
      rw [beqA_str]
      simp [ob, ifT]
  · intro hs
    have hl : s ∉ l := fun h => hs (by simp [h])
    have hne : ¬ s = t := fun h => hs (by simp [h])
    rw [g2 (h2 hl), beqA_str]
    simp [ob, ifT, hne]
def altOk (a : Alt) : Prop := a.1.length ≤ 3 ∧ lettered a.1 = true ∧ 0 ≤ a.2 ∧ a.2 ≤ 1000
def goodP (alts : List Alt) : Prop := (∀ a, a ∈ alts → altOk a) ∧ (alts.map Prod.fst).Nodup
def validP (alts : List Alt) : Prop := 1 ≤ alts.length ∧ alts.length ≤ 8 ∧ goodP alts
instance (alts : List Alt) : Decidable (validP alts) := Classical.propDecidable _
theorem goodP.snoc {alts : List Alt} {i : Nat} {a : Alt} (ha : alts[i]? = some a) (h : goodP (alts.take i)) (h1 : altOk a) (h2 : a.1 ∉ (alts.take i).map Prod.fst) : goodP (alts.take (i + 1)) := by
  rw [List.take_add_one, ha]
  refine ⟨fun x hx => ?_, ?_⟩
  · rcases List.mem_append.1 hx with hx | hx
    · exact h.1 x hx
    · simp at hx; subst hx; exact h1
  · rw [List.map_append, List.nodup_append]
    refine ⟨h.2, by simp, fun x hx y hy => ?_⟩
    simp at hy
    subst hy
    rintro rfl
    exact h2 hx
theorem goodP.at {alts : List Alt} (h : goodP alts) {i : Nat} {a : Alt} (ha : alts[i]? = some a) : altOk a ∧ a.1 ∉ (alts.take i).map Prod.fst := by
  refine ⟨h.1 a (List.mem_of_getElem? ha), fun hm => ?_⟩
  obtain ⟨x, hx, he⟩ := List.mem_map.1 hm
  obtain ⟨j, hj⟩ := List.mem_iff_getElem?.1 hx
  rw [List.getElem?_take] at hj
  split at hj
  · rename_i hji
    have h3 := h.2
    have hi := (List.getElem?_eq_some_iff.1 ha)
    have hjj := (List.getElem?_eq_some_iff.1 hj)
    obtain ⟨hi1, hi2⟩ := hi
    obtain ⟨hj1, hj2⟩ := hjj
    have := (List.pairwise_iff_getElem.1 h3) j i (by simpa using hj1) (by simpa using hi1) hji
    simp only [List.getElem_map, hi2, hj2] at this
    exact this he
  · cases hj
end
end Go.AX

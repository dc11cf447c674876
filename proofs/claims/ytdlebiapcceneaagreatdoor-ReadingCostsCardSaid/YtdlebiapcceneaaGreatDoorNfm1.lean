/-
  Contracts of functions of this seat, for every input that each theorem names.
-/
import Derived.Test.YtdlebiapcceneaaGreatDoorNfs1
set_option linter.unusedVariables false
set_option linter.unusedSimpArgs false
set_option linter.unusedSectionVars false
namespace Go.AX
open Go Go.Proofs
set_option maxRecDepth 10000
noncomputable section
def cLCosts : CCode :=
 (.seq
  (.region [⟨some 2, none, .box 36 (.t 0)⟩, ⟨some 4, none, .mv (.c (.bool false))⟩])
  (.seq
   (.region [⟨some 10, none, .loadN 3 (.t 2)⟩, ⟨some 11, none, .mv (.t 1)⟩, ⟨some 12, none, .call (.c (.func 21 [] [])) [(.t 10), (.t 11)]⟩, ⟨some 9, none, .mv (.t 12)⟩, ⟨some 13, none, .extract 0 (.t 9)⟩, ⟨some 14, none, .extract 1 (.t 9)⟩, ⟨some 5, none, .mv (.t 13)⟩, ⟨some 6, none, .mv (.t 14)⟩])
   (.seq
    (.seq
     (.region [⟨some 15, none, .mv (.t 1)⟩, ⟨some 16, none, .len .str (.t 15)⟩, ⟨some 17, none, .bin .geq .none (.t 16) (.c (.int .i64 400))⟩])
     (.cond (.t 17)
      (.seq
       (.region [⟨some 18, none, .call (.c (.func 13 [] [])) []⟩, ⟨some 19, none, .mv (.t 18)⟩, ⟨some 20, some (19, true), .mv (.t 5)⟩, ⟨some 21, some (19, true), .bin .eql .none (.t 20) (.c (.int .i64 0))⟩, ⟨some 22, none, .pick (.t 19) (.t 21) (.c (.bool false))⟩, ⟨some 23, none, .mv (.t 22)⟩, ⟨some 24, some (23, true), .mv (.t 6)⟩, ⟨some 25, some (23, true), .not (.t 24)⟩, ⟨some 26, none, .pick (.t 23) (.t 25) (.c (.bool false))⟩, ⟨some 4, none, .mv (.t 26)⟩])
       .ret)
      .skip))
    (.seq
     (.region [⟨some 28, none, .loadN 3 (.t 2)⟩, ⟨some 29, none, .mv (.t 1)⟩, ⟨some 30, none, .call (.c (.func 22 [] [])) [(.t 28), (.t 29)]⟩, ⟨some 27, none, .mv (.t 30)⟩, ⟨some 31, none, .extract 0 (.t 27)⟩, ⟨some 32, none, .extract 1 (.t 27)⟩, ⟨some 7, none, .mv (.t 31)⟩, ⟨some 8, none, .mv (.t 32)⟩])
     (.seq
      (.region [⟨some 33, none, .call (.c (.func 13 [] [])) []⟩, ⟨some 34, none, .mv (.t 33)⟩, ⟨some 35, some (34, true), .mv (.t 5)⟩, ⟨some 36, some (34, true), .mv (.t 7)⟩, ⟨some 37, some (34, true), .bin .eql .none (.t 35) (.t 36)⟩, ⟨some 38, none, .pick (.t 34) (.t 37) (.c (.bool false))⟩, ⟨some 39, none, .mv (.t 38)⟩, ⟨some 40, some (39, true), .mv (.t 6)⟩, ⟨some 41, some (39, true), .mv (.t 8)⟩, ⟨some 42, some (39, true), .bin .eql .bool (.t 40) (.t 41)⟩, ⟨some 43, none, .pick (.t 39) (.t 42) (.c (.bool false))⟩, ⟨some 4, none, .mv (.t 43)⟩])
      .ret)))))
def cCheck_l0 : CCode :=
 (.seq
  (.region [⟨some 29, none, .bin .lss .none (.t 28) (.t 27)⟩])
  (.seq
   (.cond (.t 29)
    .skip
    (.exit 0))
   (.seq
    (.block 1
     (.seq
      (.region [⟨some 30, none, .mv (.t 28)⟩, ⟨some 31, none, .ixSl 4 (.t 26) (.t 28)⟩, ⟨some 32, none, .loadN 4 (.t 31)⟩, ⟨some 4, none, .box 84 (.c (.agg [(.int .i64 0), (.int .i64 0), (.int .u8 0), (.int .i64 0)]))⟩, ⟨some 3, none, .mv (.t 30)⟩, ⟨none, none, .store 4 (.t 4) (.t 32)⟩])
      (.seq
       (.seq
        (.region [⟨some 33, none, .fAddr 0 (.t 4)⟩, ⟨some 34, none, .load1 (.t 33)⟩, ⟨some 35, none, .bin .lss .none (.t 34) (.c (.int .i64 0))⟩, ⟨some 36, none, .mv (.t 35)⟩, ⟨some 37, some (36, false), .fAddr 0 (.t 4)⟩, ⟨some 38, some (36, false), .load1 (.t 37)⟩, ⟨some 39, some (36, false), .fAddr 1 (.t 4)⟩, ⟨some 40, some (36, false), .load1 (.t 39)⟩, ⟨some 41, some (36, false), .bin .geq .none (.t 38) (.t 40)⟩, ⟨some 42, none, .pick (.t 36) (.c (.bool true)) (.t 41)⟩, ⟨some 43, none, .mv (.t 42)⟩, ⟨some 44, some (43, false), .fAddr 1 (.t 4)⟩, ⟨some 45, some (43, false), .load1 (.t 44)⟩, ⟨some 46, some (43, false), .fAddr 0 (.t 1)⟩, ⟨some 47, some (43, false), .load1 (.t 46)⟩, ⟨some 48, some (43, false), .bin .geq .none (.t 45) (.t 47)⟩, ⟨some 49, none, .pick (.t 43) (.c (.bool true)) (.t 48)⟩, ⟨some 50, none, .mv (.t 49)⟩, ⟨some 51, some (50, false), .fAddr 2 (.t 4)⟩, ⟨some 52, some (50, false), .load1 (.t 51)⟩, ⟨some 53, some (50, false), .call (.c (.func 23 [] [])) [(.t 52)]⟩, ⟨some 54, some (50, false), .not (.t 53)⟩, ⟨some 55, none, .pick (.t 50) (.c (.bool true)) (.t 54)⟩, ⟨some 56, none, .mv (.t 55)⟩, ⟨some 57, some (56, false), .fAddr 3 (.t 4)⟩, ⟨some 58, some (56, false), .load1 (.t 57)⟩, ⟨some 59, some (56, false), .bin .lss .none (.t 58) (.c (.int .i64 0))⟩, ⟨some 60, none, .pick (.t 56) (.c (.bool true)) (.t 59)⟩, ⟨some 61, none, .mv (.t 60)⟩, ⟨some 62, some (61, false), .fAddr 3 (.t 4)⟩, ⟨some 63, some (61, false), .load1 (.t 62)⟩, ⟨some 64, some (61, false), .bin .gtr .none (.t 63) (.c (.int .i64 1000000))⟩, ⟨some 65, none, .pick (.t 61) (.c (.bool true)) (.t 64)⟩])
        (.cond (.t 65)
         (.seq
          (.region [⟨some 2, none, .mv (.c (.int .i64 1))⟩])
          .ret)
         .skip))
       (.seq
        (.drawn 13 [⟨⟨some 66, none, .mv (.t 3)⟩, 0, .pure, []⟩, ⟨⟨some 67, none, .bin .gtr .none (.t 66) (.c (.int .i64 0))⟩, 1, .pure, []⟩, ⟨⟨some 68, none, .mv (.t 67)⟩, 2, .pure, []⟩, ⟨⟨some 69, some (68, true), .fAddr 1 (.t 1)⟩, 3, .pure, []⟩, ⟨⟨some 70, some (68, true), .load1 (.t 69)⟩, 4, .read, []⟩, ⟨⟨some 71, some (68, true), .mv (.t 3)⟩, 5, .pure, []⟩, ⟨⟨some 72, some (68, true), .bin .sub .none (.t 71) (.c (.int .i64 1))⟩, 6, .pure, []⟩, ⟨⟨some 73, some (68, true), .ixSl 4 (.t 70) (.t 72)⟩, 7, .pure, []⟩, ⟨⟨some 74, some (68, true), .loadN 4 (.t 73)⟩, 8, .read, []⟩, ⟨⟨some 75, some (68, true), .loadN 4 (.t 4)⟩, 9, .read, []⟩, ⟨⟨some 76, some (68, true), .call (.c (.func 45 [] [])) [(.t 74), (.t 75)]⟩, 10, .wr, []⟩, ⟨⟨some 77, some (68, true), .bin .geq .none (.t 76) (.c (.int .i64 0))⟩, 11, .pure, []⟩, ⟨⟨some 78, none, .pick (.t 68) (.t 77) (.c (.bool false))⟩, 12, .pure, []⟩])
        (.cond (.t 78)
         (.seq
          (.region [⟨some 2, none, .mv (.c (.int .i64 1))⟩])
          .ret)
         .skip)))))
    (.region [⟨some 79, none, .bin .add .none (.t 28) (.c (.int .i64 1))⟩, ⟨some 28, none, .mv (.t 79)⟩]))))
def cCheck_l1 : CCode :=
 (.seq
  (.region [⟨some 84, none, .bin .lss .none (.t 83) (.t 82)⟩])
  (.seq
   (.cond (.t 84)
    .skip
    (.exit 2))
   (.seq
    (.block 3
     (.seq
      (.region [⟨some 85, none, .mv (.t 83)⟩, ⟨some 86, none, .ixSl 2 (.t 81) (.t 83)⟩, ⟨some 87, none, .loadN 2 (.t 86)⟩, ⟨some 6, none, .box 87 (.c (.agg [(.int .i64 0), (.int .i64 0)]))⟩, ⟨some 5, none, .mv (.t 85)⟩, ⟨none, none, .store 2 (.t 6) (.t 87)⟩])
      (.seq
       (.drawn 36 [⟨⟨some 88, none, .fAddr 0 (.t 6)⟩, 0, .pure, []⟩, ⟨⟨some 89, none, .load1 (.t 88)⟩, 1, .read, []⟩, ⟨⟨some 90, none, .bin .lss .none (.t 89) (.c (.int .i64 0))⟩, 2, .pure, []⟩, ⟨⟨some 91, none, .mv (.t 90)⟩, 3, .pure, []⟩, ⟨⟨some 92, some (91, false), .fAddr 0 (.t 6)⟩, 4, .pure, []⟩, ⟨⟨some 93, some (91, false), .load1 (.t 92)⟩, 5, .read, []⟩, ⟨⟨some 94, some (91, false), .fAddr 0 (.t 1)⟩, 6, .pure, []⟩, ⟨⟨some 95, some (91, false), .load1 (.t 94)⟩, 7, .read, []⟩, ⟨⟨some 96, some (91, false), .bin .geq .none (.t 93) (.t 95)⟩, 8, .pure, []⟩, ⟨⟨some 97, none, .pick (.t 91) (.c (.bool true)) (.t 96)⟩, 9, .pure, []⟩, ⟨⟨some 98, none, .mv (.t 97)⟩, 10, .pure, []⟩, ⟨⟨some 99, some (98, false), .fAddr 1 (.t 6)⟩, 11, .pure, []⟩, ⟨⟨some 100, some (98, false), .load1 (.t 99)⟩, 12, .read, []⟩, ⟨⟨some 101, some (98, false), .bin .lss .none (.t 100) (.c (.int .i64 0))⟩, 13, .pure, []⟩, ⟨⟨some 102, none, .pick (.t 98) (.c (.bool true)) (.t 101)⟩, 14, .pure, []⟩, ⟨⟨some 103, none, .mv (.t 102)⟩, 15, .pure, []⟩, ⟨⟨some 104, some (103, false), .fAddr 1 (.t 6)⟩, 16, .pure, []⟩, ⟨⟨some 105, some (103, false), .load1 (.t 104)⟩, 17, .read, []⟩, ⟨⟨some 106, some (103, false), .bin .gtr .none (.t 105) (.c (.int .i64 1000000))⟩, 18, .pure, []⟩, ⟨⟨some 107, none, .pick (.t 103) (.c (.bool true)) (.t 106)⟩, 19, .pure, []⟩, ⟨⟨some 108, none, .mv (.t 107)⟩, 20, .pure, []⟩, ⟨⟨some 109, some (108, false), .mv (.t 5)⟩, 21, .pure, []⟩, ⟨⟨some 110, some (108, false), .bin .gtr .none (.t 109) (.c (.int .i64 0))⟩, 22, .pure, []⟩, ⟨⟨some 111, some (108, false), .mv (.t 110)⟩, 23, .pure, []⟩, ⟨⟨some 112, some (111, true), .fAddr 2 (.t 1)⟩, 24, .pure, []⟩, ⟨⟨some 113, some (111, true), .load1 (.t 112)⟩, 25, .read, []⟩, ⟨⟨some 114, some (111, true), .mv (.t 5)⟩, 26, .pure, []⟩, ⟨⟨some 115, some (111, true), .bin .sub .none (.t 114) (.c (.int .i64 1))⟩, 27, .pure, []⟩, ⟨⟨some 116, some (111, true), .ixSl 2 (.t 113) (.t 115)⟩, 28, .pure, []⟩, ⟨⟨some 117, some (111, true), .fAddr 0 (.t 116)⟩, 29, .pure, []⟩, ⟨⟨some 118, some (111, true), .load1 (.t 117)⟩, 30, .read, []⟩, ⟨⟨some 119, some (111, true), .fAddr 0 (.t 6)⟩, 31, .pure, []⟩, ⟨⟨some 120, some (111, true), .load1 (.t 119)⟩, 32, .read, []⟩, ⟨⟨some 121, some (111, true), .bin .geq .none (.t 118) (.t 120)⟩, 33, .pure, []⟩, ⟨⟨some 122, some (108, false), .pick (.t 111) (.t 121) (.c (.bool false))⟩, 34, .pure, []⟩, ⟨⟨some 123, none, .pick (.t 108) (.c (.bool true)) (.t 122)⟩, 35, .pure, []⟩])
       (.cond (.t 123)
        (.seq
         (.region [⟨some 2, none, .mv (.c (.int .i64 1))⟩])
         .ret)
        .skip))))
    (.region [⟨some 124, none, .bin .add .none (.t 83) (.c (.int .i64 1))⟩, ⟨some 83, none, .mv (.t 124)⟩]))))
def cCheck : CCode :=
 (.seq
  (.region [⟨some 1, none, .box 36 (.t 0)⟩, ⟨some 2, none, .mv (.c (.int .i64 0))⟩])
  (.seq
   (.seq
    (.region [⟨some 7, none, .fAddr 0 (.t 1)⟩, ⟨some 8, none, .load1 (.t 7)⟩, ⟨some 9, none, .bin .gtr .none (.t 8) (.c (.int .i64 400))⟩, ⟨some 10, none, .mv (.t 9)⟩, ⟨some 11, some (10, false), .fAddr 1 (.t 1)⟩, ⟨some 12, some (10, false), .load1 (.t 11)⟩, ⟨some 13, some (10, false), .len .slice (.t 12)⟩, ⟨some 14, some (10, false), .bin .gtr .none (.t 13) (.c (.int .i64 4000))⟩, ⟨some 15, none, .pick (.t 10) (.c (.bool true)) (.t 14)⟩, ⟨some 16, none, .mv (.t 15)⟩, ⟨some 17, some (16, false), .fAddr 2 (.t 1)⟩, ⟨some 18, some (16, false), .load1 (.t 17)⟩, ⟨some 19, some (16, false), .len .slice (.t 18)⟩, ⟨some 20, some (16, false), .bin .gtr .none (.t 19) (.c (.int .i64 400))⟩, ⟨some 21, none, .pick (.t 16) (.c (.bool true)) (.t 20)⟩])
    (.cond (.t 21)
     (.seq
      (.region [⟨some 2, none, .mv (.c (.int .i64 2))⟩])
      .ret)
     .skip))
   (.seq
    (.seq
     (.region [⟨some 22, none, .fAddr 0 (.t 1)⟩, ⟨some 23, none, .load1 (.t 22)⟩, ⟨some 24, none, .bin .lss .none (.t 23) (.c (.int .i64 1))⟩])
     (.cond (.t 24)
      (.seq
       (.region [⟨some 2, none, .mv (.c (.int .i64 1))⟩])
       .ret)
      .skip))
    (.seq
     (.seq
      (.region [⟨some 25, none, .fAddr 1 (.t 1)⟩, ⟨some 26, none, .load1 (.t 25)⟩, ⟨some 27, none, .len .slice (.t 26)⟩, ⟨some 28, none, .mv (.c (.int .i64 0))⟩])
      (.block 0
       (.loop cCheck_l0)))
     (.seq
      (.seq
       (.region [⟨some 80, none, .fAddr 2 (.t 1)⟩, ⟨some 81, none, .load1 (.t 80)⟩, ⟨some 82, none, .len .slice (.t 81)⟩, ⟨some 83, none, .mv (.c (.int .i64 0))⟩])
       (.block 2
        (.loop cCheck_l1)))
      (.seq
       (.region [⟨some 2, none, .mv (.c (.int .i64 0))⟩])
       .ret))))))
theorem codeCheck : E2.code 19 = some (cCheck, [.tmp 2]) := by kernel_rfl
def cRCheck_l0 : CCode :=
 (.seq
  (.seq
   (.region [⟨some 26, none, .mv (.t 3)⟩, ⟨some 27, none, .fAddr 1 (.t 1)⟩, ⟨some 28, none, .load1 (.t 27)⟩, ⟨some 29, none, .len .slice (.t 28)⟩, ⟨some 30, none, .bin .lss .none (.t 26) (.t 29)⟩])
   (.cond (.t 30)
    .skip
    (.exit 0)))
  (.seq
   (.block 1
    (.seq
     (.region [⟨some 33, none, .fAddr 1 (.t 1)⟩, ⟨some 34, none, .load1 (.t 33)⟩, ⟨some 35, none, .mv (.t 3)⟩, ⟨some 36, none, .ixSl 4 (.t 34) (.t 35)⟩, ⟨some 37, none, .loadN 4 (.t 36)⟩, ⟨some 4, none, .box 84 (.c (.agg [(.int .i64 0), (.int .i64 0), (.int .u8 0), (.int .i64 0)]))⟩, ⟨none, none, .store 4 (.t 4) (.t 37)⟩])
     (.seq
      (.seq
       (.region [⟨some 38, none, .fAddr 0 (.t 4)⟩, ⟨some 39, none, .load1 (.t 38)⟩, ⟨some 40, none, .bin .lss .none (.t 39) (.c (.int .i64 0))⟩, ⟨some 41, none, .mv (.t 40)⟩, ⟨some 42, some (41, false), .fAddr 0 (.t 4)⟩, ⟨some 43, some (41, false), .load1 (.t 42)⟩, ⟨some 44, some (41, false), .fAddr 1 (.t 4)⟩, ⟨some 45, some (41, false), .load1 (.t 44)⟩, ⟨some 46, some (41, false), .bin .geq .none (.t 43) (.t 45)⟩, ⟨some 47, none, .pick (.t 41) (.c (.bool true)) (.t 46)⟩, ⟨some 48, none, .mv (.t 47)⟩, ⟨some 49, some (48, false), .fAddr 1 (.t 4)⟩, ⟨some 50, some (48, false), .load1 (.t 49)⟩, ⟨some 51, some (48, false), .fAddr 0 (.t 1)⟩, ⟨some 52, some (48, false), .load1 (.t 51)⟩, ⟨some 53, some (48, false), .bin .geq .none (.t 50) (.t 52)⟩, ⟨some 54, none, .pick (.t 48) (.c (.bool true)) (.t 53)⟩, ⟨some 55, none, .mv (.t 54)⟩, ⟨some 56, some (55, false), .fAddr 3 (.t 4)⟩, ⟨some 57, some (55, false), .load1 (.t 56)⟩, ⟨some 58, some (55, false), .bin .lss .none (.t 57) (.c (.int .i64 0))⟩, ⟨some 59, none, .pick (.t 55) (.c (.bool true)) (.t 58)⟩, ⟨some 60, none, .mv (.t 59)⟩, ⟨some 61, some (60, false), .fAddr 3 (.t 4)⟩, ⟨some 62, some (60, false), .load1 (.t 61)⟩, ⟨some 63, some (60, false), .bin .gtr .none (.t 62) (.c (.int .i64 1000000))⟩, ⟨some 64, none, .pick (.t 60) (.c (.bool true)) (.t 63)⟩, ⟨some 65, none, .mv (.t 64)⟩, ⟨some 66, some (65, false), .fAddr 2 (.t 4)⟩, ⟨some 67, some (65, false), .load1 (.t 66)⟩, ⟨some 68, some (65, false), .call (.c (.func 46 [] [])) [(.t 67)]⟩, ⟨some 69, some (65, false), .bin .lss .none (.t 68) (.c (.int .i64 0))⟩, ⟨some 70, none, .pick (.t 65) (.c (.bool true)) (.t 69)⟩])
       (.cond (.t 70)
        (.seq
         (.region [⟨some 2, none, .mv (.c (.int .i64 1))⟩])
         .ret)
        .skip))
      (.seq
       (.region [⟨some 71, none, .mv (.t 3)⟩, ⟨some 72, none, .bin .gtr .none (.t 71) (.c (.int .i64 0))⟩])
       (.cond (.t 72)
        (.seq
         (.drawn 9 [⟨⟨some 73, none, .fAddr 1 (.t 1)⟩, 0, .pure, []⟩, ⟨⟨some 74, none, .load1 (.t 73)⟩, 1, .read, []⟩, ⟨⟨some 75, none, .mv (.t 3)⟩, 2, .pure, []⟩, ⟨⟨some 76, none, .bin .sub .none (.t 75) (.c (.int .i64 1))⟩, 3, .pure, []⟩, ⟨⟨some 77, none, .ixSl 4 (.t 74) (.t 76)⟩, 4, .pure, []⟩, ⟨⟨some 78, none, .loadN 4 (.t 77)⟩, 5, .read, []⟩, ⟨⟨some 79, none, .loadN 4 (.t 4)⟩, 6, .read, []⟩, ⟨⟨some 80, none, .call (.c (.func 47 [] [])) [(.t 78), (.t 79)]⟩, 7, .wr, []⟩, ⟨⟨some 5, none, .mv (.t 80)⟩, 8, .pure, []⟩])
         (.seq
          (.region [⟨some 81, none, .mv (.t 5)⟩, ⟨some 82, none, .not (.t 81)⟩])
          (.cond (.t 82)
           (.seq
            (.region [⟨some 2, none, .mv (.c (.int .i64 1))⟩])
            .ret)
           .skip)))
        .skip)))))
   (.region [⟨some 31, none, .mv (.t 3)⟩, ⟨some 32, none, .bin .add .none (.t 31) (.c (.int .i64 1))⟩, ⟨some 3, none, .mv (.t 32)⟩])))
def cRCheck_l1 : CCode :=
 (.seq
  (.seq
   (.region [⟨some 83, none, .mv (.t 6)⟩, ⟨some 84, none, .fAddr 2 (.t 1)⟩, ⟨some 85, none, .load1 (.t 84)⟩, ⟨some 86, none, .len .slice (.t 85)⟩, ⟨some 87, none, .bin .lss .none (.t 83) (.t 86)⟩])
   (.cond (.t 87)
    .skip
    (.exit 2)))
  (.seq
   (.block 3
    (.seq
     (.region [⟨some 90, none, .fAddr 2 (.t 1)⟩, ⟨some 91, none, .load1 (.t 90)⟩, ⟨some 92, none, .mv (.t 6)⟩, ⟨some 93, none, .ixSl 2 (.t 91) (.t 92)⟩, ⟨some 94, none, .loadN 2 (.t 93)⟩, ⟨some 7, none, .box 87 (.c (.agg [(.int .i64 0), (.int .i64 0)]))⟩, ⟨none, none, .store 2 (.t 7) (.t 94)⟩])
     (.seq
      (.drawn 36 [⟨⟨some 95, none, .fAddr 0 (.t 7)⟩, 0, .pure, []⟩, ⟨⟨some 96, none, .load1 (.t 95)⟩, 1, .read, []⟩, ⟨⟨some 97, none, .bin .lss .none (.t 96) (.c (.int .i64 0))⟩, 2, .pure, []⟩, ⟨⟨some 98, none, .mv (.t 97)⟩, 3, .pure, []⟩, ⟨⟨some 99, some (98, false), .fAddr 0 (.t 7)⟩, 4, .pure, []⟩, ⟨⟨some 100, some (98, false), .load1 (.t 99)⟩, 5, .read, []⟩, ⟨⟨some 101, some (98, false), .fAddr 0 (.t 1)⟩, 6, .pure, []⟩, ⟨⟨some 102, some (98, false), .load1 (.t 101)⟩, 7, .read, []⟩, ⟨⟨some 103, some (98, false), .bin .geq .none (.t 100) (.t 102)⟩, 8, .pure, []⟩, ⟨⟨some 104, none, .pick (.t 98) (.c (.bool true)) (.t 103)⟩, 9, .pure, []⟩, ⟨⟨some 105, none, .mv (.t 104)⟩, 10, .pure, []⟩, ⟨⟨some 106, some (105, false), .fAddr 1 (.t 7)⟩, 11, .pure, []⟩, ⟨⟨some 107, some (105, false), .load1 (.t 106)⟩, 12, .read, []⟩, ⟨⟨some 108, some (105, false), .bin .lss .none (.t 107) (.c (.int .i64 0))⟩, 13, .pure, []⟩, ⟨⟨some 109, none, .pick (.t 105) (.c (.bool true)) (.t 108)⟩, 14, .pure, []⟩, ⟨⟨some 110, none, .mv (.t 109)⟩, 15, .pure, []⟩, ⟨⟨some 111, some (110, false), .fAddr 1 (.t 7)⟩, 16, .pure, []⟩, ⟨⟨some 112, some (110, false), .load1 (.t 111)⟩, 17, .read, []⟩, ⟨⟨some 113, some (110, false), .bin .gtr .none (.t 112) (.c (.int .i64 1000000))⟩, 18, .pure, []⟩, ⟨⟨some 114, none, .pick (.t 110) (.c (.bool true)) (.t 113)⟩, 19, .pure, []⟩, ⟨⟨some 115, none, .mv (.t 114)⟩, 20, .pure, []⟩, ⟨⟨some 116, some (115, false), .mv (.t 6)⟩, 21, .pure, []⟩, ⟨⟨some 117, some (115, false), .bin .gtr .none (.t 116) (.c (.int .i64 0))⟩, 22, .pure, []⟩, ⟨⟨some 118, some (115, false), .mv (.t 117)⟩, 23, .pure, []⟩, ⟨⟨some 119, some (118, true), .fAddr 2 (.t 1)⟩, 24, .pure, []⟩, ⟨⟨some 120, some (118, true), .load1 (.t 119)⟩, 25, .read, []⟩, ⟨⟨some 121, some (118, true), .mv (.t 6)⟩, 26, .pure, []⟩, ⟨⟨some 122, some (118, true), .bin .sub .none (.t 121) (.c (.int .i64 1))⟩, 27, .pure, []⟩, ⟨⟨some 123, some (118, true), .ixSl 2 (.t 120) (.t 122)⟩, 28, .pure, []⟩, ⟨⟨some 124, some (118, true), .fAddr 0 (.t 123)⟩, 29, .pure, []⟩, ⟨⟨some 125, some (118, true), .load1 (.t 124)⟩, 30, .read, []⟩, ⟨⟨some 126, some (118, true), .fAddr 0 (.t 7)⟩, 31, .pure, []⟩, ⟨⟨some 127, some (118, true), .load1 (.t 126)⟩, 32, .read, []⟩, ⟨⟨some 128, some (118, true), .bin .geq .none (.t 125) (.t 127)⟩, 33, .pure, []⟩, ⟨⟨some 129, some (115, false), .pick (.t 118) (.t 128) (.c (.bool false))⟩, 34, .pure, []⟩, ⟨⟨some 130, none, .pick (.t 115) (.c (.bool true)) (.t 129)⟩, 35, .pure, []⟩])
      (.cond (.t 130)
       (.seq
        (.region [⟨some 2, none, .mv (.c (.int .i64 1))⟩])
        .ret)
       .skip))))
   (.region [⟨some 88, none, .mv (.t 6)⟩, ⟨some 89, none, .bin .add .none (.t 88) (.c (.int .i64 1))⟩, ⟨some 6, none, .mv (.t 89)⟩])))
def cRCheck : CCode :=
 (.seq
  (.region [⟨some 1, none, .box 36 (.t 0)⟩, ⟨some 2, none, .mv (.c (.int .i64 0))⟩])
  (.seq
   (.seq
    (.region [⟨some 8, none, .fAddr 0 (.t 1)⟩, ⟨some 9, none, .load1 (.t 8)⟩, ⟨some 10, none, .bin .gtr .none (.t 9) (.c (.int .i64 400))⟩, ⟨some 11, none, .mv (.t 10)⟩, ⟨some 12, some (11, false), .fAddr 1 (.t 1)⟩, ⟨some 13, some (11, false), .load1 (.t 12)⟩, ⟨some 14, some (11, false), .len .slice (.t 13)⟩, ⟨some 15, some (11, false), .bin .gtr .none (.t 14) (.c (.int .i64 4000))⟩, ⟨some 16, none, .pick (.t 11) (.c (.bool true)) (.t 15)⟩, ⟨some 17, none, .mv (.t 16)⟩, ⟨some 18, some (17, false), .fAddr 2 (.t 1)⟩, ⟨some 19, some (17, false), .load1 (.t 18)⟩, ⟨some 20, some (17, false), .len .slice (.t 19)⟩, ⟨some 21, some (17, false), .bin .gtr .none (.t 20) (.c (.int .i64 400))⟩, ⟨some 22, none, .pick (.t 17) (.c (.bool true)) (.t 21)⟩])
    (.cond (.t 22)
     (.seq
      (.region [⟨some 2, none, .mv (.c (.int .i64 2))⟩])
      .ret)
     .skip))
   (.seq
    (.seq
     (.region [⟨some 23, none, .fAddr 0 (.t 1)⟩, ⟨some 24, none, .load1 (.t 23)⟩, ⟨some 25, none, .bin .lss .none (.t 24) (.c (.int .i64 1))⟩])
     (.cond (.t 25)
      (.seq
       (.region [⟨some 2, none, .mv (.c (.int .i64 1))⟩])
       .ret)
      .skip))
    (.seq
     (.seq
      (.region [⟨some 3, none, .mv (.c (.int .i64 0))⟩])
      (.block 0
       (.loop cRCheck_l0)))
     (.seq
      (.seq
       (.region [⟨some 6, none, .mv (.c (.int .i64 0))⟩])
       (.block 2
        (.loop cRCheck_l1)))
      (.seq
       (.region [⟨some 2, none, .mv (.c (.int .i64 0))⟩])
       .ret))))))
theorem codeRCheck : E2.code 20 = some (cRCheck, [.tmp 2]) := by kernel_rfl
def cCost_l0 : CCode :=
 (.seq
  (.region [⟨some 48, none, .bin .lss .none (.t 47) (.t 46)⟩])
  (.seq
   (.cond (.t 48)
    .skip
    (.exit 4))
   (.seq
    (.block 5
     (.seq
      (.region [⟨some 49, none, .ixSl 4 (.t 45) (.t 47)⟩, ⟨some 50, none, .loadN 4 (.t 49)⟩, ⟨some 13, none, .box 84 (.c (.agg [(.int .i64 0), (.int .i64 0), (.int .u8 0), (.int .i64 0)]))⟩, ⟨none, none, .store 4 (.t 13) (.t 50)⟩])
      (.seq
       (.seq
        (.drawn 6 [⟨⟨some 51, none, .fAddr 2 (.t 13)⟩, 0, .pure, []⟩, ⟨⟨some 52, none, .load1 (.t 51)⟩, 1, .read, []⟩, ⟨⟨some 53, none, .mv (.t 1)⟩, 2, .pure, []⟩, ⟨⟨some 54, none, .mv (.t 8)⟩, 3, .pure, []⟩, ⟨⟨some 55, none, .ixStr (.t 53) (.t 54)⟩, 4, .pure, []⟩, ⟨⟨some 56, none, .bin .neq .none (.t 52) (.t 55)⟩, 5, .pure, []⟩])
        (.cond (.t 56)
         (.exit 5)
         .skip))
       (.seq
        (.region [⟨some 58, none, .mv (.t 9)⟩, ⟨some 59, none, .fAddr 1 (.t 13)⟩, ⟨some 60, none, .load1 (.t 59)⟩, ⟨some 61, none, .lookup (.one .i) (.int .i64 0) (.t 58) (.t 60) true⟩, ⟨some 57, none, .mv (.t 61)⟩, ⟨some 62, none, .extract 0 (.t 57)⟩, ⟨some 63, none, .extract 1 (.t 57)⟩, ⟨some 14, none, .mv (.t 62)⟩, ⟨some 15, none, .mv (.t 63)⟩])
        (.seq
         (.region [⟨some 64, none, .mv (.t 15)⟩, ⟨some 65, none, .not (.t 64)⟩, ⟨some 66, none, .mv (.t 65)⟩, ⟨some 67, some (66, false), .mv (.t 11)⟩, ⟨some 68, some (66, false), .fAddr 3 (.t 13)⟩, ⟨some 69, some (66, false), .load1 (.t 68)⟩, ⟨some 70, some (66, false), .bin .add .none (.t 67) (.t 69)⟩, ⟨some 71, some (66, false), .mv (.t 14)⟩, ⟨some 72, some (66, false), .bin .lss .none (.t 70) (.t 71)⟩, ⟨some 73, none, .pick (.t 66) (.c (.bool true)) (.t 72)⟩])
         (.cond (.t 73)
          (.region [⟨some 74, none, .mv (.t 9)⟩, ⟨some 75, none, .fAddr 1 (.t 13)⟩, ⟨some 76, none, .load1 (.t 75)⟩, ⟨some 77, none, .mv (.t 11)⟩, ⟨some 78, none, .fAddr 3 (.t 13)⟩, ⟨some 79, none, .load1 (.t 78)⟩, ⟨some 80, none, .bin .add .none (.t 77) (.t 79)⟩, ⟨none, none, .mapPut (.one .i) (.t 74) (.t 76) (.t 80)⟩])
          .skip))))))
    (.region [⟨some 81, none, .bin .add .none (.t 47) (.c (.int .i64 1))⟩, ⟨some 47, none, .mv (.t 81)⟩]))))
def cCost_l1 : CCode :=
 (.seq
  (.region [⟨some 36, none, .next (.t 35)⟩, ⟨some 37, none, .extract 0 (.t 36)⟩])
  (.seq
   (.cond (.t 37)
    .skip
    (.exit 2))
   (.block 3
    (.seq
     (.region [⟨some 38, none, .entry (.t 35)⟩, ⟨some 39, none, .extract 0 (.t 38)⟩, ⟨some 40, none, .extract 1 (.t 38)⟩, ⟨some 10, none, .mv (.t 39)⟩, ⟨some 11, none, .mv (.t 40)⟩])
     (.seq
      (.region [⟨some 41, none, .fAddr 0 (.t 6)⟩, ⟨some 42, none, .load1 (.t 41)⟩, ⟨some 43, none, .mv (.t 10)⟩, ⟨some 44, none, .ixSl 1 (.t 42) (.t 43)⟩, ⟨some 45, none, .load1 (.t 44)⟩, ⟨some 46, none, .len .slice (.t 45)⟩, ⟨some 47, none, .mv (.c (.int .i64 0))⟩])
      (.block 4
       (.loop cCost_l0)))))))
def cCost_l2 : CCode :=
 (.seq
  (.region [⟨some 31, none, .bin .lss .none (.t 30) (.t 29)⟩])
  (.seq
   (.cond (.t 31)
    .skip
    (.exit 0))
   (.seq
    (.block 1
     (.seq
      (.region [⟨some 32, none, .mv (.t 30)⟩, ⟨some 8, none, .mv (.t 32)⟩])
      (.seq
       (.region [⟨some 33, none, .mkMap⟩, ⟨some 9, none, .mv (.t 33)⟩])
       (.seq
        (.seq
         (.region [⟨some 34, none, .mv (.t 7)⟩, ⟨some 35, none, .range (.t 34)⟩])
         (.block 2
          (.loop cCost_l1)))
        (.region [⟨some 82, none, .mv (.t 9)⟩, ⟨some 7, none, .mv (.t 82)⟩])))))
    (.region [⟨some 83, none, .bin .add .none (.t 30) (.c (.int .i64 1))⟩, ⟨some 30, none, .mv (.t 83)⟩]))))
def cCost_l3 : CCode :=
 (.seq
  (.region [⟨some 86, none, .next (.t 85)⟩, ⟨some 87, none, .extract 0 (.t 86)⟩])
  (.seq
   (.cond (.t 87)
    .skip
    (.exit 6))
   (.block 7
    (.seq
     (.region [⟨some 88, none, .entry (.t 85)⟩, ⟨some 89, none, .extract 0 (.t 88)⟩, ⟨some 90, none, .extract 1 (.t 88)⟩, ⟨some 18, none, .mv (.t 89)⟩, ⟨some 19, none, .mv (.t 90)⟩])
     (.seq
      (.region [⟨some 91, none, .fAddr 1 (.t 6)⟩, ⟨some 92, none, .load1 (.t 91)⟩, ⟨some 93, none, .mv (.t 18)⟩, ⟨some 94, none, .ixSl 1 (.t 92) (.t 93)⟩, ⟨some 95, none, .load1 (.t 94)⟩, ⟨some 20, none, .mv (.t 95)⟩])
      (.seq
       (.region [⟨some 96, none, .mv (.t 20)⟩, ⟨some 97, none, .bin .geq .none (.t 96) (.c (.int .i64 0))⟩, ⟨some 98, none, .mv (.t 97)⟩, ⟨some 99, some (98, true), .mv (.t 17)⟩, ⟨some 100, some (98, true), .not (.t 99)⟩, ⟨some 101, some (98, true), .mv (.t 100)⟩, ⟨some 102, some (101, false), .mv (.t 19)⟩, ⟨some 103, some (101, false), .mv (.t 20)⟩, ⟨some 104, some (101, false), .bin .add .none (.t 102) (.t 103)⟩, ⟨some 105, some (101, false), .mv (.t 16)⟩, ⟨some 106, some (101, false), .bin .lss .none (.t 104) (.t 105)⟩, ⟨some 107, some (98, true), .pick (.t 101) (.c (.bool true)) (.t 106)⟩, ⟨some 108, none, .pick (.t 98) (.t 107) (.c (.bool false))⟩])
       (.cond (.t 108)
        (.region [⟨some 109, none, .mv (.t 19)⟩, ⟨some 110, none, .mv (.t 20)⟩, ⟨some 111, none, .bin .add .none (.t 109) (.t 110)⟩, ⟨some 16, none, .mv (.t 111)⟩, ⟨some 17, none, .mv (.c (.bool true))⟩])
        .skip)))))))
def cCost : CCode :=
 (.seq
  (.region [⟨some 2, none, .box 36 (.t 0)⟩, ⟨some 4, none, .mv (.c (.int .i64 0))⟩, ⟨some 5, none, .mv (.c (.bool false))⟩])
  (.seq
   (.seq
    (.region [⟨some 21, none, .loadN 3 (.t 2)⟩, ⟨some 22, none, .call (.c (.func 19 [] [])) [(.t 21)]⟩, ⟨some 23, none, .bin .neq .none (.t 22) (.c (.int .i64 0))⟩])
    (.cond (.t 23)
     (.seq
      (.region [⟨some 4, none, .mv (.c (.int .i64 0))⟩, ⟨some 5, none, .mv (.c (.bool false))⟩])
      .ret)
     .skip))
   (.seq
    (.region [⟨some 24, none, .loadN 3 (.t 2)⟩, ⟨some 25, none, .call (.c (.func 48 [] [])) [(.t 24)]⟩, ⟨some 6, none, .box 93 (.c (.agg [.nilslice, .nilslice]))⟩, ⟨none, none, .store 2 (.t 6) (.t 25)⟩])
    (.seq
     (.region [⟨some 26, none, .mkMap⟩, ⟨none, none, .mapPut (.one .i) (.t 26) (.c (.int .i64 0)) (.c (.int .i64 0))⟩, ⟨some 27, none, .mv (.t 26)⟩, ⟨some 7, none, .mv (.t 27)⟩])
     (.seq
      (.seq
       (.region [⟨some 28, none, .mv (.t 1)⟩, ⟨some 29, none, .len .str (.t 28)⟩, ⟨some 30, none, .mv (.c (.int .i64 0))⟩])
       (.block 0
        (.loop cCost_l2)))
      (.seq
       (.region [⟨some 16, none, .mv (.c (.int .i64 0))⟩, ⟨some 17, none, .mv (.c (.bool false))⟩])
       (.seq
        (.seq
         (.region [⟨some 84, none, .mv (.t 7)⟩, ⟨some 85, none, .range (.t 84)⟩])
         (.block 6
          (.loop cCost_l3)))
        (.seq
         (.region [⟨some 112, none, .mv (.t 16)⟩, ⟨some 113, none, .mv (.t 17)⟩, ⟨some 4, none, .mv (.t 112)⟩, ⟨some 5, none, .mv (.t 113)⟩])
         .ret))))))))
theorem codeCost : E2.code 21 = some (cCost, [.tmp 4, .tmp 5]) := by kernel_rfl
def cRCost_l0 : CCode :=
 (.seq
  (.seq
   (.region [⟨some 33, none, .mv (.t 10)⟩, ⟨some 34, none, .fAddr 1 (.t 2)⟩, ⟨some 35, none, .load1 (.t 34)⟩, ⟨some 36, none, .len .slice (.t 35)⟩, ⟨some 37, none, .bin .lss .none (.t 33) (.t 36)⟩])
   (.cond (.t 37)
    .skip
    (.exit 2)))
  (.seq
   (.block 3
    (.seq
     (.region [⟨some 40, none, .fAddr 1 (.t 2)⟩, ⟨some 41, none, .load1 (.t 40)⟩, ⟨some 42, none, .mv (.t 10)⟩, ⟨some 43, none, .ixSl 4 (.t 41) (.t 42)⟩, ⟨some 44, none, .loadN 4 (.t 43)⟩, ⟨some 11, none, .box 84 (.c (.agg [(.int .i64 0), (.int .i64 0), (.int .u8 0), (.int .i64 0)]))⟩, ⟨none, none, .store 4 (.t 11) (.t 44)⟩])
     (.seq
      (.drawn 38 [⟨⟨some 45, none, .fAddr 2 (.t 11)⟩, 0, .pure, []⟩, ⟨⟨some 46, none, .load1 (.t 45)⟩, 1, .read, []⟩, ⟨⟨some 47, none, .mv (.t 1)⟩, 2, .pure, []⟩, ⟨⟨some 48, none, .mv (.t 8)⟩, 3, .pure, []⟩, ⟨⟨some 49, none, .ixStr (.t 47) (.t 48)⟩, 4, .pure, []⟩, ⟨⟨some 50, none, .bin .eql .none (.t 46) (.t 49)⟩, 5, .pure, []⟩, ⟨⟨some 51, none, .mv (.t 50)⟩, 6, .pure, []⟩, ⟨⟨some 52, some (51, true), .mv (.t 7)⟩, 7, .pure, []⟩, ⟨⟨some 53, some (51, true), .fAddr 0 (.t 11)⟩, 8, .pure, []⟩, ⟨⟨some 54, some (51, true), .load1 (.t 53)⟩, 9, .read, []⟩, ⟨⟨some 55, some (51, true), .ixSl 1 (.t 52) (.t 54)⟩, 10, .pure, []⟩, ⟨⟨some 56, some (51, true), .load1 (.t 55)⟩, 11, .read, []⟩, ⟨⟨some 57, some (51, true), .bin .gtr .none (.t 56) (.c (.int .i64 0))⟩, 12, .pure, []⟩, ⟨⟨some 58, none, .pick (.t 51) (.t 57) (.c (.bool false))⟩, 13, .pure, []⟩, ⟨⟨some 59, none, .mv (.t 58)⟩, 14, .pure, []⟩, ⟨⟨some 60, some (59, true), .mv (.t 9)⟩, 15, .pure, []⟩, ⟨⟨some 61, some (59, true), .fAddr 1 (.t 11)⟩, 16, .pure, []⟩, ⟨⟨some 62, some (59, true), .load1 (.t 61)⟩, 17, .read, []⟩, ⟨⟨some 63, some (59, true), .ixSl 1 (.t 60) (.t 62)⟩, 18, .pure, []⟩, ⟨⟨some 64, some (59, true), .load1 (.t 63)⟩, 19, .read, []⟩, ⟨⟨some 65, some (59, true), .bin .eql .none (.t 64) (.c (.int .i64 0))⟩, 20, .pure, []⟩, ⟨⟨some 66, some (59, true), .mv (.t 65)⟩, 21, .pure, []⟩, ⟨⟨some 67, some (66, false), .mv (.t 7)⟩, 22, .pure, []⟩, ⟨⟨some 68, some (66, false), .fAddr 0 (.t 11)⟩, 23, .pure, []⟩, ⟨⟨some 69, some (66, false), .load1 (.t 68)⟩, 24, .read, []⟩, ⟨⟨some 70, some (66, false), .ixSl 1 (.t 67) (.t 69)⟩, 25, .pure, []⟩, ⟨⟨some 71, some (66, false), .load1 (.t 70)⟩, 26, .read, []⟩, ⟨⟨some 72, some (66, false), .fAddr 3 (.t 11)⟩, 27, .pure, []⟩, ⟨⟨some 73, some (66, false), .load1 (.t 72)⟩, 28, .read, []⟩, ⟨⟨some 74, some (66, false), .bin .add .none (.t 71) (.t 73)⟩, 29, .pure, []⟩, ⟨⟨some 75, some (66, false), .mv (.t 9)⟩, 30, .pure, []⟩, ⟨⟨some 76, some (66, false), .fAddr 1 (.t 11)⟩, 31, .pure, []⟩, ⟨⟨some 77, some (66, false), .load1 (.t 76)⟩, 32, .read, []⟩, ⟨⟨some 78, some (66, false), .ixSl 1 (.t 75) (.t 77)⟩, 33, .pure, []⟩, ⟨⟨some 79, some (66, false), .load1 (.t 78)⟩, 34, .read, []⟩, ⟨⟨some 80, some (66, false), .bin .lss .none (.t 74) (.t 79)⟩, 35, .pure, []⟩, ⟨⟨some 81, some (59, true), .pick (.t 66) (.c (.bool true)) (.t 80)⟩, 36, .pure, []⟩, ⟨⟨some 82, none, .pick (.t 59) (.t 81) (.c (.bool false))⟩, 37, .pure, []⟩])
      (.cond (.t 82)
       (.drawn 13 [⟨⟨some 83, none, .mv (.t 9)⟩, 0, .pure, []⟩, ⟨⟨some 84, none, .fAddr 1 (.t 11)⟩, 1, .pure, []⟩, ⟨⟨some 85, none, .load1 (.t 84)⟩, 2, .read, []⟩, ⟨⟨some 86, none, .mv (.t 7)⟩, 3, .pure, []⟩, ⟨⟨some 87, none, .fAddr 0 (.t 11)⟩, 4, .pure, []⟩, ⟨⟨some 88, none, .load1 (.t 87)⟩, 5, .read, []⟩, ⟨⟨some 89, none, .ixSl 1 (.t 86) (.t 88)⟩, 6, .pure, []⟩, ⟨⟨some 90, none, .load1 (.t 89)⟩, 7, .read, []⟩, ⟨⟨some 91, none, .fAddr 3 (.t 11)⟩, 8, .pure, []⟩, ⟨⟨some 92, none, .load1 (.t 91)⟩, 9, .read, []⟩, ⟨⟨some 93, none, .bin .add .none (.t 90) (.t 92)⟩, 10, .pure, []⟩, ⟨⟨some 94, none, .ixSl 1 (.t 83) (.t 85)⟩, 11, .pure, []⟩, ⟨⟨none, none, .store 1 (.t 94) (.t 93)⟩, 12, .wr, []⟩])
       .skip))))
   (.region [⟨some 38, none, .mv (.t 10)⟩, ⟨some 39, none, .bin .add .none (.t 38) (.c (.int .i64 1))⟩, ⟨some 10, none, .mv (.t 39)⟩])))
def cRCost_l1 : CCode :=
 (.seq
  (.seq
   (.region [⟨some 24, none, .mv (.t 8)⟩, ⟨some 25, none, .mv (.t 1)⟩, ⟨some 26, none, .len .str (.t 25)⟩, ⟨some 27, none, .bin .lss .none (.t 24) (.t 26)⟩])
   (.cond (.t 27)
    .skip
    (.exit 0)))
  (.seq
   (.block 1
    (.seq
     (.region [⟨some 30, none, .fAddr 0 (.t 2)⟩, ⟨some 31, none, .load1 (.t 30)⟩, ⟨some 32, none, .mkSlice 3 [(.int .i64 0)] 8 (.t 31) (.t 31)⟩, ⟨some 9, none, .mv (.t 32)⟩])
     (.seq
      (.seq
       (.region [⟨some 10, none, .mv (.c (.int .i64 0))⟩])
       (.block 2
        (.loop cRCost_l0)))
      (.region [⟨some 95, none, .mv (.t 9)⟩, ⟨some 7, none, .mv (.t 95)⟩]))))
   (.region [⟨some 28, none, .mv (.t 8)⟩, ⟨some 29, none, .bin .add .none (.t 28) (.c (.int .i64 1))⟩, ⟨some 8, none, .mv (.t 29)⟩])))
def cRCost_l2 : CCode :=
 (.seq
  (.seq
   (.region [⟨some 96, none, .mv (.t 13)⟩, ⟨some 97, none, .fAddr 2 (.t 2)⟩, ⟨some 98, none, .load1 (.t 97)⟩, ⟨some 99, none, .len .slice (.t 98)⟩, ⟨some 100, none, .bin .lss .none (.t 96) (.t 99)⟩])
   (.cond (.t 100)
    .skip
    (.exit 4)))
  (.seq
   (.block 5
    (.seq
     (.region [⟨some 103, none, .mv (.t 7)⟩, ⟨some 104, none, .fAddr 2 (.t 2)⟩, ⟨some 105, none, .load1 (.t 104)⟩, ⟨some 106, none, .mv (.t 13)⟩, ⟨some 107, none, .ixSl 2 (.t 105) (.t 106)⟩, ⟨some 108, none, .fAddr 0 (.t 107)⟩, ⟨some 109, none, .load1 (.t 108)⟩, ⟨some 110, none, .ixSl 1 (.t 103) (.t 109)⟩, ⟨some 111, none, .load1 (.t 110)⟩, ⟨some 14, none, .mv (.t 111)⟩])
     (.seq
      (.region [⟨some 112, none, .mv (.t 14)⟩, ⟨some 113, none, .bin .gtr .none (.t 112) (.c (.int .i64 0))⟩, ⟨some 114, none, .mv (.t 113)⟩, ⟨some 115, some (114, true), .mv (.t 12)⟩, ⟨some 116, some (114, true), .bin .eql .none (.t 115) (.c (.int .i64 0))⟩, ⟨some 117, some (114, true), .mv (.t 116)⟩, ⟨some 118, some (117, false), .mv (.t 14)⟩, ⟨some 119, some (117, false), .fAddr 2 (.t 2)⟩, ⟨some 120, some (117, false), .load1 (.t 119)⟩, ⟨some 121, some (117, false), .mv (.t 13)⟩, ⟨some 122, some (117, false), .ixSl 2 (.t 120) (.t 121)⟩, ⟨some 123, some (117, false), .fAddr 1 (.t 122)⟩, ⟨some 124, some (117, false), .load1 (.t 123)⟩, ⟨some 125, some (117, false), .bin .add .none (.t 118) (.t 124)⟩, ⟨some 126, some (117, false), .mv (.t 12)⟩, ⟨some 127, some (117, false), .bin .lss .none (.t 125) (.t 126)⟩, ⟨some 128, some (114, true), .pick (.t 117) (.c (.bool true)) (.t 127)⟩, ⟨some 129, none, .pick (.t 114) (.t 128) (.c (.bool false))⟩])
      (.cond (.t 129)
       (.region [⟨some 130, none, .mv (.t 14)⟩, ⟨some 131, none, .fAddr 2 (.t 2)⟩, ⟨some 132, none, .load1 (.t 131)⟩, ⟨some 133, none, .mv (.t 13)⟩, ⟨some 134, none, .ixSl 2 (.t 132) (.t 133)⟩, ⟨some 135, none, .fAddr 1 (.t 134)⟩, ⟨some 136, none, .load1 (.t 135)⟩, ⟨some 137, none, .bin .add .none (.t 130) (.t 136)⟩, ⟨some 12, none, .mv (.t 137)⟩])
       .skip))))
   (.region [⟨some 101, none, .mv (.t 13)⟩, ⟨some 102, none, .bin .add .none (.t 101) (.c (.int .i64 1))⟩, ⟨some 13, none, .mv (.t 102)⟩])))
def cRCost : CCode :=
 (.seq
  (.region [⟨some 2, none, .box 36 (.t 0)⟩, ⟨some 4, none, .mv (.c (.int .i64 0))⟩, ⟨some 5, none, .mv (.c (.bool false))⟩])
  (.seq
   (.region [⟨some 15, none, .loadN 3 (.t 2)⟩, ⟨some 16, none, .call (.c (.func 20 [] [])) [(.t 15)]⟩, ⟨some 6, none, .mv (.t 16)⟩])
   (.seq
    (.seq
     (.region [⟨some 17, none, .mv (.t 6)⟩, ⟨some 18, none, .bin .neq .none (.t 17) (.c (.int .i64 0))⟩])
     (.cond (.t 18)
      (.seq
       (.region [⟨some 4, none, .mv (.c (.int .i64 0))⟩, ⟨some 5, none, .mv (.c (.bool false))⟩])
       .ret)
      .skip))
    (.seq
     (.region [⟨some 19, none, .fAddr 0 (.t 2)⟩, ⟨some 20, none, .load1 (.t 19)⟩, ⟨some 21, none, .mkSlice 3 [(.int .i64 0)] 8 (.t 20) (.t 20)⟩, ⟨some 7, none, .mv (.t 21)⟩])
     (.seq
      (.region [⟨some 22, none, .mv (.t 7)⟩, ⟨some 23, none, .ixSl 1 (.t 22) (.c (.int .i64 0))⟩, ⟨none, none, .store 1 (.t 23) (.c (.int .i64 1))⟩])
      (.seq
       (.seq
        (.region [⟨some 8, none, .mv (.c (.int .i64 0))⟩])
        (.block 0
         (.loop cRCost_l1)))
       (.seq
        (.region [⟨some 12, none, .mv (.c (.int .i64 0))⟩])
        (.seq
         (.seq
          (.region [⟨some 13, none, .mv (.c (.int .i64 0))⟩])
          (.block 4
           (.loop cRCost_l2)))
         (.seq
          (.region [⟨some 138, none, .mv (.t 12)⟩, ⟨some 139, none, .bin .sub .none (.t 138) (.c (.int .i64 1))⟩, ⟨some 140, none, .minmax true [(.t 139), (.c (.int .i64 0))]⟩, ⟨some 141, none, .mv (.t 12)⟩, ⟨some 142, none, .bin .gtr .none (.t 141) (.c (.int .i64 0))⟩, ⟨some 4, none, .mv (.t 140)⟩, ⟨some 5, none, .mv (.t 142)⟩])
          .ret)))))))))
theorem codeRCost : E2.code 22 = some (cRCost, [.tmp 4, .tmp 5]) := by kernel_rfl
def ccmpArcs : CCode :=
 (.seq
  (.region [⟨some 2, none, .box 84 (.t 0)⟩, ⟨some 3, none, .box 84 (.t 1)⟩, ⟨some 4, none, .mv (.c (.int .i64 0))⟩])
  (.seq
   (.drawn 18 [⟨⟨some 5, none, .fAddr 0 (.t 2)⟩, 0, .pure, []⟩, ⟨⟨some 6, none, .load1 (.t 5)⟩, 1, .read, []⟩, ⟨⟨some 7, none, .fAddr 0 (.t 3)⟩, 2, .pure, []⟩, ⟨⟨some 8, none, .load1 (.t 7)⟩, 3, .read, []⟩, ⟨⟨some 10, none, .fAddr 1 (.t 2)⟩, 5, .pure, []⟩, ⟨⟨some 11, none, .load1 (.t 10)⟩, 6, .read, []⟩, ⟨⟨some 12, none, .fAddr 1 (.t 3)⟩, 7, .pure, []⟩, ⟨⟨some 13, none, .load1 (.t 12)⟩, 8, .read, []⟩, ⟨⟨some 15, none, .fAddr 2 (.t 2)⟩, 10, .pure, []⟩, ⟨⟨some 16, none, .load1 (.t 15)⟩, 11, .read, []⟩, ⟨⟨some 17, none, .fAddr 2 (.t 3)⟩, 12, .pure, []⟩, ⟨⟨some 18, none, .load1 (.t 17)⟩, 13, .read, []⟩, ⟨⟨some 9, none, .call (.c (.func 61 [] [])) [(.t 6), (.t 8)]⟩, 4, .wr, [⟨some 18, none, .load1 (.t 17)⟩, ⟨some 16, none, .load1 (.t 15)⟩, ⟨some 13, none, .load1 (.t 12)⟩, ⟨some 11, none, .load1 (.t 10)⟩]⟩, ⟨⟨some 14, none, .call (.c (.func 61 [] [])) [(.t 11), (.t 13)]⟩, 9, .wr, [⟨some 18, none, .load1 (.t 17)⟩, ⟨some 16, none, .load1 (.t 15)⟩]⟩, ⟨⟨some 19, none, .call (.c (.func 62 [] [])) [(.t 16), (.t 18)]⟩, 14, .wr, []⟩, ⟨⟨some 20, none, .buildSlice 3 3 [(.int .i64 0)] [(0, 1, (.t 9)), (1, 1, (.t 14)), (2, 1, (.t 19))]⟩, 15, .new, []⟩, ⟨⟨some 21, none, .call (.c (.func 60 [] [])) [(.t 20)]⟩, 16, .wr, []⟩, ⟨⟨some 4, none, .mv (.t 21)⟩, 17, .pure, []⟩])
   .ret))
theorem codecmpArcs : E2.code 45 = some (ccmpArcs, [.tmp 4]) := by kernel_rfl
def cbefore : CCode :=
 (.seq
  (.region [⟨some 2, none, .box 84 (.t 0)⟩, ⟨some 3, none, .box 84 (.t 1)⟩, ⟨some 4, none, .mv (.c (.bool false))⟩])
  (.seq
   (.seq
    (.region [⟨some 5, none, .fAddr 0 (.t 2)⟩, ⟨some 6, none, .load1 (.t 5)⟩, ⟨some 7, none, .fAddr 0 (.t 3)⟩, ⟨some 8, none, .load1 (.t 7)⟩, ⟨some 9, none, .bin .neq .none (.t 6) (.t 8)⟩])
    (.cond (.t 9)
     (.seq
      (.region [⟨some 10, none, .fAddr 0 (.t 2)⟩, ⟨some 11, none, .load1 (.t 10)⟩, ⟨some 12, none, .fAddr 0 (.t 3)⟩, ⟨some 13, none, .load1 (.t 12)⟩, ⟨some 14, none, .bin .lss .none (.t 11) (.t 13)⟩, ⟨some 4, none, .mv (.t 14)⟩])
      .ret)
     .skip))
   (.seq
    (.seq
     (.region [⟨some 15, none, .fAddr 1 (.t 2)⟩, ⟨some 16, none, .load1 (.t 15)⟩, ⟨some 17, none, .fAddr 1 (.t 3)⟩, ⟨some 18, none, .load1 (.t 17)⟩, ⟨some 19, none, .bin .neq .none (.t 16) (.t 18)⟩])
     (.cond (.t 19)
      (.seq
       (.region [⟨some 20, none, .fAddr 1 (.t 2)⟩, ⟨some 21, none, .load1 (.t 20)⟩, ⟨some 22, none, .fAddr 1 (.t 3)⟩, ⟨some 23, none, .load1 (.t 22)⟩, ⟨some 24, none, .bin .lss .none (.t 21) (.t 23)⟩, ⟨some 4, none, .mv (.t 24)⟩])
       .ret)
      .skip))
    (.seq
     (.region [⟨some 25, none, .fAddr 2 (.t 2)⟩, ⟨some 26, none, .load1 (.t 25)⟩, ⟨some 27, none, .fAddr 2 (.t 3)⟩, ⟨some 28, none, .load1 (.t 27)⟩, ⟨some 29, none, .bin .lss .none (.t 26) (.t 28)⟩, ⟨some 4, none, .mv (.t 29)⟩])
     .ret))))
theorem codebefore : E2.code 47 = some (cbefore, [.tmp 4]) := by kernel_rfl
def copen_l0 : CCode :=
 (.seq
  (.region [⟨some 20, none, .bin .lss .none (.t 19) (.t 18)⟩])
  (.seq
   (.cond (.t 20)
    .skip
    (.exit 0))
   (.seq
    (.block 1
     (.seq
      (.region [⟨some 21, none, .mv (.t 19)⟩, ⟨some 4, none, .mv (.t 21)⟩])
      (.region [⟨some 22, none, .fAddr 1 (.t 3)⟩, ⟨some 23, none, .load1 (.t 22)⟩, ⟨some 24, none, .mv (.t 4)⟩, ⟨some 25, none, .ixSl 1 (.t 23) (.t 24)⟩, ⟨none, none, .store 1 (.t 25) (.c (.int .i64 (-1)))⟩])))
    (.region [⟨some 26, none, .bin .add .none (.t 19) (.c (.int .i64 1))⟩, ⟨some 19, none, .mv (.t 26)⟩]))))
def copen_l1 : CCode :=
 (.seq
  (.region [⟨some 31, none, .bin .lss .none (.t 30) (.t 29)⟩])
  (.seq
   (.cond (.t 31)
    .skip
    (.exit 2))
   (.seq
    (.block 3
     (.seq
      (.region [⟨some 32, none, .ixSl 4 (.t 28) (.t 30)⟩, ⟨some 33, none, .loadN 4 (.t 32)⟩, ⟨some 6, none, .box 84 (.c (.agg [(.int .i64 0), (.int .i64 0), (.int .u8 0), (.int .i64 0)]))⟩, ⟨none, none, .store 4 (.t 6) (.t 33)⟩])
      (.drawn 15 [⟨⟨some 34, none, .fAddr 0 (.t 3)⟩, 0, .pure, []⟩, ⟨⟨some 35, none, .load1 (.t 34)⟩, 1, .read, []⟩, ⟨⟨some 36, none, .fAddr 0 (.t 6)⟩, 2, .pure, []⟩, ⟨⟨some 37, none, .load1 (.t 36)⟩, 3, .read, []⟩, ⟨⟨some 38, none, .fAddr 0 (.t 3)⟩, 4, .pure, []⟩, ⟨⟨some 39, none, .load1 (.t 38)⟩, 5, .read, []⟩, ⟨⟨some 40, none, .fAddr 0 (.t 6)⟩, 6, .pure, []⟩, ⟨⟨some 41, none, .load1 (.t 40)⟩, 7, .read, []⟩, ⟨⟨some 42, none, .ixSl 1 (.t 39) (.t 41)⟩, 8, .pure, []⟩, ⟨⟨some 43, none, .load1 (.t 42)⟩, 9, .read, []⟩, ⟨⟨some 44, none, .loadN 4 (.t 6)⟩, 10, .read, []⟩, ⟨⟨some 45, none, .buildSlice 84 1 [(.int .i64 0), (.int .i64 0), (.int .u8 0), (.int .i64 0)] [(0, 4, (.t 44))]⟩, 11, .new, []⟩, ⟨⟨some 46, none, .append 84 4 (.t 43) (.t 45)⟩, 12, .wr, [⟨some 37, none, .load1 (.t 36)⟩, ⟨some 35, none, .load1 (.t 34)⟩]⟩, ⟨⟨some 47, none, .ixSl 1 (.t 35) (.t 37)⟩, 13, .pure, []⟩, ⟨⟨none, none, .store 1 (.t 47) (.t 46)⟩, 14, .wr, []⟩])))
    (.region [⟨some 48, none, .bin .add .none (.t 30) (.c (.int .i64 1))⟩, ⟨some 30, none, .mv (.t 48)⟩]))))
def copen_l2 : CCode :=
 (.seq
  (.region [⟨some 53, none, .bin .lss .none (.t 52) (.t 51)⟩])
  (.seq
   (.cond (.t 53)
    .skip
    (.exit 4))
   (.seq
    (.block 5
     (.seq
      (.region [⟨some 54, none, .ixSl 2 (.t 50) (.t 52)⟩, ⟨some 55, none, .loadN 2 (.t 54)⟩, ⟨some 8, none, .box 87 (.c (.agg [(.int .i64 0), (.int .i64 0)]))⟩, ⟨none, none, .store 2 (.t 8) (.t 55)⟩])
      (.region [⟨some 56, none, .fAddr 1 (.t 3)⟩, ⟨some 57, none, .load1 (.t 56)⟩, ⟨some 58, none, .fAddr 0 (.t 8)⟩, ⟨some 59, none, .load1 (.t 58)⟩, ⟨some 60, none, .fAddr 1 (.t 8)⟩, ⟨some 61, none, .load1 (.t 60)⟩, ⟨some 62, none, .ixSl 1 (.t 57) (.t 59)⟩, ⟨none, none, .store 1 (.t 62) (.t 61)⟩])))
    (.region [⟨some 63, none, .bin .add .none (.t 52) (.c (.int .i64 1))⟩, ⟨some 52, none, .mv (.t 63)⟩]))))
def copen : CCode :=
 (.seq
  (.region [⟨some 1, none, .box 36 (.t 0)⟩, ⟨some 2, none, .box 93 (.c (.agg [.nilslice, .nilslice]))⟩])
  (.seq
   (.drawn 9 [⟨⟨some 9, none, .fAddr 0 (.t 1)⟩, 0, .pure, []⟩, ⟨⟨some 10, none, .load1 (.t 9)⟩, 1, .read, []⟩, ⟨⟨some 12, none, .fAddr 0 (.t 1)⟩, 3, .pure, []⟩, ⟨⟨some 13, none, .load1 (.t 12)⟩, 4, .read, []⟩, ⟨⟨some 11, none, .mkSlice 33 [.nilslice] 24 (.t 10) (.t 10)⟩, 2, .new, []⟩, ⟨⟨some 14, none, .mkSlice 3 [(.int .i64 0)] 8 (.t 13) (.t 13)⟩, 5, .new, []⟩, ⟨⟨some 15, none, .build [.nilslice, .nilslice] [(0, 1, (.t 11)), (1, 1, (.t 14))]⟩, 6, .pure, []⟩, ⟨⟨some 3, none, .box 93 (.c (.agg [.nilslice, .nilslice]))⟩, 7, .new, []⟩, ⟨⟨none, none, .store 2 (.t 3) (.t 15)⟩, 8, .wr, []⟩])
   (.seq
    (.seq
     (.region [⟨some 16, none, .fAddr 1 (.t 3)⟩, ⟨some 17, none, .load1 (.t 16)⟩, ⟨some 18, none, .len .slice (.t 17)⟩, ⟨some 19, none, .mv (.c (.int .i64 0))⟩])
     (.block 0
      (.loop copen_l0)))
    (.seq
     (.seq
      (.region [⟨some 27, none, .fAddr 1 (.t 1)⟩, ⟨some 28, none, .load1 (.t 27)⟩, ⟨some 29, none, .len .slice (.t 28)⟩, ⟨some 30, none, .mv (.c (.int .i64 0))⟩])
      (.block 2
       (.loop copen_l1)))
     (.seq
      (.seq
       (.region [⟨some 49, none, .fAddr 2 (.t 1)⟩, ⟨some 50, none, .load1 (.t 49)⟩, ⟨some 51, none, .len .slice (.t 50)⟩, ⟨some 52, none, .mv (.c (.int .i64 0))⟩])
       (.block 4
        (.loop copen_l2)))
      (.seq
       (.region [⟨some 64, none, .loadN 2 (.t 3)⟩, ⟨none, none, .store 2 (.t 2) (.t 64)⟩])
       .ret))))))
theorem codeopen : E2.code 48 = some (copen, [.cell 2 93]) := by kernel_rfl
def ccmpOr_l0 : CCode :=
 (.seq
  (.region [⟨some 9, none, .bin .lss .none (.t 8) (.t 7)⟩])
  (.seq
   (.cond (.t 9)
    .skip
    (.exit 0))
   (.seq
    (.block 1
     (.seq
      (.region [⟨some 10, none, .ixSl 1 (.t 6) (.t 8)⟩, ⟨some 11, none, .load1 (.t 10)⟩, ⟨some 5, none, .mv (.t 11)⟩])
      (.seq
       (.region [⟨some 12, none, .mv (.t 5)⟩, ⟨some 13, none, .mv (.t 3)⟩, ⟨some 14, none, .bin .neq .none (.t 12) (.t 13)⟩])
       (.cond (.t 14)
        (.seq
         (.region [⟨some 15, none, .mv (.t 5)⟩, ⟨some 2, none, .mv (.t 15)⟩])
         .ret)
        .skip))))
    (.region [⟨some 16, none, .bin .add .none (.t 8) (.c (.int .i64 1))⟩, ⟨some 8, none, .mv (.t 16)⟩]))))
def ccmpOr : CCode :=
 (.seq
  (.region [⟨some 2, none, .mv (.c (.int .i64 0))⟩])
  (.seq
   (.region [⟨some 3, none, .mv (.c (.int .i64 0))⟩])
   (.seq
    (.seq
     (.region [⟨some 6, none, .mv (.t 0)⟩, ⟨some 7, none, .len .slice (.t 6)⟩, ⟨some 8, none, .mv (.c (.int .i64 0))⟩])
     (.block 0
      (.loop ccmpOr_l0)))
    (.seq
     (.region [⟨some 17, none, .mv (.t 3)⟩, ⟨some 2, none, .mv (.t 17)⟩])
     .ret))))
theorem codecmpOr : E2.code 60 = some (ccmpOr, [.tmp 2]) := by kernel_rfl
def ccmpI : CCode :=
 (.seq
  (.region [⟨some 4, none, .mv (.c (.int .i64 0))⟩])
  (.seq
   (.region [⟨some 7, none, .mv (.t 0)⟩, ⟨some 8, none, .call (.c (.func 75 [] [])) [(.t 7)]⟩, ⟨some 5, none, .mv (.t 8)⟩])
   (.seq
    (.region [⟨some 9, none, .mv (.t 1)⟩, ⟨some 10, none, .call (.c (.func 75 [] [])) [(.t 9)]⟩, ⟨some 6, none, .mv (.t 10)⟩])
    (.seq
     (.seq
      (.region [⟨some 11, none, .mv (.t 5)⟩])
      (.cond (.t 11)
       (.seq
        (.seq
         (.region [⟨some 12, none, .mv (.t 6)⟩])
         (.cond (.t 12)
          (.seq
           (.region [⟨some 4, none, .mv (.c (.int .i64 0))⟩])
           .ret)
          .skip))
        (.seq
         (.region [⟨some 4, none, .mv (.c (.int .i64 (-1)))⟩])
         .ret))
       .skip))
     (.seq
      (.seq
       (.region [⟨some 13, none, .mv (.t 6)⟩])
       (.cond (.t 13)
        (.seq
         (.region [⟨some 4, none, .mv (.c (.int .i64 1))⟩])
         .ret)
        .skip))
      (.seq
       (.seq
        (.region [⟨some 14, none, .mv (.t 0)⟩, ⟨some 15, none, .mv (.t 1)⟩, ⟨some 16, none, .bin .lss .none (.t 14) (.t 15)⟩])
        (.cond (.t 16)
         (.seq
          (.region [⟨some 4, none, .mv (.c (.int .i64 (-1)))⟩])
          .ret)
         .skip))
       (.seq
        (.seq
         (.region [⟨some 17, none, .mv (.t 0)⟩, ⟨some 18, none, .mv (.t 1)⟩, ⟨some 19, none, .bin .gtr .none (.t 17) (.t 18)⟩])
         (.cond (.t 19)
          (.seq
           (.region [⟨some 4, none, .mv (.c (.int .i64 1))⟩])
           .ret)
          .skip))
        (.seq
         (.region [⟨some 4, none, .mv (.c (.int .i64 0))⟩])
         .ret))))))))
theorem codecmpI : E2.code 61 = some (ccmpI, [.tmp 4]) := by kernel_rfl
def ccmpB : CCode :=
 (.seq
  (.region [⟨some 4, none, .mv (.c (.int .i64 0))⟩])
  (.seq
   (.region [⟨some 7, none, .mv (.t 0)⟩, ⟨some 8, none, .call (.c (.func 76 [] [])) [(.t 7)]⟩, ⟨some 5, none, .mv (.t 8)⟩])
   (.seq
    (.region [⟨some 9, none, .mv (.t 1)⟩, ⟨some 10, none, .call (.c (.func 76 [] [])) [(.t 9)]⟩, ⟨some 6, none, .mv (.t 10)⟩])
    (.seq
     (.seq
      (.region [⟨some 11, none, .mv (.t 5)⟩])
      (.cond (.t 11)
       (.seq
        (.seq
         (.region [⟨some 12, none, .mv (.t 6)⟩])
         (.cond (.t 12)
          (.seq
           (.region [⟨some 4, none, .mv (.c (.int .i64 0))⟩])
           .ret)
          .skip))
        (.seq
         (.region [⟨some 4, none, .mv (.c (.int .i64 (-1)))⟩])
         .ret))
       .skip))
     (.seq
      (.seq
       (.region [⟨some 13, none, .mv (.t 6)⟩])
       (.cond (.t 13)
        (.seq
         (.region [⟨some 4, none, .mv (.c (.int .i64 1))⟩])
         .ret)
        .skip))
      (.seq
       (.seq
        (.region [⟨some 14, none, .mv (.t 0)⟩, ⟨some 15, none, .mv (.t 1)⟩, ⟨some 16, none, .bin .lss .none (.t 14) (.t 15)⟩])
        (.cond (.t 16)
         (.seq
          (.region [⟨some 4, none, .mv (.c (.int .i64 (-1)))⟩])
          .ret)
         .skip))
       (.seq
        (.seq
         (.region [⟨some 17, none, .mv (.t 0)⟩, ⟨some 18, none, .mv (.t 1)⟩, ⟨some 19, none, .bin .gtr .none (.t 17) (.t 18)⟩])
         (.cond (.t 19)
          (.seq
           (.region [⟨some 4, none, .mv (.c (.int .i64 1))⟩])
           .ret)
          .skip))
        (.seq
         (.region [⟨some 4, none, .mv (.c (.int .i64 0))⟩])
         .ret))))))))
theorem codecmpB : E2.code 62 = some (ccmpB, [.tmp 4]) := by kernel_rfl
def cisNaNI : CCode :=
 (.seq
  (.region [⟨some 2, none, .mv (.c (.bool false))⟩])
  (.seq
   (.region [⟨some 3, none, .mv (.t 0)⟩, ⟨some 4, none, .mv (.t 0)⟩, ⟨some 5, none, .bin .neq .none (.t 3) (.t 4)⟩, ⟨some 2, none, .mv (.t 5)⟩])
   .ret))
theorem codeisNaNI : E2.code 75 = some (cisNaNI, [.tmp 2]) := by kernel_rfl
def cisNaNB : CCode :=
 (.seq
  (.region [⟨some 2, none, .mv (.c (.bool false))⟩])
  (.seq
   (.region [⟨some 3, none, .mv (.t 0)⟩, ⟨some 4, none, .mv (.t 0)⟩, ⟨some 5, none, .bin .neq .none (.t 3) (.t 4)⟩, ⟨some 2, none, .mv (.t 5)⟩])
   .ret))
theorem codeisNaNB : E2.code 76 = some (cisNaNB, [.tmp 2]) := by kernel_rfl
end
end Go.AX
namespace Go.AX
open Go Go.Proofs
noncomputable section
def c3 : CCode :=
 (.seq
  (.region [⟨some 2, none, .mv (.c (.bool false))⟩])
  (.seq
   (.region [⟨some 8, none, .mv (.t 0)⟩, ⟨some 9, none, .call (.c (.func 11 [] [])) [(.t 8)]⟩, ⟨some 7, none, .mv (.t 9)⟩, ⟨some 10, none, .extract 0 (.t 7)⟩, ⟨some 11, none, .extract 1 (.t 7)⟩, ⟨some 3, none, .mv (.t 10)⟩, ⟨some 4, none, .mv (.t 11)⟩])
   (.seq
    (.region [⟨some 13, none, .mv (.t 0)⟩, ⟨some 14, none, .call (.c (.func 12 [] [])) [(.t 13)]⟩, ⟨some 12, none, .mv (.t 14)⟩, ⟨some 15, none, .extract 0 (.t 12)⟩, ⟨some 16, none, .extract 1 (.t 12)⟩, ⟨some 5, none, .mv (.t 15)⟩, ⟨some 6, none, .mv (.t 16)⟩])
    (.seq
     (.region [⟨some 17, none, .call (.c (.func 13 [] [])) []⟩, ⟨some 18, none, .mv (.t 17)⟩, ⟨some 19, some (18, true), .mv (.t 0)⟩, ⟨some 20, some (18, true), .call (.c (.func 14 [] [])) [(.t 19)]⟩, ⟨some 21, some (18, true), .mv (.t 0)⟩, ⟨some 22, some (18, true), .call (.c (.func 15 [] [])) [(.t 21)]⟩, ⟨some 23, some (18, true), .bin .eql .none (.t 20) (.t 22)⟩, ⟨some 24, none, .pick (.t 18) (.t 23) (.c (.bool false))⟩, ⟨some 25, none, .mv (.t 24)⟩, ⟨some 26, some (25, true), .mv (.t 3)⟩, ⟨some 27, some (25, true), .mv (.t 5)⟩, ⟨some 28, some (25, true), .bin .eql .none (.t 26) (.t 27)⟩, ⟨some 29, none, .pick (.t 25) (.t 28) (.c (.bool false))⟩, ⟨some 30, none, .mv (.t 29)⟩, ⟨some 31, some (30, true), .mv (.t 4)⟩, ⟨some 32, some (30, true), .mv (.t 6)⟩, ⟨some 33, some (30, true), .bin .eql .none (.t 31) (.t 32)⟩, ⟨some 34, none, .pick (.t 30) (.t 33) (.c (.bool false))⟩, ⟨some 2, none, .mv (.t 34)⟩])
     .ret))))
def c23 : CCode :=
 (.seq
  (.region [⟨some 2, none, .mv (.c (.bool false))⟩])
  (.seq
   (.region [⟨some 3, none, .mv (.t 0)⟩, ⟨some 4, none, .bin .geq .none (.t 3) (.c (.int .u8 97))⟩, ⟨some 5, none, .mv (.t 4)⟩, ⟨some 6, some (5, true), .mv (.t 0)⟩, ⟨some 7, some (5, true), .bin .leq .none (.t 6) (.c (.int .u8 122))⟩, ⟨some 8, none, .pick (.t 5) (.t 7) (.c (.bool false))⟩, ⟨some 9, none, .mv (.t 8)⟩, ⟨some 10, some (9, false), .mv (.t 0)⟩, ⟨some 11, some (9, false), .bin .geq .none (.t 10) (.c (.int .u8 48))⟩, ⟨some 12, some (9, false), .mv (.t 11)⟩, ⟨some 13, some (12, true), .mv (.t 0)⟩, ⟨some 14, some (12, true), .bin .leq .none (.t 13) (.c (.int .u8 57))⟩, ⟨some 15, some (9, false), .pick (.t 12) (.t 14) (.c (.bool false))⟩, ⟨some 16, none, .pick (.t 9) (.c (.bool true)) (.t 15)⟩, ⟨some 17, none, .mv (.t 16)⟩, ⟨some 18, some (17, false), .mv (.t 0)⟩, ⟨some 19, some (17, false), .bin .eql .none (.t 18) (.c (.int .u8 32))⟩, ⟨some 20, none, .pick (.t 17) (.c (.bool true)) (.t 19)⟩, ⟨some 21, none, .mv (.t 20)⟩, ⟨some 22, some (21, false), .mv (.t 0)⟩, ⟨some 23, some (21, false), .bin .eql .none (.t 22) (.c (.int .u8 45))⟩, ⟨some 24, none, .pick (.t 21) (.c (.bool true)) (.t 23)⟩, ⟨some 2, none, .mv (.t 24)⟩])
   .ret))
theorem code23 : E2.code 23 = some (c23, [.tmp 2]) := by kernel_rfl
def c46_l0 : CCode :=
 (.seq
  (.seq
   (.region [⟨some 4, none, .mv (.t 3)⟩, ⟨some 5, none, .bin .lss .none (.t 4) (.c (.int .i64 38))⟩])
   (.cond (.t 5)
    .skip
    (.exit 0)))
  (.seq
   (.block 1
    (.seq
     (.region [⟨some 8, none, .mv (.t 3)⟩, ⟨some 9, none, .ixStr (.c (.str [32, 45, 48, 49, 50, 51, 52, 53, 54, 55, 56, 57, 97, 98, 99, 100, 101, 102, 103, 104, 105, 106, 107, 108, 109, 110, 111, 112, 113, 114, 115, 116, 117, 118, 119, 120, 121, 122])) (.t 8)⟩, ⟨some 10, none, .mv (.t 0)⟩, ⟨some 11, none, .bin .eql .none (.t 9) (.t 10)⟩])
     (.cond (.t 11)
      (.seq
       (.region [⟨some 12, none, .mv (.t 3)⟩, ⟨some 2, none, .mv (.t 12)⟩])
       .ret)
      .skip)))
   (.region [⟨some 6, none, .mv (.t 3)⟩, ⟨some 7, none, .bin .add .none (.t 6) (.c (.int .i64 1))⟩, ⟨some 3, none, .mv (.t 7)⟩])))
def c46 : CCode :=
 (.seq
  (.region [⟨some 2, none, .mv (.c (.int .i64 0))⟩])
  (.seq
   (.seq
    (.region [⟨some 3, none, .mv (.c (.int .i64 0))⟩])
    (.block 0
     (.loop c46_l0)))
   (.seq
    (.region [⟨some 2, none, .mv (.c (.int .i64 (-1)))⟩])
    .ret)))
theorem code46 : E2.code 46 = some (c46, [.tmp 2]) := by kernel_rfl
end
end Go.AX
namespace Go.AX
open Go Go.Proofs
noncomputable section
set_option linter.unusedSimpArgs false
set_option linter.unusedVariables false
attribute [local go_sem] b_seq wp_skip wp_exit wp_ret wp_region b_block wops_nil b_ops b_opsg b_cond condV_lite wo_mv b_bin wo_call callV_func wo_pick b_box wo_load1 wo_loadN wo_store wo_nilCheck wo_not wo_lenStr' wo_lenSl wo_ixStr' wo_ixSl wo_fAddr wo_part1 wo_partN wo_extract wo_cInt wo_cStr wo_mkMap wo_mkIface wo_mkFunc wo_lookup pickV_bool ifT_true ifT_false b_loadV b_loadNV b_storeV nilV_ptr nilV_func nilV_iface notV_bool lenStrV_str lenSlV_nil lenSlV_slice b_ixStrV ixSlV_slice fAddrV_ptr b_part1V partNV_agg b_extractV convV_int strV_str evC_tm evC_cn T.get_set putA_some putA_none onO_some evCs_nil evCs_cons appL_nil appL_cons guardOk_true guardOk_false cellsV_bool cellsV_int cellsV_str cellsV_nilptr cellsV_ptr cellsV_nilslice cellsV_slice cellsV_nilmap cellsV_map cellsV_func cellsV_nilfunc cellsV_iface cellsV_niliface cellsV_agg bin_lss bin_gtr bin_leq bin_geq bin_eql bin_neq bin_add bin_sub bin_eqlS bin_neqS mkFrame_nil mkFrame_cons resA_one resA_two resA_three over_0 over_1 over_2 over_3 over_4 over_5 over0_nil over0_cons Option.getD_some if_true if_false AHeap.next_push AVal.bool.injEq decide_eq_true_eq decide_eq_false_iff_not Bool.not_eq_true' Bool.not_eq_false' Bool.not_eq_true decide_true decide_false Bool.not_true Bool.not_false Int.toNat_natCast Int.natCast_nonneg true_and and_true wo_mapPut wp_drawn' wsts_nil b_pure b_read b_new b_wr wor_none b_org rer_nil rer_load1 rer_loadN wo_append AHeap.next_skip AHeap.next_put' AHeap.mk_push_t AHeap.mk_eta AHeap.mk_skip ldA_skip ldN_skip Nat.add_zero Nat.zero_add b_lite_true b_lite_false eq_self_iff_true not_true_eq_false not_false_eq_true bx_k bx_q bx_x bx_1 undefA_bool putAt_push List.length_cons List.length_nil Nat.le_refl ldA_push_new ldN_push_new List.getElem?_cons_zero List.getElem?_cons_succ List.drop_zero List.drop_succ_cons List.take_succ_cons List.take_zero b_build b_buildSlice evParts_nil evParts_cons b_fillA_nil b_fillA nbeq nble natadd natmul lenL_eq repL_1 repL_2 repL_3 wo_sliceData sdV_nil sdV_slice wo_unsafeStr usV_nil wo_slStr slStrV_str evCo_none evCo_some boundA_none Bool.and_true Bool.true_and wo_minmax2' mm2V_int
def alph : List Nat := [32, 45, 48, 49, 50, 51, 52, 53, 54, 55, 56, 57, 97, 98, 99, 100, 101, 102, 103, 104, 105, 106, 107, 108, 109, 110, 111, 112, 113, 114, 115, 116, 117, 118, 119, 120, 121, 122]
def isL (c : Nat) : Bool := decide (97 ≤ c ∧ c ≤ 122 ∨ 48 ≤ c ∧ c ≤ 57 ∨ c = 32 ∨ c = 45)
theorem alph_at : ∀ i, i < 38 → ∃ c, alph[i]? = some c ∧ isL c = true := by
  intro i hi
  have h : (List.range 38).all (fun i => match alph[i]? with | some c => isL c | none => false) = true := by kernel_rfl
  have := List.all_eq_true.1 h i (List.mem_range.2 hi)
  split at this
  · rename_i c hc; exact ⟨c, hc, this⟩
  · cases this
theorem isL_alph {c : Nat} (h : isL c = true) : ∃ i, i < 38 ∧ alph[i]? = some c := by
  have h1 : (List.range 128).all (fun c => !(isL c) || (List.range 38).any fun i => alph[i]? == some c) = true := by kernel_rfl
  have hc : c < 128 := by unfold isL at h; simp at h; omega
  have := List.all_eq_true.1 h1 c (List.mem_range.2 hc)
  rw [h] at this
  simp only [Bool.not_true, Bool.false_or, List.any_eq_true, List.mem_range, beq_iff_eq] at this
  exact this
theorem isLetter_c (c : Nat) (h : AHeap) : Ec E2 23 [.int .u8 (c : Int)] h fun v h' => v = .bool (isL c) ∧ h' = h := by
  refine Ec.of_wpb (prim2_none (by decide)) code23 ?_
  unfold c23
  rcases (show (c < 32 ∧ isL c = false) ∨ (c = 32 ∧ isL c = true) ∨ ((32 < c ∧ c < 45) ∧ isL c = false) ∨ (c = 45 ∧ isL c = true) ∨ ((45 < c ∧ c < 48) ∧ isL c = false) ∨ ((48 ≤ c ∧ c ≤ 57) ∧ isL c = true) ∨ ((57 < c ∧ c < 97) ∧ isL c = false) ∨ ((97 ≤ c ∧ c ≤ 122) ∧ isL c = true) ∨ (122 < c ∧ isL c = false) by unfold isL; simp; omega) with ⟨g, e⟩ | ⟨g, e⟩ | ⟨g, e⟩ | ⟨g, e⟩ | ⟨g, e⟩ | ⟨g, e⟩ | ⟨g, e⟩ | ⟨g, e⟩ | ⟨g, e⟩ <;> rw [e] <;>
    by_cases h1 : (c : Int) < 97 <;> (try (exfalso; omega)) <;> by_cases h2 : (122 : Int) < c <;> (try (exfalso; omega)) <;> by_cases h3 : (c : Int) < 48 <;> (try (exfalso; omega)) <;> by_cases h4 : (57 : Int) < c <;> (try (exfalso; omega)) <;> by_cases h5 : (c : Int) = 32 <;> (try (exfalso; omega)) <;> by_cases h6 : (c : Int) = 45 <;> (try (exfalso; omega)) <;>
    simp only [go_sem, Nat.reduceEqDiff, Int.reduceLT, Int.reduceLE, Int.reduceEq, Nat.reduceLT, Nat.reduceAdd, Nat.reduceMul, Int.reduceToNat, Nat.reduceLeDiff, reduceCtorEq, h1, h2, h3, h4, h5, h6]
theorem place_c (c : Nat) (h : AHeap) : Ec E2 46 [.int .u8 (c : Int)] h fun v h' => (∃ n : Int, v = .int .i64 n ∧ decide (0 ≤ n) = isL c ∧ (0 ≤ n → alph[n.toNat]? = some c)) ∧ h' = h := by
  refine Ec.of_wpb (prim2_none (by decide)) code46 ?_
  unfold c46
  simp only [go_sem, Nat.reduceEqDiff, Int.reduceLT, Int.reduceLE, Int.reduceEq, Nat.reduceLT, Nat.reduceAdd, Nat.reduceMul, Int.reduceToNat, Nat.reduceLeDiff, reduceCtorEq]
  refine b_loop (fun d fr h' => h' = h ∧ fr.get 0 = some (.int .u8 (c : Int)) ∧ ∃ i : Nat, fr.get 3 = some (.int .i64 (i : Int)) ∧ d + i = 38 ∧ ∀ j, j < i → alph[j]? ≠ some c) 38 ⟨rfl, by rfl, 0, by simp [T.get_set], rfl, by simp⟩ ?_
  rintro d fr h' ⟨rfl, h0, i, h3, hd, hlt⟩
  unfold c46_l0
  simp only [go_sem, Nat.reduceEqDiff, Int.reduceLT, Int.reduceLE, Int.reduceEq, Nat.reduceLT, Nat.reduceAdd, Nat.reduceMul, Int.reduceToNat, Nat.reduceLeDiff, reduceCtorEq, h0, h3]
  refine b_lite (fun hc => ?_) (fun hc => ?_) <;> (try simp only [go_sem, Nat.reduceEqDiff, Int.reduceLT, Int.reduceLE, Int.reduceEq, Nat.reduceLT, Nat.reduceAdd, Nat.reduceMul, Int.reduceToNat, Nat.reduceLeDiff, reduceCtorEq, h0, h3])
  · obtain ⟨b, hb, hb2⟩ := alph_at i (by omega)
    show onO (alph[i]?) _
    rw [hb]
    simp only [go_sem, Nat.reduceEqDiff, Int.reduceLT, Int.reduceLE, Int.reduceEq, Nat.reduceLT, Nat.reduceAdd, Nat.reduceMul, Int.reduceToNat, Nat.reduceLeDiff, reduceCtorEq, h0, h3]
    refine b_lite (fun e => ?_) (fun e => ?_) <;> (try simp only [go_sem, Nat.reduceEqDiff, Int.reduceLT, Int.reduceLE, Int.reduceEq, Nat.reduceLT, Nat.reduceAdd, Nat.reduceMul, Int.reduceToNat, Nat.reduceLeDiff, reduceCtorEq, h0, h3])
    · have e : b = c := by omega
      subst e
      exact ⟨i, rfl, by rw [hb2]; simp, fun _ => by simpa using hb⟩
    · refine ⟨d - 1, by omega, i + 1, ?_, by omega, fun j hj => ?_⟩
      · rw [wrap_i64 (by omega) (by omega)]; rfl
      · by_cases hji : j = i
        · subst hji; rw [hb]; intro e2; cases e2; exact e rfl
        · exact hlt j (by omega)
  · refine ⟨-1, rfl, ?_, fun h => by omega⟩
    have hi : i = 38 := by omega
    cases hc2 : isL c with
    | false => simp
    | true =>
      obtain ⟨j, hj, hj2⟩ := isL_alph hc2
      exact absurd hj2 (hlt j (by omega))
def lettered (s : List Nat) : Bool := s.all isL
end
end Go.AX
namespace Go.AX
open Go Go.Proofs
noncomputable section
set_option linter.unusedSimpArgs false
set_option linter.unusedVariables false
attribute [local go_sem] b_seq wp_skip wp_exit wp_ret wp_region b_block wops_nil b_ops b_opsg b_cond condV_lite wo_mv b_bin wo_call callV_func wo_pick b_box wo_load1 wo_loadN wo_store wo_nilCheck wo_not wo_lenStr' wo_lenSl wo_ixStr' wo_ixSl wo_fAddr wo_part1 wo_partN wo_extract wo_cInt wo_cStr wo_mkMap wo_mkIface wo_mkFunc wo_lookup pickV_bool ifT_true ifT_false b_loadV b_loadNV b_storeV nilV_ptr nilV_func nilV_iface notV_bool lenStrV_str lenSlV_nil lenSlV_slice b_ixStrV ixSlV_slice fAddrV_ptr b_part1V partNV_agg b_extractV convV_int strV_str evC_tm evC_cn T.get_set putA_some putA_none onO_some evCs_nil evCs_cons appL_nil appL_cons guardOk_true guardOk_false cellsV_bool cellsV_int cellsV_str cellsV_nilptr cellsV_ptr cellsV_nilslice cellsV_slice cellsV_nilmap cellsV_map cellsV_func cellsV_nilfunc cellsV_iface cellsV_niliface cellsV_agg bin_lss bin_gtr bin_leq bin_geq bin_eql bin_neq bin_add bin_sub bin_eqlS bin_neqS mkFrame_nil mkFrame_cons resA_one resA_two resA_three over_0 over_1 over_2 over_3 over_4 over_5 over0_nil over0_cons Option.getD_some if_true if_false AHeap.next_push AVal.bool.injEq decide_eq_true_eq decide_eq_false_iff_not Bool.not_eq_true' Bool.not_eq_false' Bool.not_eq_true decide_true decide_false Bool.not_true Bool.not_false Int.toNat_natCast Int.natCast_nonneg true_and and_true wo_mapPut wp_drawn' wsts_nil b_pure b_read b_new b_wr wor_none b_org rer_nil rer_load1 rer_loadN wo_append AHeap.next_skip AHeap.next_put' AHeap.mk_push_t AHeap.mk_eta AHeap.mk_skip ldA_skip ldN_skip Nat.add_zero Nat.zero_add b_lite_true b_lite_false eq_self_iff_true not_true_eq_false not_false_eq_true bx_k bx_q bx_x bx_1 undefA_bool putAt_push List.length_cons List.length_nil Nat.le_refl ldA_push_new ldN_push_new List.getElem?_cons_zero List.getElem?_cons_succ List.drop_zero List.drop_succ_cons List.take_succ_cons List.take_zero b_build b_buildSlice evParts_nil evParts_cons b_fillA_nil b_fillA nbeq nble natadd natmul lenL_eq repL_1 repL_2 repL_3 wo_sliceData sdV_nil sdV_slice wo_unsafeStr usV_nil wo_slStr slStrV_str evCo_none evCo_some boundA_none Bool.and_true Bool.true_and wo_minmax2' mm2V_int
abbrev Alt := List Nat × Int
def altC (a : Alt) : List AVal := [.str a.1, .int .i64 a.2]
def AltsA (h : AHeap) (v : AVal) (alts : List Alt) : Prop := SlA h 2 v (alts.map altC) ∧ ∀ a, a ∈ alts → a.1.length ≤ 9223372036854775807
def CellsA (h : AHeap) (v : AVal) (cells : List (List Alt)) : Prop := ∃ vs : List AVal, SlA h 1 v (vs.map fun x => [x]) ∧ All2 (AltsA h) vs cells
theorem AltsA.mono {h h' : AHeap} (hle : Hle h h') {v : AVal} {alts : List Alt} (H : AltsA h v alts) : AltsA h' v alts := ⟨H.1.mono hle, H.2⟩
theorem CellsA.mono {h h' : AHeap} (hle : Hle h h') {v : AVal} {cells : List (List Alt)} (H : CellsA h v cells) : CellsA h' v cells := by
  obtain ⟨vs, h1, h2, h3⟩ := H
  exact ⟨vs, h1.mono hle, h2, fun i x y hx hy => (h3 i x y hx hy).mono hle⟩
theorem AltsA.len {h : AHeap} {v : AVal} {alts : List Alt} (H : AltsA h v alts) (h' : AHeap) (K : AVal → AHeap → Prop) : lenSlV v h' K = K (.int .i64 (alts.length : Int)) h' := by
  rw [H.1.len]; simp
theorem AltsA.at {h : AHeap} {v : AVal} {alts : List Alt} (H : AltsA h v alts) {j : Nat} {a : Alt} (hx : alts[j]? = some a) :
    ∃ b o, b < h.next ∧ (∀ (k : IntKind) (i : Int) (h' : AHeap) (K : AVal → AHeap → Prop), i = (j : Int) → ixSlV 2 v (.int k i) h' K = K (.ptr b o) h') ∧
      ldA h b o = some (.str a.1) ∧ ldA h b (o + 1) = some (.int .i64 a.2) ∧ ldN h b o 2 = some [.str a.1, .int .i64 a.2] := by
  obtain ⟨b, o, hr, hix⟩ := H.1.ix (j := j) (x := altC a) (by rw [List.getElem?_map, hx]; rfl)
  refine ⟨b, o, hr.1, hix, ?_, ?_, ?_⟩
  · exact hr.ldA (i := 0) rfl
  · exact hr.ldA (i := 1) rfl
  · exact hr.ldN (i := 0) (n := 2) (by simp [altC])
theorem CellsA.len {h : AHeap} {v : AVal} {cells : List (List Alt)} (H : CellsA h v cells) (h' : AHeap) (K : AVal → AHeap → Prop) : lenSlV v h' K = K (.int .i64 (cells.length : Int)) h' := by
  obtain ⟨vs, h1, h2, _⟩ := H
  rw [h1.len]; simp [h2]
theorem CellsA.at {h : AHeap} {v : AVal} {cells : List (List Alt)} (H : CellsA h v cells) {j : Nat} {c : List Alt} (hx : cells[j]? = some c) :
    ∃ b o x, b < h.next ∧ (∀ (k : IntKind) (i : Int) (h' : AHeap) (K : AVal → AHeap → Prop), i = (j : Int) → ixSlV 1 v (.int k i) h' K = K (.ptr b o) h') ∧
      ldA h b o = some x ∧ ldN h b o 1 = some [x] ∧ AltsA h x c ∧ x.flat = true := by
  obtain ⟨vs, h1, h2, h3⟩ := H
  obtain ⟨x, hxv⟩ : ∃ x, vs[j]? = some x := ⟨_, List.getElem?_eq_getElem (by rw [h2]; exact (List.getElem?_eq_some_iff.1 hx).1)⟩
  obtain ⟨b, o, hr, hix⟩ := h1.ix (j := j) (x := [x]) (by rw [List.getElem?_map, hxv]; rfl)
  refine ⟨b, o, x, hr.1, hix, ?_, ?_, h3 j x c hxv hx, ?_⟩
  · exact hr.ldA (i := 0) rfl
  · exact hr.ldN (i := 0) (n := 1) (by simp)
  · obtain ⟨_, _, _, _, _, _, _, hf⟩ := hr
    exact hf x (by simp)
theorem AltsA.flat {h : AHeap} {v : AVal} {alts : List Alt} (H : AltsA h v alts) : v.flat = true := by
  rcases H.1.2 with ⟨_, rfl⟩ | ⟨_, _, _, _, rfl, _⟩ <;> rfl
theorem AltsA.cells {h : AHeap} {v : AVal} {alts : List Alt} (H : AltsA h v alts) : cellsV v = some [v] := cellsV_flat H.flat
theorem mapAt_map {h : AHeap} {r : Nat} {es : List (AVal × AVal × Nat)} {c : Nat} (hg : h.get r = some (.map es c)) : mapAt h (.map r) = some es := by
  show onMapO (h.get r) (fun es _ => some es) = _
  rw [hg]; rfl
def SeenIs (es : List (AVal × AVal × Nat)) (l : List (List Nat)) : Prop := ∀ s, (s ∈ l → ∃ i, findA (.one .s) (.str s) es 0 = some (some (i, .bool true))) ∧ (s ∉ l → findA (.one .s) (.str s) es 0 = some none)
theorem SeenIs.nil : SeenIs [] [] := fun s => ⟨(fun h => by cases h), fun _ => rfl⟩
theorem SeenIs.snoc {es : List (AVal × AVal × Nat)} {l : List (List Nat)} (H : SeenIs es l) (t : List Nat) (c : Nat) (ht : t ∉ l) : SeenIs (es ++ [(.str t, .bool true, c)]) (l ++ [t]) := by
  intro s
  obtain ⟨h1, h2⟩ := H s
  obtain ⟨g1, g2⟩ := findA_snoc (.one .s) (.str s) (.str t, .bool true, c) es 0
  constructor
  · intro hs
    by_cases hl : s ∈ l
    · obtain ⟨i, hi⟩ := h1 hl
      exact ⟨i, g1 _ hi⟩
    · have e : s = t := by simpa [hl] using hs
      subst e
      refine ⟨0 + es.length, (g2 (h2 hl)).trans ?_⟩
      rw [beqA_str]
      simp [ob, ifT]
  · intro hs
    have hl : s ∉ l := fun h => hs (by simp [h])
    have hne : ¬ s = t := fun h => hs (by simp [h])
    rw [g2 (h2 hl), beqA_str]
    simp [ob, ifT, hne]
def altOk (a : Alt) : Prop := a.1.length ≤ 3 ∧ lettered a.1 = true ∧ 0 ≤ a.2 ∧ a.2 ≤ 1000
def goodP (alts : List Alt) : Prop := (∀ a, a ∈ alts → altOk a) ∧ (alts.map Prod.fst).Nodup
def validP (alts : List Alt) : Prop := 1 ≤ alts.length ∧ alts.length ≤ 8 ∧ goodP alts
instance (alts : List Alt) : Decidable (validP alts) := Classical.propDecidable _
theorem goodP.snoc {alts : List Alt} {i : Nat} {a : Alt} (ha : alts[i]? = some a) (h : goodP (alts.take i)) (h1 : altOk a) (h2 : a.1 ∉ (alts.take i).map Prod.fst) : goodP (alts.take (i + 1)) := by
  rw [List.take_add_one, ha]
  refine ⟨fun x hx => ?_, ?_⟩
  · rcases List.mem_append.1 hx with hx | hx
    · exact h.1 x hx
    · simp at hx; subst hx; exact h1
  · rw [List.map_append, List.nodup_append]
    refine ⟨h.2, by simp, fun x hx y hy => ?_⟩
    simp at hy
    subst hy
    rintro rfl
    exact h2 hx
theorem goodP.at {alts : List Alt} (h : goodP alts) {i : Nat} {a : Alt} (ha : alts[i]? = some a) : altOk a ∧ a.1 ∉ (alts.take i).map Prod.fst := by
  refine ⟨h.1 a (List.mem_of_getElem? ha), fun hm => ?_⟩
  obtain ⟨x, hx, he⟩ := List.mem_map.1 hm
  obtain ⟨j, hj⟩ := List.mem_iff_getElem?.1 hx
  rw [List.getElem?_take] at hj
  split at hj
  · rename_i hji
    have h3 := h.2
    have hi := (List.getElem?_eq_some_iff.1 ha)
    have hjj := (List.getElem?_eq_some_iff.1 hj)
    obtain ⟨hi1, hi2⟩ := hi
    obtain ⟨hj1, hj2⟩ := hjj
    have := (List.pairwise_iff_getElem.1 h3) j i (by simpa using hj1) (by simpa using hi1) hji
    simp only [List.getElem_map, hi2, hj2] at this
    exact this he
  · cases hj
end
end Go.AX

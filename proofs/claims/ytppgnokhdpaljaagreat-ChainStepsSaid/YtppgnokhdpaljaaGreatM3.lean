/- Parts of a proof, 3 texts in one file. No condition. -/
import Derived.Test.YtppgnokhdpaljaaGreatRows
import Derived.Test.YtppgnokhdpaljaaGreatM1
import Derived.Test.YtppgnokhdpaljaaGreatM2
set_option linter.unusedSimpArgs false
set_option linter.unusedVariables false
namespace Go.Proofs.YtppgnokhdpaljaaGreat
open Go Go.Kx Go.Kx.SOp
instance : Coe SOp SI := ⟨fun o => ⟨none, o, none, 0⟩⟩
def c3r0 : List SI := [
 bxR 3 (.t 0),
 mv 6 (.b false)]
def c3r1 : List SI := [
 call 12 6 [],
 mv 7 (.t 12)]
def c3r2 : List SI := [
 ldR 13 3 0 (some 3),
 call 14 7 [(.t 13), (.v (.slice none 0 0))],
 un 15 .not (.t 14)]
def c3r3 : List SI := [
 mv 16 (.t 7),
 mv 6 (.t 16)]
def c3r4 : List SI := [
 mv 18 (.t 1),
 mv 19 (.t 2),
 call 20 8 [(.t 18), (.t 19)],
 mv 17 (.t 20),
 ext 21 (.t 17) 0,
 ext 22 (.t 17) 1,
 alR 8 [(.int .i64 0), (.int .i64 0), (.slice none 0 0)],
 stR 8 0 3 (.t 21),
 mv 9 (.t 22)]
def c3r5 : List SI := [
 mv 24 (.t 1),
 mv 25 (.t 2),
 call 26 9 [(.t 24), (.t 25)],
 mv 23 (.t 26),
 ext 27 (.t 23) 0,
 ext 28 (.t 23) 1,
 alR 10 [(.int .i64 0), (.int .i64 0), (.slice none 0 0)],
 stR 10 0 3 (.t 27),
 mv 11 (.t 28)]
def c3r6 : List (Bool × SI) := [
 (true, N_ (.mv 29 (.t 7))),
 (true, N_ (.mv 30 (.t 29))),
 (true, ⟨some (30, true), .ldR 31 3 0 (some 3), none, 31⟩),
 (true, ⟨some (30, true), .ldR 33 3 0 (some 3), none, 33⟩),
 (false, ⟨some (30, true), .call 32 10 [(.t 31)], none, 32⟩),
 (false, ⟨some (30, true), .call 34 11 [(.t 33)], none, 34⟩),
 (true, ⟨some (30, true), .bin 35 .eql (.t 32) (.t 34), none, 35⟩),
 (true, N_ (.pick 36 (.t 30) (.t 35) (.b false))),
 (true, N_ (.mv 37 (.t 36))),
 (true, ⟨some (37, true), .ldR 38 3 0 (some 3), none, 38⟩),
 (true, ⟨some (37, true), .ldR 40 3 0 (some 3), none, 40⟩),
 (false, ⟨some (37, true), .call 39 12 [(.t 38)], none, 39⟩),
 (false, ⟨some (37, true), .call 41 13 [(.t 40)], none, 41⟩),
 (true, ⟨some (37, true), .bin 42 .eql (.t 39) (.t 41), none, 42⟩),
 (true, N_ (.pick 43 (.t 37) (.t 42) (.b false))),
 (true, N_ (.mv 44 (.t 43))),
 (true, ⟨some (44, true), .ldR 45 3 0 (some 3), none, 45⟩),
 (true, ⟨some (44, true), .ldR 47 3 0 (some 3), none, 47⟩),
 (false, ⟨some (44, true), .call 46 15 [(.t 45)], none, 46⟩),
 (false, ⟨some (44, true), .call 48 16 [(.t 47)], none, 48⟩),
 (false, ⟨some (44, true), .call 49 14 [(.t 46), (.t 48)], none, 49⟩),
 (true, N_ (.pick 50 (.t 44) (.t 49) (.b false))),
 (true, N_ (.mv 51 (.t 50))),
 (true, ⟨some (51, true), .ldR 52 8 0 (some 3), none, 52⟩),
 (true, ⟨some (51, true), .ldR 53 10 0 (some 3), none, 53⟩),
 (false, ⟨some (51, true), .call 54 17 [(.t 52), (.t 53)], none, 54⟩),
 (true, N_ (.pick 55 (.t 51) (.t 54) (.b false))),
 (true, N_ (.mv 56 (.t 55))),
 (true, ⟨some (56, true), .mv 57 (.t 9), none, 57⟩),
 (true, ⟨some (56, true), .mv 58 (.t 11), none, 58⟩),
 (true, ⟨some (56, true), .bin 59 .eql (.t 57) (.t 58), none, 59⟩),
 (true, N_ (.pick 60 (.t 56) (.t 59) (.b false))),
 (true, N_ (.mv 6 (.t 60)))]
def c3 : SC :=
 (.seq (.reg false c3r0)
 (.seq (.reg false c3r1)
 (.seq (.seq (.reg false c3r2)
 (.cond (.t 15)
  (.seq (.reg false c3r3)
  .ret)
  .skip))
 (.seq (.reg false c3r4)
 (.seq (.reg false c3r5)
 (.seq (.rgX c3r6)
 .ret))))))
def v3 : List Nat × List Nat := ([3, 8, 10], [3, 8, 10])
def o3 : List RS := [.t 6]
theorem s3 : slimC Tryz.prog Tryz.f3.ntmps v3.1 v3.2 ((Tryz.f3.body).getD .skip) = some c3 := by kernel_rfl
theorem q3 : slimR Tryz.prog Tryz.f3.ntmps v3.1 v3.2 Tryz.f3.results.toList = some o3 := by kernel_rfl
def c4r0 : List SI := [
 bxR 5 (.t 0),
 bxR 6 (.t 1),
 mv 10 (.b false)]
def c4r1 : List SI := [
 call 28 6 [],
 mv 11 (.t 28)]
def c4r2 : List SI := [
 ⟨none, .ldR 29 5 0 (some 3), none, 0⟩,
 ⟨none, .mv 30 (.t 4), none, 0⟩,
 ⟨none, .call 31 7 [(.t 29), (.t 30)], none, 0⟩,
 ⟨none, .un 32 .not (.t 31), none, 0⟩,
 ⟨none, .mv 33 (.t 32), none, 0⟩,
 ⟨some (33, false), .ldR 34 6 0 (some 10), none, 34⟩,
 ⟨some (33, false), .call 35 18 [(.t 34)], none, 35⟩,
 ⟨some (33, false), .un 36 .not (.t 35), none, 36⟩,
 ⟨none, .pick 37 (.t 33) (.b true) (.t 36), none, 0⟩]
def c4r3 : List SI := [
 mv 38 (.t 11),
 mv 10 (.t 38)]
def c4r4 : List SI := [
 ldR 40 5 0 (some 3),
 ldR 41 6 0 (some 10),
 call 42 19 [(.t 40), (.t 41)],
 mv 39 (.t 42),
 ext 43 (.t 39) 0,
 ext 44 (.t 39) 1,
 alR 12 [(.int .i64 0), (.int .i64 0), (.slice none 0 0)],
 stR 12 0 3 (.t 43),
 mv 13 (.t 44)]
def c4r5 : List SI := [
 ldR 46 5 0 (some 3),
 ldR 47 6 0 (some 10),
 call 48 20 [(.t 46), (.t 47)],
 mv 45 (.t 48),
 ext 49 (.t 45) 0,
 ext 50 (.t 45) 1,
 alR 14 [(.int .i64 0), (.int .i64 0), (.slice none 0 0)],
 stR 14 0 3 (.t 49),
 mv 15 (.t 50)]
def c4r6 : List SI := [
 ldR 52 5 0 (some 3),
 mv 53 (.t 2),
 call 54 21 [(.t 52), (.t 53)],
 mv 51 (.t 54),
 ext 55 (.t 51) 0,
 ext 56 (.t 51) 1,
 alR 16 [(.int .i64 0), (.int .i64 0), (.slice none 0 0)],
 stR 16 0 3 (.t 55),
 mv 17 (.t 56)]
def c4r7 : List SI := [
 ldR 58 5 0 (some 3),
 mv 59 (.t 2),
 call 60 22 [(.t 58), (.t 59)],
 mv 57 (.t 60),
 ext 61 (.t 57) 0,
 ext 62 (.t 57) 1,
 alR 18 [(.int .i64 0), (.int .i64 0), (.slice none 0 0)],
 stR 18 0 3 (.t 61),
 mv 19 (.t 62)]
def c4r8 : List SI := [
 ldR 64 5 0 (some 3),
 mv 65 (.t 2),
 call 66 23 [(.t 64), (.t 65)],
 mv 63 (.t 66),
 ext 67 (.t 63) 0,
 ext 68 (.t 63) 1,
 alR 20 [(.int .i64 0), (.int .i64 0), (.slice none 0 0)],
 stR 20 0 3 (.t 67),
 mv 21 (.t 68)]
def c4r9 : List SI := [
 ldR 70 5 0 (some 3),
 mv 71 (.t 2),
 call 72 24 [(.t 70), (.t 71)],
 mv 69 (.t 72),
 ext 73 (.t 69) 0,
 ext 74 (.t 69) 1,
 alR 22 [(.int .i64 0), (.int .i64 0), (.slice none 0 0)],
 stR 22 0 3 (.t 73),
 mv 23 (.t 74)]
def c4r10 : List SI := [
 ldR 76 5 0 (some 3),
 mv 77 (.t 3),
 mv 78 (.t 4),
 call 79 25 [(.t 76), (.t 77), (.t 78)],
 mv 75 (.t 79),
 ext 80 (.t 75) 0,
 ext 81 (.t 75) 1,
 alR 24 [(.int .i64 0), (.int .i64 0), (.slice none 0 0)],
 stR 24 0 3 (.t 80),
 mv 25 (.t 81)]
def c4r11 : List SI := [
 ldR 83 5 0 (some 3),
 mv 84 (.t 3),
 mv 85 (.t 4),
 call 86 26 [(.t 83), (.t 84), (.t 85)],
 mv 82 (.t 86),
 ext 87 (.t 82) 0,
 ext 88 (.t 82) 1,
 alR 26 [(.int .i64 0), (.int .i64 0), (.slice none 0 0)],
 stR 26 0 3 (.t 87),
 mv 27 (.t 88)]
def c4r12 : List SI := [
 ⟨none, .mv 89 (.t 11), none, 0⟩,
 ⟨none, .mv 90 (.t 89), none, 0⟩,
 ⟨some (90, true), .ldR 91 12 0 (some 3), none, 91⟩,
 ⟨some (90, true), .ldR 92 14 0 (some 3), none, 92⟩,
 ⟨some (90, true), .call 93 17 [(.t 91), (.t 92)], none, 93⟩,
 ⟨none, .pick 94 (.t 90) (.t 93) (.b false), none, 0⟩,
 ⟨none, .mv 95 (.t 94), none, 0⟩,
 ⟨some (95, true), .mv 96 (.t 13), none, 96⟩,
 ⟨some (95, true), .mv 97 (.t 15), none, 97⟩,
 ⟨some (95, true), .bin 98 .eql (.t 96) (.t 97), none, 98⟩,
 ⟨none, .pick 99 (.t 95) (.t 98) (.b false), none, 0⟩,
 ⟨none, .mv 100 (.t 99), none, 0⟩,
 ⟨some (100, true), .ldR 101 16 0 (some 3), none, 101⟩,
 ⟨some (100, true), .ldR 102 18 0 (some 3), none, 102⟩,
 ⟨some (100, true), .call 103 17 [(.t 101), (.t 102)], none, 103⟩,
 ⟨none, .pick 104 (.t 100) (.t 103) (.b false), none, 0⟩,
 ⟨none, .mv 105 (.t 104), none, 0⟩,
 ⟨some (105, true), .mv 106 (.t 17), none, 106⟩,
 ⟨some (105, true), .mv 107 (.t 19), none, 107⟩,
 ⟨some (105, true), .bin 108 .eql (.t 106) (.t 107), none, 108⟩,
 ⟨none, .pick 109 (.t 105) (.t 108) (.b false), none, 0⟩,
 ⟨none, .mv 110 (.t 109), none, 0⟩,
 ⟨some (110, true), .ldR 111 20 0 (some 3), none, 111⟩,
 ⟨some (110, true), .ldR 112 22 0 (some 3), none, 112⟩,
 ⟨some (110, true), .call 113 17 [(.t 111), (.t 112)], none, 113⟩,
 ⟨none, .pick 114 (.t 110) (.t 113) (.b false), none, 0⟩,
 ⟨none, .mv 115 (.t 114), none, 0⟩,
 ⟨some (115, true), .mv 116 (.t 21), none, 116⟩,
 ⟨some (115, true), .mv 117 (.t 23), none, 117⟩,
 ⟨some (115, true), .bin 118 .eql (.t 116) (.t 117), none, 118⟩,
 ⟨none, .pick 119 (.t 115) (.t 118) (.b false), none, 0⟩,
 ⟨none, .mv 120 (.t 119), none, 0⟩,
 ⟨some (120, true), .ldR 121 24 0 (some 3), none, 121⟩,
 ⟨some (120, true), .ldR 122 26 0 (some 3), none, 122⟩,
 ⟨some (120, true), .call 123 17 [(.t 121), (.t 122)], none, 123⟩,
 ⟨none, .pick 124 (.t 120) (.t 123) (.b false), none, 0⟩,
 ⟨none, .mv 125 (.t 124), none, 0⟩,
 ⟨some (125, true), .mv 126 (.t 25), none, 126⟩,
 ⟨some (125, true), .mv 127 (.t 27), none, 127⟩,
 ⟨some (125, true), .bin 128 .eql (.t 126) (.t 127), none, 128⟩,
 ⟨none, .pick 129 (.t 125) (.t 128) (.b false), none, 0⟩,
 ⟨none, .mv 10 (.t 129), none, 0⟩]
def c4 : SC :=
 (.seq (.reg false c4r0)
 (.seq (.reg false c4r1)
 (.seq (.seq (.reg false c4r2)
 (.cond (.t 37)
  (.seq (.reg false c4r3)
  .ret)
  .skip))
 (.seq (.reg false c4r4)
 (.seq (.reg false c4r5)
 (.seq (.reg false c4r6)
 (.seq (.reg false c4r7)
 (.seq (.reg false c4r8)
 (.seq (.reg false c4r9)
 (.seq (.reg false c4r10)
 (.seq (.reg false c4r11)
 (.seq (.reg false c4r12)
 .ret))))))))))))
def v4 : List Nat × List Nat := ([5, 6, 12, 14, 16, 18, 20, 22, 24, 26], [5, 6, 12, 14, 16, 18, 20, 22, 24, 26])
def o4 : List RS := [.t 10]
theorem s4 : slimC Tryz.prog Tryz.f4.ntmps v4.1 v4.2 ((Tryz.f4.body).getD .skip) = some c4 := by kernel_rfl
theorem q4 : slimR Tryz.prog Tryz.f4.ntmps v4.1 v4.2 Tryz.f4.results.toList = some o4 := by kernel_rfl
def c5r0 : List SI := [
 bxR 3 (.t 0),
 mv 6 (.b false)]
def c5r1 : List SI := [
 call 16 6 [],
 mv 7 (.t 16)]
def c5r2 : List SI := [
 ldR 17 3 0 (some 3),
 call 18 7 [(.t 17), (.v (.slice none 0 0))],
 un 19 .not (.t 18)]
def c5r3 : List SI := [
 mv 20 (.t 7),
 mv 6 (.t 20)]
def c5r4 : List SI := [
 ldR 22 3 0 (some 3),
 mv 23 (.t 1),
 mv 24 (.t 2),
 call 25 27 [(.t 22), (.t 23), (.t 24)],
 mv 21 (.t 25),
 ext 26 (.t 21) 0,
 ext 27 (.t 21) 1,
 mv 8 (.t 26),
 mv 9 (.t 27)]
def c5r5 : List SI := [
 ldR 29 3 0 (some 3),
 mv 30 (.t 1),
 mv 31 (.t 2),
 call 32 28 [(.t 29), (.t 30), (.t 31)],
 mv 28 (.t 32),
 ext 33 (.t 28) 0,
 ext 34 (.t 28) 1,
 mv 10 (.t 33),
 mv 11 (.t 34)]
def c5r6 : List SI := [
 ldR 36 3 0 (some 3),
 call 37 29 [(.t 36)],
 mv 35 (.t 37),
 ext 38 (.t 35) 0,
 ext 39 (.t 35) 1,
 alR 12 [(.int .i64 0), (.int .i64 0), (.slice none 0 0)],
 stR 12 0 3 (.t 38),
 mv 13 (.t 39)]
def c5r7 : List SI := [
 ldR 41 3 0 (some 3),
 call 42 30 [(.t 41)],
 mv 40 (.t 42),
 ext 43 (.t 40) 0,
 ext 44 (.t 40) 1,
 alR 14 [(.int .i64 0), (.int .i64 0), (.slice none 0 0)],
 stR 14 0 3 (.t 43),
 mv 15 (.t 44)]
def c5r8 : List SI := [
 ⟨none, .mv 45 (.t 7), none, 0⟩,
 ⟨none, .mv 46 (.t 45), none, 0⟩,
 ⟨some (46, true), .mv 47 (.t 8), none, 47⟩,
 ⟨some (46, true), .mv 48 (.t 10), none, 48⟩,
 ⟨some (46, true), .call 49 14 [(.t 47), (.t 48)], none, 49⟩,
 ⟨none, .pick 50 (.t 46) (.t 49) (.b false), none, 0⟩,
 ⟨none, .mv 51 (.t 50), none, 0⟩,
 ⟨some (51, true), .mv 52 (.t 9), none, 52⟩,
 ⟨some (51, true), .mv 53 (.t 11), none, 53⟩,
 ⟨some (51, true), .bin 54 .eql (.t 52) (.t 53), none, 54⟩,
 ⟨none, .pick 55 (.t 51) (.t 54) (.b false), none, 0⟩,
 ⟨none, .mv 56 (.t 55), none, 0⟩,
 ⟨some (56, true), .ldR 57 12 0 (some 3), none, 57⟩,
 ⟨some (56, true), .ldR 58 14 0 (some 3), none, 58⟩,
 ⟨some (56, true), .call 59 17 [(.t 57), (.t 58)], none, 59⟩,
 ⟨none, .pick 60 (.t 56) (.t 59) (.b false), none, 0⟩,
 ⟨none, .mv 61 (.t 60), none, 0⟩,
 ⟨some (61, true), .mv 62 (.t 13), none, 62⟩,
 ⟨some (61, true), .mv 63 (.t 15), none, 63⟩,
 ⟨some (61, true), .bin 64 .eql (.t 62) (.t 63), none, 64⟩,
 ⟨none, .pick 65 (.t 61) (.t 64) (.b false), none, 0⟩,
 ⟨none, .mv 6 (.t 65), none, 0⟩]
def c5 : SC :=
 (.seq (.reg false c5r0)
 (.seq (.reg false c5r1)
 (.seq (.seq (.reg false c5r2)
 (.cond (.t 19)
  (.seq (.reg false c5r3)
  .ret)
  .skip))
 (.seq (.reg false c5r4)
 (.seq (.reg false c5r5)
 (.seq (.reg false c5r6)
 (.seq (.reg false c5r7)
 (.seq (.reg false c5r8)
 .ret))))))))
def v5 : List Nat × List Nat := ([3, 12, 14], [3, 12, 14])
def o5 : List RS := [.t 6]
theorem s5 : slimC Tryz.prog Tryz.f5.ntmps v5.1 v5.2 ((Tryz.f5.body).getD .skip) = some c5 := by kernel_rfl
theorem q5 : slimR Tryz.prog Tryz.f5.ntmps v5.1 v5.2 Tryz.f5.results.toList = some o5 := by kernel_rfl
def c6r0 : List SI := [
 mv 0 (.b false)]
def c6r1 : List SI := [
 call 20 8 [(.i 256), (.i 10)],
 mv 19 (.t 20),
 ext 21 (.t 19) 0,
 ext 22 (.t 19) 1,
 alR 1 [(.int .i64 0), (.int .i64 0), (.slice none 0 0)],
 stR 1 0 3 (.t 21),
 mv 2 (.t 22)]
def c6r2 : RX := .br [(true, N_ (.ldR 24 1 0 (some 3)))]
 ⟨none, .call 25 31 [(.i 10)], none, 0⟩
 (.br []
 ⟨none, .call 26 19 [(.t 24), (.t 25)], none, 0⟩
 (.leaf [(true, N_ (.mv 23 (.t 26))),
 (true, N_ (.ext 27 (.t 23) 0)),
 (true, N_ (.ext 28 (.t 23) 1)),
 (false, N_ (.al 3 [(.int .i64 0), (.int .i64 0), (.slice none 0 0)])),
 (false, N_ (.st (.t 3) 3 (.t 27))),
 (true, N_ (.mv 4 (.t 28)))])
 ⟨none, .al 3 [(.int .i64 0), (.int .i64 0), (.slice none 0 0)], none, 0⟩
 (.leaf [(false, N_ (.call 26 19 [(.t 24), (.t 25)])),
 (true, N_ (.mv 23 (.t 26))),
 (true, N_ (.ext 27 (.t 23) 0)),
 (true, N_ (.ext 28 (.t 23) 1)),
 (false, N_ (.st (.t 3) 3 (.t 27))),
 (true, N_ (.mv 4 (.t 28)))]))
 ⟨none, .al 3 [(.int .i64 0), (.int .i64 0), (.slice none 0 0)], none, 0⟩
 (.leaf [(false, N_ (.call 25 31 [(.i 10)])),
 (false, N_ (.call 26 19 [(.t 24), (.t 25)])),
 (true, N_ (.mv 23 (.t 26))),
 (true, N_ (.ext 27 (.t 23) 0)),
 (true, N_ (.ext 28 (.t 23) 1)),
 (false, N_ (.st (.t 3) 3 (.t 27))),
 (true, N_ (.mv 4 (.t 28)))])
def c6r3 : List SI := [
 ld 30 (.t 3) (some 3),
 call 31 21 [(.t 30), (.i 12)],
 mv 29 (.t 31),
 ext 32 (.t 29) 0,
 ext 33 (.t 29) 1,
 alR 5 [(.int .i64 0), (.int .i64 0), (.slice none 0 0)],
 stR 5 0 3 (.t 32),
 mv 6 (.t 33)]
def c6r4 : List SI := [
 ld 35 (.t 3) (some 3),
 call 36 27 [(.t 35), (.i 11), (.i 0)],
 mv 34 (.t 36),
 ext 37 (.t 34) 0,
 ext 38 (.t 34) 1,
 mv 7 (.t 37),
 mv 8 (.t 38)]
def c6r5 : List SI := [
 ld 40 (.t 3) (some 3),
 call 41 27 [(.t 40), (.i 14), (.i 0)],
 mv 39 (.t 41),
 ext 42 (.t 39) 0,
 ext 43 (.t 39) 1,
 mv 9 (.t 42),
 mv 10 (.t 43)]
def c6r6 : RX := .br [(true, N_ (.ld 45 (.t 3) (some 3)))]
 ⟨none, .call 46 31 [(.i 12)], none, 0⟩
 (.br []
 ⟨none, .call 47 19 [(.t 45), (.t 46)], none, 0⟩
 (.leaf [(true, N_ (.mv 44 (.t 47))),
 (true, N_ (.ext 48 (.t 44) 0)),
 (true, N_ (.ext 49 (.t 44) 1)),
 (false, N_ (.al 11 [(.int .i64 0), (.int .i64 0), (.slice none 0 0)])),
 (false, N_ (.st (.t 11) 3 (.t 48))),
 (true, N_ (.mv 12 (.t 49)))])
 ⟨none, .al 11 [(.int .i64 0), (.int .i64 0), (.slice none 0 0)], none, 0⟩
 (.leaf [(false, N_ (.call 47 19 [(.t 45), (.t 46)])),
 (true, N_ (.mv 44 (.t 47))),
 (true, N_ (.ext 48 (.t 44) 0)),
 (true, N_ (.ext 49 (.t 44) 1)),
 (false, N_ (.st (.t 11) 3 (.t 48))),
 (true, N_ (.mv 12 (.t 49)))]))
 ⟨none, .al 11 [(.int .i64 0), (.int .i64 0), (.slice none 0 0)], none, 0⟩
 (.leaf [(false, N_ (.call 46 31 [(.i 12)])),
 (false, N_ (.call 47 19 [(.t 45), (.t 46)])),
 (true, N_ (.mv 44 (.t 47))),
 (true, N_ (.ext 48 (.t 44) 0)),
 (true, N_ (.ext 49 (.t 44) 1)),
 (false, N_ (.st (.t 11) 3 (.t 48))),
 (true, N_ (.mv 12 (.t 49)))])
def c6r7 : List SI := [
 ld 51 (.t 3) (some 3),
 call 52 23 [(.t 51), (.i 13)],
 mv 50 (.t 52),
 ext 53 (.t 50) 0,
 ext 54 (.t 50) 1,
 alR 13 [(.int .i64 0), (.int .i64 0), (.slice none 0 0)],
 stR 13 0 3 (.t 53),
 mv 14 (.t 54)]
def c6r8 : List SI := [
 ld 56 (.t 3) (some 3),
 call 57 29 [(.t 56)],
 mv 55 (.t 57),
 ext 58 (.t 55) 0,
 ext 59 (.t 55) 1,
 alR 15 [(.int .i64 0), (.int .i64 0), (.slice none 0 0)],
 stR 15 0 3 (.t 58),
 mv 16 (.t 59)]
def c6r9 : List SI := [
 ld 61 (.t 3) (some 3),
 call 62 25 [(.t 61), (.i 0), (.v (.slice none 0 0))],
 mv 60 (.t 62),
 ext 63 (.t 60) 0,
 ext 64 (.t 60) 1,
 alR 17 [(.int .i64 0), (.int .i64 0), (.slice none 0 0)],
 stR 17 0 3 (.t 63),
 mv 18 (.t 64)]
def c6r10 : List SI := [
 ⟨none, .mv 65 (.t 2), none, 0⟩,
 ⟨none, .bin 66 .neq (.t 65) (.i 0), none, 0⟩,
 ⟨none, .mv 67 (.t 66), none, 0⟩,
 ⟨some (67, false), .mv 68 (.t 4), none, 68⟩,
 ⟨some (67, false), .bin 69 .neq (.t 68) (.i 0), none, 69⟩,
 ⟨none, .pick 70 (.t 67) (.b true) (.t 69), none, 0⟩,
 ⟨none, .mv 71 (.t 70), none, 0⟩,
 ⟨some (71, false), .mv 72 (.t 6), none, 72⟩,
 ⟨some (71, false), .bin 73 .neq (.t 72) (.i 0), none, 73⟩,
 ⟨none, .pick 74 (.t 71) (.b true) (.t 73), none, 0⟩,
 ⟨none, .mv 75 (.t 74), none, 0⟩,
 ⟨some (75, false), .mv 76 (.t 8), none, 76⟩,
 ⟨some (75, false), .bin 77 .neq (.t 76) (.i 0), none, 77⟩,
 ⟨none, .pick 78 (.t 75) (.b true) (.t 77), none, 0⟩,
 ⟨none, .mv 79 (.t 78), none, 0⟩,
 ⟨some (79, false), .mv 80 (.t 14), none, 80⟩,
 ⟨some (79, false), .bin 81 .neq (.t 80) (.i 0), none, 81⟩,
 ⟨none, .pick 82 (.t 79) (.b true) (.t 81), none, 0⟩,
 ⟨none, .mv 83 (.t 82), none, 0⟩,
 ⟨some (83, false), .mv 84 (.t 7), none, 84⟩,
 ⟨some (83, false), .len 85 false (.t 84), none, 85⟩,
 ⟨some (83, false), .bin 86 .neq (.t 85) (.i 1), none, 86⟩,
 ⟨none, .pick 87 (.t 83) (.b true) (.t 86), none, 0⟩]
def c6r11 : List SI := [
 mv 0 (.b false)]
def c6r12 : List SI := [
 ⟨none, .ldR 88 1 0 (some 3), none, 0⟩,
 ⟨none, .call 89 12 [(.t 88)], none, 0⟩,
 ⟨none, .bin 90 .eql (.t 89) (.i 10), none, 0⟩,
 ⟨none, .mv 91 (.t 90), none, 0⟩,
 ⟨some (91, true), .ld 92 (.t 3) (some 3), none, 92⟩,
 ⟨some (91, true), .call 93 12 [(.t 92)], none, 93⟩,
 ⟨some (91, true), .bin 94 .eql (.t 93) (.i 13), none, 94⟩,
 ⟨none, .pick 95 (.t 91) (.t 94) (.b false), none, 0⟩,
 ⟨none, .mv 96 (.t 95), none, 0⟩,
 ⟨some (96, true), .ldR 97 5 0 (some 3), none, 97⟩,
 ⟨some (96, true), .call 98 12 [(.t 97)], none, 98⟩,
 ⟨some (96, true), .bin 99 .eql (.t 98) (.i 10), none, 99⟩,
 ⟨none, .pick 100 (.t 96) (.t 99) (.b false), none, 0⟩,
 ⟨none, .mv 101 (.t 100), none, 0⟩,
 ⟨some (101, true), .ldR 102 5 0 (some 3), none, 102⟩,
 ⟨some (101, true), .call 103 15 [(.t 102)], none, 103⟩,
 ⟨some (101, true), .len 104 false (.t 103), none, 104⟩,
 ⟨some (101, true), .bin 105 .eql (.t 104) (.i 0), none, 105⟩,
 ⟨none, .pick 106 (.t 101) (.t 105) (.b false), none, 0⟩,
 ⟨none, .mv 107 (.t 106), none, 0⟩,
 ⟨some (107, true), .mv 108 (.t 7), none, 108⟩,
 ⟨some (107, true), .ixA 109 (.t 108) (.i 0) 10, none, 109⟩,
 ⟨some (107, true), .flA 110 (.t 109) 0, none, 110⟩,
 ⟨some (107, true), .ld 111 (.t 110) none, none, 111⟩,
 ⟨some (107, true), .bin 112 .eql (.t 111) (.i 10), none, 112⟩,
 ⟨none, .pick 113 (.t 107) (.t 112) (.b false), none, 0⟩,
 ⟨none, .mv 114 (.t 113), none, 0⟩,
 ⟨some (114, true), .mv 115 (.t 10), none, 115⟩,
 ⟨some (114, true), .bin 116 .eql (.t 115) (.i 90), none, 116⟩,
 ⟨none, .pick 117 (.t 114) (.t 116) (.b false), none, 0⟩,
 ⟨none, .mv 118 (.t 117), none, 0⟩,
 ⟨some (118, true), .mv 119 (.t 12), none, 119⟩,
 ⟨some (118, true), .bin 120 .eql (.t 119) (.i 71), none, 120⟩,
 ⟨none, .pick 121 (.t 118) (.t 120) (.b false), none, 0⟩,
 ⟨none, .mv 122 (.t 121), none, 0⟩,
 ⟨some (122, true), .ld 123 (.t 3) (some 3), none, 123⟩,
 ⟨some (122, true), .call 124 15 [(.t 123)], none, 124⟩,
 ⟨some (122, true), .len 125 false (.t 124), none, 125⟩,
 ⟨some (122, true), .bin 126 .eql (.t 125) (.i 1), none, 126⟩,
 ⟨none, .pick 127 (.t 122) (.t 126) (.b false), none, 0⟩,
 ⟨none, .mv 128 (.t 127), none, 0⟩,
 ⟨some (128, true), .ldR 129 13 0 (some 3), none, 129⟩,
 ⟨some (128, true), .call 130 15 [(.t 129)], none, 130⟩,
 ⟨some (128, true), .len 131 false (.t 130), none, 131⟩,
 ⟨some (128, true), .bin 132 .eql (.t 131) (.i 0), none, 132⟩,
 ⟨none, .pick 133 (.t 128) (.t 132) (.b false), none, 0⟩,
 ⟨none, .mv 134 (.t 133), none, 0⟩,
 ⟨some (134, true), .nop, (some 13), 99999⟩,
 ⟨some (134, true), .ldR 136 13 1 none, none, 136⟩,
 ⟨some (134, true), .bin 137 .eql (.t 136) (.i 13), none, 137⟩,
 ⟨none, .pick 138 (.t 134) (.t 137) (.b false), none, 0⟩,
 ⟨none, .mv 139 (.t 138), none, 0⟩,
 ⟨some (139, true), .ldR 140 15 0 (some 3), none, 140⟩,
 ⟨some (139, true), .ld 141 (.t 3) (some 3), none, 141⟩,
 ⟨some (139, true), .call 142 17 [(.t 140), (.t 141)], none, 142⟩,
 ⟨none, .pick 143 (.t 139) (.t 142) (.b false), none, 0⟩,
 ⟨none, .mv 144 (.t 143), none, 0⟩,
 ⟨some (144, true), .mv 145 (.t 16), none, 145⟩,
 ⟨some (144, true), .bin 146 .eql (.t 145) (.i 0), none, 146⟩,
 ⟨none, .pick 147 (.t 144) (.t 146) (.b false), none, 0⟩,
 ⟨none, .mv 148 (.t 147), none, 0⟩,
 ⟨some (148, true), .mv 149 (.t 18), none, 149⟩,
 ⟨some (148, true), .bin 150 .eql (.t 149) (.i 90), none, 150⟩,
 ⟨none, .pick 151 (.t 148) (.t 150) (.b false), none, 0⟩,
 ⟨none, .mv 152 (.t 151), none, 0⟩,
 ⟨some (152, true), .ld 153 (.t 3) (some 3), none, 153⟩,
 ⟨some (152, true), .call 154 10 [(.t 153)], none, 154⟩,
 ⟨some (152, true), .bin 155 .eql (.t 154) (.i 0), none, 155⟩,
 ⟨none, .pick 156 (.t 152) (.t 155) (.b false), none, 0⟩,
 ⟨none, .mv 157 (.t 156), none, 0⟩,
 ⟨some (157, true), .bld 158 [(.int .i64 0), (.int .i64 0), (.slice none 0 0)] [], none, 158⟩,
 ⟨some (157, true), .call 159 10 [(.t 158)], none, 159⟩,
 ⟨some (157, true), .bin 160 .eql (.t 159) (.i 1), none, 160⟩,
 ⟨none, .pick 161 (.t 157) (.t 160) (.b false), none, 0⟩,
 ⟨none, .mv 0 (.t 161), none, 0⟩]
def c6 : SC :=
 (.seq (.reg false c6r0)
 (.seq (.reg false c6r1)
 (.seq (.rgZ c6r2)
 (.seq (.reg false c6r3)
 (.seq (.reg false c6r4)
 (.seq (.reg false c6r5)
 (.seq (.rgZ c6r6)
 (.seq (.reg false c6r7)
 (.seq (.reg false c6r8)
 (.seq (.reg false c6r9)
 (.seq (.seq (.reg false c6r10)
 (.cond (.t 87)
  (.seq (.reg false c6r11)
  .ret)
  .skip))
 (.seq (.reg false c6r12)
 .ret))))))))))))
def v6 : List Nat × List Nat := ([1, 5, 13, 15, 17], [1, 5, 13, 15, 17, 135])
def o6 : List RS := [.t 0]
theorem q6 : slimR Tryz.prog Tryz.f6.ntmps v6.1 v6.2 Tryz.f6.results.toList = some o6 := by kernel_rfl
def c7r0 : List SI := [
 bxR 2 (.t 0),
 mv 4 (.b false)]
def c7r1 : List SI := [
 ⟨none, .ldR 5 2 0 (some 3), none, 0⟩,
 ⟨none, .call 6 32 [(.t 5)], none, 0⟩,
 ⟨none, .mv 7 (.t 6), none, 0⟩,
 ⟨some (7, true), .mv 8 (.t 1), none, 8⟩,
 ⟨some (7, true), .call 9 33 [(.t 8), (.i 40)], none, 9⟩,
 ⟨none, .pick 10 (.t 7) (.t 9) (.b false), none, 0⟩,
 ⟨none, .mv 4 (.t 10), none, 0⟩]
def c7 : SC :=
 (.seq (.reg false c7r0)
 (.seq (.reg false c7r1)
 .ret))
def v7 : List Nat × List Nat := ([2], [2])
def o7 : List RS := [.t 4]
theorem q7 : slimR Tryz.prog Tryz.f7.ntmps v7.1 v7.2 Tryz.f7.results.toList = some o7 := by kernel_rfl
def c8r0 : List SI := [
 alR 4 [(.int .i64 0), (.int .i64 0), (.slice none 0 0)],
 mv 5 (.i 0)]
def c8r1 : List SI := [
 mv 6 (.t 0),
 mv 7 (.t 1),
 call 8 34 [(.t 6), (.t 7)],
 un 9 .not (.t 8)]
def c8r2 : List SI := [
 bld 10 [(.int .i64 0), (.int .i64 0), (.slice none 0 0)] [],
 stR 4 0 3 (.t 10),
 mv 5 (.i 1)]
def c8r3 : List SI := [
 mv 11 (.t 0),
 mv 12 (.t 1),
 mv 13 (.t 1),
 bld 14 [(.int .i64 0), (.slice none 0 0)] [(0, 1, (.t 13))],
 bls 15 55 1 2 [(.int .i64 0), (.slice none 0 0)] [(0, 2, (.t 14))],
 bld 16 [(.int .i64 0), (.int .i64 0), (.slice none 0 0)] [(0, 1, (.t 11)), (1, 1, (.t 12)), (2, 1, (.t 15))],
 stR 4 0 3 (.t 16),
 mv 5 (.i 0)]
def c8 : SC :=
 (.seq (.reg false c8r0)
 (.seq (.seq (.reg false c8r1)
 (.cond (.t 9)
  (.seq (.reg false c8r2)
  .ret)
  .skip))
 (.seq (.reg false c8r3)
 .ret)))
def v8 : List Nat × List Nat := ([4], [4])
def o8 : List RS := [.r 4 (some 3), .t 5]
theorem q8 : slimR Tryz.prog Tryz.f8.ntmps v8.1 v8.2 Tryz.f8.results.toList = some o8 := by kernel_rfl
def c9r0 : List SI := [
 alR 4 [(.int .i64 0), (.int .i64 0), (.slice none 0 0)],
 mv 5 (.i 0)]
def c9r1 : List SI := [
 ⟨none, .mv 6 (.t 0), none, 0⟩,
 ⟨none, .bin 7 .lss (.t 6) (.i 256), none, 0⟩,
 ⟨none, .mv 8 (.t 7), none, 0⟩,
 ⟨some (8, false), .mv 9 (.t 0), none, 9⟩,
 ⟨some (8, false), .bin 10 .gtr (.t 9) (.i 4096), none, 10⟩,
 ⟨none, .pick 11 (.t 8) (.b true) (.t 10), none, 0⟩,
 ⟨none, .mv 12 (.t 11), none, 0⟩,
 ⟨some (12, false), .mv 13 (.t 1), none, 13⟩,
 ⟨some (12, false), .call 14 35 [(.t 13)], none, 14⟩,
 ⟨some (12, false), .un 15 .not (.t 14), none, 15⟩,
 ⟨none, .pick 16 (.t 12) (.b true) (.t 15), none, 0⟩]
def c9r2 : List SI := [
 bld 17 [(.int .i64 0), (.int .i64 0), (.slice none 0 0)] [],
 stR 4 0 3 (.t 17),
 mv 5 (.i 1)]
def c9r3 : List SI := [
 mv 18 (.t 0),
 mv 19 (.t 1),
 mv 20 (.t 1),
 bld 21 [(.int .i64 0), (.slice none 0 0)] [(0, 1, (.t 20))],
 bls 22 55 1 2 [(.int .i64 0), (.slice none 0 0)] [(0, 2, (.t 21))],
 bld 23 [(.int .i64 0), (.int .i64 0), (.slice none 0 0)] [(0, 1, (.t 18)), (1, 1, (.t 19)), (2, 1, (.t 22))],
 stR 4 0 3 (.t 23),
 mv 5 (.i 0)]
def c9 : SC :=
 (.seq (.reg false c9r0)
 (.seq (.seq (.reg false c9r1)
 (.cond (.t 16)
  (.seq (.reg false c9r2)
  .ret)
  .skip))
 (.seq (.reg false c9r3)
 .ret)))
def v9 : List Nat × List Nat := ([4], [4])
def o9 : List RS := [.r 4 (some 3), .t 5]
theorem s9 : slimC Tryz.prog Tryz.f9.ntmps v9.1 v9.2 ((Tryz.f9.body).getD .skip) = some c9 := by kernel_rfl
theorem q9 : slimR Tryz.prog Tryz.f9.ntmps v9.1 v9.2 Tryz.f9.results.toList = some o9 := by kernel_rfl
def c10r0 : List SI := [
 bxR 1 (.t 0),
 mv 2 (.i 0)]
def c10r1 : List SI := [
 ⟨none, .nop, (some 1), 0⟩,
 ⟨none, .ldR 6 1 0 none, none, 0⟩,
 ⟨none, .nop, (some 1), 0⟩,
 ⟨none, .ldR 8 1 1 none, none, 0⟩,
 ⟨none, .call 9 34 [(.t 6), (.t 8)], none, 0⟩,
 ⟨none, .un 10 .not (.t 9), none, 0⟩,
 ⟨none, .mv 11 (.t 10), none, 0⟩,
 ⟨some (11, false), .nop, (some 1), 99999⟩,
 ⟨some (11, false), .ldR 13 1 2 none, none, 13⟩,
 ⟨some (11, false), .len 14 false (.t 13), none, 14⟩,
 ⟨some (11, false), .bin 15 .eql (.t 14) (.i 0), none, 15⟩,
 ⟨none, .pick 16 (.t 11) (.b true) (.t 15), none, 0⟩]
def c10r2 : List SI := [
 mv 2 (.i 1)]
def c10r3 : List SI := [
 ⟨none, .nop, (some 1), 0⟩,
 ⟨none, .ldR 18 1 2 none, none, 0⟩,
 ⟨none, .len 19 false (.t 18), none, 0⟩,
 ⟨none, .mv 20 (.i 0), none, 0⟩]
def c10r4 : List SI := [
 bin 21 .lss (.t 20) (.t 19)]
def c10r5 : List SI := [
 mv 22 (.t 20),
 ixA 23 (.t 18) (.t 20) 2,
 ld 24 (.t 23) (some 2),
 alR 4 [(.int .i64 0), (.slice none 0 0)],
 mv 3 (.t 22),
 stR 4 0 2 (.t 24)]
def c10r6 : List (Bool × SI) := [
 (true, ⟨none, .nop, (some 4), 0⟩),
 (true, N_ (.ldR 26 4 1 none)),
 (true, N_ (.len 27 false (.t 26))),
 (true, ⟨none, .nop, (some 1), 0⟩),
 (true, N_ (.ldR 29 1 0 none)),
 (true, N_ (.bin 30 .gtr (.t 27) (.t 29))),
 (true, N_ (.mv 31 (.t 30))),
 (true, ⟨some (31, false), .ldR 32 4 0 (some 2), none, 32⟩),
 (false, ⟨some (31, false), .call 33 36 [(.t 32)], none, 33⟩),
 (true, ⟨some (31, false), .un 34 .not (.t 33), none, 34⟩),
 (true, N_ (.pick 35 (.t 31) (.b true) (.t 34))),
 (true, N_ (.mv 36 (.t 35))),
 (true, ⟨some (36, false), .mv 37 (.t 3), none, 37⟩),
 (true, ⟨some (36, false), .bin 38 .gtr (.t 37) (.i 0), none, 38⟩),
 (true, ⟨some (36, false), .mv 39 (.t 38), none, 39⟩),
 (true, ⟨some (39, true), .nop, (some 1), 99999⟩),
 (true, ⟨some (39, true), .ldR 41 1 2 none, none, 41⟩),
 (true, ⟨some (39, true), .mv 42 (.t 3), none, 42⟩),
 (true, ⟨some (39, true), .bin 43 .sub (.t 42) (.i 1), none, 43⟩),
 (true, ⟨some (39, true), .ixA 44 (.t 41) (.t 43) 2, none, 44⟩),
 (true, ⟨some (39, true), .ld 45 (.t 44) (some 2), none, 45⟩),
 (true, ⟨some (39, true), .ldR 46 4 0 (some 2), none, 46⟩),
 (false, ⟨some (39, true), .call 47 37 [(.t 45), (.t 46)], none, 47⟩),
 (true, ⟨some (39, true), .un 48 .not (.t 47), none, 48⟩),
 (true, ⟨some (36, false), .pick 49 (.t 39) (.t 48) (.b false), none, 49⟩),
 (true, N_ (.pick 50 (.t 36) (.b true) (.t 49)))]
def c10r7 : List SI := [
 mv 2 (.i 1)]
def c10r8 : List SI := [
 bin 51 .add (.t 20) (.i 1),
 mv 20 (.t 51)]
def c10r9 : List SI := [
 ⟨none, .nop, (some 1), 0⟩,
 ⟨none, .ldR 53 1 2 none, none, 0⟩,
 ⟨none, .len 54 false (.t 53), none, 0⟩,
 ⟨none, .bin 55 .gtr (.t 54) (.i 256), none, 0⟩]
def c10r10 : List SI := [
 mv 2 (.i 2)]
def c10r11 : List SI := [
 mv 2 (.i 0)]
def c10 : SC :=
 (.seq (.reg false c10r0)
 (.seq (.seq (.reg false c10r1)
 (.cond (.t 16)
  (.seq (.reg false c10r2)
  .ret)
  .skip))
 (.seq (.seq (.reg false c10r3)
 (.blk 0 (.loop (.seq (.reg false c10r4)
   (.seq (.cond (.t 21)
    .skip
    (.exit 0))
   (.seq (.blk 1 (.seq (.reg false c10r5)
    (.seq (.rgX c10r6)
    (.cond (.t 50)
     (.seq (.reg false c10r7)
     .ret)
     .skip))))
   (.reg false c10r8)))))))
 (.seq (.seq (.reg false c10r9)
 (.cond (.t 55)
  (.seq (.reg false c10r10)
  .ret)
  .skip))
 (.seq (.reg false c10r11)
 .ret)))))
def v10 : List Nat × List Nat := ([1, 4], [1, 4, 5, 7, 12, 17, 25, 28, 40, 52])
def o10 : List RS := [.t 2]
theorem q10 : slimR Tryz.prog Tryz.f10.ntmps v10.1 v10.2 Tryz.f10.results.toList = some o10 := by kernel_rfl
def c11r0 : List SI := [
 bxR 1 (.t 0),
 mv 2 (.i 0)]
def c11r1 : List SI := [
 ⟨none, .nop, (some 1), 0⟩,
 ⟨none, .ldR 5 1 0 none, none, 0⟩,
 ⟨none, .bin 6 .lss (.t 5) (.i 256), none, 0⟩,
 ⟨none, .mv 7 (.t 6), none, 0⟩,
 ⟨some (7, false), .nop, (some 1), 99999⟩,
 ⟨some (7, false), .ldR 9 1 0 none, none, 9⟩,
 ⟨some (7, false), .bin 10 .gtr (.t 9) (.i 4096), none, 10⟩,
 ⟨none, .pick 11 (.t 7) (.b true) (.t 10), none, 0⟩,
 ⟨none, .mv 12 (.t 11), none, 0⟩,
 ⟨some (12, false), .nop, (some 1), 99999⟩,
 ⟨some (12, false), .ldR 14 1 1 none, none, 14⟩,
 ⟨some (12, false), .call 15 35 [(.t 14)], none, 15⟩,
 ⟨some (12, false), .un 16 .not (.t 15), none, 16⟩,
 ⟨none, .pick 17 (.t 12) (.b true) (.t 16), none, 0⟩,
 ⟨none, .mv 18 (.t 17), none, 0⟩,
 ⟨some (18, false), .nop, (some 1), 99999⟩,
 ⟨some (18, false), .ldR 20 1 2 none, none, 20⟩,
 ⟨some (18, false), .len 21 false (.t 20), none, 21⟩,
 ⟨some (18, false), .bin 22 .eql (.t 21) (.i 0), none, 22⟩,
 ⟨none, .pick 23 (.t 18) (.b true) (.t 22), none, 0⟩]
def c11r2 : List SI := [
 mv 2 (.i 1)]
def c11r3 : List SI := [
 mv 3 (.i 0)]
def c11r4 : List SI := [
 ⟨none, .mv 24 (.t 3), none, 0⟩,
 ⟨none, .nop, (some 1), 0⟩,
 ⟨none, .ldR 26 1 2 none, none, 0⟩,
 ⟨none, .len 27 false (.t 26), none, 0⟩,
 ⟨none, .bin 28 .lss (.t 24) (.t 27), none, 0⟩]
def c11r5 : List (Bool × SI) := [
 (true, ⟨none, .nop, (some 1), 0⟩),
 (true, N_ (.ldR 32 1 2 none)),
 (true, N_ (.mv 33 (.t 3))),
 (true, N_ (.ixA 34 (.t 32) (.t 33) 2)),
 (true, N_ (.ld 35 (.t 34) (some 2))),
 (false, N_ (.call 36 38 [(.t 35)])),
 (true, N_ (.un 37 .not (.t 36))),
 (true, N_ (.mv 38 (.t 37))),
 (true, ⟨some (38, false), .nop, (some 1), 99999⟩),
 (true, ⟨some (38, false), .ldR 40 1 2 none, none, 40⟩),
 (true, ⟨some (38, false), .mv 41 (.t 3), none, 41⟩),
 (true, ⟨some (38, false), .ixA 42 (.t 40) (.t 41) 2, none, 42⟩),
 (true, ⟨some (38, false), .flA 43 (.t 42) 1, none, 43⟩),
 (true, ⟨some (38, false), .ld 44 (.t 43) none, none, 44⟩),
 (true, ⟨some (38, false), .len 45 false (.t 44), none, 45⟩),
 (true, ⟨some (38, false), .nop, (some 1), 99999⟩),
 (true, ⟨some (38, false), .ldR 47 1 0 none, none, 47⟩),
 (true, ⟨some (38, false), .bin 48 .gtr (.t 45) (.t 47), none, 48⟩),
 (true, N_ (.pick 49 (.t 38) (.b true) (.t 48))),
 (true, N_ (.mv 50 (.t 49))),
 (true, ⟨some (50, false), .mv 51 (.t 3), none, 51⟩),
 (true, ⟨some (50, false), .bin 52 .gtr (.t 51) (.i 0), none, 52⟩),
 (true, ⟨some (50, false), .mv 53 (.t 52), none, 53⟩),
 (true, ⟨some (53, true), .nop, (some 1), 99999⟩),
 (true, ⟨some (53, true), .ldR 55 1 2 none, none, 55⟩),
 (true, ⟨some (53, true), .mv 56 (.t 3), none, 56⟩),
 (true, ⟨some (53, true), .bin 57 .sub (.t 56) (.i 1), none, 57⟩),
 (true, ⟨some (53, true), .ixA 58 (.t 55) (.t 57) 2, none, 58⟩),
 (true, ⟨some (53, true), .ld 59 (.t 58) (some 2), none, 59⟩),
 (true, ⟨some (53, true), .nop, (some 1), 99999⟩),
 (true, ⟨some (53, true), .ldR 61 1 2 none, none, 61⟩),
 (true, ⟨some (53, true), .mv 62 (.t 3), none, 62⟩),
 (true, ⟨some (53, true), .ixA 63 (.t 61) (.t 62) 2, none, 63⟩),
 (true, ⟨some (53, true), .ld 64 (.t 63) (some 2), none, 64⟩),
 (false, ⟨some (53, true), .call 65 39 [(.t 59), (.t 64)], none, 65⟩),
 (true, ⟨some (53, true), .un 66 .not (.t 65), none, 66⟩),
 (true, ⟨some (50, false), .pick 67 (.t 53) (.t 66) (.b false), none, 67⟩),
 (true, N_ (.pick 68 (.t 50) (.b true) (.t 67)))]
def c11r6 : List SI := [
 mv 2 (.i 1)]
def c11r7 : List SI := [
 mv 29 (.t 3),
 bin 30 .add (.t 29) (.i 1),
 mv 3 (.t 30)]
def c11r8 : List SI := [
 ⟨none, .nop, (some 1), 0⟩,
 ⟨none, .ldR 70 1 2 none, none, 0⟩,
 ⟨none, .len 71 false (.t 70), none, 0⟩,
 ⟨none, .bin 72 .gtr (.t 71) (.i 256), none, 0⟩]
def c11r9 : List SI := [
 mv 2 (.i 2)]
def c11r10 : List SI := [
 mv 2 (.i 0)]
def c11 : SC :=
 (.seq (.reg false c11r0)
 (.seq (.seq (.reg false c11r1)
 (.cond (.t 23)
  (.seq (.reg false c11r2)
  .ret)
  .skip))
 (.seq (.seq (.reg false c11r3)
 (.blk 0 (.loop (.seq (.seq (.reg false c11r4)
   (.cond (.t 28)
    .skip
    (.exit 0)))
   (.seq (.blk 1 (.seq (.rgX c11r5)
    (.cond (.t 68)
     (.seq (.reg false c11r6)
     .ret)
     .skip)))
   (.reg false c11r7))))))
 (.seq (.seq (.reg false c11r8)
 (.cond (.t 72)
  (.seq (.reg false c11r9)
  .ret)
  .skip))
 (.seq (.reg false c11r10)
 .ret)))))
def v11 : List Nat × List Nat := ([1], [1, 4, 8, 13, 19, 25, 31, 39, 46, 54, 60, 69])
def o11 : List RS := [.t 2]
def c12r0 : List SI := [
 bxR 1 (.t 0),
 mv 2 (.i 0)]
def c12r1 : List SI := [
 ldR 3 1 0 (some 3),
 call 4 10 [(.t 3)],
 bin 5 .neq (.t 4) (.i 0)]
def c12r2 : List SI := [
 mv 2 (.i 0)]
def c12r3 : List SI := [
 ldR 6 1 0 (some 3),
 call 7 40 [(.t 6)],
 mv 2 (.t 7)]
def c12 : SC :=
 (.seq (.reg false c12r0)
 (.seq (.seq (.reg false c12r1)
 (.cond (.t 5)
  (.seq (.reg false c12r2)
  .ret)
  .skip))
 (.seq (.reg false c12r3)
 .ret)))
def v12 : List Nat × List Nat := ([1], [1])
def o12 : List RS := [.t 2]
def c13r0 : List SI := [
 bxR 1 (.t 0),
 mv 2 (.i 0)]
def c13r1 : List SI := [
 ldR 3 1 0 (some 3),
 call 4 11 [(.t 3)],
 bin 5 .neq (.t 4) (.i 0)]
def c13r2 : List SI := [
 mv 2 (.i 0)]
def c13r3 : List SI := [
 ldR 6 1 0 (some 3),
 call 7 41 [(.t 6)],
 mv 2 (.t 7)]
def c13 : SC :=
 (.seq (.reg false c13r0)
 (.seq (.seq (.reg false c13r1)
 (.cond (.t 5)
  (.seq (.reg false c13r2)
  .ret)
  .skip))
 (.seq (.reg false c13r3)
 .ret)))
def v13 : List Nat × List Nat := ([1], [1])
def o13 : List RS := [.t 2]
theorem q13 : slimR Tryz.prog Tryz.f13.ntmps v13.1 v13.2 Tryz.f13.results.toList = some o13 := by kernel_rfl
def c14r0 : List SI := [
 mv 4 (.b false)]
def c14r1 : List SI := [
 mv 6 (.t 0),
 len 7 false (.t 6),
 mv 8 (.t 1),
 len 9 false (.t 8),
 bin 10 .neq (.t 7) (.t 9)]
def c14r2 : List SI := [
 mv 4 (.b false)]
def c14r3 : List SI := [
 mv 11 (.t 0),
 len 12 false (.t 11),
 mv 13 (.i 0)]
def c14r4 : List SI := [
 bin 14 .lss (.t 13) (.t 12)]
def c14r5 : List SI := [
 mv 15 (.t 13),
 mv 5 (.t 15)]
def c14r6 : List (Bool × SI) := [
 (true, N_ (.mv 16 (.t 0))),
 (true, N_ (.mv 17 (.t 5))),
 (true, N_ (.ixA 18 (.t 16) (.t 17) 10)),
 (true, N_ (.ld 19 (.t 18) (some 10))),
 (true, N_ (.mv 20 (.t 1))),
 (true, N_ (.mv 21 (.t 5))),
 (true, N_ (.ixA 22 (.t 20) (.t 21) 10)),
 (true, N_ (.ld 23 (.t 22) (some 10))),
 (false, N_ (.call 24 42 [(.t 19), (.t 23)])),
 (true, N_ (.un 25 .not (.t 24)))]
def c14r7 : List SI := [
 mv 4 (.b false)]
def c14r8 : List SI := [
 bin 26 .add (.t 13) (.i 1),
 mv 13 (.t 26)]
def c14r9 : List SI := [
 mv 4 (.b true)]
def c14 : SC :=
 (.seq (.reg false c14r0)
 (.seq (.seq (.reg false c14r1)
 (.cond (.t 10)
  (.seq (.reg false c14r2)
  .ret)
  .skip))
 (.seq (.seq (.reg false c14r3)
 (.blk 0 (.loop (.seq (.reg false c14r4)
   (.seq (.cond (.t 14)
    .skip
    (.exit 0))
   (.seq (.blk 1 (.seq (.reg false c14r5)
    (.seq (.rgX c14r6)
    (.cond (.t 25)
     (.seq (.reg false c14r7)
     .ret)
     .skip))))
   (.reg false c14r8)))))))
 (.seq (.reg false c14r9)
 .ret))))
def c15r0 : List SI := [
 bxR 1 (.t 0),
 mv 2 (.v (.slice none 0 0))]
def c15r1 : List SI := [
 ldR 3 1 0 (some 3),
 call 4 10 [(.t 3)],
 bin 5 .neq (.t 4) (.i 0)]
def c15r2 : List SI := [
 mv 2 (.v (.slice none 0 0))]
def c15r3 : List SI := [
 ⟨none, .ldR 6 1 0 (some 3), none, 0⟩,
 ⟨none, .nop, (some 1), 0⟩,
 ⟨none, .ldR 8 1 1 none, none, 0⟩,
 ⟨none, .call 9 44 [(.t 6), (.t 8)], none, 0⟩,
 ⟨none, .call 10 43 [(.t 9)], none, 0⟩,
 ⟨none, .mv 2 (.t 10), none, 0⟩]
def c15 : SC :=
 (.seq (.reg false c15r0)
 (.seq (.seq (.reg false c15r1)
 (.cond (.t 5)
  (.seq (.reg false c15r2)
  .ret)
  .skip))
 (.seq (.reg false c15r3)
 .ret)))
def v15 : List Nat × List Nat := ([1], [1, 7])
def o15 : List RS := [.t 2]
def c17r0 : List SI := [
 bxR 2 (.t 0),
 bxR 3 (.t 1),
 mv 4 (.b false)]
def c17r1 : List SI := [
 ⟨none, .nop, (some 2), 0⟩,
 ⟨none, .ldR 7 2 0 none, none, 0⟩,
 ⟨none, .nop, (some 3), 0⟩,
 ⟨none, .ldR 9 3 0 none, none, 0⟩,
 ⟨none, .bin 10 .neq (.t 7) (.t 9), none, 0⟩,
 ⟨none, .mv 11 (.t 10), none, 0⟩,
 ⟨some (11, false), .nop, (some 2), 99999⟩,
 ⟨some (11, false), .ldR 13 2 1 none, none, 13⟩,
 ⟨some (11, false), .nop, (some 3), 99999⟩,
 ⟨some (11, false), .ldR 15 3 1 none, none, 15⟩,
 ⟨some (11, false), .bin 16 .neq (.t 13) (.t 15), none, 16⟩,
 ⟨none, .pick 17 (.t 11) (.b true) (.t 16), none, 0⟩,
 ⟨none, .mv 18 (.t 17), none, 0⟩,
 ⟨some (18, false), .nop, (some 2), 99999⟩,
 ⟨some (18, false), .ldR 20 2 2 none, none, 20⟩,
 ⟨some (18, false), .len 21 false (.t 20), none, 21⟩,
 ⟨some (18, false), .nop, (some 3), 99999⟩,
 ⟨some (18, false), .ldR 23 3 2 none, none, 23⟩,
 ⟨some (18, false), .len 24 false (.t 23), none, 24⟩,
 ⟨some (18, false), .bin 25 .neq (.t 21) (.t 24), none, 25⟩,
 ⟨none, .pick 26 (.t 18) (.b true) (.t 25), none, 0⟩]
def c17r2 : List SI := [
 mv 4 (.b false)]
def c17r3 : List SI := [
 mv 5 (.i 0)]
def c17r4 : List SI := [
 ⟨none, .mv 27 (.t 5), none, 0⟩,
 ⟨none, .nop, (some 2), 0⟩,
 ⟨none, .ldR 29 2 2 none, none, 0⟩,
 ⟨none, .len 30 false (.t 29), none, 0⟩,
 ⟨none, .bin 31 .lss (.t 27) (.t 30), none, 0⟩]
def c17r5 : List (Bool × SI) := [
 (true, ⟨none, .nop, (some 2), 0⟩),
 (true, N_ (.ldR 35 2 2 none)),
 (true, N_ (.mv 36 (.t 5))),
 (true, N_ (.ixA 37 (.t 35) (.t 36) 2)),
 (true, N_ (.ld 38 (.t 37) (some 2))),
 (true, ⟨none, .nop, (some 3), 0⟩),
 (true, N_ (.ldR 40 3 2 none)),
 (true, N_ (.mv 41 (.t 5))),
 (true, N_ (.ixA 42 (.t 40) (.t 41) 2)),
 (true, N_ (.ld 43 (.t 42) (some 2))),
 (false, N_ (.call 44 46 [(.t 38), (.t 43)])),
 (true, N_ (.un 45 .not (.t 44)))]
def c17r6 : List SI := [
 mv 4 (.b false)]
def c17r7 : List SI := [
 mv 32 (.t 5),
 bin 33 .add (.t 32) (.i 1),
 mv 5 (.t 33)]
def c17r8 : List SI := [
 mv 4 (.b true)]
def c17 : SC :=
 (.seq (.reg false c17r0)
 (.seq (.seq (.reg false c17r1)
 (.cond (.t 26)
  (.seq (.reg false c17r2)
  .ret)
  .skip))
 (.seq (.seq (.reg false c17r3)
 (.blk 0 (.loop (.seq (.seq (.reg false c17r4)
   (.cond (.t 31)
    .skip
    (.exit 0)))
   (.seq (.blk 1 (.seq (.rgX c17r5)
    (.cond (.t 45)
     (.seq (.reg false c17r6)
     .ret)
     .skip)))
   (.reg false c17r7))))))
 (.seq (.reg false c17r8)
 .ret))))
def v17 : List Nat × List Nat := ([2, 3], [2, 3, 6, 8, 12, 14, 19, 22, 28, 34, 39])
def o17 : List RS := [.t 4]
def c18r0 : List SI := [
 bxR 1 (.t 0),
 mv 2 (.b false)]
def c18r1 : List SI := [
 mv 3 (.i 0)]
def c18r2 : List SI := [
 ⟨none, .nop, (some 1), 0⟩,
 ⟨none, .ldR 7 1 9 none, none, 0⟩,
 ⟨none, .len 8 false (.t 7), none, 0⟩,
 ⟨none, .mv 9 (.i 0), none, 0⟩]
def c18r3 : List SI := [
 bin 10 .lss (.t 9) (.t 8)]
def c18r4 : List SI := [
 ixA 11 (.t 7) (.t 9) 5,
 ld 12 (.t 11) (some 5),
 alR 5 [(.int .i64 0), (.string ⟨#[]⟩), (.string ⟨#[]⟩), (.bool false), (.int .i64 0)],
 stR 5 0 5 (.t 12)]
def c18r5 : List SI := [
 ⟨none, .mv 13 (.t 3), none, 0⟩,
 ⟨none, .nop, (some 5), 0⟩,
 ⟨none, .ldR 15 5 1 none, none, 0⟩,
 ⟨none, .len 16 true (.t 15), none, 0⟩,
 ⟨none, .nop, (some 5), 0⟩,
 ⟨none, .ldR 18 5 2 none, none, 0⟩,
 ⟨none, .len 19 true (.t 18), none, 0⟩,
 ⟨none, .bin 20 .add (.t 16) (.t 19), none, 0⟩,
 ⟨none, .bin 21 .add (.t 13) (.t 20), none, 0⟩,
 ⟨none, .mv 3 (.t 21), none, 0⟩]
def c18r6 : List SI := [
 mv 22 (.t 3),
 bin 23 .gtr (.t 22) (.i 20000)]
def c18r7 : List SI := [
 mv 2 (.b false)]
def c18r8 : List SI := [
 bin 24 .add (.t 9) (.i 1),
 mv 9 (.t 24)]
def c18r9 : List SI := [
 ⟨none, .nop, (some 1), 0⟩,
 ⟨none, .ldR 26 1 9 none, none, 0⟩,
 ⟨none, .len 27 false (.t 26), none, 0⟩,
 ⟨none, .bin 28 .leq (.t 27) (.i 100), none, 0⟩,
 ⟨none, .mv 2 (.t 28), none, 0⟩]
def c18 : SC :=
 (.seq (.reg false c18r0)
 (.seq (.reg false c18r1)
 (.seq (.seq (.reg false c18r2)
 (.blk 0 (.loop (.seq (.reg false c18r3)
   (.seq (.cond (.t 10)
    .skip
    (.exit 0))
   (.seq (.blk 1 (.seq (.reg false c18r4)
    (.seq (.reg false c18r5)
    (.seq (.reg false c18r6)
    (.cond (.t 23)
     (.seq (.reg false c18r7)
     .ret)
     .skip)))))
   (.reg false c18r8)))))))
 (.seq (.reg false c18r9)
 .ret))))
def v18 : List Nat × List Nat := ([1, 5], [1, 5, 6, 14, 17, 25])
def o18 : List RS := [.t 2]
def c19r0 : List SI := [
 bxR 2 (.t 0),
 bxR 3 (.t 1),
 alR 4 [(.int .i64 0), (.int .i64 0), (.slice none 0 0)],
 mv 5 (.i 0)]
def c19r1 : List SI := [
 ldR 11 2 0 (some 3),
 call 12 10 [(.t 11)],
 mv 6 (.t 12)]
def c19r2 : List SI := [
 mv 13 (.t 6),
 bin 14 .eql (.t 13) (.i 0)]
def c19r3 : List SI := [
 ldR 15 3 0 (some 10),
 call 16 47 [(.t 15)],
 mv 6 (.t 16)]
def c19r4 : List SI := [
 mv 18 (.t 6),
 bin 19 .neq (.t 18) (.i 0),
 mv 17 (.t 19)]
def c19r5 : List SI := [
 bld 20 [(.int .i64 0), (.int .i64 0), (.slice none 0 0)] [],
 mv 21 (.t 6),
 stR 4 0 3 (.t 20),
 mv 5 (.t 21)]
def c19r6 : List (Bool × SI) := [
 (true, ⟨none, .nop, (some 3), 0⟩),
 (true, N_ (.ldR 24 3 0 none)),
 (true, N_ (.ldR 25 2 0 (some 3))),
 (false, N_ (.call 26 40 [(.t 25)])),
 (true, N_ (.bin 27 .lss (.t 24) (.t 26))),
 (true, N_ (.mv 22 (.t 27)))]
def c19r7 : List SI := [
 bld 28 [(.int .i64 0), (.int .i64 0), (.slice none 0 0)] [],
 stR 4 0 3 (.t 28),
 mv 5 (.i 71)]
def c19r8 : List (Bool × SI) := [
 (true, N_ (.ldR 30 3 0 (some 10))),
 (true, ⟨none, .nop, (some 2), 0⟩),
 (true, N_ (.ldR 33 2 0 none)),
 (false, N_ (.call 31 48 [(.t 30)])),
 (true, N_ (.bin 34 .gtr (.t 31) (.t 33))),
 (true, N_ (.mv 29 (.t 34)))]
def c19r9 : List SI := [
 bld 35 [(.int .i64 0), (.int .i64 0), (.slice none 0 0)] [],
 stR 4 0 3 (.t 35),
 mv 5 (.i 70)]
def c19r10 : List SI := [
 ldR 36 2 0 (some 3),
 call 37 49 [(.t 36)],
 mv 7 (.t 37)]
def c19r11 : RX := .br [(true, ⟨none, .nop, (some 2), 0⟩),
 (true, N_ (.ldR 40 2 2 none)),
 (true, N_ (.mv 41 (.t 7))),
 (true, N_ (.ixA 42 (.t 40) (.t 41) 2)),
 (true, N_ (.ld 43 (.t 42) (some 2))),
 (true, N_ (.ldR 44 3 0 (some 10))),
 (true, ⟨none, .nop, (some 2), 0⟩),
 (true, N_ (.ldR 46 2 0 none))]
 ⟨none, .call 47 50 [(.t 43), (.t 44), (.t 46)], none, 0⟩
 (.leaf [(true, N_ (.mv 38 (.t 47))),
 (true, N_ (.ext 48 (.t 38) 0)),
 (true, N_ (.ext 49 (.t 38) 1)),
 (false, N_ (.al 8 [(.int .i64 0), (.slice none 0 0)])),
 (false, N_ (.st (.t 8) 2 (.t 48))),
 (true, N_ (.mv 9 (.t 49)))])
 ⟨none, .al 8 [(.int .i64 0), (.slice none 0 0)], none, 0⟩
 (.leaf [(false, N_ (.call 47 50 [(.t 43), (.t 44), (.t 46)])),
 (true, N_ (.mv 38 (.t 47))),
 (true, N_ (.ext 48 (.t 38) 0)),
 (true, N_ (.ext 49 (.t 38) 1)),
 (false, N_ (.st (.t 8) 2 (.t 48))),
 (true, N_ (.mv 9 (.t 49)))])
def c19r12 : List SI := [
 mv 50 (.t 9),
 bin 51 .eql (.t 50) (.i 0)]
def c19r13 : RX := .br [(true, N_ (.ldR 52 2 0 (some 3))),
 (true, ⟨none, .nop, (some 2), 0⟩),
 (true, N_ (.ldR 54 2 2 none)),
 (true, N_ (.mv 55 (.t 7))),
 (true, N_ (.sl 56 (.t 54) none (some (.t 55)) none 2)),
 (true, N_ (.ld 58 (.t 8) (some 2)))]
 ⟨none, .call 57 52 [(.t 56)], none, 0⟩
 (.leaf [(false, N_ (.bls 59 55 1 2 [(.int .i64 0), (.slice none 0 0)] [(0, 2, (.t 58))])),
 (false, N_ (.app 60 (.t 57) (.t 59) 55 2 32)),
 (false, N_ (.call 61 51 [(.t 52), (.t 60)])),
 (false, N_ (.stR 4 0 3 (.t 61))),
 (true, N_ (.mv 5 (.i 0)))])
 ⟨none, .bls 59 55 1 2 [(.int .i64 0), (.slice none 0 0)] [(0, 2, (.t 58))], none, 0⟩
 (.leaf [(false, N_ (.call 57 52 [(.t 56)])),
 (false, N_ (.app 60 (.t 57) (.t 59) 55 2 32)),
 (false, N_ (.call 61 51 [(.t 52), (.t 60)])),
 (false, N_ (.stR 4 0 3 (.t 61))),
 (true, N_ (.mv 5 (.i 0)))])
def c19r14 : List SI := [
 ⟨none, .nop, (some 2), 0⟩,
 ⟨none, .ldR 63 2 2 none, none, 0⟩,
 ⟨none, .len 64 false (.t 63), none, 0⟩,
 ⟨none, .bin 65 .eql (.t 64) (.i 256), none, 0⟩]
def c19r15 : List SI := [
 bld 66 [(.int .i64 0), (.int .i64 0), (.slice none 0 0)] [],
 stR 4 0 3 (.t 66),
 mv 5 (.i 2)]
def c19r16 : List SI := [
 ⟨none, .nop, (some 3), 0⟩,
 ⟨none, .ldR 69 3 0 none, none, 0⟩,
 ⟨none, .ldR 70 3 0 (some 10), none, 0⟩,
 ⟨none, .bls 71 39 1 10 [(.int .i64 0), (.int .i64 0), (.int .i64 0), (.int .i64 0), (.int .i64 0), (.int .i64 0), (.int .i64 0), (.bool false), (.int .i64 0), (.slice none 0 0)] [(0, 10, (.t 70))], none, 0⟩,
 ⟨none, .nop, (some 2), 0⟩,
 ⟨none, .ldR 73 2 0 none, none, 0⟩,
 ⟨none, .call 74 53 [(.t 69), (.t 71), (.t 73)], none, 0⟩,
 ⟨none, .mv 67 (.t 74), none, 0⟩,
 ⟨none, .ext 75 (.t 67) 0, none, 0⟩,
 ⟨none, .ext 76 (.t 67) 1, none, 0⟩,
 ⟨none, .alR 10 [(.int .i64 0), (.slice none 0 0)], none, 0⟩,
 ⟨none, .stR 10 0 2 (.t 75), none, 0⟩,
 ⟨none, .mv 6 (.t 76), none, 0⟩]
def c19r17 : List SI := [
 mv 77 (.t 6),
 bin 78 .neq (.t 77) (.i 0)]
def c19r18 : List SI := [
 bld 79 [(.int .i64 0), (.int .i64 0), (.slice none 0 0)] [],
 mv 80 (.t 6),
 stR 4 0 3 (.t 79),
 mv 5 (.t 80)]
def c19r19 : RX := .br [(true, N_ (.ldR 81 2 0 (some 3))),
 (true, ⟨none, .nop, (some 2), 0⟩),
 (true, N_ (.ldR 83 2 2 none)),
 (true, N_ (.ldR 85 10 0 (some 2)))]
 ⟨none, .call 84 52 [(.t 83)], none, 0⟩
 (.leaf [(false, N_ (.bls 86 55 1 2 [(.int .i64 0), (.slice none 0 0)] [(0, 2, (.t 85))])),
 (false, N_ (.app 87 (.t 84) (.t 86) 55 2 32)),
 (false, N_ (.call 88 51 [(.t 81), (.t 87)])),
 (false, N_ (.stR 4 0 3 (.t 88))),
 (true, N_ (.mv 5 (.i 0)))])
 ⟨none, .bls 86 55 1 2 [(.int .i64 0), (.slice none 0 0)] [(0, 2, (.t 85))], none, 0⟩
 (.leaf [(false, N_ (.call 84 52 [(.t 83)])),
 (false, N_ (.app 87 (.t 84) (.t 86) 55 2 32)),
 (false, N_ (.call 88 51 [(.t 81), (.t 87)])),
 (false, N_ (.stR 4 0 3 (.t 88))),
 (true, N_ (.mv 5 (.i 0)))])
def c19 : SC :=
 (.seq (.reg false c19r0)
 (.seq (.reg false c19r1)
 (.seq (.seq (.reg false c19r2)
 (.cond (.t 14)
  (.reg false c19r3)
  .skip))
 (.seq (.blk 0 (.seq (.reg false c19r4)
  (.cond (.t 17)
   (.seq (.reg false c19r5)
   .ret)
   (.seq (.rgX c19r6)
   (.cond (.t 22)
    (.seq (.reg false c19r7)
    .ret)
    (.seq (.rgX c19r8)
    (.cond (.t 29)
     (.seq (.reg false c19r9)
     .ret)
     .skip)))))))
 (.seq (.reg false c19r10)
 (.seq (.seq (.rgZ c19r11)
 (.seq (.reg false c19r12)
 (.cond (.t 51)
  (.seq (.rgZ c19r13)
  .ret)
  .skip)))
 (.seq (.seq (.reg false c19r14)
 (.cond (.t 65)
  (.seq (.reg false c19r15)
  .ret)
  .skip))
 (.seq (.reg false c19r16)
 (.seq (.seq (.reg false c19r17)
 (.cond (.t 78)
  (.seq (.reg false c19r18)
  .ret)
  .skip))
 (.seq (.rgZ c19r19)
 .ret))))))))))
def v19 : List Nat × List Nat := ([2, 3, 4, 10], [2, 3, 4, 10, 23, 32, 39, 45, 53, 62, 68, 72, 82])
def o19 : List RS := [.r 4 (some 3), .t 5]
def c20r0 : List SI := [
 bxR 2 (.t 0),
 bxR 3 (.t 1),
 alR 4 [(.int .i64 0), (.int .i64 0), (.slice none 0 0)],
 mv 5 (.i 0)]
def c20r1 : List SI := [
 ldR 14 2 0 (some 3),
 call 15 11 [(.t 14)],
 mv 6 (.t 15)]
def c20r2 : List SI := [
 mv 16 (.t 6),
 bin 17 .neq (.t 16) (.i 0)]
def c20r3 : List SI := [
 bld 18 [(.int .i64 0), (.int .i64 0), (.slice none 0 0)] [],
 mv 19 (.t 6),
 stR 4 0 3 (.t 18),
 mv 5 (.t 19)]
def c20r4 : List SI := [
 ldR 20 3 0 (some 10),
 call 21 54 [(.t 20)],
 mv 7 (.t 21)]
def c20r5 : List SI := [
 mv 22 (.t 7),
 bin 23 .neq (.t 22) (.i 0)]
def c20r6 : List SI := [
 bld 24 [(.int .i64 0), (.int .i64 0), (.slice none 0 0)] [],
 mv 25 (.t 7),
 stR 4 0 3 (.t 24),
 mv 5 (.t 25)]
def c20r7 : List (Bool × SI) := [
 (true, ⟨none, .nop, (some 3), 0⟩),
 (true, N_ (.ldR 27 3 0 none)),
 (true, N_ (.ldR 28 2 0 (some 3))),
 (false, N_ (.call 29 41 [(.t 28)])),
 (true, N_ (.bin 30 .lss (.t 27) (.t 29)))]
def c20r8 : List SI := [
 bld 31 [(.int .i64 0), (.int .i64 0), (.slice none 0 0)] [],
 stR 4 0 3 (.t 31),
 mv 5 (.i 71)]
def c20r9 : List (Bool × SI) := [
 (true, N_ (.ldR 32 3 0 (some 10))),
 (true, ⟨none, .nop, (some 2), 0⟩),
 (true, N_ (.ldR 35 2 0 none)),
 (false, N_ (.call 33 55 [(.t 32)])),
 (true, N_ (.bin 36 .gtr (.t 33) (.t 35)))]
def c20r10 : List SI := [
 bld 37 [(.int .i64 0), (.int .i64 0), (.slice none 0 0)] [],
 stR 4 0 3 (.t 37),
 mv 5 (.i 70)]
def c20r11 : List SI := [
 ⟨none, .nop, (some 2), 0⟩,
 ⟨none, .ldR 39 2 2 none, none, 0⟩,
 ⟨none, .len 40 false (.t 39), none, 0⟩,
 ⟨none, .bin 41 .sub (.t 40) (.i 1), none, 0⟩,
 ⟨none, .mv 8 (.t 41), none, 0⟩]
def c20r12 : RX := .br [(true, ⟨none, .nop, (some 2), 0⟩),
 (true, N_ (.ldR 44 2 2 none)),
 (true, N_ (.mv 45 (.t 8))),
 (true, N_ (.ixA 46 (.t 44) (.t 45) 2)),
 (true, N_ (.ld 47 (.t 46) (some 2))),
 (true, N_ (.ldR 48 3 0 (some 10))),
 (true, ⟨none, .nop, (some 2), 0⟩),
 (true, N_ (.ldR 50 2 0 none))]
 ⟨none, .call 51 56 [(.t 47), (.t 48), (.t 50)], none, 0⟩
 (.leaf [(true, N_ (.mv 42 (.t 51))),
 (true, N_ (.ext 52 (.t 42) 0)),
 (true, N_ (.ext 53 (.t 42) 1)),
 (false, N_ (.al 9 [(.int .i64 0), (.slice none 0 0)])),
 (false, N_ (.st (.t 9) 2 (.t 52))),
 (true, N_ (.mv 10 (.t 53)))])
 ⟨none, .al 9 [(.int .i64 0), (.slice none 0 0)], none, 0⟩
 (.leaf [(false, N_ (.call 51 56 [(.t 47), (.t 48), (.t 50)])),
 (true, N_ (.mv 42 (.t 51))),
 (true, N_ (.ext 52 (.t 42) 0)),
 (true, N_ (.ext 53 (.t 42) 1)),
 (false, N_ (.st (.t 9) 2 (.t 52))),
 (true, N_ (.mv 10 (.t 53)))])
def c20r13 : List SI := [
 mv 54 (.t 10),
 bin 55 .eql (.t 54) (.i 0)]
def c20r14 : List SI := [
 ldR 56 2 0 (some 3),
 mv 57 (.t 8),
 ld 58 (.t 9) (some 2),
 call 59 57 [(.t 56), (.t 57), (.t 58)],
 stR 4 0 3 (.t 59),
 mv 5 (.i 0)]
def c20r15 : List SI := [
 ⟨none, .nop, (some 2), 0⟩,
 ⟨none, .ldR 61 2 2 none, none, 0⟩,
 ⟨none, .len 62 false (.t 61), none, 0⟩,
 ⟨none, .bin 63 .eql (.t 62) (.i 256), none, 0⟩]
def c20r16 : List SI := [
 bld 64 [(.int .i64 0), (.int .i64 0), (.slice none 0 0)] [],
 stR 4 0 3 (.t 64),
 mv 5 (.i 2)]
def c20r17 : List SI := [
 ⟨none, .nop, (some 3), 0⟩,
 ⟨none, .ldR 67 3 0 none, none, 0⟩,
 ⟨none, .ldR 68 3 0 (some 10), none, 0⟩,
 ⟨none, .bls 69 39 1 10 [(.int .i64 0), (.int .i64 0), (.int .i64 0), (.int .i64 0), (.int .i64 0), (.int .i64 0), (.int .i64 0), (.bool false), (.int .i64 0), (.slice none 0 0)] [(0, 10, (.t 68))], none, 0⟩,
 ⟨none, .nop, (some 2), 0⟩,
 ⟨none, .ldR 71 2 0 none, none, 0⟩,
 ⟨none, .call 72 58 [(.t 67), (.t 69), (.t 71)], none, 0⟩,
 ⟨none, .mv 65 (.t 72), none, 0⟩,
 ⟨none, .ext 73 (.t 65) 0, none, 0⟩,
 ⟨none, .ext 74 (.t 65) 1, none, 0⟩,
 ⟨none, .alR 11 [(.int .i64 0), (.slice none 0 0)], none, 0⟩,
 ⟨none, .stR 11 0 2 (.t 73), none, 0⟩,
 ⟨none, .mv 12 (.t 74), none, 0⟩]
def c20r18 : List SI := [
 ⟨none, .bl0 75, none, 0⟩,
 ⟨none, .nop, (some 2), 0⟩,
 ⟨none, .ldR 77 2 2 none, none, 0⟩,
 ⟨none, .app 78 (.t 75) (.t 77) 55 2 32, none, 0⟩,
 ⟨none, .mv 13 (.t 78), none, 0⟩]
def c20r19 : List SI := [
 mv 79 (.t 13),
 ldR 80 11 0 (some 2),
 bls 81 55 1 2 [(.int .i64 0), (.slice none 0 0)] [(0, 2, (.t 80))],
 app 82 (.t 79) (.t 81) 55 2 32,
 mv 13 (.t 82)]
def c20r20 : List SI := [
 ⟨none, .mv 83 (.t 13), none, 0⟩,
 ⟨none, .nop, (some 2), 0⟩,
 ⟨none, .stR 2 2 1 (.t 83), none, 0⟩]
def c20r21 : List SI := [
 ldR 85 2 0 (some 3),
 stR 4 0 3 (.t 85),
 mv 5 (.i 0)]
def c20 : SC :=
 (.seq (.reg false c20r0)
 (.seq (.reg false c20r1)
 (.seq (.seq (.reg false c20r2)
 (.cond (.t 17)
  (.seq (.reg false c20r3)
  .ret)
  .skip))
 (.seq (.reg false c20r4)
 (.seq (.seq (.reg false c20r5)
 (.cond (.t 23)
  (.seq (.reg false c20r6)
  .ret)
  .skip))
 (.seq (.seq (.rgX c20r7)
 (.cond (.t 30)
  (.seq (.reg false c20r8)
  .ret)
  .skip))
 (.seq (.seq (.rgX c20r9)
 (.cond (.t 36)
  (.seq (.reg false c20r10)
  .ret)
  .skip))
 (.seq (.reg false c20r11)
 (.seq (.rgZ c20r12)
 (.seq (.seq (.reg false c20r13)
 (.cond (.t 55)
  (.seq (.reg false c20r14)
  .ret)
  .skip))
 (.seq (.seq (.reg false c20r15)
 (.cond (.t 63)
  (.seq (.reg false c20r16)
  .ret)
  .skip))
 (.seq (.reg false c20r17)
 (.seq (.reg false c20r18)
 (.seq (.reg false c20r19)
 (.seq (.reg false c20r20)
 (.seq (.reg false c20r21)
 .ret))))))))))))))))
def v20 : List Nat × List Nat := ([2, 3, 4, 11], [2, 3, 4, 11, 26, 34, 38, 43, 49, 60, 66, 70, 76, 84])
def o20 : List RS := [.r 4 (some 3), .t 5]
def c21r0 : List SI := [
 bx 2 (.t 0),
 bx 3 (.t 1),
 alR 4 [(.int .i64 0), (.int .i64 0), (.slice none 0 0)],
 mv 5 (.i 0)]
def c21r1 : List SI := [
 ld 6 (.t 2) (some 3),
 ld 7 (.t 3) none,
 mkf 8 (.func 60) [(.t 2), (.t 3)],
 call 9 59 [(.t 6), (.t 7), (.t 8)],
 ext 10 (.t 9) 0,
 ext 11 (.t 9) 1,
 stR 4 0 3 (.t 10),
 mv 5 (.t 11)]
def c21 : SC :=
 (.seq (.reg false c21r0)
 (.seq (.reg false c21r1)
 .ret))
def v21 : List Nat × List Nat := ([4], [4])
def o21 : List RS := [.r 4 (some 3), .t 5]
def c22r0 : List SI := [
 bxR 2 (.t 0),
 alR 4 [(.int .i64 0), (.int .i64 0), (.slice none 0 0)],
 mv 5 (.i 0)]
def c22r1 : List SI := [
 ldR 9 2 0 (some 3),
 call 10 11 [(.t 9)],
 mv 6 (.t 10)]
def c22r2 : List SI := [
 mv 11 (.t 6),
 bin 12 .neq (.t 11) (.i 0)]
def c22r3 : List SI := [
 bld 13 [(.int .i64 0), (.int .i64 0), (.slice none 0 0)] [],
 mv 14 (.t 6),
 stR 4 0 3 (.t 13),
 mv 5 (.t 14)]
def c22r4 : List SI := [
 ldR 15 2 0 (some 3),
 mv 16 (.t 1),
 call 17 62 [(.t 15), (.t 16)],
 un 18 .not (.t 17)]
def c22r5 : List SI := [
 bld 19 [(.int .i64 0), (.int .i64 0), (.slice none 0 0)] [],
 stR 4 0 3 (.t 19),
 mv 5 (.i 90)]
def c22r6 : List SI := [
 mv 7 (.v (.slice none 0 0))]
def c22r7 : List SI := [
 mv 8 (.i 0)]
def c22r8 : List SI := [
 ⟨none, .mv 20 (.t 8), none, 0⟩,
 ⟨none, .nop, (some 2), 0⟩,
 ⟨none, .ldR 22 2 2 none, none, 0⟩,
 ⟨none, .len 23 false (.t 22), none, 0⟩,
 ⟨none, .bin 24 .lss (.t 20) (.t 23), none, 0⟩]
def c22r9 : List SI := [
 ⟨none, .nop, (some 2), 0⟩,
 ⟨none, .ldR 28 2 2 none, none, 0⟩,
 ⟨none, .mv 29 (.t 8), none, 0⟩,
 ⟨none, .ixA 30 (.t 28) (.t 29) 2, none, 0⟩,
 ⟨none, .flA 31 (.t 30) 0, none, 0⟩,
 ⟨none, .ld 32 (.t 31) none, none, 0⟩,
 ⟨none, .mv 33 (.t 1), none, 0⟩,
 ⟨none, .bin 34 .lss (.t 32) (.t 33), none, 0⟩]
def c22r10 : List SI := [
 ⟨none, .mv 35 (.t 7), none, 0⟩,
 ⟨none, .nop, (some 2), 0⟩,
 ⟨none, .ldR 37 2 2 none, none, 0⟩,
 ⟨none, .mv 38 (.t 8), none, 0⟩,
 ⟨none, .ixA 39 (.t 37) (.t 38) 2, none, 0⟩,
 ⟨none, .ld 40 (.t 39) (some 2), none, 0⟩,
 ⟨none, .mv 41 (.t 1), none, 0⟩,
 ⟨none, .call 42 63 [(.t 40), (.t 41)], none, 0⟩,
 ⟨none, .bls 43 55 1 2 [(.int .i64 0), (.slice none 0 0)] [(0, 2, (.t 42))], none, 0⟩,
 ⟨none, .app 44 (.t 35) (.t 43) 55 2 32, none, 0⟩,
 ⟨none, .mv 7 (.t 44), none, 0⟩]
def c22r11 : List SI := [
 mv 25 (.t 8),
 bin 26 .add (.t 25) (.i 1),
 mv 8 (.t 26)]
def c22r12 : List SI := [
 mv 45 (.t 7),
 len 46 false (.t 45),
 bin 47 .eql (.t 46) (.i 0)]
def c22r13 : List SI := [
 mv 48 (.t 7),
 mv 49 (.t 1),
 bld 50 [(.int .i64 0), (.slice none 0 0)] [(0, 1, (.t 49))],
 bls 51 55 1 2 [(.int .i64 0), (.slice none 0 0)] [(0, 2, (.t 50))],
 app 52 (.t 48) (.t 51) 55 2 32,
 mv 7 (.t 52)]
def c22r14 : List SI := [
 ⟨none, .mv 53 (.t 7), none, 0⟩,
 ⟨none, .nop, (some 2), 0⟩,
 ⟨none, .stR 2 2 1 (.t 53), none, 0⟩]
def c22r15 : List SI := [
 ldR 55 2 0 (some 3),
 stR 4 0 3 (.t 55),
 mv 5 (.i 0)]
def c22 : SC :=
 (.seq (.reg false c22r0)
 (.seq (.reg false c22r1)
 (.seq (.seq (.reg false c22r2)
 (.cond (.t 12)
  (.seq (.reg false c22r3)
  .ret)
  .skip))
 (.seq (.seq (.reg false c22r4)
 (.cond (.t 18)
  (.seq (.reg false c22r5)
  .ret)
  .skip))
 (.seq (.reg false c22r6)
 (.seq (.seq (.reg false c22r7)
 (.blk 0 (.loop (.seq (.seq (.reg false c22r8)
   (.cond (.t 24)
    .skip
    (.exit 0)))
   (.seq (.blk 1 (.seq (.reg false c22r9)
    (.cond (.t 34)
     (.reg false c22r10)
     .skip)))
   (.reg false c22r11))))))
 (.seq (.seq (.reg false c22r12)
 (.cond (.t 47)
  (.reg false c22r13)
  .skip))
 (.seq (.reg false c22r14)
 (.seq (.reg false c22r15)
 .ret)))))))))
def v22 : List Nat × List Nat := ([2, 4], [2, 4, 21, 27, 36, 54])
def o22 : List RS := [.r 4 (some 3), .t 5]
def c23r0 : List SI := [
 bx 2 (.t 0),
 bx 3 (.t 1),
 alR 4 [(.int .i64 0), (.int .i64 0), (.slice none 0 0)],
 mv 5 (.i 0)]
def c23r1 : List SI := [
 ⟨none, .ld 6 (.t 3) none, none, 0⟩,
 ⟨none, .call 7 64 [(.t 6)], none, 0⟩,
 ⟨none, .un 8 .not (.t 7), none, 0⟩,
 ⟨none, .mv 9 (.t 8), none, 0⟩,
 ⟨some (9, true), .ld 10 (.t 2) (some 3), none, 10⟩,
 ⟨some (9, true), .call 11 10 [(.t 10)], none, 11⟩,
 ⟨some (9, true), .bin 12 .eql (.t 11) (.i 0), none, 12⟩,
 ⟨none, .pick 13 (.t 9) (.t 12) (.b false), none, 0⟩]
def c23r2 : List SI := [
 bld 14 [(.int .i64 0), (.int .i64 0), (.slice none 0 0)] [],
 stR 4 0 3 (.t 14),
 mv 5 (.i 90)]
def c23r3 : List SI := [
 ld 15 (.t 2) (some 3),
 ld 16 (.t 3) none,
 mkf 17 (.func 65) [(.t 2), (.t 3)],
 call 18 59 [(.t 15), (.t 16), (.t 17)],
 ext 19 (.t 18) 0,
 ext 20 (.t 18) 1,
 stR 4 0 3 (.t 19),
 mv 5 (.t 20)]
def c23 : SC :=
 (.seq (.reg false c23r0)
 (.seq (.seq (.reg false c23r1)
 (.cond (.t 13)
  (.seq (.reg false c23r2)
  .ret)
  .skip))
 (.seq (.reg false c23r3)
 .ret)))
def v23 : List Nat × List Nat := ([4], [4])
def o23 : List RS := [.r 4 (some 3), .t 5]
def c24r0 : List SI := [
 bxR 2 (.t 0),
 alR 4 [(.int .i64 0), (.int .i64 0), (.slice none 0 0)],
 mv 5 (.i 0)]
def c24r1 : List SI := [
 ldR 8 2 0 (some 3),
 call 9 11 [(.t 8)],
 mv 6 (.t 9)]
def c24r2 : List SI := [
 mv 10 (.t 6),
 bin 11 .neq (.t 10) (.i 0)]
def c24r3 : List SI := [
 bld 12 [(.int .i64 0), (.int .i64 0), (.slice none 0 0)] [],
 mv 13 (.t 6),
 stR 4 0 3 (.t 12),
 mv 5 (.t 13)]
def c24r4 : List SI := [
 ⟨none, .ldR 14 2 0 (some 3), none, 0⟩,
 ⟨none, .mv 15 (.t 1), none, 0⟩,
 ⟨none, .call 16 62 [(.t 14), (.t 15)], none, 0⟩,
 ⟨none, .un 17 .not (.t 16), none, 0⟩,
 ⟨none, .mv 18 (.t 17), none, 0⟩,
 ⟨some (18, false), .mv 19 (.t 1), none, 19⟩,
 ⟨some (18, false), .call 20 35 [(.t 19)], none, 20⟩,
 ⟨some (18, false), .un 21 .not (.t 20), none, 21⟩,
 ⟨none, .pick 22 (.t 18) (.b true) (.t 21), none, 0⟩]
def c24r5 : List SI := [
 bld 23 [(.int .i64 0), (.int .i64 0), (.slice none 0 0)] [],
 stR 4 0 3 (.t 23),
 mv 5 (.i 90)]
def c24r6 : List SI := [
 mv 7 (.i 0)]
def c24r7 : List SI := [
 ⟨none, .mv 24 (.t 7), none, 0⟩,
 ⟨none, .nop, (some 2), 0⟩,
 ⟨none, .ldR 26 2 2 none, none, 0⟩,
 ⟨none, .len 27 false (.t 26), none, 0⟩,
 ⟨none, .bin 28 .sub (.t 27) (.i 1), none, 0⟩,
 ⟨none, .bin 29 .lss (.t 24) (.t 28), none, 0⟩,
 ⟨none, .mv 30 (.t 29), none, 0⟩,
 ⟨some (30, true), .nop, (some 2), 99999⟩,
 ⟨some (30, true), .ldR 32 2 2 none, none, 32⟩,
 ⟨some (30, true), .mv 33 (.t 7), none, 33⟩,
 ⟨some (30, true), .ixA 34 (.t 32) (.t 33) 2, none, 34⟩,
 ⟨some (30, true), .ld 35 (.t 34) (some 2), none, 35⟩,
 ⟨some (30, true), .call 36 69 [(.t 35)], none, 36⟩,
 ⟨some (30, true), .mv 37 (.t 1), none, 37⟩,
 ⟨some (30, true), .bin 38 .leq (.t 36) (.t 37), none, 38⟩,
 ⟨none, .pick 39 (.t 30) (.t 38) (.b false), none, 0⟩]
def c24r8 : List SI := [
 mv 40 (.t 7),
 bin 41 .add (.t 40) (.i 1),
 mv 7 (.t 41)]
def c24r9 : List (Bool × SI) := [
 (true, ⟨none, .nop, (some 2), 0⟩),
 (true, N_ (.ldR 43 2 0 none)),
 (true, N_ (.mv 44 (.t 1))),
 (true, ⟨none, .nop, (some 2), 0⟩),
 (true, N_ (.ldR 46 2 2 none)),
 (true, N_ (.mv 47 (.t 7))),
 (true, N_ (.sl 48 (.t 46) (some (.t 47)) none none 2)),
 (true, N_ (.bld 49 [(.int .i64 0), (.int .i64 0), (.slice none 0 0)] [(0, 1, (.t 43)), (1, 1, (.t 44)), (2, 1, (.t 48))]))]
def c24r10 : List SI := [
 stR 4 0 3 (.t 49),
 mv 5 (.i 0)]
def c24 : SC :=
 (.seq (.reg false c24r0)
 (.seq (.reg false c24r1)
 (.seq (.seq (.reg false c24r2)
 (.cond (.t 11)
  (.seq (.reg false c24r3)
  .ret)
  .skip))
 (.seq (.seq (.reg false c24r4)
 (.cond (.t 22)
  (.seq (.reg false c24r5)
  .ret)
  .skip))
 (.seq (.reg false c24r6)
 (.seq (.blk 0 (.loop (.seq (.seq (.reg false c24r7)
   (.cond (.t 39)
    .skip
    (.exit 0)))
   (.blk 1 (.reg false c24r8)))))
 (.seq (.rgY c24r9 c24r10)
 .ret)))))))
def v24 : List Nat × List Nat := ([2, 4], [2, 4, 25, 31, 42, 45])
def o24 : List RS := [.r 4 (some 3), .t 5]
def c25r0 : List SI := [
 bxR 3 (.t 0),
 alR 6 [(.int .i64 0), (.int .i64 0), (.slice none 0 0)],
 mv 7 (.i 0)]
def c25r1 : List SI := [
 ldR 12 3 0 (some 3),
 call 13 10 [(.t 12)],
 mv 8 (.t 13)]
def c25r2 : List SI := [
 mv 14 (.t 8),
 bin 15 .neq (.t 14) (.i 0)]
def c25r3 : List SI := [
 bld 16 [(.int .i64 0), (.int .i64 0), (.slice none 0 0)] [],
 mv 17 (.t 8),
 stR 6 0 3 (.t 16),
 mv 7 (.t 17)]
def c25r4 : List SI := [
 ⟨none, .mv 18 (.t 1), none, 0⟩,
 ⟨none, .bin 19 .lss (.t 18) (.i 0), none, 0⟩,
 ⟨none, .mv 20 (.t 19), none, 0⟩,
 ⟨some (20, false), .mv 21 (.t 1), none, 21⟩,
 ⟨some (20, false), .ldR 22 3 0 (some 3), none, 22⟩,
 ⟨some (20, false), .call 23 49 [(.t 22)], none, 23⟩,
 ⟨some (20, false), .bin 24 .geq (.t 21) (.t 23), none, 24⟩,
 ⟨none, .pick 25 (.t 20) (.b true) (.t 24), none, 0⟩]
def c25r5 : List SI := [
 bld 26 [(.int .i64 0), (.int .i64 0), (.slice none 0 0)] [],
 stR 6 0 3 (.t 26),
 mv 7 (.i 90)]
def c25r6 : RX := .br [(true, ⟨none, .nop, (some 3), 0⟩),
 (true, N_ (.ldR 29 3 2 none)),
 (true, N_ (.mv 30 (.t 1))),
 (true, N_ (.ixA 31 (.t 29) (.t 30) 2)),
 (true, N_ (.flA 32 (.t 31) 0)),
 (true, N_ (.ld 33 (.t 32) none)),
 (true, N_ (.mv 34 (.t 2))),
 (true, ⟨none, .nop, (some 3), 0⟩),
 (true, N_ (.ldR 36 3 0 none))]
 ⟨none, .call 37 53 [(.t 33), (.t 34), (.t 36)], none, 0⟩
 (.leaf [(true, N_ (.mv 27 (.t 37))),
 (true, N_ (.ext 38 (.t 27) 0)),
 (true, N_ (.ext 39 (.t 27) 1)),
 (false, N_ (.al 9 [(.int .i64 0), (.slice none 0 0)])),
 (false, N_ (.st (.t 9) 2 (.t 38))),
 (true, N_ (.mv 10 (.t 39)))])
 ⟨none, .al 9 [(.int .i64 0), (.slice none 0 0)], none, 0⟩
 (.leaf [(false, N_ (.call 37 53 [(.t 33), (.t 34), (.t 36)])),
 (true, N_ (.mv 27 (.t 37))),
 (true, N_ (.ext 38 (.t 27) 0)),
 (true, N_ (.ext 39 (.t 27) 1)),
 (false, N_ (.st (.t 9) 2 (.t 38))),
 (true, N_ (.mv 10 (.t 39)))])
def c25r7 : List (Bool × SI) := [
 (true, N_ (.mv 40 (.t 10))),
 (true, N_ (.bin 41 .eql (.t 40) (.i 0))),
 (true, N_ (.mv 42 (.t 41))),
 (true, ⟨some (42, true), .ld 43 (.t 9) (some 2), none, 43⟩),
 (true, ⟨some (42, true), .nop, (some 3), 99999⟩),
 (true, ⟨some (42, true), .ldR 46 3 2 none, none, 46⟩),
 (true, ⟨some (42, true), .mv 47 (.t 1), none, 47⟩),
 (true, ⟨some (42, true), .bin 48 .add (.t 47) (.i 1), none, 48⟩),
 (true, ⟨some (42, true), .ixA 49 (.t 46) (.t 48) 2, none, 49⟩),
 (true, ⟨some (42, true), .flA 50 (.t 49) 0, none, 50⟩),
 (true, ⟨some (42, true), .ld 51 (.t 50) none, none, 51⟩),
 (false, ⟨some (42, true), .call 44 68 [(.t 43)], none, 44⟩),
 (true, ⟨some (42, true), .bin 52 .gtr (.t 44) (.t 51), none, 52⟩),
 (true, N_ (.pick 53 (.t 42) (.t 52) (.b false)))]
def c25r8 : List SI := [
 mv 10 (.i 71)]
def c25r9 : List SI := [
 mv 54 (.t 10),
 bin 55 .neq (.t 54) (.i 0)]
def c25r10 : List SI := [
 bld 56 [(.int .i64 0), (.int .i64 0), (.slice none 0 0)] [],
 mv 57 (.t 10),
 stR 6 0 3 (.t 56),
 mv 7 (.t 57)]
def c25r11 : List SI := [
 ⟨none, .nop, (some 3), 0⟩,
 ⟨none, .ldR 59 3 2 none, none, 0⟩,
 ⟨none, .call 60 52 [(.t 59)], none, 0⟩,
 ⟨none, .mv 11 (.t 60), none, 0⟩]
def c25r12 : List SI := [
 mv 61 (.t 11),
 mv 62 (.t 1),
 ld 63 (.t 9) (some 2),
 ixA 64 (.t 61) (.t 62) 2,
 st (.t 64) 2 (.t 63)]
def c25r13 : List SI := [
 ldR 65 3 0 (some 3),
 mv 66 (.t 11),
 call 67 51 [(.t 65), (.t 66)],
 stR 6 0 3 (.t 67),
 mv 7 (.i 0)]
def c25 : SC :=
 (.seq (.reg false c25r0)
 (.seq (.seq (.reg false c25r1)
 (.seq (.reg false c25r2)
 (.cond (.t 15)
  (.seq (.reg false c25r3)
  .ret)
  .skip)))
 (.seq (.seq (.reg false c25r4)
 (.cond (.t 25)
  (.seq (.reg false c25r5)
  .ret)
  .skip))
 (.seq (.rgZ c25r6)
 (.seq (.seq (.rgX c25r7)
 (.cond (.t 53)
  (.reg false c25r8)
  .skip))
 (.seq (.seq (.reg false c25r9)
 (.cond (.t 55)
  (.seq (.reg false c25r10)
  .ret)
  .skip))
 (.seq (.reg false c25r11)
 (.seq (.reg false c25r12)
 (.seq (.reg false c25r13)
 .ret)))))))))
def v25 : List Nat × List Nat := ([3, 6], [3, 6, 28, 35, 45, 58])
def o25 : List RS := [.r 6 (some 3), .t 7]
def c26r0 : List SI := [
 bxR 3 (.t 0),
 alR 6 [(.int .i64 0), (.int .i64 0), (.slice none 0 0)],
 mv 7 (.i 0)]
def c26r1 : List SI := [
 ldR 11 3 0 (some 3),
 call 12 11 [(.t 11)],
 mv 8 (.t 12)]
def c26r2 : List SI := [
 mv 13 (.t 8),
 bin 14 .neq (.t 13) (.i 0)]
def c26r3 : List SI := [
 bld 15 [(.int .i64 0), (.int .i64 0), (.slice none 0 0)] [],
 mv 16 (.t 8),
 stR 6 0 3 (.t 15),
 mv 7 (.t 16)]
def c26r4 : List SI := [
 ⟨none, .mv 17 (.t 1), none, 0⟩,
 ⟨none, .bin 18 .lss (.t 17) (.i 0), none, 0⟩,
 ⟨none, .mv 19 (.t 18), none, 0⟩,
 ⟨some (19, false), .mv 20 (.t 1), none, 20⟩,
 ⟨some (19, false), .nop, (some 3), 99999⟩,
 ⟨some (19, false), .ldR 22 3 2 none, none, 22⟩,
 ⟨some (19, false), .len 23 false (.t 22), none, 23⟩,
 ⟨some (19, false), .bin 24 .sub (.t 23) (.i 1), none, 24⟩,
 ⟨some (19, false), .bin 25 .geq (.t 20) (.t 24), none, 25⟩,
 ⟨none, .pick 26 (.t 19) (.b true) (.t 25), none, 0⟩]
def c26r5 : List SI := [
 bld 27 [(.int .i64 0), (.int .i64 0), (.slice none 0 0)] [],
 stR 6 0 3 (.t 27),
 mv 7 (.i 90)]
def c26r6 : RX := .br [(true, ⟨none, .nop, (some 3), 0⟩),
 (true, N_ (.ldR 30 3 2 none)),
 (true, N_ (.mv 31 (.t 1))),
 (true, N_ (.ixA 32 (.t 30) (.t 31) 2)),
 (true, N_ (.flA 33 (.t 32) 0)),
 (true, N_ (.ld 34 (.t 33) none)),
 (true, N_ (.mv 35 (.t 2))),
 (true, ⟨none, .nop, (some 3), 0⟩),
 (true, N_ (.ldR 37 3 0 none))]
 ⟨none, .call 38 58 [(.t 34), (.t 35), (.t 37)], none, 0⟩
 (.leaf [(true, N_ (.mv 28 (.t 38))),
 (true, N_ (.ext 39 (.t 28) 0)),
 (true, N_ (.ext 40 (.t 28) 1)),
 (false, N_ (.al 9 [(.int .i64 0), (.slice none 0 0)])),
 (false, N_ (.st (.t 9) 2 (.t 39))),
 (true, N_ (.mv 10 (.t 40)))])
 ⟨none, .al 9 [(.int .i64 0), (.slice none 0 0)], none, 0⟩
 (.leaf [(false, N_ (.call 38 58 [(.t 34), (.t 35), (.t 37)])),
 (true, N_ (.mv 28 (.t 38))),
 (true, N_ (.ext 39 (.t 28) 0)),
 (true, N_ (.ext 40 (.t 28) 1)),
 (false, N_ (.st (.t 9) 2 (.t 39))),
 (true, N_ (.mv 10 (.t 40)))])
def c26r7 : List SI := [
 mv 41 (.t 10),
 bin 42 .neq (.t 41) (.i 0)]
def c26r8 : List SI := [
 bld 43 [(.int .i64 0), (.int .i64 0), (.slice none 0 0)] [],
 mv 44 (.t 10),
 stR 6 0 3 (.t 43),
 mv 7 (.t 44)]
def c26r9 : List (Bool × SI) := [
 (true, N_ (.ld 45 (.t 9) (some 2))),
 (true, ⟨none, .nop, (some 3), 0⟩),
 (true, N_ (.ldR 48 3 2 none)),
 (true, N_ (.mv 49 (.t 1))),
 (true, N_ (.bin 50 .add (.t 49) (.i 1))),
 (true, N_ (.ixA 51 (.t 48) (.t 50) 2)),
 (true, N_ (.flA 52 (.t 51) 0)),
 (true, N_ (.ld 53 (.t 52) none)),
 (false, N_ (.call 46 69 [(.t 45)])),
 (true, N_ (.bin 54 .gtr (.t 46) (.t 53)))]
def c26r10 : List SI := [
 bld 55 [(.int .i64 0), (.int .i64 0), (.slice none 0 0)] [],
 stR 6 0 3 (.t 55),
 mv 7 (.i 71)]
def c26r11 : List SI := [
 ldR 56 3 0 (some 3),
 mv 57 (.t 1),
 ld 58 (.t 9) (some 2),
 call 59 57 [(.t 56), (.t 57), (.t 58)],
 stR 6 0 3 (.t 59),
 mv 7 (.i 0)]
def c26 : SC :=
 (.seq (.reg false c26r0)
 (.seq (.reg false c26r1)
 (.seq (.seq (.reg false c26r2)
 (.cond (.t 14)
  (.seq (.reg false c26r3)
  .ret)
  .skip))
 (.seq (.seq (.reg false c26r4)
 (.cond (.t 26)
  (.seq (.reg false c26r5)
  .ret)
  .skip))
 (.seq (.rgZ c26r6)
 (.seq (.seq (.reg false c26r7)
 (.cond (.t 42)
  (.seq (.reg false c26r8)
  .ret)
  .skip))
 (.seq (.seq (.rgX c26r9)
 (.cond (.t 54)
  (.seq (.reg false c26r10)
  .ret)
  .skip))
 (.seq (.reg false c26r11)
 .ret))))))))
def v26 : List Nat × List Nat := ([3, 6], [3, 6, 21, 29, 36, 47])
def o26 : List RS := [.r 6 (some 3), .t 7]
def c27r0 : List SI := [
 bx 3 (.t 0),
 bx 5 (.t 2),
 mv 6 (.v (.slice none 0 0)),
 mv 7 (.i 0)]
def c27r1 : List SI := [
 ld 11 (.t 3) (some 3),
 call 12 10 [(.t 11)],
 mv 8 (.t 12)]
def c27r2 : List SI := [
 mv 13 (.t 8),
 bin 14 .neq (.t 13) (.i 0)]
def c27r3 : List SI := [
 mv 15 (.t 8),
 mv 6 (.v (.slice none 0 0)),
 mv 7 (.t 15)]
def c27r4 : List SI := [
 ld 17 (.t 5) none,
 bin 18 .lss (.t 17) (.i 0),
 mv 16 (.t 18)]
def c27r5 : List SI := [
 mv 6 (.v (.slice none 0 0)),
 mv 7 (.i 1)]
def c27r6 : List SI := [
 ld 20 (.t 3) (some 3),
 mv 21 (.t 1),
 call 22 70 [(.t 20), (.t 21)],
 un 23 .not (.t 22),
 mv 19 (.t 23)]
def c27r7 : List SI := [
 mv 6 (.v (.slice none 0 0)),
 mv 7 (.i 90)]
def c27r8 : List SI := [
 al 9 [(.slice none 0 0)]]
def c27r9 : List SI := [
 ld 24 (.t 3) (some 3),
 mv 25 (.t 1),
 call 26 44 [(.t 24), (.t 25)]]
def c27r10 : List SI := [
 alR 10 [(.int .i64 0), (.int .i64 0), (.int .i64 0), (.int .i64 0), (.int .i64 0), (.int .i64 0), (.int .i64 0), (.bool false), (.int .i64 0), (.slice none 0 0)],
 stR 10 0 10 (.t 27)]
def c27r11 : List (Bool × SI) := [
 (true, N_ (.ld 28 (.t 5) none)),
 (true, N_ (.ldR 29 10 0 (some 10))),
 (false, N_ (.call 30 48 [(.t 29)])),
 (true, N_ (.bin 31 .sub (.t 28) (.t 30)))]
def c27r12 : List SI := [
 st (.t 5) 1 (.t 31)]
def c27r13 : List SI := [
 ⟨none, .ld 32 (.t 9) none, none, 0⟩,
 ⟨none, .len 33 false (.t 32), none, 0⟩,
 ⟨none, .bin 34 .gtr (.t 33) (.i 0), none, 0⟩,
 ⟨none, .mv 35 (.t 34), none, 0⟩,
 ⟨some (35, true), .ld 36 (.t 5) none, none, 36⟩,
 ⟨some (35, true), .bin 37 .lss (.t 36) (.i 0), none, 37⟩,
 ⟨none, .pick 38 (.t 35) (.t 37) (.b false), none, 0⟩]
def c27r14 : List SI := [
 ld 39 (.t 9) none,
 ldR 40 10 0 (some 10),
 bls 41 39 1 10 [(.int .i64 0), (.int .i64 0), (.int .i64 0), (.int .i64 0), (.int .i64 0), (.int .i64 0), (.int .i64 0), (.bool false), (.int .i64 0), (.slice none 0 0)] [(0, 10, (.t 40))],
 app 42 (.t 39) (.t 41) 39 10 96,
 st (.t 9) 1 (.t 42)]
def c27r15 : List SI := [
 ld 43 (.t 9) none,
 mv 6 (.t 43),
 mv 7 (.i 0)]
def c27 : SC :=
 (.seq (.reg false c27r0)
 (.seq (.seq (.reg false c27r1)
 (.seq (.reg false c27r2)
 (.cond (.t 14)
  (.seq (.reg false c27r3)
  .ret)
  .skip)))
 (.seq (.blk 0 (.seq (.reg false c27r4)
  (.cond (.t 16)
   (.seq (.reg false c27r5)
   .ret)
   (.seq (.reg false c27r6)
   (.cond (.t 19)
    (.seq (.reg false c27r7)
    .ret)
    .skip)))))
 (.seq (.reg false c27r8)
 (.seq (.seq (.reg false c27r9)
 (.blk 1 (.rf (.t 26) [27] (.reg false c27r10)
   (.blk 2 (.seq (.rgY c27r11 c27r12)
    (.seq (.seq (.reg false c27r13)
    (.cond (.t 38)
     (.exit 1)
     .skip))
    (.reg false c27r14)))))))
 (.seq (.reg false c27r15)
 .ret))))))
def v27 : List Nat × List Nat := ([10], [10])
def o27 : List RS := [.t 6, .t 7]
def c29r0 : List SI := [
 bxR 1 (.t 0),
 alR 2 [(.int .i64 0), (.int .i64 0), (.slice none 0 0)],
 mv 3 (.i 0)]
def c29r1 : List SI := [
 ⟨none, .nop, (some 1), 0⟩,
 ⟨none, .ldR 9 1 0 none, none, 0⟩,
 ⟨none, .nop, (some 1), 0⟩,
 ⟨none, .ldR 11 1 1 none, none, 0⟩,
 ⟨none, .call 12 34 [(.t 9), (.t 11)], none, 0⟩,
 ⟨none, .un 13 .not (.t 12), none, 0⟩,
 ⟨none, .mv 14 (.t 13), none, 0⟩,
 ⟨some (14, false), .nop, (some 1), 99999⟩,
 ⟨some (14, false), .ldR 16 1 2 none, none, 16⟩,
 ⟨some (14, false), .len 17 false (.t 16), none, 17⟩,
 ⟨some (14, false), .bin 18 .eql (.t 17) (.i 0), none, 18⟩,
 ⟨none, .pick 19 (.t 14) (.b true) (.t 18), none, 0⟩,
 ⟨none, .mv 20 (.t 19), none, 0⟩,
 ⟨some (20, false), .nop, (some 1), 99999⟩,
 ⟨some (20, false), .ldR 22 1 2 none, none, 22⟩,
 ⟨some (20, false), .ixA 23 (.t 22) (.i 0) 2, none, 23⟩,
 ⟨some (20, false), .flA 24 (.t 23) 0, none, 24⟩,
 ⟨some (20, false), .ld 25 (.t 24) none, none, 25⟩,
 ⟨some (20, false), .call 26 64 [(.t 25)], none, 26⟩,
 ⟨some (20, false), .un 27 .not (.t 26), none, 27⟩,
 ⟨none, .pick 28 (.t 20) (.b true) (.t 27), none, 0⟩]
def c29r2 : List SI := [
 bld 29 [(.int .i64 0), (.int .i64 0), (.slice none 0 0)] [],
 stR 2 0 3 (.t 29),
 mv 3 (.i 0)]
def c29r3 : List SI := [
 ldR 30 1 0 (some 3),
 call 31 51 [(.t 30), (.v (.slice none 0 0))],
 stR 2 0 3 (.t 31)]
def c29r4 : List SI := [
 ⟨none, .nop, (some 1), 0⟩,
 ⟨none, .ldR 33 1 2 none, none, 0⟩,
 ⟨none, .len 34 false (.t 33), none, 0⟩,
 ⟨none, .mv 35 (.i 0), none, 0⟩]
def c29r5 : List SI := [
 bin 36 .lss (.t 35) (.t 34)]
def c29r6 : List SI := [
 mv 37 (.t 35),
 ixA 38 (.t 33) (.t 35) 2,
 ld 39 (.t 38) (some 2),
 alR 5 [(.int .i64 0), (.slice none 0 0)],
 mv 4 (.t 37),
 stR 5 0 2 (.t 39)]
def c29r7 : List SI := [
 ⟨none, .mv 40 (.t 3), none, 0⟩,
 ⟨none, .nop, (some 5), 0⟩,
 ⟨none, .ldR 42 5 1 none, none, 0⟩,
 ⟨none, .len 43 false (.t 42), none, 0⟩,
 ⟨none, .bin 44 .add (.t 40) (.t 43), none, 0⟩,
 ⟨none, .mv 3 (.t 44), none, 0⟩]
def c29r8 : List (Bool × SI) := [
 (true, ⟨none, .nop, (some 2), 0⟩),
 (true, N_ (.ldR 46 2 2 none)),
 (true, N_ (.len 47 false (.t 46))),
 (true, N_ (.mv 48 (.t 4))),
 (true, N_ (.bin 49 .lss (.t 47) (.t 48))),
 (true, N_ (.mv 50 (.t 49))),
 (true, ⟨some (50, false), .mv 51 (.t 4), none, 51⟩),
 (true, ⟨some (50, false), .bin 52 .gtr (.t 51) (.i 0), none, 52⟩),
 (true, ⟨some (50, false), .mv 53 (.t 52), none, 53⟩),
 (true, ⟨some (53, true), .nop, (some 1), 99999⟩),
 (true, ⟨some (53, true), .ldR 55 1 2 none, none, 55⟩),
 (true, ⟨some (53, true), .mv 56 (.t 4), none, 56⟩),
 (true, ⟨some (53, true), .bin 57 .sub (.t 56) (.i 1), none, 57⟩),
 (true, ⟨some (53, true), .ixA 58 (.t 55) (.t 57) 2, none, 58⟩),
 (true, ⟨some (53, true), .ld 59 (.t 58) (some 2), none, 59⟩),
 (false, ⟨some (53, true), .call 60 36 [(.t 59)], none, 60⟩),
 (true, ⟨some (53, true), .un 61 .not (.t 60), none, 61⟩),
 (true, ⟨some (53, true), .mv 62 (.t 61), none, 62⟩),
 (true, ⟨some (62, false), .nop, (some 1), 99999⟩),
 (true, ⟨some (62, false), .ldR 64 1 2 none, none, 64⟩),
 (true, ⟨some (62, false), .mv 65 (.t 4), none, 65⟩),
 (true, ⟨some (62, false), .bin 66 .sub (.t 65) (.i 1), none, 66⟩),
 (true, ⟨some (62, false), .ixA 67 (.t 64) (.t 66) 2, none, 67⟩),
 (true, ⟨some (62, false), .ld 68 (.t 67) (some 2), none, 68⟩),
 (true, ⟨some (62, false), .ldR 69 5 0 (some 2), none, 69⟩),
 (false, ⟨some (62, false), .call 70 37 [(.t 68), (.t 69)], none, 70⟩),
 (true, ⟨some (62, false), .un 71 .not (.t 70), none, 71⟩),
 (true, ⟨some (53, true), .pick 72 (.t 62) (.b true) (.t 71), none, 72⟩),
 (true, ⟨some (50, false), .pick 73 (.t 53) (.t 72) (.b false), none, 73⟩),
 (true, N_ (.pick 74 (.t 50) (.b true) (.t 73)))]
def c29r9 : List SI := [
 ldR 76 5 0 (some 2),
 call 77 71 [(.t 76)],
 mv 75 (.t 77),
 ext 78 (.t 75) 0,
 ext 79 (.t 75) 1,
 alR 6 [(.int .i64 0), (.slice none 0 0)],
 stR 6 0 2 (.t 78),
 mv 7 (.t 79)]
def c29r10 : List SI := [
 ⟨none, .mv 80 (.t 3), none, 0⟩,
 ⟨none, .nop, (some 6), 0⟩,
 ⟨none, .ldR 82 6 1 none, none, 0⟩,
 ⟨none, .len 83 false (.t 82), none, 0⟩,
 ⟨none, .bin 84 .sub (.t 80) (.t 83), none, 0⟩,
 ⟨none, .mv 3 (.t 84), none, 0⟩]
def c29r11 : List SI := [
 ⟨none, .nop, (some 2), 0⟩,
 ⟨none, .ldR 86 2 2 none, none, 0⟩,
 ⟨none, .ldR 87 6 0 (some 2), none, 0⟩,
 ⟨none, .bls 88 55 1 2 [(.int .i64 0), (.slice none 0 0)] [(0, 2, (.t 87))], none, 0⟩,
 ⟨none, .app 89 (.t 86) (.t 88) 55 2 32, none, 0⟩,
 ⟨none, .nop, (some 2), 0⟩,
 ⟨none, .stR 2 2 1 (.t 89), none, 0⟩]
def c29r12 : List SI := [
 bin 91 .add (.t 35) (.i 1),
 mv 35 (.t 91)]
def c29r13 : List SI := [
 ldR 92 2 0 (some 3),
 mv 93 (.t 3),
 stR 2 0 3 (.t 92),
 mv 3 (.t 93)]
def c29 : SC :=
 (.seq (.reg false c29r0)
 (.seq (.seq (.reg false c29r1)
 (.cond (.t 28)
  (.seq (.reg false c29r2)
  .ret)
  .skip))
 (.seq (.reg false c29r3)
 (.seq (.seq (.reg false c29r4)
 (.blk 0 (.loop (.seq (.reg false c29r5)
   (.seq (.cond (.t 36)
    .skip
    (.exit 0))
   (.seq (.blk 1 (.seq (.reg false c29r6)
    (.seq (.reg false c29r7)
    (.seq (.seq (.rgX c29r8)
    (.cond (.t 74)
     (.exit 1)
     .skip))
    (.seq (.reg false c29r9)
    (.seq (.reg false c29r10)
    (.reg false c29r11)))))))
   (.reg false c29r12)))))))
 (.seq (.reg false c29r13)
 .ret)))))
def v29 : List Nat × List Nat := ([1, 2, 5, 6], [1, 2, 5, 6, 8, 10, 15, 21, 32, 41, 45, 54, 63, 81, 85, 90])
def o29 : List RS := [.r 2 (some 3), .t 3]
def c31r0 : List SI := [
 alR 2 [(.int .i64 0), (.int .i64 0), (.int .i64 0), (.int .i64 0), (.int .i64 0), (.int .i64 0), (.int .i64 0), (.bool false), (.int .i64 0), (.slice none 0 0)]]
def c31r1 : List SI := [
 mv 3 (.t 0),
 mv 4 (.t 0),
 bin 5 .add (.t 4) (.i 2),
 mv 6 (.t 0),
 mv 7 (.t 0),
 bld 8 [(.int .i64 0), (.string ⟨#[]⟩), (.string ⟨#[]⟩), (.bool false), (.int .i64 0)] [(0, 1, (.t 7)), (2, 1, (.v (.string ⟨#[118]⟩)))],
 mv 9 (.t 0),
 bin 10 .add (.t 9) (.i 2),
 bld 11 [(.int .i64 0), (.string ⟨#[]⟩), (.string ⟨#[]⟩), (.bool false), (.int .i64 0)] [(0, 1, (.t 10)), (2, 1, (.v (.string ⟨#[119]⟩)))],
 bls 12 65 2 5 [(.int .i64 0), (.string ⟨#[]⟩), (.string ⟨#[]⟩), (.bool false), (.int .i64 0), (.int .i64 0), (.string ⟨#[]⟩), (.string ⟨#[]⟩), (.bool false), (.int .i64 0)] [(0, 5, (.t 8)), (5, 5, (.t 11))],
 bld 13 [(.int .i64 0), (.int .i64 0), (.int .i64 0), (.int .i64 0), (.int .i64 0), (.int .i64 0), (.int .i64 0), (.bool false), (.int .i64 0), (.slice none 0 0)] [(0, 1, (.t 3)), (1, 1, (.t 5)), (2, 1, (.t 6)), (4, 1, (.i (-1))), (9, 1, (.t 12))],
 stR 2 0 10 (.t 13)]
def c31 : SC :=
 (.seq (.reg false c31r0)
 (.seq (.reg false c31r1)
 .ret))
def v31 : List Nat × List Nat := ([2], [2])
def o31 : List RS := [.r 2 (some 10)]
def c32r0 : List SI := [
 bxR 1 (.t 0),
 mv 2 (.b false)]
def c32r1 : List SI := [
 mv 3 (.i 0)]
def c32r2 : List SI := [
 ⟨none, .mv 4 (.t 3), none, 0⟩,
 ⟨none, .nop, (some 1), 0⟩,
 ⟨none, .ldR 6 1 2 none, none, 0⟩,
 ⟨none, .len 7 false (.t 6), none, 0⟩,
 ⟨none, .bin 8 .lss (.t 4) (.t 7), none, 0⟩,
 ⟨none, .mv 9 (.t 8), none, 0⟩,
 ⟨some (9, true), .mv 10 (.t 3), none, 10⟩,
 ⟨some (9, true), .bin 11 .lss (.t 10) (.i 300), none, 11⟩,
 ⟨none, .pick 12 (.t 9) (.t 11) (.b false), none, 0⟩]
def c32r3 : List SI := [
 ⟨none, .nop, (some 1), 0⟩,
 ⟨none, .ldR 16 1 2 none, none, 0⟩,
 ⟨none, .mv 17 (.t 3), none, 0⟩,
 ⟨none, .ixA 18 (.t 16) (.t 17) 2, none, 0⟩,
 ⟨none, .flA 19 (.t 18) 1, none, 0⟩,
 ⟨none, .ld 20 (.t 19) none, none, 0⟩,
 ⟨none, .len 21 false (.t 20), none, 0⟩,
 ⟨none, .bin 22 .gtr (.t 21) (.i 5000), none, 0⟩]
def c32r4 : List SI := [
 mv 2 (.b false)]
def c32r5 : List SI := [
 mv 13 (.t 3),
 bin 14 .add (.t 13) (.i 1),
 mv 3 (.t 14)]
def c32r6 : List SI := [
 ⟨none, .nop, (some 1), 0⟩,
 ⟨none, .ldR 24 1 2 none, none, 0⟩,
 ⟨none, .len 25 false (.t 24), none, 0⟩,
 ⟨none, .bin 26 .leq (.t 25) (.i 12), none, 0⟩,
 ⟨none, .mv 2 (.t 26), none, 0⟩]
def c32 : SC :=
 (.seq (.reg false c32r0)
 (.seq (.seq (.reg false c32r1)
 (.blk 0 (.loop (.seq (.seq (.reg false c32r2)
   (.cond (.t 12)
    .skip
    (.exit 0)))
   (.seq (.blk 1 (.seq (.reg false c32r3)
    (.cond (.t 22)
     (.seq (.reg false c32r4)
     .ret)
     .skip)))
   (.reg false c32r5))))))
 (.seq (.reg false c32r6)
 .ret)))
def v32 : List Nat × List Nat := ([1], [1, 5, 15, 23])
def o32 : List RS := [.t 2]
def c33r0 : List SI := [
 mv 4 (.b false)]
def c33r1 : List SI := [
 mv 7 (.t 0),
 len 8 false (.t 7),
 mv 9 (.i 0)]
def c33r2 : List SI := [
 bin 10 .lss (.t 9) (.t 8)]
def c33r3 : List SI := [
 ixA 11 (.t 7) (.t 9) 10,
 ld 12 (.t 11) (some 10),
 alR 6 [(.int .i64 0), (.int .i64 0), (.int .i64 0), (.int .i64 0), (.int .i64 0), (.int .i64 0), (.int .i64 0), (.bool false), (.int .i64 0), (.slice none 0 0)],
 stR 6 0 10 (.t 12)]
def c33r4 : List SI := [
 ldR 13 6 0 (some 10),
 call 14 18 [(.t 13)],
 un 15 .not (.t 14)]
def c33r5 : List SI := [
 mv 4 (.b false)]
def c33r6 : List SI := [
 bin 16 .add (.t 9) (.i 1),
 mv 9 (.t 16)]
def c33r7 : List SI := [
 mv 17 (.t 0),
 len 18 false (.t 17),
 mv 19 (.t 1),
 bin 20 .leq (.t 18) (.t 19),
 mv 4 (.t 20)]
def c33 : SC :=
 (.seq (.reg false c33r0)
 (.seq (.seq (.reg false c33r1)
 (.blk 0 (.loop (.seq (.reg false c33r2)
   (.seq (.cond (.t 10)
    .skip
    (.exit 0))
   (.seq (.blk 1 (.seq (.reg false c33r3)
    (.seq (.reg false c33r4)
    (.cond (.t 15)
     (.seq (.reg false c33r5)
     .ret)
     .skip))))
   (.reg false c33r6)))))))
 (.seq (.reg false c33r7)
 .ret)))
def v33 : List Nat × List Nat := ([6], [6])
def o33 : List RS := [.t 4]
def c34r0 : List SI := [
 mv 4 (.b false)]
def c34r1 : List SI := [
 ⟨none, .mv 5 (.t 0), none, 0⟩,
 ⟨none, .bin 6 .geq (.t 5) (.i 256), none, 0⟩,
 ⟨none, .mv 7 (.t 6), none, 0⟩,
 ⟨some (7, true), .mv 8 (.t 0), none, 8⟩,
 ⟨some (7, true), .bin 9 .leq (.t 8) (.i 4096), none, 9⟩,
 ⟨none, .pick 10 (.t 7) (.t 9) (.b false), none, 0⟩,
 ⟨none, .mv 11 (.t 10), none, 0⟩,
 ⟨some (11, true), .mv 12 (.t 1), none, 12⟩,
 ⟨some (11, true), .call 13 64 [(.t 12)], none, 13⟩,
 ⟨none, .pick 14 (.t 11) (.t 13) (.b false), none, 0⟩,
 ⟨none, .mv 4 (.t 14), none, 0⟩]
def c34 : SC :=
 (.seq (.reg false c34r0)
 (.seq (.reg false c34r1)
 .ret))
def v34 : List Nat × List Nat := ([], [])
def o34 : List RS := [.t 4]
def c35r0 : List SI := [
 mv 2 (.b false)]
def c35r1 : List SI := [
 ⟨none, .mv 3 (.t 0), none, 0⟩,
 ⟨none, .bin 4 .geq (.t 3) (.i 0), none, 0⟩,
 ⟨none, .mv 5 (.t 4), none, 0⟩,
 ⟨some (5, true), .mv 6 (.t 0), none, 6⟩,
 ⟨some (5, true), .bin 7 .leq (.t 6) (.i 1099511627776), none, 7⟩,
 ⟨none, .pick 8 (.t 5) (.t 7) (.b false), none, 0⟩,
 ⟨none, .mv 2 (.t 8), none, 0⟩]
def c35 : SC :=
 (.seq (.reg false c35r0)
 (.seq (.reg false c35r1)
 .ret))
def v35 : List Nat × List Nat := ([], [])
def o35 : List RS := [.t 2]
def c36r0 : List SI := [
 bxR 1 (.t 0),
 mv 2 (.b false)]
def c36r1 : List SI := [
 ldR 6 1 0 (some 2),
 call 7 73 [(.t 6)],
 mv 5 (.t 7),
 ext 8 (.t 5) 0,
 ext 9 (.t 5) 1,
 mv 3 (.t 8),
 mv 4 (.t 9)]
def c36r2 : List SI := [
 ⟨none, .nop, (some 1), 0⟩,
 ⟨none, .ldR 11 1 0 none, none, 0⟩,
 ⟨none, .call 12 64 [(.t 11)], none, 0⟩,
 ⟨none, .mv 13 (.t 12), none, 0⟩,
 ⟨some (13, true), .mv 14 (.t 4), none, 14⟩,
 ⟨some (13, true), .nop, (some 1), 99999⟩,
 ⟨some (13, true), .ldR 16 1 1 none, none, 16⟩,
 ⟨some (13, true), .len 17 false (.t 16), none, 17⟩,
 ⟨some (13, true), .bin 18 .eql (.t 14) (.t 17), none, 18⟩,
 ⟨none, .pick 19 (.t 13) (.t 18) (.b false), none, 0⟩,
 ⟨none, .mv 2 (.t 19), none, 0⟩]
def c36 : SC :=
 (.seq (.reg false c36r0)
 (.seq (.reg false c36r1)
 (.seq (.reg false c36r2)
 .ret)))
def v36 : List Nat × List Nat := ([1], [1, 10, 15])
def o36 : List RS := [.t 2]
def c37r0 : List SI := [
 bxR 2 (.t 0),
 bxR 3 (.t 1),
 mv 4 (.b false)]
def c37r1 : List (Bool × SI) := [
 (true, ⟨none, .nop, (some 3), 0⟩),
 (true, N_ (.ldR 6 3 0 none)),
 (true, ⟨none, .nop, (some 2), 0⟩),
 (true, N_ (.ldR 8 2 0 none)),
 (true, N_ (.bin 9 .gtr (.t 6) (.t 8))),
 (true, N_ (.mv 10 (.t 9))),
 (true, ⟨some (10, true), .nop, (some 3), 99999⟩),
 (true, ⟨some (10, true), .ldR 12 3 0 none, none, 12⟩),
 (true, ⟨some (10, true), .ldR 13 2 0 (some 2), none, 13⟩),
 (false, ⟨some (10, true), .call 14 68 [(.t 13)], none, 14⟩),
 (true, ⟨some (10, true), .bin 15 .geq (.t 12) (.t 14), none, 15⟩),
 (true, N_ (.pick 16 (.t 10) (.t 15) (.b false))),
 (true, N_ (.mv 4 (.t 16)))]
def c37 : SC :=
 (.seq (.reg false c37r0)
 (.seq (.rgX c37r1)
 .ret))
def v37 : List Nat × List Nat := ([2, 3], [2, 3, 5, 7, 11])
def o37 : List RS := [.t 4]
def c38r0 : List SI := [
 bxR 1 (.t 0),
 mv 2 (.b false)]
def c38r1 : List SI := [
 ldR 6 1 0 (some 2),
 call 7 74 [(.t 6)],
 mv 5 (.t 7),
 ext 8 (.t 5) 0,
 ext 9 (.t 5) 1,
 mv 3 (.t 8),
 mv 4 (.t 9)]
def c38r2 : List SI := [
 ⟨none, .nop, (some 1), 0⟩,
 ⟨none, .ldR 11 1 0 none, none, 0⟩,
 ⟨none, .bin 12 .geq (.t 11) (.i 0), none, 0⟩,
 ⟨none, .mv 13 (.t 12), none, 0⟩,
 ⟨some (13, true), .nop, (some 1), 99999⟩,
 ⟨some (13, true), .ldR 15 1 0 none, none, 15⟩,
 ⟨some (13, true), .bin 16 .leq (.t 15) (.i 1099511627776), none, 16⟩,
 ⟨none, .pick 17 (.t 13) (.t 16) (.b false), none, 0⟩,
 ⟨none, .mv 18 (.t 17), none, 0⟩,
 ⟨some (18, true), .mv 19 (.t 4), none, 19⟩,
 ⟨some (18, true), .nop, (some 1), 99999⟩,
 ⟨some (18, true), .ldR 21 1 1 none, none, 21⟩,
 ⟨some (18, true), .len 22 false (.t 21), none, 22⟩,
 ⟨some (18, true), .bin 23 .eql (.t 19) (.t 22), none, 23⟩,
 ⟨none, .pick 24 (.t 18) (.t 23) (.b false), none, 0⟩,
 ⟨none, .mv 2 (.t 24), none, 0⟩]
def c38 : SC :=
 (.seq (.reg false c38r0)
 (.seq (.reg false c38r1)
 (.seq (.reg false c38r2)
 .ret)))
def v38 : List Nat × List Nat := ([1], [1, 10, 14, 20])
def o38 : List RS := [.t 2]
def c39r0 : List SI := [
 bxR 2 (.t 0),
 bxR 3 (.t 1),
 mv 4 (.b false)]
def c39r1 : List (Bool × SI) := [
 (true, ⟨none, .nop, (some 3), 0⟩),
 (true, N_ (.ldR 6 3 0 none)),
 (true, ⟨none, .nop, (some 2), 0⟩),
 (true, N_ (.ldR 8 2 0 none)),
 (true, N_ (.bin 9 .gtr (.t 6) (.t 8))),
 (true, N_ (.mv 10 (.t 9))),
 (true, ⟨some (10, true), .nop, (some 3), 99999⟩),
 (true, ⟨some (10, true), .ldR 12 3 0 none, none, 12⟩),
 (true, ⟨some (10, true), .ldR 13 2 0 (some 2), none, 13⟩),
 (false, ⟨some (10, true), .call 14 69 [(.t 13)], none, 14⟩),
 (true, ⟨some (10, true), .bin 15 .geq (.t 12) (.t 14), none, 15⟩),
 (true, N_ (.pick 16 (.t 10) (.t 15) (.b false))),
 (true, N_ (.mv 4 (.t 16)))]
def c39 : SC :=
 (.seq (.reg false c39r0)
 (.seq (.rgX c39r1)
 .ret))
def v39 : List Nat × List Nat := ([2, 3], [2, 3, 5, 7, 11])
def o39 : List RS := [.t 4]
def c40r0 : List SI := [
 bxR 1 (.t 0),
 mv 2 (.i 0)]
def c40r1 : List (Bool × SI) := [
 (true, ⟨none, .nop, (some 1), 0⟩),
 (true, N_ (.ldR 4 1 1 none)),
 (true, ⟨none, .nop, (some 1), 0⟩),
 (true, N_ (.ldR 6 1 2 none)),
 (true, N_ (.ldR 7 1 0 (some 3))),
 (false, N_ (.call 8 49 [(.t 7)])),
 (true, N_ (.ixA 9 (.t 6) (.t 8) 2)),
 (true, N_ (.ld 10 (.t 9) (some 2))),
 (false, N_ (.call 11 68 [(.t 10)])),
 (true, N_ (.mm 12 true (.t 4) (.t 11))),
 (true, N_ (.mv 2 (.t 12)))]
def c40 : SC :=
 (.seq (.reg false c40r0)
 (.seq (.rgX c40r1)
 .ret))
def v40 : List Nat × List Nat := ([1], [1, 3, 5])
def o40 : List RS := [.t 2]
def c41r0 : List SI := [
 bxR 1 (.t 0),
 mv 2 (.i 0)]
def c41r1 : List SI := [
 ⟨none, .nop, (some 1), 0⟩,
 ⟨none, .ldR 6 1 1 none, none, 0⟩,
 ⟨none, .mv 3 (.t 6), none, 0⟩]
def c41r2 : List SI := [
 mv 4 (.i 0)]
def c41r3 : List SI := [
 ⟨none, .mv 7 (.t 4), none, 0⟩,
 ⟨none, .nop, (some 1), 0⟩,
 ⟨none, .ldR 9 1 2 none, none, 0⟩,
 ⟨none, .len 10 false (.t 9), none, 0⟩,
 ⟨none, .bin 11 .lss (.t 7) (.t 10), none, 0⟩]
def c41r4 : List SI := [
 ⟨none, .mv 14 (.t 3), none, 0⟩,
 ⟨none, .nop, (some 1), 0⟩,
 ⟨none, .ldR 16 1 2 none, none, 0⟩,
 ⟨none, .mv 17 (.t 4), none, 0⟩,
 ⟨none, .ixA 18 (.t 16) (.t 17) 2, none, 0⟩,
 ⟨none, .ld 19 (.t 18) (some 2), none, 0⟩,
 ⟨none, .call 20 69 [(.t 19)], none, 0⟩,
 ⟨none, .mm 21 true (.t 14) (.t 20), none, 0⟩,
 ⟨none, .mv 3 (.t 21), none, 0⟩]
def c41r5 : List SI := [
 mv 12 (.t 4),
 bin 13 .add (.t 12) (.i 1),
 mv 4 (.t 13)]
def c41r6 : List SI := [
 mv 22 (.t 3),
 mv 2 (.t 22)]
def c41 : SC :=
 (.seq (.reg false c41r0)
 (.seq (.reg false c41r1)
 (.seq (.seq (.reg false c41r2)
 (.blk 0 (.loop (.seq (.seq (.reg false c41r3)
   (.cond (.t 11)
    .skip
    (.exit 0)))
   (.seq (.blk 1 (.reg false c41r4))
   (.reg false c41r5))))))
 (.seq (.reg false c41r6)
 .ret))))
def v41 : List Nat × List Nat := ([1], [1, 5, 8, 15])
def o41 : List RS := [.t 2]
def c43r0 : List SI := [
 mv 2 (.v (.slice none 0 0))]
def c43r1 : List SI := [
 mv 3 (.t 0),
 call 4 76 [(.v (.slice none 0 0)), (.t 3)],
 mv 2 (.t 4)]
def c43 : SC :=
 (.seq (.reg false c43r0)
 (.seq (.reg false c43r1)
 .ret))
def v43 : List Nat × List Nat := ([], [])
def o43 : List RS := [.t 2]
def c44r0 : List SI := [
 bx 2 (.t 0),
 bx 3 (.t 1),
 mv 4 (.v .nilFunc)]
def c44r1 : List SI := [
 mkf 5 (.func 77) [(.t 2), (.t 3)],
 mv 4 (.t 5)]
def c44 : SC :=
 (.seq (.reg false c44r0)
 (.seq (.reg false c44r1)
 .ret))
def v44 : List Nat × List Nat := ([], [])
def o44 : List RS := [.t 4]
def c46r0 : List SI := [
 bxR 2 (.t 0),
 bxR 3 (.t 1),
 mv 4 (.b false)]
def c46r1 : List SI := [
 ⟨none, .nop, (some 2), 0⟩,
 ⟨none, .ldR 6 2 0 none, none, 0⟩,
 ⟨none, .nop, (some 3), 0⟩,
 ⟨none, .ldR 8 3 0 none, none, 0⟩,
 ⟨none, .bin 9 .eql (.t 6) (.t 8), none, 0⟩,
 ⟨none, .mv 10 (.t 9), none, 0⟩,
 ⟨some (10, true), .nop, (some 2), 99999⟩,
 ⟨some (10, true), .ldR 12 2 1 none, none, 12⟩,
 ⟨some (10, true), .nop, (some 3), 99999⟩,
 ⟨some (10, true), .ldR 14 3 1 none, none, 14⟩,
 ⟨some (10, true), .call 15 78 [(.t 12), (.t 14)], none, 15⟩,
 ⟨none, .pick 16 (.t 10) (.t 15) (.b false), none, 0⟩,
 ⟨none, .mv 4 (.t 16), none, 0⟩]
def c46 : SC :=
 (.seq (.reg false c46r0)
 (.seq (.reg false c46r1)
 .ret))
def v46 : List Nat × List Nat := ([2, 3], [2, 3, 5, 7, 11, 13])
def o46 : List RS := [.t 4]
def c47r0 : List SI := [
 bxR 1 (.t 0),
 mv 2 (.i 0)]
def c47r1 : List SI := [
 ldR 6 1 0 (some 10),
 call 7 79 [(.t 6)],
 mv 5 (.t 7),
 ext 8 (.t 5) 0,
 ext 9 (.t 5) 1,
 mv 3 (.t 8),
 mv 4 (.t 9)]
def c47r2 : List SI := [
 mv 10 (.t 4),
 mv 2 (.t 10)]
def c47 : SC :=
 (.seq (.reg false c47r0)
 (.seq (.reg false c47r1)
 (.seq (.reg false c47r2)
 .ret)))
def v47 : List Nat × List Nat := ([1], [1])
def o47 : List RS := [.t 2]
def c48r0 : List SI := [
 bxR 1 (.t 0),
 mv 2 (.i 0)]
def c48r1 : List SI := [
 ldR 6 1 0 (some 10),
 call 7 79 [(.t 6)],
 mv 5 (.t 7),
 ext 8 (.t 5) 0,
 ext 9 (.t 5) 1,
 mv 3 (.t 8),
 mv 4 (.t 9)]
def c48r2 : List SI := [
 mv 10 (.t 3),
 len 11 false (.t 10),
 mv 2 (.t 11)]
def c48 : SC :=
 (.seq (.reg false c48r0)
 (.seq (.reg false c48r1)
 (.seq (.reg false c48r2)
 .ret)))
def v48 : List Nat × List Nat := ([1], [1])
def o48 : List RS := [.t 2]
def c49r0 : List SI := [
 bxR 1 (.t 0),
 mv 2 (.i 0)]
def c49r1 : List SI := [
 ⟨none, .nop, (some 1), 0⟩,
 ⟨none, .ldR 4 1 2 none, none, 0⟩,
 ⟨none, .len 5 false (.t 4), none, 0⟩,
 ⟨none, .bin 6 .sub (.t 5) (.i 1), none, 0⟩,
 ⟨none, .mv 2 (.t 6), none, 0⟩]
def c49 : SC :=
 (.seq (.reg false c49r0)
 (.seq (.reg false c49r1)
 .ret))
def v49 : List Nat × List Nat := ([1], [1, 3])
def o49 : List RS := [.t 2]
def c50r0 : List SI := [
 bxR 3 (.t 0),
 bxR 4 (.t 1),
 alR 6 [(.int .i64 0), (.slice none 0 0)],
 mv 7 (.i 0)]
def c50r1 : List SI := [
 ldR 13 3 0 (some 2),
 call 14 73 [(.t 13)],
 mv 12 (.t 14),
 ext 15 (.t 12) 0,
 ext 16 (.t 12) 1,
 mv 8 (.t 15),
 mv 9 (.t 16)]
def c50r2 : List SI := [
 ⟨none, .mv 17 (.t 9), none, 0⟩,
 ⟨none, .nop, (some 3), 0⟩,
 ⟨none, .ldR 19 3 1 none, none, 0⟩,
 ⟨none, .len 20 false (.t 19), none, 0⟩,
 ⟨none, .bin 21 .neq (.t 17) (.t 20), none, 0⟩,
 ⟨none, .mv 22 (.t 21), none, 0⟩,
 ⟨some (22, false), .nop, (some 3), 99999⟩,
 ⟨some (22, false), .ldR 24 3 0 none, none, 24⟩,
 ⟨some (22, false), .call 25 80 [(.t 24)], none, 25⟩,
 ⟨some (22, false), .un 26 .not (.t 25), none, 26⟩,
 ⟨none, .pick 27 (.t 22) (.b true) (.t 26), none, 0⟩,
 ⟨none, .mv 28 (.t 27), none, 0⟩,
 ⟨some (28, false), .mv 29 (.t 2), none, 29⟩,
 ⟨some (28, false), .call 30 81 [(.t 29)], none, 30⟩,
 ⟨some (28, false), .un 31 .not (.t 30), none, 31⟩,
 ⟨none, .pick 32 (.t 28) (.b true) (.t 31), none, 0⟩]
def c50r3 : List SI := [
 bld 33 [(.int .i64 0), (.slice none 0 0)] [],
 stR 6 0 2 (.t 33),
 mv 7 (.i 1)]
def c50r4 : List SI := [
 ldR 35 4 0 (some 10),
 call 36 79 [(.t 35)],
 mv 34 (.t 36),
 ext 37 (.t 34) 0,
 ext 38 (.t 34) 1,
 mv 10 (.t 37),
 mv 11 (.t 38)]
def c50r5 : List SI := [
 mv 40 (.t 11),
 bin 41 .neq (.t 40) (.i 0),
 mv 39 (.t 41)]
def c50r6 : List SI := [
 bld 42 [(.int .i64 0), (.slice none 0 0)] [],
 mv 43 (.t 11),
 stR 6 0 2 (.t 42),
 mv 7 (.t 43)]
def c50r7 : List (Bool × SI) := [
 (true, ⟨none, .nop, (some 4), 0⟩),
 (true, N_ (.ldR 46 4 0 none)),
 (true, N_ (.ldR 47 3 0 (some 2))),
 (false, N_ (.call 48 68 [(.t 47)])),
 (true, N_ (.bin 49 .lss (.t 46) (.t 48))),
 (true, N_ (.mv 44 (.t 49)))]
def c50r8 : List SI := [
 bld 50 [(.int .i64 0), (.slice none 0 0)] [],
 stR 6 0 2 (.t 50),
 mv 7 (.i 71)]
def c50r9 : List SI := [
 ⟨none, .nop, (some 3), 0⟩,
 ⟨none, .ldR 53 3 1 none, none, 0⟩,
 ⟨none, .len 54 false (.t 53), none, 0⟩,
 ⟨none, .mv 55 (.t 10), none, 0⟩,
 ⟨none, .len 56 false (.t 55), none, 0⟩,
 ⟨none, .bin 57 .add (.t 54) (.t 56), none, 0⟩,
 ⟨none, .mv 58 (.t 2), none, 0⟩,
 ⟨none, .bin 59 .gtr (.t 57) (.t 58), none, 0⟩,
 ⟨none, .mv 51 (.t 59), none, 0⟩]
def c50r10 : List SI := [
 bld 60 [(.int .i64 0), (.slice none 0 0)] [],
 stR 6 0 2 (.t 60),
 mv 7 (.i 70)]
def c50r11 : List (Bool × SI) := [
 (true, ⟨none, .nop, (some 3), 0⟩),
 (true, N_ (.ldR 62 3 0 none)),
 (true, ⟨none, .nop, (some 3), 0⟩),
 (true, N_ (.ldR 64 3 1 none)),
 (true, N_ (.mv 65 (.t 10))),
 (false, N_ (.bls 66 53 2 1 [(.slice none 0 0), (.slice none 0 0)] [(0, 1, (.t 64)), (1, 1, (.t 65))])),
 (false, N_ (.call 67 82 [(.t 66)])),
 (true, N_ (.bld 68 [(.int .i64 0), (.slice none 0 0)] [(0, 1, (.t 62)), (1, 1, (.t 67))]))]
def c50r12 : List SI := [
 stR 6 0 2 (.t 68),
 mv 7 (.i 0)]
def c50 : SC :=
 (.seq (.reg false c50r0)
 (.seq (.seq (.reg false c50r1)
 (.seq (.reg false c50r2)
 (.cond (.t 32)
  (.seq (.reg false c50r3)
  .ret)
  .skip)))
 (.seq (.reg false c50r4)
 (.seq (.blk 0 (.seq (.reg false c50r5)
  (.cond (.t 39)
   (.seq (.reg false c50r6)
   .ret)
   (.seq (.rgX c50r7)
   (.cond (.t 44)
    (.seq (.reg false c50r8)
    .ret)
    (.seq (.reg false c50r9)
    (.cond (.t 51)
     (.seq (.reg false c50r10)
     .ret)
     .skip)))))))
 (.seq (.rgY c50r11 c50r12)
 .ret)))))
def v50 : List Nat × List Nat := ([3, 4, 6], [3, 4, 6, 18, 23, 45, 52, 61, 63])
def o50 : List RS := [.r 6 (some 2), .t 7]
def c51r0 : List SI := [
 bxR 2 (.t 0),
 alR 4 [(.int .i64 0), (.int .i64 0), (.slice none 0 0)]]
def c51r1 : List SI := [
 ⟨none, .nop, (some 2), 0⟩,
 ⟨none, .ldR 6 2 0 none, none, 0⟩,
 ⟨none, .nop, (some 2), 0⟩,
 ⟨none, .ldR 8 2 1 none, none, 0⟩,
 ⟨none, .mv 9 (.t 1), none, 0⟩,
 ⟨none, .bld 10 [(.int .i64 0), (.int .i64 0), (.slice none 0 0)] [(0, 1, (.t 6)), (1, 1, (.t 8)), (2, 1, (.t 9))], none, 0⟩,
 ⟨none, .stR 4 0 3 (.t 10), none, 0⟩]
def c51 : SC :=
 (.seq (.reg false c51r0)
 (.seq (.reg false c51r1)
 .ret))
def v51 : List Nat × List Nat := ([2, 4], [2, 4, 5, 7])
def o51 : List RS := [.r 4 (some 3)]
def c52r0 : List SI := [
 mv 2 (.v (.slice none 0 0))]
def c52r1 : List SI := [
 mv 3 (.t 0),
 isn 4 false (.t 3)]
def c52r2 : List SI := [
 mv 2 (.v (.slice none 0 0))]
def c52r3 : List SI := [
 bl0 5,
 mv 6 (.t 0),
 app 7 (.t 5) (.t 6) 55 2 32,
 mv 2 (.t 7)]
def c52 : SC :=
 (.seq (.reg false c52r0)
 (.seq (.seq (.reg false c52r1)
 (.cond (.t 4)
  (.seq (.reg false c52r2)
  .ret)
  .skip))
 (.seq (.reg false c52r3)
 .ret)))
def v52 : List Nat × List Nat := ([], [])
def o52 : List RS := [.t 2]
def c53r0 : List SI := [
 alR 6 [(.int .i64 0), (.slice none 0 0)],
 mv 7 (.i 0)]
def c53r1 : List SI := [
 mv 13 (.t 0),
 call 14 83 [(.t 13)],
 mv 12 (.t 14),
 ext 15 (.t 12) 0,
 ext 16 (.t 12) 1,
 alR 8 [(.int .i64 0), (.slice none 0 0)],
 stR 8 0 2 (.t 15),
 mv 9 (.t 16)]
def c53r2 : List SI := [
 ⟨none, .mv 17 (.t 9), none, 0⟩,
 ⟨none, .bin 18 .neq (.t 17) (.i 0), none, 0⟩,
 ⟨none, .mv 19 (.t 18), none, 0⟩,
 ⟨some (19, false), .mv 20 (.t 2), none, 20⟩,
 ⟨some (19, false), .call 21 81 [(.t 20)], none, 21⟩,
 ⟨some (19, false), .un 22 .not (.t 21), none, 22⟩,
 ⟨none, .pick 23 (.t 19) (.b true) (.t 22), none, 0⟩]
def c53r3 : List SI := [
 bld 24 [(.int .i64 0), (.slice none 0 0)] [],
 stR 6 0 2 (.t 24),
 mv 7 (.i 1)]
def c53r4 : List SI := [
 mv 25 (.t 1),
 len 26 false (.t 25),
 mv 27 (.i 0)]
def c53r5 : List SI := [
 bin 28 .lss (.t 27) (.t 26)]
def c53r6 : List SI := [
 ixA 29 (.t 25) (.t 27) 10,
 ld 30 (.t 29) (some 10),
 alR 11 [(.int .i64 0), (.int .i64 0), (.int .i64 0), (.int .i64 0), (.int .i64 0), (.int .i64 0), (.int .i64 0), (.bool false), (.int .i64 0), (.slice none 0 0)],
 stR 11 0 10 (.t 30)]
def c53r7 : List SI := [
 ldR 32 8 0 (some 2),
 ldR 33 11 0 (some 10),
 mv 34 (.t 2),
 call 35 50 [(.t 32), (.t 33), (.t 34)],
 mv 31 (.t 35),
 ext 36 (.t 31) 0,
 ext 37 (.t 31) 1,
 stR 8 0 2 (.t 36),
 mv 9 (.t 37)]
def c53r8 : List SI := [
 mv 38 (.t 9),
 bin 39 .neq (.t 38) (.i 0)]
def c53r9 : List SI := [
 bld 40 [(.int .i64 0), (.slice none 0 0)] [],
 mv 41 (.t 9),
 stR 6 0 2 (.t 40),
 mv 7 (.t 41)]
def c53r10 : List SI := [
 bin 42 .add (.t 27) (.i 1),
 mv 27 (.t 42)]
def c53r11 : List SI := [
 ldR 43 8 0 (some 2),
 stR 6 0 2 (.t 43),
 mv 7 (.i 0)]
def c53 : SC :=
 (.seq (.reg false c53r0)
 (.seq (.reg false c53r1)
 (.seq (.seq (.reg false c53r2)
 (.cond (.t 23)
  (.seq (.reg false c53r3)
  .ret)
  .skip))
 (.seq (.seq (.reg false c53r4)
 (.blk 0 (.loop (.seq (.reg false c53r5)
   (.seq (.cond (.t 28)
    .skip
    (.exit 0))
   (.seq (.blk 1 (.seq (.reg false c53r6)
    (.seq (.reg false c53r7)
    (.seq (.reg false c53r8)
    (.cond (.t 39)
     (.seq (.reg false c53r9)
     .ret)
     .skip)))))
   (.reg false c53r10)))))))
 (.seq (.reg false c53r11)
 .ret)))))
def v53 : List Nat × List Nat := ([6, 8, 11], [6, 8, 11])
def o53 : List RS := [.r 6 (some 2), .t 7]
def c54r0 : List SI := [
 bxR 1 (.t 0),
 mv 2 (.i 0)]
def c54r1 : List SI := [
 ldR 3 1 0 (some 10),
 call 4 84 [(.t 3)],
 un 5 .not (.t 4)]
def c54r2 : List SI := [
 mv 2 (.i 1)]
def c54r3 : List SI := [
 ldR 6 1 0 (some 10),
 call 7 85 [(.t 6)],
 len 8 false (.t 7),
 bin 9 .gtr (.t 8) (.i 2048)]
def c54r4 : List SI := [
 mv 2 (.i 2)]
def c54r5 : List SI := [
 mv 2 (.i 0)]
def c54 : SC :=
 (.seq (.reg false c54r0)
 (.seq (.seq (.reg false c54r1)
 (.cond (.t 5)
  (.seq (.reg false c54r2)
  .ret)
  .skip))
 (.seq (.seq (.reg false c54r3)
 (.cond (.t 9)
  (.seq (.reg false c54r4)
  .ret)
  .skip))
 (.seq (.reg false c54r5)
 .ret))))
def v54 : List Nat × List Nat := ([1], [1])
def o54 : List RS := [.t 2]
def c55r0 : List SI := [
 bxR 1 (.t 0),
 mv 2 (.i 0)]
def c55r1 : List SI := [
 ldR 3 1 0 (some 10),
 call 4 54 [(.t 3)],
 bin 5 .neq (.t 4) (.i 0)]
def c55r2 : List SI := [
 mv 2 (.i 0)]
def c55r3 : List SI := [
 ldR 6 1 0 (some 10),
 call 7 85 [(.t 6)],
 len 8 false (.t 7),
 mv 2 (.t 8)]
def c55 : SC :=
 (.seq (.reg false c55r0)
 (.seq (.seq (.reg false c55r1)
 (.cond (.t 5)
  (.seq (.reg false c55r2)
  .ret)
  .skip))
 (.seq (.reg false c55r3)
 .ret)))
def v55 : List Nat × List Nat := ([1], [1])
def o55 : List RS := [.t 2]
def c56r0 : List SI := [
 bxR 3 (.t 0),
 bxR 4 (.t 1),
 alR 6 [(.int .i64 0), (.slice none 0 0)],
 mv 7 (.i 0)]
def c56r1 : List SI := [
 ⟨none, .ldR 10 3 0 (some 2), none, 0⟩,
 ⟨none, .call 11 38 [(.t 10)], none, 0⟩,
 ⟨none, .un 12 .not (.t 11), none, 0⟩,
 ⟨none, .mv 13 (.t 12), none, 0⟩,
 ⟨some (13, false), .mv 14 (.t 2), none, 14⟩,
 ⟨some (13, false), .bin 15 .lss (.t 14) (.i 1), none, 15⟩,
 ⟨none, .pick 16 (.t 13) (.b true) (.t 15), none, 0⟩,
 ⟨none, .mv 17 (.t 16), none, 0⟩,
 ⟨some (17, false), .mv 18 (.t 2), none, 18⟩,
 ⟨some (17, false), .bin 19 .gtr (.t 18) (.i 4096), none, 19⟩,
 ⟨none, .pick 20 (.t 17) (.b true) (.t 19), none, 0⟩]
def c56r2 : List SI := [
 bld 21 [(.int .i64 0), (.slice none 0 0)] [],
 stR 6 0 2 (.t 21),
 mv 7 (.i 1)]
def c56r3 : List SI := [
 ldR 23 4 0 (some 10),
 call 24 86 [(.t 23)],
 mv 22 (.t 24),
 ext 25 (.t 22) 0,
 ext 26 (.t 22) 1,
 mv 8 (.t 25),
 mv 9 (.t 26)]
def c56r4 : List SI := [
 mv 27 (.t 9),
 bin 28 .neq (.t 27) (.i 0)]
def c56r5 : List SI := [
 bld 29 [(.int .i64 0), (.slice none 0 0)] [],
 mv 30 (.t 9),
 stR 6 0 2 (.t 29),
 mv 7 (.t 30)]
def c56r6 : List (Bool × SI) := [
 (true, ⟨none, .nop, (some 4), 0⟩),
 (true, N_ (.ldR 32 4 0 none)),
 (true, N_ (.ldR 33 3 0 (some 2))),
 (false, N_ (.call 34 69 [(.t 33)])),
 (true, N_ (.bin 35 .lss (.t 32) (.t 34)))]
def c56r7 : List SI := [
 bld 36 [(.int .i64 0), (.slice none 0 0)] [],
 stR 6 0 2 (.t 36),
 mv 7 (.i 71)]
def c56r8 : List SI := [
 ⟨none, .nop, (some 3), 0⟩,
 ⟨none, .ldR 38 3 1 none, none, 0⟩,
 ⟨none, .len 39 false (.t 38), none, 0⟩,
 ⟨none, .mv 40 (.t 8), none, 0⟩,
 ⟨none, .len 41 false (.t 40), none, 0⟩,
 ⟨none, .bin 42 .add (.t 39) (.t 41), none, 0⟩,
 ⟨none, .mv 43 (.t 2), none, 0⟩,
 ⟨none, .bin 44 .gtr (.t 42) (.t 43), none, 0⟩]
def c56r9 : List SI := [
 bld 45 [(.int .i64 0), (.slice none 0 0)] [],
 stR 6 0 2 (.t 45),
 mv 7 (.i 70)]
def c56r10 : List (Bool × SI) := [
 (true, ⟨none, .nop, (some 3), 0⟩),
 (true, N_ (.ldR 47 3 0 none)),
 (true, ⟨none, .nop, (some 3), 0⟩),
 (true, N_ (.ldR 49 3 1 none)),
 (true, N_ (.mv 51 (.t 8))),
 (false, N_ (.call 50 87 [(.t 49)])),
 (false, N_ (.app 52 (.t 50) (.t 51) 5 1 1)),
 (true, N_ (.bld 53 [(.int .i64 0), (.slice none 0 0)] [(0, 1, (.t 47)), (1, 1, (.t 52))]))]
def c56r11 : List SI := [
 stR 6 0 2 (.t 53),
 mv 7 (.i 0)]
def c56 : SC :=
 (.seq (.reg false c56r0)
 (.seq (.seq (.reg false c56r1)
 (.cond (.t 20)
  (.seq (.reg false c56r2)
  .ret)
  .skip))
 (.seq (.reg false c56r3)
 (.seq (.seq (.reg false c56r4)
 (.cond (.t 28)
  (.seq (.reg false c56r5)
  .ret)
  .skip))
 (.seq (.seq (.rgX c56r6)
 (.cond (.t 35)
  (.seq (.reg false c56r7)
  .ret)
  .skip))
 (.seq (.seq (.reg false c56r8)
 (.cond (.t 44)
  (.seq (.reg false c56r9)
  .ret)
  .skip))
 (.seq (.rgY c56r10 c56r11)
 .ret)))))))
def v56 : List Nat × List Nat := ([3, 4, 6], [3, 4, 6, 31, 37, 46, 48])
def o56 : List RS := [.r 6 (some 2), .t 7]
def c57r0 : List SI := [
 bxR 3 (.t 0),
 bxR 5 (.t 2),
 alR 6 [(.int .i64 0), (.int .i64 0), (.slice none 0 0)]]
def c57r1 : List SI := [
 ⟨none, .bl0 8, none, 0⟩,
 ⟨none, .nop, (some 3), 0⟩,
 ⟨none, .ldR 10 3 2 none, none, 0⟩,
 ⟨none, .app 11 (.t 8) (.t 10) 55 2 32, none, 0⟩,
 ⟨none, .mv 7 (.t 11), none, 0⟩]
def c57r2 : List SI := [
 mv 12 (.t 7),
 mv 13 (.t 1),
 ldR 14 5 0 (some 2),
 ixA 15 (.t 12) (.t 13) 2,
 st (.t 15) 2 (.t 14)]
def c57r3 : List SI := [
 ⟨none, .mv 16 (.t 7), none, 0⟩,
 ⟨none, .nop, (some 3), 0⟩,
 ⟨none, .stR 3 2 1 (.t 16), none, 0⟩]
def c57r4 : List SI := [
 ldR 18 3 0 (some 3),
 stR 6 0 3 (.t 18)]
def c57 : SC :=
 (.seq (.reg false c57r0)
 (.seq (.reg false c57r1)
 (.seq (.reg false c57r2)
 (.seq (.reg false c57r3)
 (.seq (.reg false c57r4)
 .ret)))))
def v57 : List Nat × List Nat := ([3, 5, 6], [3, 5, 6, 9, 17])
def o57 : List RS := [.r 6 (some 3)]
def c58r0 : List SI := [
 alR 6 [(.int .i64 0), (.slice none 0 0)],
 mv 7 (.i 0)]
def c58r1 : List SI := [
 mv 13 (.t 0),
 call 14 88 [(.t 13)],
 mv 12 (.t 14),
 ext 15 (.t 12) 0,
 ext 16 (.t 12) 1,
 alR 8 [(.int .i64 0), (.slice none 0 0)],
 stR 8 0 2 (.t 15),
 mv 9 (.t 16)]
def c58r2 : List SI := [
 ⟨none, .mv 17 (.t 9), none, 0⟩,
 ⟨none, .bin 18 .neq (.t 17) (.i 0), none, 0⟩,
 ⟨none, .mv 19 (.t 18), none, 0⟩,
 ⟨some (19, false), .mv 20 (.t 2), none, 20⟩,
 ⟨some (19, false), .bin 21 .lss (.t 20) (.i 1), none, 21⟩,
 ⟨none, .pick 22 (.t 19) (.b true) (.t 21), none, 0⟩,
 ⟨none, .mv 23 (.t 22), none, 0⟩,
 ⟨some (23, false), .mv 24 (.t 2), none, 24⟩,
 ⟨some (23, false), .bin 25 .gtr (.t 24) (.i 4096), none, 25⟩,
 ⟨none, .pick 26 (.t 23) (.b true) (.t 25), none, 0⟩]
def c58r3 : List SI := [
 bld 27 [(.int .i64 0), (.slice none 0 0)] [],
 stR 6 0 2 (.t 27),
 mv 7 (.i 1)]
def c58r4 : List SI := [
 mv 28 (.t 1),
 len 29 false (.t 28),
 mv 30 (.i 0)]
def c58r5 : List SI := [
 bin 31 .lss (.t 30) (.t 29)]
def c58r6 : List SI := [
 ixA 32 (.t 28) (.t 30) 10,
 ld 33 (.t 32) (some 10),
 alR 11 [(.int .i64 0), (.int .i64 0), (.int .i64 0), (.int .i64 0), (.int .i64 0), (.int .i64 0), (.int .i64 0), (.bool false), (.int .i64 0), (.slice none 0 0)],
 stR 11 0 10 (.t 33)]
def c58r7 : List SI := [
 ldR 35 8 0 (some 2),
 ldR 36 11 0 (some 10),
 mv 37 (.t 2),
 call 38 56 [(.t 35), (.t 36), (.t 37)],
 mv 34 (.t 38),
 ext 39 (.t 34) 0,
 ext 40 (.t 34) 1,
 stR 8 0 2 (.t 39),
 mv 9 (.t 40)]
def c58r8 : List SI := [
 mv 41 (.t 9),
 bin 42 .neq (.t 41) (.i 0)]
def c58r9 : List SI := [
 bld 43 [(.int .i64 0), (.slice none 0 0)] [],
 mv 44 (.t 9),
 stR 6 0 2 (.t 43),
 mv 7 (.t 44)]
def c58r10 : List SI := [
 bin 45 .add (.t 30) (.i 1),
 mv 30 (.t 45)]
def c58r11 : List SI := [
 ldR 46 8 0 (some 2),
 stR 6 0 2 (.t 46),
 mv 7 (.i 0)]
def c58 : SC :=
 (.seq (.reg false c58r0)
 (.seq (.reg false c58r1)
 (.seq (.seq (.reg false c58r2)
 (.cond (.t 26)
  (.seq (.reg false c58r3)
  .ret)
  .skip))
 (.seq (.seq (.reg false c58r4)
 (.blk 0 (.loop (.seq (.reg false c58r5)
   (.seq (.cond (.t 31)
    .skip
    (.exit 0))
   (.seq (.blk 1 (.seq (.reg false c58r6)
    (.seq (.reg false c58r7)
    (.seq (.reg false c58r8)
    (.cond (.t 42)
     (.seq (.reg false c58r9)
     .ret)
     .skip)))))
   (.reg false c58r10)))))))
 (.seq (.reg false c58r11)
 .ret)))))
def v58 : List Nat × List Nat := ([6, 8, 11], [6, 8, 11])
def o58 : List RS := [.r 6 (some 2), .t 7]
def c59r0 : List SI := [
 bxR 3 (.t 0),
 alR 6 [(.int .i64 0), (.int .i64 0), (.slice none 0 0)],
 mv 7 (.i 0)]
def c59r1 : List SI := [
 ldR 9 3 0 (some 3),
 call 10 10 [(.t 9)],
 mv 8 (.t 10)]
def c59r2 : List SI := [
 mv 11 (.t 8),
 bin 12 .neq (.t 11) (.i 0)]
def c59r3 : List SI := [
 bld 13 [(.int .i64 0), (.int .i64 0), (.slice none 0 0)] [],
 mv 14 (.t 8),
 stR 6 0 3 (.t 13),
 mv 7 (.t 14)]
def c59r4 : List SI := [
 ldR 15 3 0 (some 3),
 mv 16 (.t 1),
 call 17 70 [(.t 15), (.t 16)],
 un 18 .not (.t 17)]
def c59r5 : List SI := [
 bld 19 [(.int .i64 0), (.int .i64 0), (.slice none 0 0)] [],
 stR 6 0 3 (.t 19),
 mv 7 (.i 90)]
def c59r6 : List SI := [
 mv 20 (.t 2),
 cav 21 (.t 20) [],
 stR 6 0 3 (.t 21),
 mv 7 (.i 0)]
def c59 : SC :=
 (.seq (.reg false c59r0)
 (.seq (.seq (.reg false c59r1)
 (.seq (.reg false c59r2)
 (.cond (.t 12)
  (.seq (.reg false c59r3)
  .ret)
  .skip)))
 (.seq (.seq (.reg false c59r4)
 (.cond (.t 18)
  (.seq (.reg false c59r5)
  .ret)
  .skip))
 (.seq (.reg false c59r6)
 .ret))))
def v59 : List Nat × List Nat := ([3, 6], [3, 6])
def o59 : List RS := [.r 6 (some 3), .t 7]
def c60r0 : List SI := [
 alR 2 [(.int .i64 0), (.int .i64 0), (.slice none 0 0)]]
def c60r1 : List SI := [
 mv 3 (.v (.slice none 0 0))]
def c60r2 : List SI := [
 flA 6 (.t 0) 2,
 ld 7 (.t 6) none,
 len 8 false (.t 7),
 mv 9 (.i 0)]
def c60r3 : List SI := [
 bin 10 .lss (.t 9) (.t 8)]
def c60r4 : List SI := [
 ixA 11 (.t 7) (.t 9) 2,
 ld 12 (.t 11) (some 2),
 alR 5 [(.int .i64 0), (.slice none 0 0)],
 stR 5 0 2 (.t 12)]
def c60r5 : List SI := [
 ⟨none, .nop, (some 5), 0⟩,
 ⟨none, .ldR 14 5 0 none, none, 0⟩,
 ⟨none, .ld 15 (.t 1) none, none, 0⟩,
 ⟨none, .bin 16 .lss (.t 14) (.t 15), none, 0⟩]
def c60r6 : List SI := [
 mv 17 (.t 3),
 ldR 18 5 0 (some 2),
 ld 19 (.t 1) none,
 call 20 61 [(.t 18), (.t 19)],
 bls 21 55 1 2 [(.int .i64 0), (.slice none 0 0)] [(0, 2, (.t 20))],
 app 22 (.t 17) (.t 21) 55 2 32,
 mv 3 (.t 22)]
def c60r7 : List SI := [
 bin 23 .add (.t 9) (.i 1),
 mv 9 (.t 23)]
def c60r8 : List SI := [
 mv 24 (.t 3),
 len 25 false (.t 24),
 bin 26 .eql (.t 25) (.i 0)]
def c60r9 : List SI := [
 ld 27 (.t 1) none,
 bld 28 [(.int .i64 0), (.slice none 0 0)] [(0, 1, (.t 27))],
 bls 29 55 1 2 [(.int .i64 0), (.slice none 0 0)] [(0, 2, (.t 28))],
 mv 3 (.t 29)]
def c60r10 : List SI := [
 ld 30 (.t 0) (some 3),
 mv 31 (.t 3),
 call 32 51 [(.t 30), (.t 31)],
 stR 2 0 3 (.t 32)]
def c60 : SC :=
 (.seq (.reg false c60r0)
 (.seq (.reg false c60r1)
 (.seq (.seq (.reg false c60r2)
 (.blk 0 (.loop (.seq (.reg false c60r3)
   (.seq (.cond (.t 10)
    .skip
    (.exit 0))
   (.seq (.blk 1 (.seq (.reg false c60r4)
    (.seq (.reg false c60r5)
    (.cond (.t 16)
     (.reg false c60r6)
     .skip))))
   (.reg false c60r7)))))))
 (.seq (.seq (.reg false c60r8)
 (.cond (.t 26)
  (.reg false c60r9)
  .skip))
 (.seq (.reg false c60r10)
 .ret)))))
def v60 : List Nat × List Nat := ([2, 5], [2, 5, 13])
def o60 : List RS := [.r 2 (some 3)]
def c61r0 : List SI := [
 bx 2 (.t 0),
 bx 3 (.t 1),
 al 4 [(.int .i64 0), (.slice none 0 0)]]
def c61r1 : List SI := [
 al 5 [(.int .i64 0)],
 st (.t 5) 1 (.i 0)]
def c61r2 : List SI := [
 ld 8 (.t 2) (some 2),
 call 9 89 [(.t 8)]]
def c61r3 : List SI := [
 alR 6 [(.int .i64 0), (.int .i64 0), (.int .i64 0), (.int .i64 0), (.int .i64 0), (.int .i64 0), (.int .i64 0), (.bool false), (.int .i64 0), (.slice none 0 0)],
 stR 6 0 10 (.t 10)]
def c61r4 : List SI := [
 mv 7 (.t 11)]
def c61r5 : List SI := [
 ⟨none, .nop, (some 6), 0⟩,
 ⟨none, .ldR 13 6 1 none, none, 0⟩,
 ⟨none, .ld 14 (.t 3) none, none, 0⟩,
 ⟨none, .bin 15 .geq (.t 13) (.t 14), none, 0⟩]
def c61r6 : List SI := [
 mv 16 (.t 7),
 st (.t 5) 1 (.t 16)]
def c61r7 : List SI := [
 ld 17 (.t 2) (some 2),
 ld 18 (.t 5) none,
 call 19 90 [(.t 17), (.t 18)],
 st (.t 4) 2 (.t 19)]
def c61 : SC :=
 (.seq (.reg false c61r0)
 (.seq (.reg false c61r1)
 (.seq (.seq (.reg false c61r2)
 (.blk 0 (.rf (.t 9) [10, 11] (.seq (.reg false c61r3)
   (.reg false c61r4))
   (.blk 1 (.seq (.seq (.reg false c61r5)
    (.cond (.t 15)
     (.exit 0)
     .skip))
    (.reg false c61r6))))))
 (.seq (.reg false c61r7)
 .ret))))
def v61 : List Nat × List Nat := ([6], [6, 12])
def o61 : List RS := [.c 4 (some 2)]
def c62r0 : List SI := [
 bxR 2 (.t 0),
 mv 4 (.b false)]
def c62r1 : List SI := [
 ⟨none, .mv 5 (.t 1), none, 0⟩,
 ⟨none, .nop, (some 2), 0⟩,
 ⟨none, .ldR 7 2 1 none, none, 0⟩,
 ⟨none, .bin 8 .geq (.t 5) (.t 7), none, 0⟩,
 ⟨none, .mv 9 (.t 8), none, 0⟩,
 ⟨some (9, true), .mv 10 (.t 1), none, 10⟩,
 ⟨some (9, true), .ldR 11 2 0 (some 3), none, 11⟩,
 ⟨some (9, true), .call 12 41 [(.t 11)], none, 12⟩,
 ⟨some (9, true), .bin 13 .leq (.t 10) (.t 12), none, 13⟩,
 ⟨none, .pick 14 (.t 9) (.t 13) (.b false), none, 0⟩,
 ⟨none, .mv 4 (.t 14), none, 0⟩]
def c62 : SC :=
 (.seq (.reg false c62r0)
 (.seq (.reg false c62r1)
 .ret))
def v62 : List Nat × List Nat := ([2], [2, 6])
def o62 : List RS := [.t 4]
def c63r0 : List SI := [
 bxR 2 (.t 0),
 alR 4 [(.int .i64 0), (.slice none 0 0)]]
def c63r1 : List SI := [
 ldR 11 2 0 (some 2),
 call 12 74 [(.t 11)],
 mv 10 (.t 12),
 ext 13 (.t 10) 0,
 ext 14 (.t 10) 1,
 mv 5 (.t 13),
 mv 6 (.t 14)]
def c63r2 : List SI := [
 mv 7 (.i 0)]
def c63r3 : List SI := [
 mv 15 (.t 5),
 len 16 false (.t 15),
 mv 17 (.i 0)]
def c63r4 : List SI := [
 bin 18 .lss (.t 17) (.t 16)]
def c63r5 : List SI := [
 ixA 19 (.t 15) (.t 17) 10,
 ld 20 (.t 19) (some 10),
 alR 9 [(.int .i64 0), (.int .i64 0), (.int .i64 0), (.int .i64 0), (.int .i64 0), (.int .i64 0), (.int .i64 0), (.bool false), (.int .i64 0), (.slice none 0 0)],
 stR 9 0 10 (.t 20)]
def c63r6 : List SI := [
 ⟨none, .nop, (some 9), 0⟩,
 ⟨none, .ldR 22 9 1 none, none, 0⟩,
 ⟨none, .mv 23 (.t 1), none, 0⟩,
 ⟨none, .bin 24 .geq (.t 22) (.t 23), none, 0⟩]
def c63r7 : List SI := [
 mv 25 (.t 7),
 ldR 26 9 0 (some 10),
 call 27 55 [(.t 26)],
 bin 28 .add (.t 25) (.t 27),
 mv 7 (.t 28)]
def c63r8 : List SI := [
 bin 29 .add (.t 17) (.i 1),
 mv 17 (.t 29)]
def c63r9 : List (Bool × SI) := [
 (true, ⟨none, .nop, (some 2), 0⟩),
 (true, N_ (.ldR 31 2 0 none)),
 (true, ⟨none, .nop, (some 2), 0⟩),
 (true, N_ (.ldR 33 2 1 none)),
 (true, N_ (.mv 34 (.t 7))),
 (true, N_ (.sl 35 (.t 33) none (some (.t 34)) none 1)),
 (false, N_ (.call 36 87 [(.t 35)])),
 (true, N_ (.bld 37 [(.int .i64 0), (.slice none 0 0)] [(0, 1, (.t 31)), (1, 1, (.t 36))]))]
def c63r10 : List SI := [
 stR 4 0 2 (.t 37)]
def c63 : SC :=
 (.seq (.reg false c63r0)
 (.seq (.reg false c63r1)
 (.seq (.reg false c63r2)
 (.seq (.seq (.reg false c63r3)
 (.blk 0 (.loop (.seq (.reg false c63r4)
   (.seq (.cond (.t 18)
    .skip
    (.exit 0))
   (.seq (.blk 1 (.seq (.reg false c63r5)
    (.seq (.seq (.reg false c63r6)
    (.cond (.t 24)
     (.exit 0)
     .skip))
    (.reg false c63r7))))
   (.reg false c63r8)))))))
 (.seq (.rgY c63r9 c63r10)
 .ret)))))
def v63 : List Nat × List Nat := ([2, 4, 9], [2, 4, 9, 21, 30, 32])
def o63 : List RS := [.r 4 (some 2)]
def c64r0 : List SI := [
 mv 2 (.b false)]
def c64r1 : List SI := [
 ⟨none, .mv 3 (.t 0), none, 0⟩,
 ⟨none, .bin 4 .geq (.t 3) (.i 0), none, 0⟩,
 ⟨none, .mv 5 (.t 4), none, 0⟩,
 ⟨some (5, true), .mv 6 (.t 0), none, 6⟩,
 ⟨some (5, true), .bin 7 .leq (.t 6) (.i 1099511627776), none, 7⟩,
 ⟨none, .pick 8 (.t 5) (.t 7) (.b false), none, 0⟩,
 ⟨none, .mv 2 (.t 8), none, 0⟩]
def c64 : SC :=
 (.seq (.reg false c64r0)
 (.seq (.reg false c64r1)
 .ret))
def v64 : List Nat × List Nat := ([], [])
def o64 : List RS := [.t 2]
def c65r0 : List SI := [
 alR 2 [(.int .i64 0), (.int .i64 0), (.slice none 0 0)]]
def c65r1 : List (Bool × SI) := [
 (true, N_ (.flA 4 (.t 0) 2)),
 (true, N_ (.ld 5 (.t 4) none)),
 (true, N_ (.ld 6 (.t 0) (some 3))),
 (true, N_ (.mkf 9 (.func 67) [(.t 1)])),
 (false, N_ (.call 7 49 [(.t 6)])),
 (true, N_ (.sl 8 (.t 5) none (some (.t 7)) none 2)),
 (false, N_ (.call 10 66 [(.t 8), (.t 9)])),
 (true, N_ (.mv 3 (.t 10)))]
def c65r2 : List SI := [
 mv 11 (.t 3),
 bin 12 .lss (.t 11) (.i 0)]
def c65r3 : List SI := [
 ld 13 (.t 0) (some 3),
 call 14 49 [(.t 13)],
 mv 3 (.t 14)]
def c65r4 : List (Bool × SI) := [
 (true, N_ (.flA 15 (.t 0) 0)),
 (true, N_ (.ld 16 (.t 15) none)),
 (true, N_ (.ld 17 (.t 1) none)),
 (true, N_ (.flA 18 (.t 0) 2)),
 (true, N_ (.ld 19 (.t 18) none)),
 (true, N_ (.mv 20 (.t 3))),
 (true, N_ (.sl 21 (.t 19) (some (.t 20)) none none 2)),
 (false, N_ (.call 22 52 [(.t 21)])),
 (true, N_ (.bld 23 [(.int .i64 0), (.int .i64 0), (.slice none 0 0)] [(0, 1, (.t 16)), (1, 1, (.t 17)), (2, 1, (.t 22))]))]
def c65r5 : List SI := [
 stR 2 0 3 (.t 23)]
def c65 : SC :=
 (.seq (.reg false c65r0)
 (.seq (.rgX c65r1)
 (.seq (.seq (.reg false c65r2)
 (.cond (.t 12)
  (.reg false c65r3)
  .skip))
 (.seq (.rgY c65r4 c65r5)
 .ret))))
def v65 : List Nat × List Nat := ([2], [2])
def o65 : List RS := [.r 2 (some 3)]
def c66r0 : List SI := [
 mv 4 (.i 0)]
def c66r1 : List SI := [
 mv 6 (.t 0),
 len 7 false (.t 6),
 mv 8 (.i 0)]
def c66r2 : List SI := [
 bin 9 .lss (.t 8) (.t 7)]
def c66r3 : List SI := [
 mv 10 (.t 8),
 mv 5 (.t 10)]
def c66r4 : List SI := [
 mv 11 (.t 1),
 mv 12 (.t 0),
 mv 13 (.t 5),
 ixA 14 (.t 12) (.t 13) 2,
 ld 15 (.t 14) (some 2),
 cav 16 (.t 11) [(.t 15)]]
def c66r5 : List SI := [
 mv 17 (.t 5),
 mv 4 (.t 17)]
def c66r6 : List SI := [
 bin 18 .add (.t 8) (.i 1),
 mv 8 (.t 18)]
def c66r7 : List SI := [
 mv 4 (.i (-1))]
def c66 : SC :=
 (.seq (.reg false c66r0)
 (.seq (.seq (.reg false c66r1)
 (.blk 0 (.loop (.seq (.reg false c66r2)
   (.seq (.cond (.t 9)
    .skip
    (.exit 0))
   (.seq (.blk 1 (.seq (.reg false c66r3)
    (.seq (.reg false c66r4)
    (.cond (.t 16)
     (.seq (.reg false c66r5)
     .ret)
     .skip))))
   (.reg false c66r6)))))))
 (.seq (.reg false c66r7)
 .ret)))
def v66 : List Nat × List Nat := ([], [])
def o66 : List RS := [.t 4]
def c67r0 : List SI := [
 bxR 2 (.t 0),
 mv 3 (.b false)]
def c67r1 : List (Bool × SI) := [
 (true, N_ (.ldR 4 2 0 (some 2))),
 (true, N_ (.ld 6 (.t 1) none)),
 (false, N_ (.call 5 68 [(.t 4)])),
 (true, N_ (.bin 7 .gtr (.t 5) (.t 6))),
 (true, N_ (.mv 3 (.t 7)))]
def c67 : SC :=
 (.seq (.reg false c67r0)
 (.seq (.rgX c67r1)
 .ret))
def v67 : List Nat × List Nat := ([2], [2])
def o67 : List RS := [.t 3]
def c68r0 : List SI := [
 bx 1 (.t 0),
 mv 2 (.i 0)]
def c68r1 : List SI := [
 flA 5 (.t 1) 0,
 ld 6 (.t 5) none,
 al 3 [(.int .i64 0)],
 st (.t 3) 1 (.t 6)]
def c68r2 : List SI := [
 ld 7 (.t 1) (some 2),
 call 8 89 [(.t 7)]]
def c68r3 : List SI := [
 alR 4 [(.int .i64 0), (.int .i64 0), (.int .i64 0), (.int .i64 0), (.int .i64 0), (.int .i64 0), (.int .i64 0), (.bool false), (.int .i64 0), (.slice none 0 0)],
 stR 4 0 10 (.t 9)]
def c68r4 : List SI := [
 ⟨none, .nop, (some 4), 0⟩,
 ⟨none, .ldR 12 4 1 none, none, 0⟩,
 ⟨none, .bin 13 .add (.t 12) (.i 1), none, 0⟩,
 ⟨none, .st (.t 3) 1 (.t 13), none, 0⟩]
def c68r5 : List SI := [
 ld 14 (.t 3) none,
 mv 2 (.t 14)]
def c68 : SC :=
 (.seq (.reg false c68r0)
 (.seq (.reg false c68r1)
 (.seq (.seq (.reg false c68r2)
 (.blk 0 (.rf (.t 8) [9, 10] (.reg false c68r3)
  (.blk 1 (.reg false c68r4)))))
 (.seq (.reg false c68r5)
 .ret))))
def v68 : List Nat × List Nat := ([4], [4, 11])
def o68 : List RS := [.t 2]
def c69r0 : List SI := [
 bxR 1 (.t 0),
 mv 2 (.i 0)]
def c69r1 : List SI := [
 ldR 6 1 0 (some 2),
 call 7 74 [(.t 6)],
 mv 5 (.t 7),
 ext 8 (.t 5) 0,
 ext 9 (.t 5) 1,
 mv 3 (.t 8),
 mv 4 (.t 9)]
def c69r2 : List SI := [
 mv 10 (.t 3),
 len 11 false (.t 10),
 bin 12 .eql (.t 11) (.i 0)]
def c69r3 : List SI := [
 ⟨none, .nop, (some 1), 0⟩,
 ⟨none, .ldR 14 1 0 none, none, 0⟩,
 ⟨none, .mv 2 (.t 14), none, 0⟩]
def c69r4 : List SI := [
 mv 15 (.t 3),
 mv 16 (.t 3),
 len 17 false (.t 16),
 bin 18 .sub (.t 17) (.i 1),
 ixA 19 (.t 15) (.t 18) 10,
 flA 20 (.t 19) 1,
 ld 21 (.t 20) none,
 bin 22 .add (.t 21) (.i 1),
 mv 2 (.t 22)]
def c69 : SC :=
 (.seq (.reg false c69r0)
 (.seq (.reg false c69r1)
 (.seq (.seq (.reg false c69r2)
 (.cond (.t 12)
  (.seq (.reg false c69r3)
  .ret)
  .skip))
 (.seq (.reg false c69r4)
 .ret))))
def v69 : List Nat × List Nat := ([1], [1, 13])
def o69 : List RS := [.t 2]
def c70r0 : List SI := [
 bxR 2 (.t 0),
 mv 4 (.b false)]
def c70r1 : List SI := [
 ⟨none, .nop, (some 2), 0⟩,
 ⟨none, .ldR 6 2 1 none, none, 0⟩,
 ⟨none, .mv 7 (.t 1), none, 0⟩,
 ⟨none, .bin 8 .leq (.t 6) (.t 7), none, 0⟩,
 ⟨none, .mv 9 (.t 8), none, 0⟩,
 ⟨some (9, true), .mv 10 (.t 1), none, 10⟩,
 ⟨some (9, true), .ldR 11 2 0 (some 3), none, 11⟩,
 ⟨some (9, true), .call 12 40 [(.t 11)], none, 12⟩,
 ⟨some (9, true), .bin 13 .leq (.t 10) (.t 12), none, 13⟩,
 ⟨none, .pick 14 (.t 9) (.t 13) (.b false), none, 0⟩,
 ⟨none, .mv 4 (.t 14), none, 0⟩]
def c70 : SC :=
 (.seq (.reg false c70r0)
 (.seq (.reg false c70r1)
 .ret))
def v70 : List Nat × List Nat := ([2], [2, 5])
def o70 : List RS := [.t 4]
def c71r0 : List SI := [
 bxR 1 (.t 0),
 alR 2 [(.int .i64 0), (.slice none 0 0)],
 mv 3 (.i 0)]
def c71r1 : List SI := [
 ldR 7 1 0 (some 2),
 call 8 73 [(.t 7)],
 mv 6 (.t 8),
 ext 9 (.t 6) 0,
 ext 10 (.t 6) 1,
 mv 4 (.t 9),
 mv 5 (.t 10)]
def c71r2 : List WI := [
 (true, false, ⟨none, .ldR 11 1 0 (some 2), none, 0⟩),
 (true, false, ⟨none, .mv 12 (.t 5), none, 0⟩),
 (true, false, ⟨none, .nop, (some 1), 0⟩),
 (true, false, ⟨none, .ldR 15 1 1 none, none, 0⟩),
 (true, false, ⟨none, .len 16 false (.t 15), none, 0⟩),
 (true, false, ⟨none, .mv 17 (.t 5), none, 0⟩),
 (true, false, ⟨none, .bin 18 .sub (.t 16) (.t 17), none, 0⟩),
 (false, false, ⟨none, .call 13 90 [(.t 11), (.t 12)], none, 0⟩),
 (false, false, ⟨none, .stR 2 0 2 (.t 13), none, 0⟩),
 (true, false, ⟨none, .mv 3 (.t 18), none, 0⟩)]
def c71 : SC :=
 (.seq (.reg false c71r0)
 (.seq (.reg false c71r1)
 (.seq (.rgW c71r2)
 .ret)))
def v71 : List Nat × List Nat := ([1, 2], [1, 2, 14])
def o71 : List RS := [.r 2 (some 2), .t 3]
theorem q71 : slimR Tryz.prog Tryz.f71.ntmps v71.1 v71.2 Tryz.f71.results.toList = some o71 := by kernel_rfl
def c73r0 : List SI := [
 bx 1 (.t 0),
 al 2 [(.slice none 0 0)],
 al 3 [(.int .i64 0)]]
def c73r1 : List SI := [
 ld 6 (.t 1) (some 2),
 call 7 89 [(.t 6)]]
def c73r2 : List SI := [
 alR 4 [(.int .i64 0), (.int .i64 0), (.int .i64 0), (.int .i64 0), (.int .i64 0), (.int .i64 0), (.int .i64 0), (.bool false), (.int .i64 0), (.slice none 0 0)],
 stR 4 0 10 (.t 8)]
def c73r3 : List SI := [
 mv 5 (.t 9)]
def c73r4 : List SI := [
 ld 10 (.t 2) none,
 ldR 11 4 0 (some 10),
 bls 12 39 1 10 [(.int .i64 0), (.int .i64 0), (.int .i64 0), (.int .i64 0), (.int .i64 0), (.int .i64 0), (.int .i64 0), (.bool false), (.int .i64 0), (.slice none 0 0)] [(0, 10, (.t 11))],
 app 13 (.t 10) (.t 12) 39 10 96,
 mv 14 (.t 5),
 st (.t 2) 1 (.t 13),
 st (.t 3) 1 (.t 14)]
def c73r5 : List WI := [
 (true, false, ⟨none, .ld 15 (.t 2) none, none, 0⟩),
 (true, false, ⟨none, .ld 16 (.t 3) none, none, 0⟩),
 (false, false, ⟨none, .st (.t 2) 1 (.t 15), none, 0⟩),
 (false, true, ⟨none, .st (.t 3) 1 (.t 16), none, 0⟩)]
def c73 : SC :=
 (.seq (.reg false c73r0)
 (.seq (.seq (.reg false c73r1)
 (.blk 0 (.rf (.t 7) [8, 9] (.seq (.reg false c73r2)
  (.reg false c73r3))
  (.blk 1 (.reg false c73r4)))))
 (.seq (.rgW c73r5)
 .ret)))
def v73 : List Nat × List Nat := ([4], [4])
def o73 : List RS := [.c 2 none, .c 3 none]
def c74r0 : List SI := [
 bxR 1 (.t 0),
 mv 2 (.v (.slice none 0 0)),
 mv 3 (.i 0)]
def c74r1 : List SI := [
 mv 4 (.v (.slice none 0 0))]
def c74r2 : List SI := [
 mv 5 (.i 0)]
def c74r3 : List SI := [
 ⟨none, .nop, (some 1), 0⟩,
 ⟨none, .ldR 11 1 1 none, none, 0⟩,
 ⟨none, .mv 12 (.t 5), none, 0⟩,
 ⟨none, .call 13 91 [(.t 11), (.t 12)], none, 0⟩,
 ⟨none, .mv 9 (.t 13), none, 0⟩,
 ⟨none, .ext 14 (.t 9) 0, none, 0⟩,
 ⟨none, .ext 15 (.t 9) 1, none, 0⟩,
 ⟨none, .ext 16 (.t 9) 2, none, 0⟩,
 ⟨none, .alR 6 [(.int .i64 0), (.int .i64 0), (.int .i64 0), (.int .i64 0), (.int .i64 0), (.int .i64 0), (.int .i64 0), (.bool false), (.int .i64 0), (.slice none 0 0)], none, 0⟩,
 ⟨none, .stR 6 0 10 (.t 14), none, 0⟩,
 ⟨none, .mv 7 (.t 15), none, 0⟩,
 ⟨none, .mv 8 (.t 16), none, 0⟩]
def c74r4 : List SI := [
 ⟨none, .mv 17 (.t 8), none, 0⟩,
 ⟨none, .bin 18 .neq (.t 17) (.i 0), none, 0⟩,
 ⟨none, .mv 19 (.t 18), none, 0⟩,
 ⟨some (19, false), .nop, (some 6), 99999⟩,
 ⟨some (19, false), .ldR 21 6 0 none, none, 21⟩,
 ⟨some (19, false), .nop, (some 1), 99999⟩,
 ⟨some (19, false), .ldR 23 1 0 none, none, 23⟩,
 ⟨some (19, false), .bin 24 .lss (.t 21) (.t 23), none, 24⟩,
 ⟨none, .pick 25 (.t 19) (.b true) (.t 24), none, 0⟩,
 ⟨none, .mv 26 (.t 25), none, 0⟩,
 ⟨some (26, false), .mv 27 (.t 4), none, 27⟩,
 ⟨some (26, false), .len 28 false (.t 27), none, 28⟩,
 ⟨some (26, false), .bin 29 .gtr (.t 28) (.i 0), none, 29⟩,
 ⟨some (26, false), .mv 30 (.t 29), none, 30⟩,
 ⟨some (30, true), .nop, (some 6), 99999⟩,
 ⟨some (30, true), .ldR 32 6 0 none, none, 32⟩,
 ⟨some (30, true), .mv 33 (.t 4), none, 33⟩,
 ⟨some (30, true), .mv 34 (.t 4), none, 34⟩,
 ⟨some (30, true), .len 35 false (.t 34), none, 35⟩,
 ⟨some (30, true), .bin 36 .sub (.t 35) (.i 1), none, 36⟩,
 ⟨some (30, true), .ixA 37 (.t 33) (.t 36) 10, none, 37⟩,
 ⟨some (30, true), .flA 38 (.t 37) 1, none, 38⟩,
 ⟨some (30, true), .ld 39 (.t 38) none, none, 39⟩,
 ⟨some (30, true), .bin 40 .leq (.t 32) (.t 39), none, 40⟩,
 ⟨some (26, false), .pick 41 (.t 30) (.t 40) (.b false), none, 41⟩,
 ⟨none, .pick 42 (.t 26) (.b true) (.t 41), none, 0⟩]
def c74r5 : List SI := [
 mv 43 (.t 4),
 mv 44 (.t 5),
 mv 2 (.t 43),
 mv 3 (.t 44)]
def c74r6 : List SI := [
 mv 45 (.t 4),
 ldR 46 6 0 (some 10),
 bls 47 39 1 10 [(.int .i64 0), (.int .i64 0), (.int .i64 0), (.int .i64 0), (.int .i64 0), (.int .i64 0), (.int .i64 0), (.bool false), (.int .i64 0), (.slice none 0 0)] [(0, 10, (.t 46))],
 app 48 (.t 45) (.t 47) 39 10 96,
 mv 4 (.t 48)]
def c74r7 : List SI := [
 mv 49 (.t 7),
 mv 5 (.t 49)]
def c74 : SC :=
 (.seq (.reg false c74r0)
 (.seq (.reg false c74r1)
 (.seq (.reg false c74r2)
 (.blk 0 (.loop (.blk 1 (.seq (.reg false c74r3)
    (.seq (.seq (.reg true c74r4)
    (.cond (.t 42)
     (.seq (.reg false c74r5)
     .ret)
     .skip))
    (.seq (.reg false c74r6)
    (.reg false c74r7))))))))))
def v74 : List Nat × List Nat := ([1, 6], [1, 6, 10, 20, 22, 31])
def o74 : List RS := [.t 2, .t 3]
def c76r0 : List SI := [
 bx 2 (.t 0),
 mv 4 (.v (.slice none 0 0))]
def c76r1 : List SI := [
 mv 6 (.t 1)]
def c76r2 : List SI := [
 alR 5 [(.int .i64 0), (.int .i64 0), (.int .i64 0), (.int .i64 0), (.int .i64 0), (.int .i64 0), (.int .i64 0), (.bool false), (.int .i64 0), (.slice none 0 0)],
 stR 5 0 10 (.t 7)]
def c76r3 : List SI := [
 ld 8 (.t 2) none,
 ldR 9 5 0 (some 10),
 bls 10 39 1 10 [(.int .i64 0), (.int .i64 0), (.int .i64 0), (.int .i64 0), (.int .i64 0), (.int .i64 0), (.int .i64 0), (.bool false), (.int .i64 0), (.slice none 0 0)] [(0, 10, (.t 9))],
 app 11 (.t 8) (.t 10) 39 10 96,
 st (.t 2) 1 (.t 11)]
def c76r4 : List SI := [
 ld 12 (.t 2) none,
 mv 4 (.t 12)]
def c76 : SC :=
 (.seq (.reg false c76r0)
 (.seq (.seq (.reg false c76r1)
 (.blk 0 (.rf (.t 6) [7] (.reg false c76r2)
  (.blk 1 (.reg false c76r3)))))
 (.seq (.reg false c76r4)
 .ret)))
def v76 : List Nat × List Nat := ([5], [5])
def o76 : List RS := [.t 4]
def c77r0 : List SI := [
 flA 10 (.t 1) 2,
 ld 11 (.t 10) none,
 len 12 false (.t 11),
 mv 13 (.i 0)]
def c77r1 : List SI := [
 bin 14 .lss (.t 13) (.t 12)]
def c77r2 : List SI := [
 ixA 15 (.t 11) (.t 13) 2,
 ld 16 (.t 15) (some 2),
 alR 5 [(.int .i64 0), (.slice none 0 0)],
 stR 5 0 2 (.t 16)]
def c77r3 : List SI := [
 ldR 18 5 0 (some 2),
 call 19 73 [(.t 18)],
 mv 17 (.t 19),
 ext 20 (.t 17) 0,
 ext 21 (.t 17) 1,
 mv 6 (.t 20),
 mv 7 (.t 21)]
def c77r4 : List SI := [
 mv 22 (.t 6),
 len 23 false (.t 22),
 mv 24 (.i 0)]
def c77r5 : List SI := [
 bin 25 .lss (.t 24) (.t 23)]
def c77r6 : List SI := [
 ixA 26 (.t 22) (.t 24) 10,
 ld 27 (.t 26) (some 10),
 alR 9 [(.int .i64 0), (.int .i64 0), (.int .i64 0), (.int .i64 0), (.int .i64 0), (.int .i64 0), (.int .i64 0), (.bool false), (.int .i64 0), (.slice none 0 0)],
 stR 9 0 10 (.t 27)]
def c77r7 : List SI := [
 ⟨none, .nop, (some 9), 0⟩,
 ⟨none, .ldR 29 9 1 none, none, 0⟩,
 ⟨none, .ld 30 (.t 2) none, none, 0⟩,
 ⟨none, .bin 31 .geq (.t 29) (.t 30), none, 0⟩,
 ⟨none, .mv 32 (.t 31), none, 0⟩,
 ⟨some (32, true), .mv 33 (.t 0), none, 33⟩,
 ⟨some (32, true), .ldR 34 9 0 (some 10), none, 34⟩,
 ⟨some (32, true), .cav 35 (.t 33) [(.t 34)], none, 35⟩,
 ⟨some (32, true), .un 36 .not (.t 35), none, 36⟩,
 ⟨none, .pick 37 (.t 32) (.t 36) (.b false), none, 0⟩]
def c77r8 : List SI := [
 bin 38 .add (.t 24) (.i 1),
 mv 24 (.t 38)]
def c77r9 : List SI := [
 bin 39 .add (.t 13) (.i 1),
 mv 13 (.t 39)]
def c77 : SC :=
 (.seq (.reg false c77r0)
 (.blk 0 (.loop (.seq (.reg false c77r1)
   (.seq (.cond (.t 14)
    .skip
    (.exit 0))
   (.seq (.blk 1 (.seq (.reg false c77r2)
    (.seq (.reg false c77r3)
    (.seq (.reg false c77r4)
    (.blk 2 (.loop (.seq (.reg false c77r5)
      (.seq (.cond (.t 25)
       .skip
       (.exit 2))
      (.seq (.blk 3 (.seq (.reg false c77r6)
       (.seq (.reg false c77r7)
       (.cond (.t 37)
        .ret
        .skip))))
      (.reg false c77r8))))))))))
   (.reg false c77r9)))))))
def v77 : List Nat × List Nat := ([5, 9], [5, 9, 28])
def o77 : List RS := []
def c78r0 : List SI := [
 mv 4 (.b false)]
def c78r1 : List SI := [
 mv 5 (.t 0),
 cvS 6 (.t 5),
 mv 7 (.t 1),
 cvS 8 (.t 7),
 bin 9 .eql (.t 6) (.t 8),
 mv 4 (.t 9)]
def c78 : SC :=
 (.seq (.reg false c78r0)
 (.seq (.reg false c78r1)
 .ret))
def v78 : List Nat × List Nat := ([], [])
def o78 : List RS := [.t 4]
def c79r0 : List SI := [
 bxR 1 (.t 0),
 mv 2 (.v (.slice none 0 0)),
 mv 3 (.i 0)]
def c79r1 : List SI := [
 ldR 5 1 0 (some 10),
 call 6 92 [(.t 5)],
 un 7 .not (.t 6)]
def c79r2 : List SI := [
 mv 2 (.v (.slice none 0 0)),
 mv 3 (.i 1)]
def c79r3 : List SI := [
 ldR 8 1 0 (some 10),
 call 9 93 [(.t 8)],
 mv 4 (.t 9)]
def c79r4 : List SI := [
 mv 10 (.t 4),
 len 11 false (.t 10),
 bin 12 .gtr (.t 11) (.i 2048)]
def c79r5 : List SI := [
 mv 2 (.v (.slice none 0 0)),
 mv 3 (.i 2)]
def c79r6 : List SI := [
 mv 13 (.t 4),
 mv 2 (.t 13),
 mv 3 (.i 0)]
def c79 : SC :=
 (.seq (.reg false c79r0)
 (.seq (.seq (.reg false c79r1)
 (.cond (.t 7)
  (.seq (.reg false c79r2)
  .ret)
  .skip))
 (.seq (.reg false c79r3)
 (.seq (.seq (.reg false c79r4)
 (.cond (.t 12)
  (.seq (.reg false c79r5)
  .ret)
  .skip))
 (.seq (.reg false c79r6)
 .ret)))))
def v79 : List Nat × List Nat := ([1], [1])
def o79 : List RS := [.t 2, .t 3]
def c80r0 : List SI := [
 mv 2 (.b false)]
def c80r1 : List SI := [
 ⟨none, .mv 3 (.t 0), none, 0⟩,
 ⟨none, .bin 4 .geq (.t 3) (.i 0), none, 0⟩,
 ⟨none, .mv 5 (.t 4), none, 0⟩,
 ⟨some (5, true), .mv 6 (.t 0), none, 6⟩,
 ⟨some (5, true), .bin 7 .leq (.t 6) (.i 1099511627776), none, 7⟩,
 ⟨none, .pick 8 (.t 5) (.t 7) (.b false), none, 0⟩,
 ⟨none, .mv 2 (.t 8), none, 0⟩]
def c80 : SC :=
 (.seq (.reg false c80r0)
 (.seq (.reg false c80r1)
 .ret))
def v80 : List Nat × List Nat := ([], [])
def o80 : List RS := [.t 2]
def c81r0 : List SI := [
 mv 2 (.b false)]
def c81r1 : List SI := [
 ⟨none, .mv 3 (.t 0), none, 0⟩,
 ⟨none, .bin 4 .geq (.t 3) (.i 1), none, 0⟩,
 ⟨none, .mv 5 (.t 4), none, 0⟩,
 ⟨some (5, true), .mv 6 (.t 0), none, 6⟩,
 ⟨some (5, true), .bin 7 .leq (.t 6) (.i 4096), none, 7⟩,
 ⟨none, .pick 8 (.t 5) (.t 7) (.b false), none, 0⟩,
 ⟨none, .mv 2 (.t 8), none, 0⟩]
def c81 : SC :=
 (.seq (.reg false c81r0)
 (.seq (.reg false c81r1)
 .ret))
def v81 : List Nat × List Nat := ([], [])
def o81 : List RS := [.t 2]
def c82r0 : List SI := [
 mv 2 (.v (.slice none 0 0))]
def c82r1 : List SI := [
 mv 3 (.i 0)]
def c82r2 : List SI := [
 mv 9 (.t 0),
 len 10 false (.t 9),
 mv 11 (.i 0)]
def c82r3 : List SI := [
 bin 12 .lss (.t 11) (.t 10)]
def c82r4 : List SI := [
 ixA 13 (.t 9) (.t 11) 1,
 ld 14 (.t 13) none,
 mv 5 (.t 14)]
def c82r5 : List SI := [
 mv 15 (.t 3),
 mv 16 (.t 5),
 len 17 false (.t 16),
 bin 18 .add (.t 15) (.t 17),
 mv 3 (.t 18)]
def c82r6 : List SI := [
 mv 19 (.t 3),
 bin 20 .lss (.t 19) (.i 0)]
def c82r7 : List SI := [
 bin 22 .add (.t 11) (.i 1),
 mv 11 (.t 22)]
def c82r8 : List SI := [
 mv 23 (.t 3),
 call 24 94 [(.v (.slice none 0 0)), (.t 23)],
 mv 6 (.t 24)]
def c82r9 : List SI := [
 mv 25 (.t 0),
 len 26 false (.t 25),
 mv 27 (.i 0)]
def c82r10 : List SI := [
 bin 28 .lss (.t 27) (.t 26)]
def c82r11 : List SI := [
 ixA 29 (.t 25) (.t 27) 1,
 ld 30 (.t 29) none,
 mv 8 (.t 30)]
def c82r12 : List SI := [
 mv 31 (.t 6),
 mv 32 (.t 8),
 app 33 (.t 31) (.t 32) 5 1 1,
 mv 6 (.t 33)]
def c82r13 : List SI := [
 bin 34 .add (.t 27) (.i 1),
 mv 27 (.t 34)]
def c82r14 : List SI := [
 mv 35 (.t 6),
 mv 2 (.t 35)]
def c82 : SC :=
 (.seq (.reg false c82r0)
 (.seq (.reg false c82r1)
 (.seq (.seq (.reg false c82r2)
 (.blk 0 (.loop (.seq (.reg false c82r3)
   (.seq (.cond (.t 12)
    .skip
    (.exit 0))
   (.seq (.blk 1 (.seq (.reg false c82r4)
    (.seq (.reg false c82r5)
    (.seq (.reg false c82r6)
    (.cond (.t 20)
     .dead
     .skip)))))
   (.reg false c82r7)))))))
 (.seq (.reg false c82r8)
 (.seq (.seq (.reg false c82r9)
 (.blk 2 (.loop (.seq (.reg false c82r10)
   (.seq (.cond (.t 28)
    .skip
    (.exit 2))
   (.seq (.blk 3 (.seq (.reg false c82r11)
    (.reg false c82r12)))
   (.reg false c82r13)))))))
 (.seq (.reg false c82r14)
 .ret))))))
def v82 : List Nat × List Nat := ([], [])
def o82 : List RS := [.t 2]
def c83r0 : List SI := [
 alR 2 [(.int .i64 0), (.slice none 0 0)],
 mv 3 (.i 0)]
def c83r1 : List SI := [
 mv 4 (.t 0),
 call 5 80 [(.t 4)],
 un 6 .not (.t 5)]
def c83r2 : List SI := [
 bld 7 [(.int .i64 0), (.slice none 0 0)] [],
 stR 2 0 2 (.t 7),
 mv 3 (.i 1)]
def c83r3 : List SI := [
 mv 8 (.t 0),
 bld 9 [(.int .i64 0), (.slice none 0 0)] [(0, 1, (.t 8))],
 stR 2 0 2 (.t 9),
 mv 3 (.i 0)]
def c83 : SC :=
 (.seq (.reg false c83r0)
 (.seq (.seq (.reg false c83r1)
 (.cond (.t 6)
  (.seq (.reg false c83r2)
  .ret)
  .skip))
 (.seq (.reg false c83r3)
 .ret)))
def v83 : List Nat × List Nat := ([2], [2])
def o83 : List RS := [.r 2 (some 2), .t 3]
def c84r0 : List SI := [
 bxR 1 (.t 0),
 mv 2 (.b false)]
def c84r1 : List SI := [
 ⟨none, .nop, (some 1), 0⟩,
 ⟨none, .ldR 8 1 0 none, none, 0⟩,
 ⟨none, .call 9 95 [(.t 8), (.i 1099511627776)], none, 0⟩,
 ⟨none, .un 10 .not (.t 9), none, 0⟩,
 ⟨none, .mv 11 (.t 10), none, 0⟩,
 ⟨some (11, false), .nop, (some 1), 99999⟩,
 ⟨some (11, false), .ldR 13 1 1 none, none, 13⟩,
 ⟨some (11, false), .call 14 95 [(.t 13), (.i 1099511627776)], none, 14⟩,
 ⟨some (11, false), .un 15 .not (.t 14), none, 15⟩,
 ⟨none, .pick 16 (.t 11) (.b true) (.t 15), none, 0⟩,
 ⟨none, .mv 17 (.t 16), none, 0⟩,
 ⟨some (17, false), .nop, (some 1), 99999⟩,
 ⟨some (17, false), .ldR 19 1 2 none, none, 19⟩,
 ⟨some (17, false), .call 20 95 [(.t 19), (.i 1099511627776)], none, 20⟩,
 ⟨some (17, false), .un 21 .not (.t 20), none, 21⟩,
 ⟨none, .pick 22 (.t 17) (.b true) (.t 21), none, 0⟩,
 ⟨none, .mv 23 (.t 22), none, 0⟩,
 ⟨some (23, false), .nop, (some 1), 99999⟩,
 ⟨some (23, false), .ldR 25 1 0 none, none, 25⟩,
 ⟨some (23, false), .nop, (some 1), 99999⟩,
 ⟨some (23, false), .ldR 27 1 1 none, none, 27⟩,
 ⟨some (23, false), .bin 28 .gtr (.t 25) (.t 27), none, 28⟩,
 ⟨none, .pick 29 (.t 23) (.b true) (.t 28), none, 0⟩,
 ⟨none, .mv 30 (.t 29), none, 0⟩,
 ⟨some (30, false), .nop, (some 1), 99999⟩,
 ⟨some (30, false), .ldR 32 1 1 none, none, 32⟩,
 ⟨some (30, false), .nop, (some 1), 99999⟩,
 ⟨some (30, false), .ldR 34 1 0 none, none, 34⟩,
 ⟨some (30, false), .bin 35 .sub (.t 32) (.t 34), none, 35⟩,
 ⟨some (30, false), .bin 36 .geq (.t 35) (.i 16), none, 36⟩,
 ⟨none, .pick 37 (.t 30) (.b true) (.t 36), none, 0⟩]
def c84r2 : List SI := [
 mv 2 (.b false)]
def c84r3 : List SI := [
 ⟨none, .nop, (some 1), 0⟩,
 ⟨none, .ldR 39 1 1 none, none, 0⟩,
 ⟨none, .nop, (some 1), 0⟩,
 ⟨none, .ldR 41 1 0 none, none, 0⟩,
 ⟨none, .bin 42 .sub (.t 39) (.t 41), none, 0⟩,
 ⟨none, .mv 3 (.t 42), none, 0⟩]
def c84r4 : List SI := [
 ⟨none, .nop, (some 1), 0⟩,
 ⟨none, .ldR 44 1 2 none, none, 0⟩,
 ⟨none, .mv 45 (.t 3), none, 0⟩,
 ⟨none, .bin 46 .add (.t 44) (.t 45), none, 0⟩,
 ⟨none, .bin 47 .gtr (.t 46) (.i 1099511627776), none, 0⟩,
 ⟨none, .mv 48 (.t 47), none, 0⟩,
 ⟨some (48, false), .nop, (some 1), 99999⟩,
 ⟨some (48, false), .ldR 50 1 3 none, none, 50⟩,
 ⟨some (48, false), .call 51 95 [(.t 50), (.i 1048576)], none, 51⟩,
 ⟨some (48, false), .un 52 .not (.t 51), none, 52⟩,
 ⟨none, .pick 53 (.t 48) (.b true) (.t 52), none, 0⟩,
 ⟨none, .mv 54 (.t 53), none, 0⟩,
 ⟨some (54, false), .nop, (some 1), 99999⟩,
 ⟨some (54, false), .ldR 56 1 5 none, none, 56⟩,
 ⟨some (54, false), .call 57 95 [(.t 56), (.i 1048576)], none, 57⟩,
 ⟨some (54, false), .un 58 .not (.t 57), none, 58⟩,
 ⟨none, .pick 59 (.t 54) (.b true) (.t 58), none, 0⟩,
 ⟨none, .mv 60 (.t 59), none, 0⟩,
 ⟨some (60, false), .nop, (some 1), 99999⟩,
 ⟨some (60, false), .ldR 62 1 6 none, none, 62⟩,
 ⟨some (60, false), .call 63 95 [(.t 62), (.i 1048576)], none, 63⟩,
 ⟨some (60, false), .un 64 .not (.t 63), none, 64⟩,
 ⟨none, .pick 65 (.t 60) (.b true) (.t 64), none, 0⟩,
 ⟨none, .mv 66 (.t 65), none, 0⟩,
 ⟨some (66, false), .nop, (some 1), 99999⟩,
 ⟨some (66, false), .ldR 68 1 6 none, none, 68⟩,
 ⟨some (66, false), .mv 69 (.t 3), none, 69⟩,
 ⟨some (66, false), .bin 70 .add (.t 68) (.t 69), none, 70⟩,
 ⟨some (66, false), .bin 71 .gtr (.t 70) (.i 1048576), none, 71⟩,
 ⟨none, .pick 72 (.t 66) (.b true) (.t 71), none, 0⟩]
def c84r5 : List SI := [
 mv 2 (.b false)]
def c84r6 : List SI := [
 ⟨none, .nop, (some 1), 0⟩,
 ⟨none, .ldR 74 1 4 none, none, 0⟩,
 ⟨none, .bin 75 .eql (.t 74) (.i (-1)), none, 0⟩,
 ⟨none, .mv 76 (.t 75), none, 0⟩,
 ⟨some (76, true), .nop, (some 1), 99999⟩,
 ⟨some (76, true), .ldR 78 1 5 none, none, 78⟩,
 ⟨some (76, true), .bin 79 .neq (.t 78) (.i 0), none, 79⟩,
 ⟨some (76, true), .mv 80 (.t 79), none, 80⟩,
 ⟨some (80, false), .nop, (some 1), 99999⟩,
 ⟨some (80, false), .ldR 82 1 6 none, none, 82⟩,
 ⟨some (80, false), .bin 83 .neq (.t 82) (.i 0), none, 83⟩,
 ⟨some (76, true), .pick 84 (.t 80) (.b true) (.t 83), none, 84⟩,
 ⟨some (76, true), .mv 85 (.t 84), none, 85⟩,
 ⟨some (85, false), .nop, (some 1), 99999⟩,
 ⟨some (85, false), .ldR 87 1 7 none, none, 87⟩,
 ⟨some (76, true), .pick 88 (.t 85) (.b true) (.t 87), none, 88⟩,
 ⟨some (76, true), .mv 89 (.t 88), none, 89⟩,
 ⟨some (89, false), .nop, (some 1), 99999⟩,
 ⟨some (89, false), .ldR 91 1 8 none, none, 91⟩,
 ⟨some (89, false), .bin 92 .neq (.t 91) (.i 0), none, 92⟩,
 ⟨some (76, true), .pick 93 (.t 89) (.b true) (.t 92), none, 93⟩,
 ⟨none, .pick 94 (.t 76) (.t 93) (.b false), none, 0⟩,
 ⟨none, .mv 95 (.t 94), none, 0⟩,
 ⟨some (95, false), .nop, (some 1), 99999⟩,
 ⟨some (95, false), .ldR 97 1 4 none, none, 97⟩,
 ⟨some (95, false), .bin 98 .neq (.t 97) (.i (-1)), none, 98⟩,
 ⟨some (95, false), .mv 99 (.t 98), none, 99⟩,
 ⟨some (99, true), .nop, (some 1), 99999⟩,
 ⟨some (99, true), .ldR 101 1 4 none, none, 101⟩,
 ⟨some (99, true), .call 102 95 [(.t 101), (.i 1099511627776)], none, 102⟩,
 ⟨some (99, true), .un 103 .not (.t 102), none, 103⟩,
 ⟨some (95, false), .pick 104 (.t 99) (.t 103) (.b false), none, 104⟩,
 ⟨none, .pick 105 (.t 95) (.b true) (.t 104), none, 0⟩]
def c84r7 : List SI := [
 mv 2 (.b false)]
def c84r8 : List SI := [
 ⟨none, .nop, (some 1), 0⟩,
 ⟨none, .ldR 107 1 8 none, none, 0⟩,
 ⟨none, .bin 108 .neq (.t 107) (.i 0), none, 0⟩]
def c84r9 : List SI := [
 ⟨none, .nop, (some 1), 0⟩,
 ⟨none, .ldR 110 1 8 none, none, 0⟩,
 ⟨none, .bin 111 .eql (.t 110) (.i 1), none, 0⟩,
 ⟨none, .mv 112 (.t 111), none, 0⟩,
 ⟨some (112, false), .nop, (some 1), 99999⟩,
 ⟨some (112, false), .ldR 114 1 8 none, none, 114⟩,
 ⟨some (112, false), .bin 115 .eql (.t 114) (.i 2), none, 115⟩,
 ⟨none, .pick 116 (.t 112) (.b true) (.t 115), none, 0⟩,
 ⟨none, .mv 117 (.t 116), none, 0⟩,
 ⟨some (117, true), .mv 118 (.t 3), none, 118⟩,
 ⟨some (117, true), .bin 119 .eql (.t 118) (.i 0), none, 119⟩,
 ⟨none, .pick 120 (.t 117) (.t 119) (.b false), none, 0⟩,
 ⟨none, .mv 121 (.t 120), none, 0⟩,
 ⟨some (121, true), .nop, (some 1), 99999⟩,
 ⟨some (121, true), .ldR 123 1 9 none, none, 123⟩,
 ⟨some (121, true), .len 124 false (.t 123), none, 124⟩,
 ⟨some (121, true), .bin 125 .eql (.t 124) (.i 0), none, 125⟩,
 ⟨none, .pick 126 (.t 121) (.t 125) (.b false), none, 0⟩,
 ⟨none, .mv 127 (.t 126), none, 0⟩,
 ⟨some (127, true), .nop, (some 1), 99999⟩,
 ⟨some (127, true), .ldR 129 1 7 none, none, 129⟩,
 ⟨none, .pick 130 (.t 127) (.t 129) (.b false), none, 0⟩,
 ⟨none, .mv 131 (.t 130), none, 0⟩,
 ⟨some (131, true), .nop, (some 1), 99999⟩,
 ⟨some (131, true), .ldR 133 1 4 none, none, 133⟩,
 ⟨some (131, true), .bin 134 .geq (.t 133) (.i 0), none, 134⟩,
 ⟨none, .pick 135 (.t 131) (.t 134) (.b false), none, 0⟩,
 ⟨none, .mv 2 (.t 135), none, 0⟩]
def c84r10 : List SI := [
 ⟨none, .nop, (some 1), 0⟩,
 ⟨none, .ldR 137 1 0 none, none, 0⟩,
 ⟨none, .bin 138 .sub (.t 137) (.i 1), none, 0⟩,
 ⟨none, .mv 4 (.t 138), none, 0⟩]
def c84r11 : List SI := [
 ⟨none, .nop, (some 1), 0⟩,
 ⟨none, .ldR 140 1 9 none, none, 0⟩,
 ⟨none, .len 141 false (.t 140), none, 0⟩,
 ⟨none, .mv 142 (.i 0), none, 0⟩]
def c84r12 : List SI := [
 bin 143 .lss (.t 142) (.t 141)]
def c84r13 : List SI := [
 ixA 144 (.t 140) (.t 142) 5,
 ld 145 (.t 144) (some 5),
 alR 6 [(.int .i64 0), (.string ⟨#[]⟩), (.string ⟨#[]⟩), (.bool false), (.int .i64 0)],
 stR 6 0 5 (.t 145)]
def c84r14 : List SI := [
 ⟨none, .ldR 146 6 0 (some 5), none, 0⟩,
 ⟨none, .call 147 96 [(.t 146)], none, 0⟩,
 ⟨none, .bin 148 .neq (.t 147) (.i 0), none, 0⟩,
 ⟨none, .mv 149 (.t 148), none, 0⟩,
 ⟨some (149, false), .nop, (some 6), 99999⟩,
 ⟨some (149, false), .ldR 151 6 0 none, none, 151⟩,
 ⟨some (149, false), .mv 152 (.t 4), none, 152⟩,
 ⟨some (149, false), .bin 153 .leq (.t 151) (.t 152), none, 153⟩,
 ⟨none, .pick 154 (.t 149) (.b true) (.t 153), none, 0⟩,
 ⟨none, .mv 155 (.t 154), none, 0⟩,
 ⟨some (155, false), .nop, (some 6), 99999⟩,
 ⟨some (155, false), .ldR 157 6 0 none, none, 157⟩,
 ⟨some (155, false), .nop, (some 1), 99999⟩,
 ⟨some (155, false), .ldR 159 1 1 none, none, 159⟩,
 ⟨some (155, false), .bin 160 .gtr (.t 157) (.t 159), none, 160⟩,
 ⟨none, .pick 161 (.t 155) (.b true) (.t 160), none, 0⟩]
def c84r15 : List SI := [
 mv 2 (.b false)]
def c84r16 : List SI := [
 ⟨none, .nop, (some 6), 0⟩,
 ⟨none, .ldR 163 6 0 none, none, 0⟩,
 ⟨none, .mv 4 (.t 163), none, 0⟩]
def c84r17 : List SI := [
 bin 164 .add (.t 142) (.i 1),
 mv 142 (.t 164)]
def c84r18 : List SI := [
 mv 2 (.b true)]
def c84 : SC :=
 (.seq (.reg false c84r0)
 (.seq (.seq (.reg false c84r1)
 (.cond (.t 37)
  (.seq (.reg false c84r2)
  .ret)
  .skip))
 (.seq (.reg false c84r3)
 (.seq (.seq (.reg false c84r4)
 (.cond (.t 72)
  (.seq (.reg false c84r5)
  .ret)
  .skip))
 (.seq (.seq (.reg false c84r6)
 (.cond (.t 105)
  (.seq (.reg false c84r7)
  .ret)
  .skip))
 (.seq (.seq (.reg false c84r8)
 (.cond (.t 108)
  (.seq (.reg false c84r9)
  .ret)
  .skip))
 (.seq (.reg false c84r10)
 (.seq (.seq (.reg false c84r11)
 (.blk 0 (.loop (.seq (.reg false c84r12)
   (.seq (.cond (.t 143)
    .skip
    (.exit 0))
   (.seq (.blk 1 (.seq (.reg false c84r13)
    (.seq (.seq (.reg false c84r14)
    (.cond (.t 161)
     (.seq (.reg false c84r15)
     .ret)
     .skip))
    (.reg false c84r16))))
   (.reg false c84r17)))))))
 (.seq (.reg false c84r18)
 .ret)))))))))
def v84 : List Nat × List Nat := ([1, 6], [1, 6, 7, 12, 18, 24, 26, 31, 33, 38, 40, 43, 49, 55, 61, 67, 73, 77, 81, 86, 90, 96, 100, 106, 109, 113, 122, 128, 132, 136, 139, 150, 156, 158, 162])
def o84 : List RS := [.t 2]
theorem s84 : slimC Tryz.prog Tryz.f84.ntmps v84.1 v84.2 ((Tryz.f84.body).getD .skip) = some c84 := by kernel_rfl
theorem q84 : slimR Tryz.prog Tryz.f84.ntmps v84.1 v84.2 Tryz.f84.results.toList = some o84 := by kernel_rfl
def c85r0 : List SI := [
 bxR 1 (.t 0),
 mv 2 (.v (.slice none 0 0))]
def c85r1 : List SI := [
 mv 3 (.v (.slice none 0 0))]
def c85r2 : List SI := [
 ⟨none, .nop, (some 1), 0⟩,
 ⟨none, .ldR 12 1 0 none, none, 0⟩,
 ⟨none, .nop, (some 1), 0⟩,
 ⟨none, .ldR 14 1 1 none, none, 0⟩,
 ⟨none, .nop, (some 1), 0⟩,
 ⟨none, .ldR 16 1 0 none, none, 0⟩,
 ⟨none, .bin 17 .sub (.t 14) (.t 16), none, 0⟩,
 ⟨none, .nop, (some 1), 0⟩,
 ⟨none, .ldR 19 1 2 none, none, 0⟩,
 ⟨none, .nop, (some 1), 0⟩,
 ⟨none, .ldR 21 1 3 none, none, 0⟩,
 ⟨none, .nop, (some 1), 0⟩,
 ⟨none, .ldR 23 1 4 none, none, 0⟩,
 ⟨none, .nop, (some 1), 0⟩,
 ⟨none, .ldR 25 1 5 none, none, 0⟩,
 ⟨none, .nop, (some 1), 0⟩,
 ⟨none, .ldR 27 1 6 none, none, 0⟩,
 ⟨none, .bls 28 3 7 1 [(.int .i64 0), (.int .i64 0), (.int .i64 0), (.int .i64 0), (.int .i64 0), (.int .i64 0), (.int .i64 0)] [(0, 1, (.t 12)), (1, 1, (.t 17)), (2, 1, (.t 19)), (3, 1, (.t 21)), (4, 1, (.t 23)), (5, 1, (.t 25)), (6, 1, (.t 27))], none, 0⟩,
 ⟨none, .len 29 false (.t 28), none, 0⟩,
 ⟨none, .mv 30 (.i 0), none, 0⟩]
def c85r3 : List SI := [
 bin 31 .lss (.t 30) (.t 29)]
def c85r4 : List SI := [
 ixA 32 (.t 28) (.t 30) 1,
 ld 33 (.t 32) none,
 mv 5 (.t 33)]
def c85r5 : List SI := [
 mv 34 (.t 3),
 mv 35 (.t 5),
 call 36 97 [(.t 34), (.t 35)],
 mv 3 (.t 36)]
def c85r6 : List SI := [
 bin 37 .add (.t 30) (.i 1),
 mv 30 (.t 37)]
def c85r7 : List SI := [
 ⟨none, .nop, (some 1), 0⟩,
 ⟨none, .ldR 39 1 8 none, none, 0⟩,
 ⟨none, .mv 6 (.t 39), none, 0⟩]
def c85r8 : List SI := [
 ⟨none, .nop, (some 1), 0⟩,
 ⟨none, .ldR 41 1 7 none, none, 0⟩]
def c85r9 : List SI := [
 mv 42 (.t 6),
 bin 43 .add (.t 42) (.i 4),
 mv 6 (.t 43)]
def c85r10 : List (Bool × SI) := [
 (true, N_ (.mv 44 (.t 3))),
 (true, N_ (.mv 45 (.t 6))),
 (true, N_ (.cvI 46 .u8 (.t 45))),
 (true, ⟨none, .nop, (some 1), 0⟩),
 (true, N_ (.ldR 50 1 9 none)),
 (true, N_ (.len 51 false (.t 50))),
 (false, N_ (.bls 47 5 1 1 [(.int .u8 0)] [(0, 1, (.t 46))])),
 (false, N_ (.app 48 (.t 44) (.t 47) 5 1 1)),
 (false, N_ (.call 52 97 [(.t 48), (.t 51)])),
 (true, N_ (.mv 3 (.t 52)))]
def c85r11 : List SI := [
 ⟨none, .nop, (some 1), 0⟩,
 ⟨none, .ldR 54 1 9 none, none, 0⟩,
 ⟨none, .len 55 false (.t 54), none, 0⟩,
 ⟨none, .mv 56 (.i 0), none, 0⟩]
def c85r12 : List SI := [
 bin 57 .lss (.t 56) (.t 55)]
def c85r13 : List SI := [
 mv 58 (.t 56),
 ixA 59 (.t 54) (.t 56) 5,
 ld 60 (.t 59) (some 5),
 alR 8 [(.int .i64 0), (.string ⟨#[]⟩), (.string ⟨#[]⟩), (.bool false), (.int .i64 0)],
 mv 7 (.t 58),
 stR 8 0 5 (.t 60)]
def c85r14 : List SI := [
 mv 61 (.t 7),
 bin 62 .eql (.t 61) (.i 0)]
def c85r15 : List SI := [
 ⟨none, .mv 63 (.t 3), none, 0⟩,
 ⟨none, .nop, (some 8), 0⟩,
 ⟨none, .ldR 65 8 4 none, none, 0⟩,
 ⟨none, .call 66 97 [(.t 63), (.t 65)], none, 0⟩,
 ⟨none, .mv 3 (.t 66), none, 0⟩]
def c85r16 : List (Bool × SI) := [
 (true, N_ (.ldR 68 8 0 (some 5))),
 (true, ⟨none, .nop, (some 1), 0⟩),
 (true, N_ (.ldR 70 1 0 none)),
 (true, ⟨none, .nop, (some 1), 0⟩),
 (true, N_ (.ldR 72 1 9 none)),
 (true, N_ (.ixA 73 (.t 72) (.i 0) 5)),
 (true, N_ (.flA 74 (.t 73) 4)),
 (true, N_ (.ld 75 (.t 74) none)),
 (false, N_ (.call 76 98 [(.t 68), (.t 70), (.t 75)])),
 (true, N_ (.mv 67 (.t 76))),
 (true, N_ (.ext 77 (.t 67) 0)),
 (true, N_ (.ext 78 (.t 67) 1)),
 (true, N_ (.mv 9 (.t 77))),
 (true, N_ (.mv 10 (.t 78)))]
def c85r17 : List SI := [
 mv 79 (.t 3),
 mv 80 (.t 9),
 app 81 (.t 79) (.t 80) 5 1 1,
 mv 3 (.t 81)]
def c85r18 : List SI := [
 bin 82 .add (.t 56) (.i 1),
 mv 56 (.t 82)]
def c85r19 : List SI := [
 mv 83 (.t 3),
 call 84 99 [(.t 83)],
 mv 3 (.t 84)]
def c85r20 : List SI := [
 mv 85 (.t 3),
 len 86 false (.t 85),
 cvI 87 .u64 (.t 86),
 call 88 100 [(.v (.slice none 0 0)), (.t 87), (.i 4)],
 mv 89 (.t 3),
 app 90 (.t 88) (.t 89) 5 1 1,
 mv 2 (.t 90)]
def c85 : SC :=
 (.seq (.reg false c85r0)
 (.seq (.reg false c85r1)
 (.seq (.seq (.reg false c85r2)
 (.blk 0 (.loop (.seq (.reg false c85r3)
   (.seq (.cond (.t 31)
    .skip
    (.exit 0))
   (.seq (.blk 1 (.seq (.reg false c85r4)
    (.reg false c85r5)))
   (.reg false c85r6)))))))
 (.seq (.reg false c85r7)
 (.seq (.seq (.reg false c85r8)
 (.cond (.t 41)
  (.reg false c85r9)
  .skip))
 (.seq (.rgX c85r10)
 (.seq (.seq (.reg false c85r11)
 (.blk 2 (.loop (.seq (.reg false c85r12)
   (.seq (.cond (.t 57)
    .skip
    (.exit 2))
   (.seq (.blk 3 (.seq (.reg false c85r13)
    (.seq (.seq (.reg false c85r14)
    (.cond (.t 62)
     (.reg false c85r15)
     .skip))
    (.seq (.rgX c85r16)
    (.reg false c85r17)))))
   (.reg false c85r18)))))))
 (.seq (.reg false c85r19)
 (.seq (.reg false c85r20)
 .ret)))))))))
def v85 : List Nat × List Nat := ([1, 8], [1, 8, 11, 13, 15, 18, 20, 22, 24, 26, 38, 40, 49, 53, 64, 69, 71])
def o85 : List RS := [.t 2]
def c86r0 : List SI := [
 bxR 1 (.t 0),
 mv 2 (.v (.slice none 0 0)),
 mv 3 (.i 0)]
def c86r1 : List SI := [
 ldR 5 1 0 (some 10),
 call 6 54 [(.t 5)],
 mv 4 (.t 6)]
def c86r2 : List SI := [
 mv 7 (.t 4),
 bin 8 .neq (.t 7) (.i 0)]
def c86r3 : List SI := [
 mv 9 (.t 4),
 mv 2 (.v (.slice none 0 0)),
 mv 3 (.t 9)]
def c86r4 : List SI := [
 ldR 10 1 0 (some 10),
 call 11 85 [(.t 10)],
 mv 2 (.t 11),
 mv 3 (.i 0)]
def c86 : SC :=
 (.seq (.reg false c86r0)
 (.seq (.seq (.reg false c86r1)
 (.seq (.reg false c86r2)
 (.cond (.t 8)
  (.seq (.reg false c86r3)
  .ret)
  .skip)))
 (.seq (.reg false c86r4)
 .ret)))
def v86 : List Nat × List Nat := ([1], [1])
def o86 : List RS := [.t 2, .t 3]
def c87r0 : List SI := [
 mv 2 (.v (.slice none 0 0))]
def c87r1 : List SI := [
 mv 3 (.t 0),
 app 4 (.v (.slice none 0 0)) (.t 3) 5 1 1,
 mv 2 (.t 4)]
def c87 : SC :=
 (.seq (.reg false c87r0)
 (.seq (.reg false c87r1)
 .ret))
def v87 : List Nat × List Nat := ([], [])
def o87 : List RS := [.t 2]
theorem s87 : slimC Tryz.prog Tryz.f87.ntmps v87.1 v87.2 ((Tryz.f87.body).getD .skip) = some c87 := by kernel_rfl
theorem q87 : slimR Tryz.prog Tryz.f87.ntmps v87.1 v87.2 Tryz.f87.results.toList = some o87 := by kernel_rfl
def c88r0 : List SI := [
 alR 2 [(.int .i64 0), (.slice none 0 0)],
 mv 3 (.i 0)]
def c88r1 : List SI := [
 ⟨none, .mv 4 (.t 0), none, 0⟩,
 ⟨none, .bin 5 .lss (.t 4) (.i 0), none, 0⟩,
 ⟨none, .mv 6 (.t 5), none, 0⟩,
 ⟨some (6, false), .mv 7 (.t 0), none, 7⟩,
 ⟨some (6, false), .bin 8 .gtr (.t 7) (.i 1099511627776), none, 8⟩,
 ⟨none, .pick 9 (.t 6) (.b true) (.t 8), none, 0⟩]
def c88r2 : List SI := [
 bld 10 [(.int .i64 0), (.slice none 0 0)] [],
 stR 2 0 2 (.t 10),
 mv 3 (.i 1)]
def c88r3 : List SI := [
 mv 11 (.t 0),
 bld 12 [(.int .i64 0), (.slice none 0 0)] [(0, 1, (.t 11))],
 stR 2 0 2 (.t 12),
 mv 3 (.i 0)]
def c88 : SC :=
 (.seq (.reg false c88r0)
 (.seq (.seq (.reg false c88r1)
 (.cond (.t 9)
  (.seq (.reg false c88r2)
  .ret)
  .skip))
 (.seq (.reg false c88r3)
 .ret)))
def v88 : List Nat × List Nat := ([2], [2])
def o88 : List RS := [.r 2 (some 2), .t 3]
def c89r0 : List SI := [
 bx 1 (.t 0),
 mv 2 (.v .nilFunc)]
def c89r1 : List SI := [
 mkf 3 (.func 101) [(.t 1)],
 mv 2 (.t 3)]
def c89 : SC :=
 (.seq (.reg false c89r0)
 (.seq (.reg false c89r1)
 .ret))
def v89 : List Nat × List Nat := ([], [])
def o89 : List RS := [.t 2]
def c90r0 : List SI := [
 bxR 2 (.t 0),
 alR 4 [(.int .i64 0), (.slice none 0 0)]]
def c90r1 : List (Bool × SI) := [
 (true, ⟨none, .nop, (some 2), 0⟩),
 (true, N_ (.ldR 6 2 0 none)),
 (true, ⟨none, .nop, (some 2), 0⟩),
 (true, N_ (.ldR 8 2 1 none)),
 (true, N_ (.mv 9 (.t 1))),
 (true, N_ (.sl 10 (.t 8) none (some (.t 9)) none 1)),
 (false, N_ (.call 11 103 [(.t 10)])),
 (true, N_ (.bld 12 [(.int .i64 0), (.slice none 0 0)] [(0, 1, (.t 6)), (1, 1, (.t 11))]))]
def c90r2 : List SI := [
 stR 4 0 2 (.t 12)]
def c90 : SC :=
 (.seq (.reg false c90r0)
 (.seq (.rgY c90r1 c90r2)
 .ret))
def v90 : List Nat × List Nat := ([2, 4], [2, 4, 5, 7])
def o90 : List RS := [.r 4 (some 2)]
theorem q90 : slimR Tryz.prog Tryz.f90.ntmps v90.1 v90.2 Tryz.f90.results.toList = some o90 := by kernel_rfl
def c91r0 : List SI := [
 alR 4 [(.int .i64 0), (.int .i64 0), (.int .i64 0), (.int .i64 0), (.int .i64 0), (.int .i64 0), (.int .i64 0), (.bool false), (.int .i64 0), (.slice none 0 0)],
 mv 5 (.i 0),
 mv 6 (.i 0)]
def c91r1 : List SI := [
 mv 14 (.t 0),
 mv 15 (.t 1),
 call 16 104 [(.t 14), (.t 15), (.i 4)],
 mv 13 (.t 16),
 ext 17 (.t 13) 0,
 ext 18 (.t 13) 1,
 mv 7 (.t 17),
 mv 8 (.t 18)]
def c91r2 : List SI := [
 mv 19 (.t 8),
 bin 20 .neq (.t 19) (.i 0)]
def c91r3 : List SI := [
 bld 21 [(.int .i64 0), (.int .i64 0), (.int .i64 0), (.int .i64 0), (.int .i64 0), (.int .i64 0), (.int .i64 0), (.bool false), (.int .i64 0), (.slice none 0 0)] [],
 mv 22 (.t 8),
 stR 4 0 10 (.t 21),
 mv 5 (.i 0),
 mv 6 (.t 22)]
def c91r4 : List SI := [
 ⟨none, .mv 23 (.t 7), none, 0⟩,
 ⟨none, .bin 24 .lss (.t 23) (.v (.int .u64 5)), none, 0⟩,
 ⟨none, .mv 25 (.t 24), none, 0⟩,
 ⟨some (25, false), .mv 26 (.t 7), none, 26⟩,
 ⟨some (25, false), .bin 27 .gtr (.t 26) (.v (.int .u64 2044)), none, 27⟩,
 ⟨none, .pick 28 (.t 25) (.b true) (.t 27), none, 0⟩]
def c91r5 : List SI := [
 bld 29 [(.int .i64 0), (.int .i64 0), (.int .i64 0), (.int .i64 0), (.int .i64 0), (.int .i64 0), (.int .i64 0), (.bool false), (.int .i64 0), (.slice none 0 0)] [],
 stR 4 0 10 (.t 29),
 mv 5 (.i 0),
 mv 6 (.i 11)]
def c91r6 : List SI := [
 mv 30 (.t 1),
 bin 31 .add (.t 30) (.i 4),
 mv 32 (.t 7),
 cvI 33 .i64 (.t 32),
 bin 34 .add (.t 31) (.t 33),
 mv 9 (.t 34)]
def c91r7 : List SI := [
 mv 35 (.t 9),
 mv 36 (.t 0),
 len 37 false (.t 36),
 bin 38 .gtr (.t 35) (.t 37)]
def c91r8 : List SI := [
 bld 39 [(.int .i64 0), (.int .i64 0), (.int .i64 0), (.int .i64 0), (.int .i64 0), (.int .i64 0), (.int .i64 0), (.bool false), (.int .i64 0), (.slice none 0 0)] [],
 stR 4 0 10 (.t 39),
 mv 5 (.i 0),
 mv 6 (.i 10)]
def c91r9 : List SI := [
 mv 41 (.t 0),
 mv 42 (.t 1),
 bin 43 .add (.t 42) (.i 4),
 mv 44 (.t 9),
 sl 45 (.t 41) (some (.t 43)) (some (.t 44)) none 1,
 call 46 105 [(.t 45)],
 mv 40 (.t 46),
 ext 47 (.t 40) 0,
 ext 48 (.t 40) 1,
 mv 10 (.t 47),
 mv 8 (.t 48)]
def c91r10 : List SI := [
 mv 49 (.t 8),
 bin 50 .neq (.t 49) (.i 0)]
def c91r11 : List SI := [
 bld 51 [(.int .i64 0), (.int .i64 0), (.int .i64 0), (.int .i64 0), (.int .i64 0), (.int .i64 0), (.int .i64 0), (.bool false), (.int .i64 0), (.slice none 0 0)] [],
 mv 52 (.t 8),
 stR 4 0 10 (.t 51),
 mv 5 (.i 0),
 mv 6 (.t 52)]
def c91r12 : List SI := [
 mv 54 (.t 10),
 call 55 106 [(.t 54)],
 mv 53 (.t 55),
 ext 56 (.t 53) 0,
 ext 57 (.t 53) 1,
 alR 11 [(.int .i64 0), (.int .i64 0), (.int .i64 0), (.int .i64 0), (.int .i64 0), (.int .i64 0), (.int .i64 0), (.bool false), (.int .i64 0), (.slice none 0 0)],
 stR 11 0 10 (.t 56),
 mv 12 (.t 57)]
def c91r13 : List SI := [
 ⟨none, .mv 58 (.t 12), none, 0⟩,
 ⟨none, .un 59 .not (.t 58), none, 0⟩,
 ⟨none, .mv 60 (.t 59), none, 0⟩,
 ⟨some (60, false), .ldR 61 11 0 (some 10), none, 61⟩,
 ⟨some (60, false), .call 62 54 [(.t 61)], none, 62⟩,
 ⟨some (60, false), .bin 63 .neq (.t 62) (.i 0), none, 63⟩,
 ⟨none, .pick 64 (.t 60) (.b true) (.t 63), none, 0⟩]
def c91r14 : List SI := [
 bld 65 [(.int .i64 0), (.int .i64 0), (.int .i64 0), (.int .i64 0), (.int .i64 0), (.int .i64 0), (.int .i64 0), (.bool false), (.int .i64 0), (.slice none 0 0)] [],
 stR 4 0 10 (.t 65),
 mv 5 (.i 0),
 mv 6 (.i 11)]
def c91r15 : List SI := [
 ldR 66 11 0 (some 10),
 mv 67 (.t 9),
 stR 4 0 10 (.t 66),
 mv 5 (.t 67),
 mv 6 (.i 0)]
def c91 : SC :=
 (.seq (.reg false c91r0)
 (.seq (.reg false c91r1)
 (.seq (.seq (.reg false c91r2)
 (.cond (.t 20)
  (.seq (.reg false c91r3)
  .ret)
  .skip))
 (.seq (.seq (.reg false c91r4)
 (.cond (.t 28)
  (.seq (.reg false c91r5)
  .ret)
  .skip))
 (.seq (.reg false c91r6)
 (.seq (.seq (.reg false c91r7)
 (.cond (.t 38)
  (.seq (.reg false c91r8)
  .ret)
  .skip))
 (.seq (.reg false c91r9)
 (.seq (.seq (.reg false c91r10)
 (.cond (.t 50)
  (.seq (.reg false c91r11)
  .ret)
  .skip))
 (.seq (.reg false c91r12)
 (.seq (.seq (.reg false c91r13)
 (.cond (.t 64)
  (.seq (.reg false c91r14)
  .ret)
  .skip))
 (.seq (.reg false c91r15)
 .ret)))))))))))
def v91 : List Nat × List Nat := ([4, 11], [4, 11])
def o91 : List RS := [.r 4 (some 10), .t 5, .t 6]
def c92r0 : List SI := [
 bxR 1 (.t 0),
 mv 2 (.b false)]
def c92r1 : List SI := [
 ⟨none, .nop, (some 1), 0⟩,
 ⟨none, .ldR 8 1 0 none, none, 0⟩,
 ⟨none, .nop, (some 1), 0⟩,
 ⟨none, .ldR 10 1 1 none, none, 0⟩,
 ⟨none, .nop, (some 1), 0⟩,
 ⟨none, .ldR 12 1 2 none, none, 0⟩,
 ⟨none, .bls 13 3 3 1 [(.int .i64 0), (.int .i64 0), (.int .i64 0)] [(0, 1, (.t 8)), (1, 1, (.t 10)), (2, 1, (.t 12))], none, 0⟩,
 ⟨none, .call 14 107 [(.i 1099511627776), (.t 13)], none, 0⟩,
 ⟨none, .un 15 .not (.t 14), none, 0⟩,
 ⟨none, .mv 16 (.t 15), none, 0⟩,
 ⟨some (16, false), .nop, (some 1), 99999⟩,
 ⟨some (16, false), .ldR 18 1 3 none, none, 18⟩,
 ⟨some (16, false), .nop, (some 1), 99999⟩,
 ⟨some (16, false), .ldR 20 1 5 none, none, 20⟩,
 ⟨some (16, false), .nop, (some 1), 99999⟩,
 ⟨some (16, false), .ldR 22 1 6 none, none, 22⟩,
 ⟨some (16, false), .bls 23 3 3 1 [(.int .i64 0), (.int .i64 0), (.int .i64 0)] [(0, 1, (.t 18)), (1, 1, (.t 20)), (2, 1, (.t 22))], none, 23⟩,
 ⟨some (16, false), .call 24 107 [(.i 1048576), (.t 23)], none, 24⟩,
 ⟨some (16, false), .un 25 .not (.t 24), none, 25⟩,
 ⟨none, .pick 26 (.t 16) (.b true) (.t 25), none, 0⟩]
def c92r2 : List SI := [
 mv 2 (.b false)]
def c92r3 : List SI := [
 ⟨none, .nop, (some 1), 0⟩,
 ⟨none, .ldR 28 1 1 none, none, 0⟩,
 ⟨none, .nop, (some 1), 0⟩,
 ⟨none, .ldR 30 1 0 none, none, 0⟩,
 ⟨none, .bin 31 .sub (.t 28) (.t 30), none, 0⟩,
 ⟨none, .mv 3 (.t 31), none, 0⟩]
def c92r4 : List SI := [
 ⟨none, .mv 33 (.t 3), none, 0⟩,
 ⟨none, .bin 34 .lss (.t 33) (.i 0), none, 0⟩,
 ⟨none, .mv 35 (.t 34), none, 0⟩,
 ⟨some (35, false), .mv 36 (.t 3), none, 36⟩,
 ⟨some (35, false), .bin 37 .geq (.t 36) (.i 16), none, 37⟩,
 ⟨none, .pick 38 (.t 35) (.b true) (.t 37), none, 0⟩,
 ⟨none, .mv 39 (.t 38), none, 0⟩,
 ⟨some (39, false), .nop, (some 1), 99999⟩,
 ⟨some (39, false), .ldR 41 1 2 none, none, 41⟩,
 ⟨some (39, false), .mv 42 (.t 3), none, 42⟩,
 ⟨some (39, false), .bin 43 .add (.t 41) (.t 42), none, 43⟩,
 ⟨some (39, false), .bin 44 .gtr (.t 43) (.i 1099511627776), none, 44⟩,
 ⟨none, .pick 45 (.t 39) (.b true) (.t 44), none, 0⟩,
 ⟨none, .mv 46 (.t 45), none, 0⟩,
 ⟨some (46, false), .nop, (some 1), 99999⟩,
 ⟨some (46, false), .ldR 48 1 6 none, none, 48⟩,
 ⟨some (46, false), .mv 49 (.t 3), none, 49⟩,
 ⟨some (46, false), .bin 50 .add (.t 48) (.t 49), none, 50⟩,
 ⟨some (46, false), .bin 51 .gtr (.t 50) (.i 1048576), none, 51⟩,
 ⟨none, .pick 52 (.t 46) (.b true) (.t 51), none, 0⟩,
 ⟨none, .mv 32 (.t 52), none, 0⟩]
def c92r5 : List SI := [
 mv 2 (.b false)]
def c92r6 : List SI := [
 ⟨none, .nop, (some 1), 0⟩,
 ⟨none, .ldR 55 1 4 none, none, 0⟩,
 ⟨none, .bin 56 .lss (.t 55) (.i (-1)), none, 0⟩,
 ⟨none, .mv 57 (.t 56), none, 0⟩,
 ⟨some (57, false), .nop, (some 1), 99999⟩,
 ⟨some (57, false), .ldR 59 1 4 none, none, 59⟩,
 ⟨some (57, false), .bin 60 .gtr (.t 59) (.i 1099511627776), none, 60⟩,
 ⟨none, .pick 61 (.t 57) (.b true) (.t 60), none, 0⟩,
 ⟨none, .mv 53 (.t 61), none, 0⟩]
def c92r7 : List SI := [
 mv 2 (.b false)]
def c92r8 : List SI := [
 ⟨none, .nop, (some 1), 0⟩,
 ⟨none, .ldR 64 1 4 none, none, 0⟩,
 ⟨none, .bin 65 .eql (.t 64) (.i (-1)), none, 0⟩,
 ⟨none, .mv 66 (.t 65), none, 0⟩,
 ⟨some (66, true), .nop, (some 1), 99999⟩,
 ⟨some (66, true), .ldR 68 1 5 none, none, 68⟩,
 ⟨some (66, true), .nop, (some 1), 99999⟩,
 ⟨some (66, true), .ldR 70 1 6 none, none, 70⟩,
 ⟨some (66, true), .bin 71 .add (.t 68) (.t 70), none, 71⟩,
 ⟨some (66, true), .bin 72 .neq (.t 71) (.i 0), none, 72⟩,
 ⟨some (66, true), .mv 73 (.t 72), none, 73⟩,
 ⟨some (73, false), .nop, (some 1), 99999⟩,
 ⟨some (73, false), .ldR 75 1 7 none, none, 75⟩,
 ⟨some (66, true), .pick 76 (.t 73) (.b true) (.t 75), none, 76⟩,
 ⟨some (66, true), .mv 77 (.t 76), none, 77⟩,
 ⟨some (77, false), .nop, (some 1), 99999⟩,
 ⟨some (77, false), .ldR 79 1 8 none, none, 79⟩,
 ⟨some (77, false), .bin 80 .neq (.t 79) (.i 0), none, 80⟩,
 ⟨some (66, true), .pick 81 (.t 77) (.b true) (.t 80), none, 81⟩,
 ⟨none, .pick 82 (.t 66) (.t 81) (.b false), none, 0⟩,
 ⟨none, .mv 62 (.t 82), none, 0⟩]
def c92r9 : List SI := [
 mv 2 (.b false)]
def c92r10 : List SI := [
 ⟨none, .nop, (some 1), 0⟩,
 ⟨none, .ldR 84 1 8 none, none, 0⟩]
def c92r11 : List SI := [
 bin 86 .eql (.t 84) (.i 0),
 mv 85 (.t 86)]
def c92r12 : List SI := [
 ⟨none, .nop, (some 1), 0⟩,
 ⟨none, .ldR 88 1 0 none, none, 0⟩,
 ⟨none, .mv 4 (.t 88), none, 0⟩]
def c92r13 : List SI := [
 ⟨none, .nop, (some 1), 0⟩,
 ⟨none, .ldR 90 1 9 none, none, 0⟩,
 ⟨none, .len 91 false (.t 90), none, 0⟩,
 ⟨none, .mv 92 (.i 0), none, 0⟩]
def c92r14 : List SI := [
 bin 93 .lss (.t 92) (.t 91)]
def c92r15 : List SI := [
 ixA 94 (.t 90) (.t 92) 5,
 ld 95 (.t 94) (some 5),
 alR 6 [(.int .i64 0), (.string ⟨#[]⟩), (.string ⟨#[]⟩), (.bool false), (.int .i64 0)],
 stR 6 0 5 (.t 95)]
def c92r16 : List SI := [
 ⟨none, .ldR 96 6 0 (some 5), none, 0⟩,
 ⟨none, .call 97 108 [(.t 96)], none, 0⟩,
 ⟨none, .bin 98 .neq (.t 97) (.i 0), none, 0⟩,
 ⟨none, .mv 99 (.t 98), none, 0⟩,
 ⟨some (99, false), .nop, (some 6), 99999⟩,
 ⟨some (99, false), .ldR 101 6 0 none, none, 101⟩,
 ⟨some (99, false), .mv 102 (.t 4), none, 102⟩,
 ⟨some (99, false), .bin 103 .lss (.t 101) (.t 102), none, 103⟩,
 ⟨none, .pick 104 (.t 99) (.b true) (.t 103), none, 0⟩,
 ⟨none, .mv 105 (.t 104), none, 0⟩,
 ⟨some (105, false), .nop, (some 6), 99999⟩,
 ⟨some (105, false), .ldR 107 6 0 none, none, 107⟩,
 ⟨some (105, false), .nop, (some 1), 99999⟩,
 ⟨some (105, false), .ldR 109 1 1 none, none, 109⟩,
 ⟨some (105, false), .bin 110 .gtr (.t 107) (.t 109), none, 110⟩,
 ⟨none, .pick 111 (.t 105) (.b true) (.t 110), none, 0⟩]
def c92r17 : List SI := [
 mv 2 (.b false)]
def c92r18 : List SI := [
 ⟨none, .nop, (some 6), 0⟩,
 ⟨none, .ldR 113 6 0 none, none, 0⟩,
 ⟨none, .bin 114 .add (.t 113) (.i 1), none, 0⟩,
 ⟨none, .mv 4 (.t 114), none, 0⟩]
def c92r19 : List SI := [
 bin 115 .add (.t 92) (.i 1),
 mv 92 (.t 115)]
def c92r20 : List SI := [
 mv 2 (.b true)]
def c92r21 : List SI := [
 bin 117 .eql (.t 84) (.i 1),
 mv 116 (.t 117)]
def c92r22 : List SI := [
 bin 118 .eql (.t 84) (.i 2),
 mv 116 (.t 118)]
def c92r23 : List SI := [
 ⟨none, .mv 119 (.t 3), none, 0⟩,
 ⟨none, .bin 120 .eql (.t 119) (.i 0), none, 0⟩,
 ⟨none, .mv 121 (.t 120), none, 0⟩,
 ⟨some (121, true), .nop, (some 1), 99999⟩,
 ⟨some (121, true), .ldR 123 1 9 none, none, 123⟩,
 ⟨some (121, true), .len 124 false (.t 123), none, 124⟩,
 ⟨some (121, true), .bin 125 .eql (.t 124) (.i 0), none, 125⟩,
 ⟨none, .pick 126 (.t 121) (.t 125) (.b false), none, 0⟩,
 ⟨none, .mv 127 (.t 126), none, 0⟩,
 ⟨some (127, true), .nop, (some 1), 99999⟩,
 ⟨some (127, true), .ldR 129 1 7 none, none, 129⟩,
 ⟨none, .pick 130 (.t 127) (.t 129) (.b false), none, 0⟩,
 ⟨none, .mv 2 (.t 130), none, 0⟩]
def c92r24 : List SI := [
 mv 2 (.b false)]
def c92 : SC :=
 (.seq (.reg false c92r0)
 (.seq (.seq (.reg false c92r1)
 (.cond (.t 26)
  (.seq (.reg false c92r2)
  .ret)
  .skip))
 (.seq (.reg false c92r3)
 (.seq (.blk 0 (.seq (.reg false c92r4)
  (.cond (.t 32)
   (.seq (.reg false c92r5)
   .ret)
   (.seq (.reg false c92r6)
   (.cond (.t 53)
    (.seq (.reg false c92r7)
    .ret)
    (.seq (.reg false c92r8)
    (.cond (.t 62)
     (.seq (.reg false c92r9)
     .ret)
     .skip)))))))
 (.seq (.seq (.reg false c92r10)
 (.blk 1 (.seq (.reg false c92r11)
  (.cond (.t 85)
   (.seq (.reg false c92r12)
   (.seq (.seq (.reg false c92r13)
   (.blk 2 (.loop (.seq (.reg false c92r14)
     (.seq (.cond (.t 93)
      .skip
      (.exit 2))
     (.seq (.blk 3 (.seq (.reg false c92r15)
      (.seq (.seq (.reg false c92r16)
      (.cond (.t 111)
       (.seq (.reg false c92r17)
       .ret)
       .skip))
      (.reg false c92r18))))
     (.reg false c92r19)))))))
   (.seq (.reg false c92r20)
   .ret)))
   (.seq (.seq (.reg false c92r21)
   (.cond (.t 116)
    .skip
    (.reg false c92r22)))
   (.cond (.t 116)
    (.seq (.reg false c92r23)
    .ret)
    .skip))))))
 (.seq (.reg false c92r24)
 .ret))))))
def v92 : List Nat × List Nat := ([1, 6], [1, 6, 7, 9, 11, 17, 19, 21, 27, 29, 40, 47, 54, 58, 63, 67, 69, 74, 78, 83, 87, 89, 100, 106, 108, 112, 122, 128])
def o92 : List RS := [.t 2]
theorem s92 : slimC Tryz.prog Tryz.f92.ntmps v92.1 v92.2 ((Tryz.f92.body).getD .skip) = some c92 := by kernel_rfl
theorem q92 : slimR Tryz.prog Tryz.f92.ntmps v92.1 v92.2 Tryz.f92.results.toList = some o92 := by kernel_rfl
def c93r0 : List SI := [
 bxR 1 (.t 0),
 mv 2 (.v (.slice none 0 0))]
def c93r1 : List SI := [
 mv 3 (.v (.slice none 0 0))]
def c93r2 : List SI := [
 ⟨none, .nop, (some 1), 0⟩,
 ⟨none, .ldR 13 1 0 none, none, 0⟩,
 ⟨none, .nop, (some 1), 0⟩,
 ⟨none, .ldR 15 1 1 none, none, 0⟩,
 ⟨none, .nop, (some 1), 0⟩,
 ⟨none, .ldR 17 1 0 none, none, 0⟩,
 ⟨none, .bin 18 .sub (.t 15) (.t 17), none, 0⟩,
 ⟨none, .nop, (some 1), 0⟩,
 ⟨none, .ldR 20 1 2 none, none, 0⟩,
 ⟨none, .nop, (some 1), 0⟩,
 ⟨none, .ldR 22 1 3 none, none, 0⟩,
 ⟨none, .nop, (some 1), 0⟩,
 ⟨none, .ldR 24 1 4 none, none, 0⟩,
 ⟨none, .nop, (some 1), 0⟩,
 ⟨none, .ldR 26 1 5 none, none, 0⟩,
 ⟨none, .nop, (some 1), 0⟩,
 ⟨none, .ldR 28 1 6 none, none, 0⟩,
 ⟨none, .bld 29 [(.int .i64 0), (.int .i64 0), (.int .i64 0), (.int .i64 0), (.int .i64 0), (.int .i64 0), (.int .i64 0)] [(0, 1, (.t 13)), (1, 1, (.t 18)), (2, 1, (.t 20)), (3, 1, (.t 22)), (4, 1, (.t 24)), (5, 1, (.t 26)), (6, 1, (.t 28))], none, 0⟩,
 ⟨none, .mv 30 (.i 0), none, 0⟩]
def c93r3 : List SI := [
 bin 31 .lss (.t 30) (.i 7)]
def c93r4 : List SI := [
 ixV 32 (.t 29) (.t 30) 7 1 none,
 mv 5 (.t 32)]
def c93r5 : List SI := [
 mv 33 (.t 3),
 mv 34 (.t 5),
 call 35 109 [(.t 33), (.t 34)],
 mv 3 (.t 35)]
def c93r6 : List SI := [
 bin 36 .add (.t 30) (.i 1),
 mv 30 (.t 36)]
def c93r7 : List SI := [
 ⟨none, .nop, (some 1), 0⟩,
 ⟨none, .ldR 38 1 8 none, none, 0⟩,
 ⟨none, .cvI 39 .u8 (.t 38), none, 0⟩,
 ⟨none, .mv 6 (.t 39), none, 0⟩]
def c93r8 : List SI := [
 ⟨none, .nop, (some 1), 0⟩,
 ⟨none, .ldR 41 1 7 none, none, 0⟩]
def c93r9 : List SI := [
 mv 42 (.t 6),
 bin 43 .or (.t 42) (.v (.int .u8 4)),
 mv 6 (.t 43)]
def c93r10 : List (Bool × SI) := [
 (true, N_ (.mv 44 (.t 3))),
 (true, N_ (.mv 45 (.t 6))),
 (true, ⟨none, .nop, (some 1), 0⟩),
 (true, N_ (.ldR 49 1 9 none)),
 (true, N_ (.len 50 false (.t 49))),
 (false, N_ (.bls 46 5 1 1 [(.int .u8 0)] [(0, 1, (.t 45))])),
 (false, N_ (.app 47 (.t 44) (.t 46) 5 1 1)),
 (false, N_ (.call 51 109 [(.t 47), (.t 50)])),
 (true, N_ (.mv 3 (.t 51)))]
def c93r11 : List SI := [
 ⟨none, .nop, (some 1), 0⟩,
 ⟨none, .ldR 53 1 9 none, none, 0⟩,
 ⟨none, .len 54 false (.t 53), none, 0⟩,
 ⟨none, .bin 55 .gtr (.t 54) (.i 0), none, 0⟩]
def c93r12 : List SI := [
 ⟨none, .nop, (some 1), 0⟩,
 ⟨none, .ldR 57 1 9 none, none, 0⟩,
 ⟨none, .ixA 58 (.t 57) (.i 0) 5, none, 0⟩,
 ⟨none, .flA 59 (.t 58) 4, none, 0⟩,
 ⟨none, .ld 60 (.t 59) none, none, 0⟩,
 ⟨none, .mv 7 (.t 60), none, 0⟩]
def c93r13 : List SI := [
 mv 61 (.t 3),
 mv 62 (.t 7),
 call 63 109 [(.t 61), (.t 62)],
 mv 3 (.t 63)]
def c93r14 : List SI := [
 ⟨none, .nop, (some 1), 0⟩,
 ⟨none, .ldR 65 1 9 none, none, 0⟩,
 ⟨none, .len 66 false (.t 65), none, 0⟩,
 ⟨none, .mv 67 (.i 0), none, 0⟩]
def c93r15 : List SI := [
 bin 68 .lss (.t 67) (.t 66)]
def c93r16 : List SI := [
 ixA 69 (.t 65) (.t 67) 5,
 ld 70 (.t 69) (some 5),
 alR 9 [(.int .i64 0), (.string ⟨#[]⟩), (.string ⟨#[]⟩), (.bool false), (.int .i64 0)],
 stR 9 0 5 (.t 70)]
def c93r17 : List SI := [
 ⟨none, .ldR 72 9 0 (some 5), none, 0⟩,
 ⟨none, .nop, (some 1), 0⟩,
 ⟨none, .ldR 74 1 0 none, none, 0⟩,
 ⟨none, .mv 75 (.t 7), none, 0⟩,
 ⟨none, .call 76 110 [(.t 72), (.t 74), (.t 75)], none, 0⟩,
 ⟨none, .mv 71 (.t 76), none, 0⟩,
 ⟨none, .ext 77 (.t 71) 0, none, 0⟩,
 ⟨none, .ext 78 (.t 71) 1, none, 0⟩,
 ⟨none, .mv 10 (.t 77), none, 0⟩,
 ⟨none, .mv 11 (.t 78), none, 0⟩]
def c93r18 : List SI := [
 mv 79 (.t 3),
 mv 80 (.t 10),
 app 81 (.t 79) (.t 80) 5 1 1,
 mv 3 (.t 81)]
def c93r19 : List SI := [
 bin 82 .add (.t 67) (.i 1),
 mv 67 (.t 82)]
def c93r20 : List SI := [
 mv 83 (.t 3),
 call 84 111 [(.t 83)],
 mv 3 (.t 84)]
def c93r21 : List SI := [
 mv 85 (.t 3),
 len 86 false (.t 85),
 cvI 87 .u64 (.t 86),
 call 88 112 [(.v (.slice none 0 0)), (.t 87), (.i 4)],
 mv 89 (.t 3),
 app 90 (.t 88) (.t 89) 5 1 1,
 mv 2 (.t 90)]
def c93 : SC :=
 (.seq (.reg false c93r0)
 (.seq (.reg false c93r1)
 (.seq (.seq (.reg false c93r2)
 (.blk 0 (.loop (.seq (.reg false c93r3)
   (.seq (.cond (.t 31)
    .skip
    (.exit 0))
   (.seq (.blk 1 (.seq (.reg false c93r4)
    (.reg false c93r5)))
   (.reg false c93r6)))))))
 (.seq (.reg false c93r7)
 (.seq (.seq (.reg false c93r8)
 (.cond (.t 41)
  (.reg false c93r9)
  .skip))
 (.seq (.rgX c93r10)
 (.seq (.seq (.reg false c93r11)
 (.cond (.t 55)
  (.seq (.reg false c93r12)
  (.seq (.reg false c93r13)
  (.seq (.reg false c93r14)
  (.blk 2 (.loop (.seq (.reg false c93r15)
    (.seq (.cond (.t 68)
     .skip
     (.exit 2))
    (.seq (.blk 3 (.seq (.reg false c93r16)
     (.seq (.reg false c93r17)
     (.reg false c93r18))))
    (.reg false c93r19)))))))))
  .skip))
 (.seq (.reg false c93r20)
 (.seq (.reg false c93r21)
 .ret)))))))))
def v93 : List Nat × List Nat := ([1, 9], [1, 9, 12, 14, 16, 19, 21, 23, 25, 27, 37, 40, 48, 52, 56, 64, 73])
def o93 : List RS := [.t 2]
theorem s93 : slimC Tryz.prog Tryz.f93.ntmps v93.1 v93.2 ((Tryz.f93.body).getD .skip) = some c93 := by kernel_rfl
theorem q93 : slimR Tryz.prog Tryz.f93.ntmps v93.1 v93.2 Tryz.f93.results.toList = some o93 := by kernel_rfl
def c94r0 : List SI := [
 mv 4 (.v (.slice none 0 0))]
def c94r1 : List SI := [
 mv 5 (.t 1),
 bin 6 .lss (.t 5) (.i 0)]
def c94r2 : List SI := [
 mv 8 (.t 1),
 mv 9 (.t 0),
 cpc 10 (.t 9),
 mv 11 (.t 0),
 len 12 false (.t 11),
 bin 13 .sub (.t 10) (.t 12),
 bin 14 .sub (.t 8) (.t 13),
 mv 1 (.t 14)]
def c94r3 : List SI := [
 mv 15 (.t 1),
 bin 16 .gtr (.t 15) (.i 0)]
def c94r4 : List SI := [
 mv 17 (.t 0),
 mv 18 (.t 0),
 cpc 19 (.t 18),
 sl 20 (.t 17) none (some (.t 19)) none 1,
 mv 21 (.t 1),
 apz 22 5 1 1 (.t 20) (.t 21),
 mv 23 (.t 0),
 len 24 false (.t 23),
 sl 25 (.t 22) none (some (.t 24)) none 1,
 mv 0 (.t 25)]
def c94r5 : List SI := [
 mv 26 (.t 0),
 mv 4 (.t 26)]
def c94 : SC :=
 (.seq (.reg false c94r0)
 (.seq (.seq (.reg false c94r1)
 (.cond (.t 6)
  .dead
  .skip))
 (.seq (.seq (.reg false c94r2)
 (.seq (.reg false c94r3)
 (.cond (.t 16)
  (.reg false c94r4)
  .skip)))
 (.seq (.reg false c94r5)
 .ret))))
def v94 : List Nat × List Nat := ([], [])
def o94 : List RS := [.t 4]
def c95r0 : List SI := [
 mv 4 (.b false)]
def c95r1 : List SI := [
 ⟨none, .mv 5 (.t 0), none, 0⟩,
 ⟨none, .bin 6 .geq (.t 5) (.i 0), none, 0⟩,
 ⟨none, .mv 7 (.t 6), none, 0⟩,
 ⟨some (7, true), .mv 8 (.t 0), none, 8⟩,
 ⟨some (7, true), .mv 9 (.t 1), none, 9⟩,
 ⟨some (7, true), .bin 10 .leq (.t 8) (.t 9), none, 10⟩,
 ⟨none, .pick 11 (.t 7) (.t 10) (.b false), none, 0⟩,
 ⟨none, .mv 4 (.t 11), none, 0⟩]
def c95 : SC :=
 (.seq (.reg false c95r0)
 (.seq (.reg false c95r1)
 .ret))
def v95 : List Nat × List Nat := ([], [])
def o95 : List RS := [.t 4]
theorem s95 : slimC Tryz.prog Tryz.f95.ntmps v95.1 v95.2 ((Tryz.f95.body).getD .skip) = some c95 := by kernel_rfl
theorem q95 : slimR Tryz.prog Tryz.f95.ntmps v95.1 v95.2 Tryz.f95.results.toList = some o95 := by kernel_rfl
def c96r0 : List SI := [
 bxR 1 (.t 0),
 mv 2 (.i 0)]
def c96r1 : List SI := [
 ⟨none, .nop, (some 1), 0⟩,
 ⟨none, .ldR 4 1 0 none, none, 0⟩,
 ⟨none, .call 5 113 [(.t 4)], none, 0⟩,
 ⟨none, .un 6 .not (.t 5), none, 0⟩,
 ⟨none, .mv 7 (.t 6), none, 0⟩,
 ⟨some (7, false), .nop, (some 1), 99999⟩,
 ⟨some (7, false), .ldR 9 1 4 none, none, 9⟩,
 ⟨some (7, false), .call 10 113 [(.t 9)], none, 10⟩,
 ⟨some (7, false), .un 11 .not (.t 10), none, 11⟩,
 ⟨none, .pick 12 (.t 7) (.b true) (.t 11), none, 0⟩,
 ⟨none, .mv 13 (.t 12), none, 0⟩,
 ⟨some (13, false), .nop, (some 1), 99999⟩,
 ⟨some (13, false), .ldR 15 1 1 none, none, 15⟩,
 ⟨some (13, false), .len 16 true (.t 15), none, 16⟩,
 ⟨some (13, false), .bin 17 .gtr (.t 16) (.i 64), none, 17⟩,
 ⟨none, .pick 18 (.t 13) (.b true) (.t 17), none, 0⟩,
 ⟨none, .mv 19 (.t 18), none, 0⟩,
 ⟨some (19, false), .nop, (some 1), 99999⟩,
 ⟨some (19, false), .ldR 21 1 2 none, none, 21⟩,
 ⟨some (19, false), .len 22 true (.t 21), none, 22⟩,
 ⟨some (19, false), .bin 23 .gtr (.t 22) (.i 64), none, 23⟩,
 ⟨none, .pick 24 (.t 19) (.b true) (.t 23), none, 0⟩,
 ⟨none, .mv 25 (.t 24), none, 0⟩,
 ⟨some (25, false), .nop, (some 1), 99999⟩,
 ⟨some (25, false), .ldR 27 1 3 none, none, 27⟩,
 ⟨some (25, false), .mv 28 (.t 27), none, 28⟩,
 ⟨some (28, true), .nop, (some 1), 99999⟩,
 ⟨some (28, true), .ldR 30 1 1 none, none, 30⟩,
 ⟨some (28, true), .bin 31 .eql (.t 30) (.v (.string ⟨#[]⟩)), none, 31⟩,
 ⟨some (28, true), .mv 32 (.t 31), none, 32⟩,
 ⟨some (32, false), .nop, (some 1), 99999⟩,
 ⟨some (32, false), .ldR 34 1 2 none, none, 34⟩,
 ⟨some (32, false), .bin 35 .neq (.t 34) (.v (.string ⟨#[]⟩)), none, 35⟩,
 ⟨some (28, true), .pick 36 (.t 32) (.b true) (.t 35), none, 36⟩,
 ⟨some (25, false), .pick 37 (.t 28) (.t 36) (.b false), none, 37⟩,
 ⟨none, .pick 38 (.t 25) (.b true) (.t 37), none, 0⟩]
def c96r2 : List SI := [
 mv 2 (.i 1)]
def c96r3 : List SI := [
 mv 2 (.i 0)]
def c96 : SC :=
 (.seq (.reg false c96r0)
 (.seq (.seq (.reg false c96r1)
 (.cond (.t 38)
  (.seq (.reg false c96r2)
  .ret)
  .skip))
 (.seq (.reg false c96r3)
 .ret)))
def v96 : List Nat × List Nat := ([1], [1, 3, 8, 14, 20, 26, 29, 33])
def o96 : List RS := [.t 2]
theorem s96 : slimC Tryz.prog Tryz.f96.ntmps v96.1 v96.2 ((Tryz.f96.body).getD .skip) = some c96 := by kernel_rfl
theorem q96 : slimR Tryz.prog Tryz.f96.ntmps v96.1 v96.2 Tryz.f96.results.toList = some o96 := by kernel_rfl
def c97r0 : List SI := [
 mv 4 (.v (.slice none 0 0))]
def c97r1 : List SI := [
 mv 7 (.t 1),
 cvI 8 .u64 (.t 7),
 bin 9 .mul (.v (.int .u64 2)) (.t 8),
 mv 5 (.t 9)]
def c97r2 : List SI := [
 mv 10 (.t 1),
 bin 11 .lss (.t 10) (.i 0)]
def c97r3 : List SI := [
 mv 12 (.t 1),
 bin 13 .add (.t 12) (.i 1),
 un 14 .neg (.t 13),
 cvI 15 .u64 (.t 14),
 bin 16 .mul (.v (.int .u64 2)) (.t 15),
 bin 17 .add (.t 16) (.v (.int .u64 1)),
 mv 5 (.t 17)]
def c97r4 : List SI := [
 mv 18 (.t 0),
 call 19 87 [(.t 18)],
 mv 6 (.t 19)]
def c97r5 : List SI := [
 mv 20 (.t 5),
 bin 21 .geq (.t 20) (.v (.int .u64 128))]
def c97r6 : List SI := [
 mv 22 (.t 6),
 mv 23 (.t 5),
 bin 24 .rem (.t 23) (.v (.int .u64 128)),
 bin 25 .add (.v (.int .u64 128)) (.t 24),
 cvI 26 .u8 (.t 25),
 bls 27 5 1 1 [(.int .u8 0)] [(0, 1, (.t 26))],
 app 28 (.t 22) (.t 27) 5 1 1,
 mv 6 (.t 28)]
def c97r7 : List SI := [
 mv 29 (.t 5),
 bin 30 .quo (.t 29) (.v (.int .u64 128)),
 mv 5 (.t 30)]
def c97r8 : List SI := [
 mv 31 (.t 6),
 mv 32 (.t 5),
 cvI 33 .u8 (.t 32),
 bls 34 5 1 1 [(.int .u8 0)] [(0, 1, (.t 33))],
 app 35 (.t 31) (.t 34) 5 1 1,
 mv 4 (.t 35)]
def c97 : SC :=
 (.seq (.reg false c97r0)
 (.seq (.reg false c97r1)
 (.seq (.seq (.reg false c97r2)
 (.cond (.t 11)
  (.reg false c97r3)
  .skip))
 (.seq (.reg false c97r4)
 (.seq (.blk 0 (.loop (.seq (.seq (.reg false c97r5)
   (.cond (.t 21)
    .skip
    (.exit 0)))
   (.blk 1 (.seq (.reg false c97r6)
    (.reg false c97r7))))))
 (.seq (.reg false c97r8)
 .ret))))))
def v97 : List Nat × List Nat := ([], [])
def o97 : List RS := [.t 4]
theorem s97 : slimC Tryz.prog Tryz.f97.ntmps v97.1 v97.2 ((Tryz.f97.body).getD .skip) = some c97 := by kernel_rfl
theorem q97 : slimR Tryz.prog Tryz.f97.ntmps v97.1 v97.2 Tryz.f97.results.toList = some o97 := by kernel_rfl
def c98r0 : List SI := [
 bxR 3 (.t 0),
 mv 6 (.v (.slice none 0 0)),
 mv 7 (.i 0)]
def c98r1 : List SI := [
 ldR 10 3 0 (some 5),
 call 11 96 [(.t 10)],
 mv 8 (.t 11)]
def c98r2 : List SI := [
 mv 12 (.t 8),
 bin 13 .neq (.t 12) (.i 0)]
def c98r3 : List SI := [
 mv 14 (.t 8),
 mv 6 (.v (.slice none 0 0)),
 mv 7 (.t 14)]
def c98r4 : List SI := [
 ⟨none, .mv 15 (.t 1), none, 0⟩,
 ⟨none, .call 16 113 [(.t 15)], none, 0⟩,
 ⟨none, .un 17 .not (.t 16), none, 0⟩,
 ⟨none, .mv 18 (.t 17), none, 0⟩,
 ⟨some (18, false), .mv 19 (.t 2), none, 19⟩,
 ⟨some (18, false), .call 20 113 [(.t 19)], none, 20⟩,
 ⟨some (18, false), .un 21 .not (.t 20), none, 21⟩,
 ⟨none, .pick 22 (.t 18) (.b true) (.t 21), none, 0⟩]
def c98r5 : List SI := [
 mv 6 (.v (.slice none 0 0)),
 mv 7 (.i 1)]
def c98r6 : List SI := [
 ⟨none, .nop, (some 3), 0⟩,
 ⟨none, .ldR 24 3 0 none, none, 0⟩,
 ⟨none, .mv 25 (.t 1), none, 0⟩,
 ⟨none, .bin 26 .sub (.t 24) (.t 25), none, 0⟩,
 ⟨none, .call 27 97 [(.v (.slice none 0 0)), (.t 26)], none, 0⟩,
 ⟨none, .mv 9 (.t 27), none, 0⟩]
def c98r7 : List SI := [
 ⟨none, .mv 28 (.t 9), none, 0⟩,
 ⟨none, .nop, (some 3), 0⟩,
 ⟨none, .ldR 30 3 4 none, none, 0⟩,
 ⟨none, .mv 31 (.t 2), none, 0⟩,
 ⟨none, .bin 32 .sub (.t 30) (.t 31), none, 0⟩,
 ⟨none, .call 33 97 [(.t 28), (.t 32)], none, 0⟩,
 ⟨none, .mv 9 (.t 33), none, 0⟩]
def c98r8 : List SI := [
 ⟨none, .nop, (some 3), 0⟩,
 ⟨none, .ldR 35 3 3 none, none, 0⟩]
def c98r9 : List SI := [
 mv 36 (.t 9),
 bls 37 5 1 1 [(.int .u8 0)] [(0, 1, (.v (.int .u8 1)))],
 app 38 (.t 36) (.t 37) 5 1 1,
 mv 9 (.t 38)]
def c98r10 : List SI := [
 mv 39 (.t 9),
 bls 40 5 1 1 [(.int .u8 0)] [(0, 1, (.v (.int .u8 0)))],
 app 41 (.t 39) (.t 40) 5 1 1,
 mv 9 (.t 41)]
def c98r11 : List SI := [
 ⟨none, .mv 42 (.t 9), none, 0⟩,
 ⟨none, .nop, (some 3), 0⟩,
 ⟨none, .ldR 44 3 1 none, none, 0⟩,
 ⟨none, .call 45 114 [(.t 42), (.t 44)], none, 0⟩,
 ⟨none, .mv 9 (.t 45), none, 0⟩]
def c98r12 : List SI := [
 ⟨none, .mv 46 (.t 9), none, 0⟩,
 ⟨none, .nop, (some 3), 0⟩,
 ⟨none, .ldR 48 3 2 none, none, 0⟩,
 ⟨none, .call 49 114 [(.t 46), (.t 48)], none, 0⟩,
 ⟨none, .mv 6 (.t 49), none, 0⟩,
 ⟨none, .mv 7 (.i 0), none, 0⟩]
def c98 : SC :=
 (.seq (.reg false c98r0)
 (.seq (.reg false c98r1)
 (.seq (.seq (.reg false c98r2)
 (.cond (.t 13)
  (.seq (.reg false c98r3)
  .ret)
  .skip))
 (.seq (.seq (.reg false c98r4)
 (.cond (.t 22)
  (.seq (.reg false c98r5)
  .ret)
  .skip))
 (.seq (.reg false c98r6)
 (.seq (.reg false c98r7)
 (.seq (.seq (.reg false c98r8)
 (.cond (.t 35)
  (.reg false c98r9)
  (.reg false c98r10)))
 (.seq (.reg false c98r11)
 (.seq (.reg false c98r12)
 .ret)))))))))
def v98 : List Nat × List Nat := ([3], [3, 23, 29, 34, 43, 47])
def o98 : List RS := [.t 6, .t 7]
theorem s98 : slimC Tryz.prog Tryz.f98.ntmps v98.1 v98.2 ((Tryz.f98.body).getD .skip) = some c98 := by kernel_rfl
theorem q98 : slimR Tryz.prog Tryz.f98.ntmps v98.1 v98.2 Tryz.f98.results.toList = some o98 := by kernel_rfl
def c99r0 : List SI := [
 mv 2 (.v (.slice none 0 0))]
def c99r1 : List SI := [
 bl0 3,
 mv 4 (.t 0),
 app 5 (.t 3) (.t 4) 5 1 1,
 mv 6 (.t 0),
 call 7 116 [(.t 6)],
 call 8 115 [(.t 7)],
 app 9 (.t 5) (.t 8) 5 1 1,
 mv 2 (.t 9)]
def c99 : SC :=
 (.seq (.reg false c99r0)
 (.seq (.reg false c99r1)
 .ret))
def v99 : List Nat × List Nat := ([], [])
def o99 : List RS := [.t 2]
theorem s99 : slimC Tryz.prog Tryz.f99.ntmps v99.1 v99.2 ((Tryz.f99.body).getD .skip) = some c99 := by kernel_rfl
theorem q99 : slimR Tryz.prog Tryz.f99.ntmps v99.1 v99.2 Tryz.f99.results.toList = some o99 := by kernel_rfl
def c100r0 : List SI := [
 mv 6 (.v (.slice none 0 0))]
def c100r1 : List SI := [
 mv 10 (.t 0),
 call 11 87 [(.t 10)],
 mv 7 (.t 11)]
def c100r2 : List SI := [
 ⟨none, .mv 12 (.t 2), none, 0⟩,
 ⟨none, .bin 13 .lss (.t 12) (.i 1), none, 0⟩,
 ⟨none, .mv 14 (.t 13), none, 0⟩,
 ⟨some (14, false), .mv 15 (.t 2), none, 15⟩,
 ⟨some (14, false), .bin 16 .gtr (.t 15) (.i 8), none, 16⟩,
 ⟨none, .pick 17 (.t 14) (.b true) (.t 16), none, 0⟩]
def c100r3 : List SI := [
 mv 18 (.t 7),
 mv 6 (.t 18)]
def c100r4 : List SI := [
 mv 19 (.t 2),
 mv 20 (.i 0)]
def c100r5 : List SI := [
 bin 21 .lss (.t 20) (.t 19)]
def c100r6 : List SI := [
 mv 22 (.t 20),
 mv 8 (.t 22)]
def c100r7 : List SI := [
 mv 23 (.t 1),
 mv 9 (.t 23)]
def c100r8 : List SI := [
 mv 24 (.t 2),
 bin 25 .sub (.t 24) (.i 1),
 mv 26 (.t 8),
 bin 27 .sub (.t 25) (.t 26),
 mv 28 (.i 0)]
def c100r9 : List SI := [
 bin 29 .lss (.t 28) (.t 27)]
def c100r10 : List SI := [
 mv 30 (.t 9),
 bin 31 .quo (.t 30) (.v (.int .u64 256)),
 mv 9 (.t 31)]
def c100r11 : List SI := [
 bin 32 .add (.t 28) (.i 1),
 mv 28 (.t 32)]
def c100r12 : List SI := [
 mv 33 (.t 7),
 mv 34 (.t 9),
 bin 35 .rem (.t 34) (.v (.int .u64 256)),
 cvI 36 .u8 (.t 35),
 bls 37 5 1 1 [(.int .u8 0)] [(0, 1, (.t 36))],
 app 38 (.t 33) (.t 37) 5 1 1,
 mv 7 (.t 38)]
def c100r13 : List SI := [
 bin 39 .add (.t 20) (.i 1),
 mv 20 (.t 39)]
def c100r14 : List SI := [
 mv 40 (.t 7),
 mv 6 (.t 40)]
def c100 : SC :=
 (.seq (.reg false c100r0)
 (.seq (.reg false c100r1)
 (.seq (.seq (.reg false c100r2)
 (.cond (.t 17)
  (.seq (.reg false c100r3)
  .ret)
  .skip))
 (.seq (.seq (.reg false c100r4)
 (.blk 0 (.loop (.seq (.reg false c100r5)
   (.seq (.cond (.t 21)
    .skip
    (.exit 0))
   (.seq (.blk 1 (.seq (.reg false c100r6)
    (.seq (.reg false c100r7)
    (.seq (.seq (.reg false c100r8)
    (.blk 2 (.loop (.seq (.reg false c100r9)
      (.seq (.cond (.t 29)
       .skip
       (.exit 2))
      (.seq (.blk 3 (.reg false c100r10))
      (.reg false c100r11)))))))
    (.reg false c100r12)))))
   (.reg false c100r13)))))))
 (.seq (.reg false c100r14)
 .ret)))))
def v100 : List Nat × List Nat := ([], [])
def o100 : List RS := [.t 6]
theorem s100 : slimC Tryz.prog Tryz.f100.ntmps v100.1 v100.2 ((Tryz.f100.body).getD .skip) = some c100 := by kernel_rfl
theorem q100 : slimR Tryz.prog Tryz.f100.ntmps v100.1 v100.2 Tryz.f100.results.toList = some o100 := by kernel_rfl
def c101r0 : List SI := [
 flA 8 (.t 1) 0,
 ld 9 (.t 8) none,
 mv 3 (.i 0),
 mv 4 (.t 9)]
def c101r1 : List SI := [
 flA 11 (.t 1) 1,
 ld 12 (.t 11) none,
 mv 13 (.t 3),
 call 14 102 [(.t 12), (.t 13)],
 mv 10 (.t 14),
 ext 15 (.t 10) 0,
 ext 16 (.t 10) 1,
 ext 17 (.t 10) 2,
 alR 5 [(.int .i64 0), (.int .i64 0), (.int .i64 0), (.int .i64 0), (.int .i64 0), (.int .i64 0), (.int .i64 0), (.bool false), (.int .i64 0), (.slice none 0 0)],
 stR 5 0 10 (.t 15),
 mv 6 (.t 16),
 mv 7 (.t 17)]
def c101r2 : List SI := [
 ⟨none, .mv 18 (.t 7), none, 0⟩,
 ⟨none, .bin 19 .neq (.t 18) (.i 0), none, 0⟩,
 ⟨none, .mv 20 (.t 19), none, 0⟩,
 ⟨some (20, false), .nop, (some 5), 99999⟩,
 ⟨some (20, false), .ldR 22 5 0 none, none, 22⟩,
 ⟨some (20, false), .mv 23 (.t 4), none, 23⟩,
 ⟨some (20, false), .bin 24 .lss (.t 22) (.t 23), none, 24⟩,
 ⟨none, .pick 25 (.t 20) (.b true) (.t 24), none, 0⟩,
 ⟨none, .mv 26 (.t 25), none, 0⟩,
 ⟨some (26, false), .mv 27 (.t 0), none, 27⟩,
 ⟨some (26, false), .ldR 28 5 0 (some 10), none, 28⟩,
 ⟨some (26, false), .mv 29 (.t 6), none, 29⟩,
 ⟨some (26, false), .cav 30 (.t 27) [(.t 28), (.t 29)], none, 30⟩,
 ⟨some (26, false), .un 31 .not (.t 30), none, 31⟩,
 ⟨none, .pick 32 (.t 26) (.b true) (.t 31), none, 0⟩]
def c101r3 : List SI := [
 ⟨none, .mv 33 (.t 6), none, 0⟩,
 ⟨none, .nop, (some 5), 0⟩,
 ⟨none, .ldR 35 5 1 none, none, 0⟩,
 ⟨none, .bin 36 .add (.t 35) (.i 1), none, 0⟩,
 ⟨none, .mv 3 (.t 33), none, 0⟩,
 ⟨none, .mv 4 (.t 36), none, 0⟩]
def c101 : SC :=
 (.seq (.reg true c101r0)
 (.blk 0 (.loop (.blk 1 (.seq (.reg false c101r1)
    (.seq (.seq (.reg false c101r2)
    (.cond (.t 32)
     .ret
     .skip))
    (.reg true c101r3)))))))
def v101 : List Nat × List Nat := ([5], [5, 21, 34])
def o101 : List RS := []
def c102r0 : List SI := [
 alR 4 [(.int .i64 0), (.int .i64 0), (.int .i64 0), (.int .i64 0), (.int .i64 0), (.int .i64 0), (.int .i64 0), (.bool false), (.int .i64 0), (.slice none 0 0)],
 mv 5 (.i 0),
 mv 6 (.i 0)]
def c102r1 : List SI := [
 mv 12 (.t 0),
 mv 13 (.t 1),
 call 14 117 [(.t 12), (.t 13), (.i 4)],
 mv 11 (.t 14),
 ext 15 (.t 11) 0,
 ext 16 (.t 11) 1,
 mv 7 (.t 15),
 mv 6 (.t 16)]
def c102r2 : List SI := [
 mv 17 (.t 6),
 bin 18 .neq (.t 17) (.i 0)]
def c102r3 : List SI := [
 bld 19 [(.int .i64 0), (.int .i64 0), (.int .i64 0), (.int .i64 0), (.int .i64 0), (.int .i64 0), (.int .i64 0), (.bool false), (.int .i64 0), (.slice none 0 0)] [],
 mv 20 (.t 6),
 stR 4 0 10 (.t 19),
 mv 5 (.i 0),
 mv 6 (.t 20)]
def c102r4 : List SI := [
 ⟨none, .mv 21 (.t 7), none, 0⟩,
 ⟨none, .bin 22 .lss (.t 21) (.v (.int .u64 5)), none, 0⟩,
 ⟨none, .mv 23 (.t 22), none, 0⟩,
 ⟨some (23, false), .mv 24 (.t 7), none, 24⟩,
 ⟨some (23, false), .bin 25 .gtr (.t 24) (.v (.int .u64 2044)), none, 25⟩,
 ⟨none, .pick 26 (.t 23) (.b true) (.t 25), none, 0⟩]
def c102r5 : List SI := [
 bld 27 [(.int .i64 0), (.int .i64 0), (.int .i64 0), (.int .i64 0), (.int .i64 0), (.int .i64 0), (.int .i64 0), (.bool false), (.int .i64 0), (.slice none 0 0)] [],
 stR 4 0 10 (.t 27),
 mv 5 (.i 0),
 mv 6 (.i 11)]
def c102r6 : List SI := [
 mv 28 (.t 0),
 mv 29 (.t 1),
 bin 30 .add (.t 29) (.i 4),
 sl 31 (.t 28) (some (.t 30)) none none 1,
 mv 8 (.t 31)]
def c102r7 : List SI := [
 mv 32 (.t 8),
 len 33 false (.t 32),
 cvI 34 .u64 (.t 33),
 mv 35 (.t 7),
 bin 36 .lss (.t 34) (.t 35)]
def c102r8 : List SI := [
 bld 37 [(.int .i64 0), (.int .i64 0), (.int .i64 0), (.int .i64 0), (.int .i64 0), (.int .i64 0), (.int .i64 0), (.bool false), (.int .i64 0), (.slice none 0 0)] [],
 stR 4 0 10 (.t 37),
 mv 5 (.i 0),
 mv 6 (.i 10)]
def c102r9 : List SI := [
 mv 39 (.t 8),
 mv 40 (.t 7),
 sl 41 (.t 39) none (some (.t 40)) none 1,
 call 42 118 [(.t 41)],
 mv 38 (.t 42),
 ext 43 (.t 38) 0,
 ext 44 (.t 38) 1,
 mv 9 (.t 43),
 mv 6 (.t 44)]
def c102r10 : List SI := [
 mv 45 (.t 6),
 bin 46 .neq (.t 45) (.i 0)]
def c102r11 : List SI := [
 bld 47 [(.int .i64 0), (.int .i64 0), (.int .i64 0), (.int .i64 0), (.int .i64 0), (.int .i64 0), (.int .i64 0), (.bool false), (.int .i64 0), (.slice none 0 0)] [],
 mv 48 (.t 6),
 stR 4 0 10 (.t 47),
 mv 5 (.i 0),
 mv 6 (.t 48)]
def c102r12 : List SI := [
 mv 50 (.t 9),
 call 51 119 [(.t 50)],
 mv 49 (.t 51),
 ext 52 (.t 49) 0,
 ext 53 (.t 49) 1,
 stR 4 0 10 (.t 52),
 mv 10 (.t 53)]
def c102r13 : List SI := [
 ⟨none, .mv 54 (.t 10), none, 0⟩,
 ⟨none, .un 55 .not (.t 54), none, 0⟩,
 ⟨none, .mv 56 (.t 55), none, 0⟩,
 ⟨some (56, false), .ldR 57 4 0 (some 10), none, 57⟩,
 ⟨some (56, false), .call 58 47 [(.t 57)], none, 58⟩,
 ⟨some (56, false), .bin 59 .neq (.t 58) (.i 0), none, 59⟩,
 ⟨none, .pick 60 (.t 56) (.b true) (.t 59), none, 0⟩]
def c102r14 : List SI := [
 bld 61 [(.int .i64 0), (.int .i64 0), (.int .i64 0), (.int .i64 0), (.int .i64 0), (.int .i64 0), (.int .i64 0), (.bool false), (.int .i64 0), (.slice none 0 0)] [],
 stR 4 0 10 (.t 61),
 mv 5 (.i 0),
 mv 6 (.i 11)]
def c102r15 : List SI := [
 ldR 62 4 0 (some 10),
 mv 63 (.t 1),
 bin 64 .add (.t 63) (.i 4),
 mv 65 (.t 7),
 cvI 66 .i64 (.t 65),
 bin 67 .add (.t 64) (.t 66),
 stR 4 0 10 (.t 62),
 mv 5 (.t 67),
 mv 6 (.i 0)]
def c102 : SC :=
 (.seq (.reg false c102r0)
 (.seq (.reg false c102r1)
 (.seq (.seq (.reg false c102r2)
 (.cond (.t 18)
  (.seq (.reg false c102r3)
  .ret)
  .skip))
 (.seq (.seq (.reg false c102r4)
 (.cond (.t 26)
  (.seq (.reg false c102r5)
  .ret)
  .skip))
 (.seq (.reg false c102r6)
 (.seq (.seq (.reg false c102r7)
 (.cond (.t 36)
  (.seq (.reg false c102r8)
  .ret)
  .skip))
 (.seq (.reg false c102r9)
 (.seq (.seq (.reg false c102r10)
 (.cond (.t 46)
  (.seq (.reg false c102r11)
  .ret)
  .skip))
 (.seq (.reg false c102r12)
 (.seq (.seq (.reg false c102r13)
 (.cond (.t 60)
  (.seq (.reg false c102r14)
  .ret)
  .skip))
 (.seq (.reg false c102r15)
 .ret)))))))))))
def v102 : List Nat × List Nat := ([4], [4])
def o102 : List RS := [.r 4 (some 10), .t 5, .t 6]
def c103r0 : List SI := [
 mv 2 (.v (.slice none 0 0))]
def c103r1 : List SI := [
 mv 3 (.t 0),
 isn 4 false (.t 3)]
def c103r2 : List SI := [
 mv 2 (.v (.slice none 0 0))]
def c103r3 : List SI := [
 bl0 5,
 mv 6 (.t 0),
 app 7 (.t 5) (.t 6) 5 1 1,
 mv 2 (.t 7)]
def c103 : SC :=
 (.seq (.reg false c103r0)
 (.seq (.seq (.reg false c103r1)
 (.cond (.t 4)
  (.seq (.reg false c103r2)
  .ret)
  .skip))
 (.seq (.reg false c103r3)
 .ret)))
def v103 : List Nat × List Nat := ([], [])
def o103 : List RS := [.t 2]
theorem s103 : slimC Tryz.prog Tryz.f103.ntmps v103.1 v103.2 ((Tryz.f103.body).getD .skip) = some c103 := by kernel_rfl
theorem q103 : slimR Tryz.prog Tryz.f103.ntmps v103.1 v103.2 Tryz.f103.results.toList = some o103 := by kernel_rfl
def c104r0 : List SI := [
 mv 6 (.v (.int .u64 0)),
 mv 7 (.i 0)]
def c104r1 : List SI := [
 ⟨none, .mv 10 (.t 2), none, 0⟩,
 ⟨none, .bin 11 .lss (.t 10) (.i 1), none, 0⟩,
 ⟨none, .mv 12 (.t 11), none, 0⟩,
 ⟨some (12, false), .mv 13 (.t 2), none, 13⟩,
 ⟨some (12, false), .bin 14 .gtr (.t 13) (.i 8), none, 14⟩,
 ⟨none, .pick 15 (.t 12) (.b true) (.t 14), none, 0⟩,
 ⟨none, .mv 16 (.t 15), none, 0⟩,
 ⟨some (16, false), .mv 17 (.t 1), none, 17⟩,
 ⟨some (16, false), .bin 18 .lss (.t 17) (.i 0), none, 18⟩,
 ⟨none, .pick 19 (.t 16) (.b true) (.t 18), none, 0⟩]
def c104r2 : List SI := [
 mv 6 (.v (.int .u64 0)),
 mv 7 (.i 1)]
def c104r3 : List SI := [
 ⟨none, .mv 20 (.t 1), none, 0⟩,
 ⟨none, .mv 21 (.t 0), none, 0⟩,
 ⟨none, .len 22 false (.t 21), none, 0⟩,
 ⟨none, .bin 23 .gtr (.t 20) (.t 22), none, 0⟩,
 ⟨none, .mv 24 (.t 23), none, 0⟩,
 ⟨some (24, false), .mv 25 (.t 0), none, 25⟩,
 ⟨some (24, false), .len 26 false (.t 25), none, 26⟩,
 ⟨some (24, false), .mv 27 (.t 1), none, 27⟩,
 ⟨some (24, false), .bin 28 .sub (.t 26) (.t 27), none, 28⟩,
 ⟨some (24, false), .mv 29 (.t 2), none, 29⟩,
 ⟨some (24, false), .bin 30 .lss (.t 28) (.t 29), none, 30⟩,
 ⟨none, .pick 31 (.t 24) (.b true) (.t 30), none, 0⟩]
def c104r4 : List SI := [
 mv 6 (.v (.int .u64 0)),
 mv 7 (.i 10)]
def c104r5 : List SI := [
 mv 8 (.v (.int .u64 0))]
def c104r6 : List SI := [
 mv 32 (.t 2),
 mv 33 (.i 0)]
def c104r7 : List SI := [
 bin 34 .lss (.t 33) (.t 32)]
def c104r8 : List SI := [
 mv 35 (.t 33),
 mv 9 (.t 35)]
def c104r9 : List SI := [
 mv 36 (.t 8),
 bin 37 .mul (.t 36) (.v (.int .u64 256)),
 mv 38 (.t 0),
 mv 39 (.t 1),
 mv 40 (.t 9),
 bin 41 .add (.t 39) (.t 40),
 ixA 42 (.t 38) (.t 41) 1,
 ld 43 (.t 42) none,
 cvI 44 .u64 (.t 43),
 bin 45 .add (.t 37) (.t 44),
 mv 8 (.t 45)]
def c104r10 : List SI := [
 bin 46 .add (.t 33) (.i 1),
 mv 33 (.t 46)]
def c104r11 : List SI := [
 mv 47 (.t 8),
 mv 6 (.t 47),
 mv 7 (.i 0)]
def c104 : SC :=
 (.seq (.reg false c104r0)
 (.seq (.seq (.reg false c104r1)
 (.cond (.t 19)
  (.seq (.reg false c104r2)
  .ret)
  .skip))
 (.seq (.seq (.reg false c104r3)
 (.cond (.t 31)
  (.seq (.reg false c104r4)
  .ret)
  .skip))
 (.seq (.reg false c104r5)
 (.seq (.seq (.reg false c104r6)
 (.blk 0 (.loop (.seq (.reg false c104r7)
   (.seq (.cond (.t 34)
    .skip
    (.exit 0))
   (.seq (.blk 1 (.seq (.reg false c104r8)
    (.reg false c104r9)))
   (.reg false c104r10)))))))
 (.seq (.reg false c104r11)
 .ret))))))
def v104 : List Nat × List Nat := ([], [])
def o104 : List RS := [.t 6, .t 7]
def c105r0 : List SI := [
 mv 2 (.v (.slice none 0 0)),
 mv 3 (.i 0)]
def c105r1 : List SI := [
 mv 7 (.t 0),
 len 8 false (.t 7),
 bin 9 .sub (.t 8) (.i 4),
 mv 4 (.t 9)]
def c105r2 : List SI := [
 mv 10 (.t 4),
 bin 11 .lss (.t 10) (.i 0)]
def c105r3 : List SI := [
 mv 2 (.v (.slice none 0 0)),
 mv 3 (.i 10)]
def c105r4 : List SI := [
 mv 12 (.t 0),
 mv 13 (.t 4),
 sl 14 (.t 12) none (some (.t 13)) none 1,
 call 15 116 [(.t 14)],
 call 16 115 [(.t 15)],
 mv 5 (.t 16)]
def c105r5 : List SI := [
 mv 6 (.i 0)]
def c105r6 : List SI := [
 mv 17 (.t 6),
 bin 18 .lss (.t 17) (.i 4)]
def c105r7 : List SI := [
 mv 21 (.t 0),
 mv 22 (.t 4),
 mv 23 (.t 6),
 bin 24 .add (.t 22) (.t 23),
 ixA 25 (.t 21) (.t 24) 1,
 ld 26 (.t 25) none,
 mv 27 (.t 5),
 mv 28 (.t 6),
 ixA 29 (.t 27) (.t 28) 1,
 ld 30 (.t 29) none,
 bin 31 .neq (.t 26) (.t 30)]
def c105r8 : List SI := [
 mv 2 (.v (.slice none 0 0)),
 mv 3 (.i 20)]
def c105r9 : List SI := [
 mv 19 (.t 6),
 bin 20 .add (.t 19) (.i 1),
 mv 6 (.t 20)]
def c105r10 : List SI := [
 bl0 32,
 mv 33 (.t 0),
 mv 34 (.t 4),
 sl 35 (.t 33) none (some (.t 34)) none 1,
 app 36 (.t 32) (.t 35) 5 1 1,
 mv 2 (.t 36),
 mv 3 (.i 0)]
def c105 : SC :=
 (.seq (.reg false c105r0)
 (.seq (.reg false c105r1)
 (.seq (.seq (.reg false c105r2)
 (.cond (.t 11)
  (.seq (.reg false c105r3)
  .ret)
  .skip))
 (.seq (.reg false c105r4)
 (.seq (.seq (.reg false c105r5)
 (.blk 0 (.loop (.seq (.seq (.reg false c105r6)
   (.cond (.t 18)
    .skip
    (.exit 0)))
   (.seq (.blk 1 (.seq (.reg true c105r7)
    (.cond (.t 31)
     (.seq (.reg false c105r8)
     .ret)
     .skip)))
   (.reg false c105r9))))))
 (.seq (.reg false c105r10)
 .ret))))))
def v105 : List Nat × List Nat := ([], [])
def o105 : List RS := [.t 2, .t 3]
def c106r0 : List SI := [
 alR 2 [(.int .i64 0), (.int .i64 0), (.int .i64 0), (.int .i64 0), (.int .i64 0), (.int .i64 0), (.int .i64 0), (.bool false), (.int .i64 0), (.slice none 0 0)],
 mv 3 (.b false)]
def c106r1 : List SI := [
 alR 4 [(.int .i64 0), (.int .i64 0), (.int .i64 0), (.int .i64 0), (.int .i64 0), (.int .i64 0), (.int .i64 0), (.bool false), (.int .i64 0), (.slice none 0 0)]]
def c106r2 : List SI := [
 mv 5 (.i 0)]
def c106r3 : List SI := [
 bld 21 [(.int .i64 0), (.int .i64 0), (.int .i64 0), (.int .i64 0), (.int .i64 0), (.int .i64 0), (.int .i64 0)] [],
 al 6 [(.int .i64 0), (.int .i64 0), (.int .i64 0), (.int .i64 0), (.int .i64 0), (.int .i64 0), (.int .i64 0)],
 st (.t 6) 7 (.t 21)]
def c106r4 : List SI := [
 mv 22 (.i 0)]
def c106r5 : List SI := [
 bin 23 .lss (.t 22) (.i 7)]
def c106r6 : List SI := [
 mv 24 (.t 22),
 mv 7 (.t 24)]
def c106r7 : List SI := [
 mv 26 (.t 0),
 mv 27 (.t 5),
 call 28 120 [(.t 26), (.t 27)],
 mv 25 (.t 28),
 ext 29 (.t 25) 0,
 ext 30 (.t 25) 1,
 ext 31 (.t 25) 2,
 mv 8 (.t 29),
 mv 9 (.t 30),
 mv 10 (.t 31)]
def c106r8 : List SI := [
 mv 32 (.t 10),
 bin 33 .neq (.t 32) (.i 0)]
def c106r9 : List SI := [
 ldR 34 4 0 (some 10),
 stR 2 0 10 (.t 34),
 mv 3 (.b false)]
def c106r10 : List SI := [
 mv 35 (.t 7),
 mv 36 (.t 8),
 ixP 37 (.t 6) (.t 35) 7 1,
 st (.t 37) 1 (.t 36)]
def c106r11 : List SI := [
 mv 38 (.t 9),
 mv 5 (.t 38)]
def c106r12 : List SI := [
 bin 39 .add (.t 22) (.i 1),
 mv 22 (.t 39)]
def c106r13 : List SI := [
 mv 41 (.t 0),
 mv 42 (.t 5),
 call 43 104 [(.t 41), (.t 42), (.i 1)],
 mv 40 (.t 43),
 ext 44 (.t 40) 0,
 ext 45 (.t 40) 1,
 mv 11 (.t 44),
 mv 12 (.t 45)]
def c106r14 : List SI := [
 ⟨none, .mv 46 (.t 12), none, 0⟩,
 ⟨none, .bin 47 .neq (.t 46) (.i 0), none, 0⟩,
 ⟨none, .mv 48 (.t 47), none, 0⟩,
 ⟨some (48, false), .mv 49 (.t 11), none, 49⟩,
 ⟨some (48, false), .bin 50 .gtr (.t 49) (.v (.int .u64 7)), none, 50⟩,
 ⟨none, .pick 51 (.t 48) (.b true) (.t 50), none, 0⟩]
def c106r15 : List SI := [
 ldR 52 4 0 (some 10),
 stR 2 0 10 (.t 52),
 mv 3 (.b false)]
def c106r16 : List SI := [
 mv 54 (.t 0),
 mv 55 (.t 5),
 bin 56 .add (.t 55) (.i 1),
 call 57 120 [(.t 54), (.t 56)],
 mv 53 (.t 57),
 ext 58 (.t 53) 0,
 ext 59 (.t 53) 1,
 ext 60 (.t 53) 2,
 mv 13 (.t 58),
 mv 5 (.t 59),
 mv 12 (.t 60)]
def c106r17 : List SI := [
 ⟨none, .mv 61 (.t 12), none, 0⟩,
 ⟨none, .bin 62 .neq (.t 61) (.i 0), none, 0⟩,
 ⟨none, .mv 63 (.t 62), none, 0⟩,
 ⟨some (63, false), .mv 64 (.t 13), none, 64⟩,
 ⟨some (63, false), .bin 65 .lss (.t 64) (.i 0), none, 65⟩,
 ⟨none, .pick 66 (.t 63) (.b true) (.t 65), none, 0⟩,
 ⟨none, .mv 67 (.t 66), none, 0⟩,
 ⟨some (67, false), .mv 68 (.t 13), none, 68⟩,
 ⟨some (67, false), .bin 69 .gtr (.t 68) (.i 16), none, 69⟩,
 ⟨none, .pick 70 (.t 67) (.b true) (.t 69), none, 0⟩,
 ⟨none, .mv 71 (.t 70), none, 0⟩,
 ⟨some (71, false), .ixP 72 (.t 6) (.i 1) 7 1, none, 72⟩,
 ⟨some (71, false), .ld 73 (.t 72) none, none, 73⟩,
 ⟨some (71, false), .bin 74 .lss (.t 73) (.i 0), none, 74⟩,
 ⟨none, .pick 75 (.t 71) (.b true) (.t 74), none, 0⟩,
 ⟨none, .mv 76 (.t 75), none, 0⟩,
 ⟨some (76, false), .ixP 77 (.t 6) (.i 1) 7 1, none, 77⟩,
 ⟨some (76, false), .ld 78 (.t 77) none, none, 78⟩,
 ⟨some (76, false), .bin 79 .gtr (.t 78) (.i 16), none, 79⟩,
 ⟨none, .pick 80 (.t 76) (.b true) (.t 79), none, 0⟩,
 ⟨none, .mv 81 (.t 80), none, 0⟩,
 ⟨some (81, false), .ixP 82 (.t 6) (.i 0) 7 1, none, 82⟩,
 ⟨some (81, false), .ld 83 (.t 82) none, none, 83⟩,
 ⟨some (81, false), .bin 84 .lss (.t 83) (.i 0), none, 84⟩,
 ⟨none, .pick 85 (.t 81) (.b true) (.t 84), none, 0⟩,
 ⟨none, .mv 86 (.t 85), none, 0⟩,
 ⟨some (86, false), .ixP 87 (.t 6) (.i 0) 7 1, none, 87⟩,
 ⟨some (86, false), .ld 88 (.t 87) none, none, 88⟩,
 ⟨some (86, false), .bin 89 .gtr (.t 88) (.i 1099511627776), none, 89⟩,
 ⟨none, .pick 90 (.t 86) (.b true) (.t 89), none, 0⟩]
def c106r18 : List SI := [
 ldR 91 4 0 (some 10),
 stR 2 0 10 (.t 91),
 mv 3 (.b false)]
def c106r19 : List SI := [
 ixP 92 (.t 6) (.i 0) 7 1,
 ld 93 (.t 92) none,
 ixP 94 (.t 6) (.i 0) 7 1,
 ld 95 (.t 94) none,
 ixP 96 (.t 6) (.i 1) 7 1,
 ld 97 (.t 96) none,
 bin 98 .add (.t 95) (.t 97),
 ixP 99 (.t 6) (.i 2) 7 1,
 ld 100 (.t 99) none,
 ixP 101 (.t 6) (.i 3) 7 1,
 ld 102 (.t 101) none,
 ixP 103 (.t 6) (.i 4) 7 1,
 ld 104 (.t 103) none,
 ixP 105 (.t 6) (.i 5) 7 1,
 ld 106 (.t 105) none,
 ixP 107 (.t 6) (.i 6) 7 1,
 ld 108 (.t 107) none,
 mv 109 (.t 11),
 bin 110 .geq (.t 109) (.v (.int .u64 4)),
 mv 111 (.t 11),
 bin 112 .rem (.t 111) (.v (.int .u64 4)),
 cvI 113 .i64 (.t 112),
 bld 114 [(.int .i64 0), (.int .i64 0), (.int .i64 0), (.int .i64 0), (.int .i64 0), (.int .i64 0), (.int .i64 0), (.bool false), (.int .i64 0), (.slice none 0 0)] [(0, 1, (.t 93)), (1, 1, (.t 98)), (2, 1, (.t 100)), (3, 1, (.t 102)), (4, 1, (.t 104)), (5, 1, (.t 106)), (6, 1, (.t 108)), (7, 1, (.t 110)), (8, 1, (.t 113))],
 stR 4 0 10 (.t 114)]
def c106r20 : List SI := [
 mv 14 (.i 0)]
def c106r21 : List SI := [
 mv 115 (.t 13),
 bin 116 .gtr (.t 115) (.i 0)]
def c106r22 : List SI := [
 mv 118 (.t 0),
 mv 119 (.t 5),
 call 120 120 [(.t 118), (.t 119)],
 mv 117 (.t 120),
 ext 121 (.t 117) 0,
 ext 122 (.t 117) 1,
 ext 123 (.t 117) 2,
 mv 15 (.t 121),
 mv 16 (.t 122),
 mv 17 (.t 123)]
def c106r23 : List SI := [
 mv 124 (.t 17),
 bin 125 .neq (.t 124) (.i 0)]
def c106r24 : List SI := [
 ldR 126 4 0 (some 10),
 stR 2 0 10 (.t 126),
 mv 3 (.b false)]
def c106r25 : List SI := [
 mv 127 (.t 15),
 mv 14 (.t 127)]
def c106r26 : List SI := [
 mv 128 (.t 16),
 mv 5 (.t 128)]
def c106r27 : List SI := [
 mv 129 (.t 13),
 mv 130 (.i 0)]
def c106r28 : List SI := [
 bin 131 .lss (.t 130) (.t 129)]
def c106r29 : List SI := [
 ⟨none, .mv 133 (.t 0), none, 0⟩,
 ⟨none, .mv 134 (.t 5), none, 0⟩,
 ⟨none, .nop, (some 4), 0⟩,
 ⟨none, .ldR 136 4 0 none, none, 0⟩,
 ⟨none, .mv 137 (.t 14), none, 0⟩,
 ⟨none, .call 138 121 [(.t 133), (.t 134), (.t 136), (.t 137)], none, 0⟩,
 ⟨none, .mv 132 (.t 138), none, 0⟩,
 ⟨none, .ext 139 (.t 132) 0, none, 0⟩,
 ⟨none, .ext 140 (.t 132) 1, none, 0⟩,
 ⟨none, .ext 141 (.t 132) 2, none, 0⟩,
 ⟨none, .alR 18 [(.int .i64 0), (.string ⟨#[]⟩), (.string ⟨#[]⟩), (.bool false), (.int .i64 0)], none, 0⟩,
 ⟨none, .stR 18 0 5 (.t 139), none, 0⟩,
 ⟨none, .mv 19 (.t 140), none, 0⟩,
 ⟨none, .mv 20 (.t 141), none, 0⟩]
def c106r30 : List SI := [
 mv 142 (.t 20),
 bin 143 .neq (.t 142) (.i 0)]
def c106r31 : List SI := [
 ldR 144 4 0 (some 10),
 stR 2 0 10 (.t 144),
 mv 3 (.b false)]
def c106r32 : List SI := [
 ⟨none, .nop, (some 4), 0⟩,
 ⟨none, .ldR 146 4 9 none, none, 0⟩,
 ⟨none, .ldR 147 18 0 (some 5), none, 0⟩,
 ⟨none, .bls 148 65 1 5 [(.int .i64 0), (.string ⟨#[]⟩), (.string ⟨#[]⟩), (.bool false), (.int .i64 0)] [(0, 5, (.t 147))], none, 0⟩,
 ⟨none, .app 149 (.t 146) (.t 148) 65 5 56, none, 0⟩,
 ⟨none, .nop, (some 4), 0⟩,
 ⟨none, .stR 4 9 1 (.t 149), none, 0⟩]
def c106r33 : List SI := [
 mv 151 (.t 19),
 mv 5 (.t 151)]
def c106r34 : List SI := [
 bin 152 .add (.t 130) (.i 1),
 mv 130 (.t 152)]
def c106r35 : List WI := [
 (true, false, ⟨none, .ldR 153 4 0 (some 10), none, 0⟩),
 (true, false, ⟨none, .mv 154 (.t 5), none, 0⟩),
 (true, false, ⟨none, .mv 155 (.t 0), none, 0⟩),
 (true, false, ⟨none, .len 156 false (.t 155), none, 0⟩),
 (true, false, ⟨none, .bin 157 .eql (.t 154) (.t 156), none, 0⟩),
 (true, false, ⟨none, .mv 158 (.t 157), none, 0⟩),
 (true, false, ⟨some (158, true), .mv 159 (.t 13), none, 159⟩),
 (true, false, ⟨some (158, true), .bin 160 .eql (.t 159) (.i 0), none, 160⟩),
 (true, false, ⟨some (158, true), .mv 161 (.t 160), none, 161⟩),
 (true, false, ⟨some (161, false), .nop, (some 4), 99999⟩),
 (true, false, ⟨some (161, false), .ldR 163 4 9 none, none, 163⟩),
 (true, false, ⟨some (161, false), .ixA 164 (.t 163) (.i 0) 5, none, 164⟩),
 (true, false, ⟨some (161, false), .flA 165 (.t 164) 4, none, 165⟩),
 (true, false, ⟨some (161, false), .ld 166 (.t 165) none, none, 166⟩),
 (true, false, ⟨some (161, false), .mv 167 (.t 14), none, 167⟩),
 (true, false, ⟨some (161, false), .bin 168 .eql (.t 166) (.t 167), none, 168⟩),
 (true, false, ⟨some (158, true), .pick 169 (.t 161) (.b true) (.t 168), none, 169⟩),
 (true, false, ⟨none, .pick 170 (.t 158) (.t 169) (.b false), none, 0⟩),
 (false, false, ⟨none, .stR 2 0 10 (.t 153), none, 0⟩),
 (true, false, ⟨none, .mv 3 (.t 170), none, 0⟩)]
def c106 : SC :=
 (.seq (.reg false c106r0)
 (.seq (.reg false c106r1)
 (.seq (.reg false c106r2)
 (.seq (.reg false c106r3)
 (.seq (.seq (.reg false c106r4)
 (.blk 0 (.loop (.seq (.reg false c106r5)
   (.seq (.cond (.t 23)
    .skip
    (.exit 0))
   (.seq (.blk 1 (.seq (.reg false c106r6)
    (.seq (.reg false c106r7)
    (.seq (.seq (.reg false c106r8)
    (.cond (.t 33)
     (.seq (.reg false c106r9)
     .ret)
     .skip))
    (.seq (.reg false c106r10)
    (.reg false c106r11))))))
   (.reg false c106r12)))))))
 (.seq (.reg false c106r13)
 (.seq (.seq (.reg false c106r14)
 (.cond (.t 51)
  (.seq (.reg false c106r15)
  .ret)
  .skip))
 (.seq (.reg false c106r16)
 (.seq (.seq (.reg false c106r17)
 (.cond (.t 90)
  (.seq (.reg false c106r18)
  .ret)
  .skip))
 (.seq (.reg false c106r19)
 (.seq (.reg false c106r20)
 (.seq (.seq (.reg false c106r21)
 (.cond (.t 116)
  (.seq (.reg false c106r22)
  (.seq (.seq (.reg false c106r23)
  (.cond (.t 125)
   (.seq (.reg false c106r24)
   .ret)
   .skip))
  (.seq (.reg false c106r25)
  (.reg false c106r26))))
  .skip))
 (.seq (.seq (.reg false c106r27)
 (.blk 2 (.loop (.seq (.reg false c106r28)
   (.seq (.cond (.t 131)
    .skip
    (.exit 2))
   (.seq (.blk 3 (.seq (.reg false c106r29)
    (.seq (.seq (.reg false c106r30)
    (.cond (.t 143)
     (.seq (.reg false c106r31)
     .ret)
     .skip))
    (.seq (.reg false c106r32)
    (.reg false c106r33)))))
   (.reg false c106r34)))))))
 (.seq (.rgW c106r35)
 .ret))))))))))))))
def v106 : List Nat × List Nat := ([2, 4, 18], [2, 4, 18, 135, 145, 150, 162])
def o106 : List RS := [.r 2 (some 10), .t 3]
def c107r0 : List SI := [
 mv 4 (.b false)]
def c107r1 : List SI := [
 ⟨none, .mv 5 (.t 1), none, 0⟩,
 ⟨none, .call 6 122 [(.t 5)], none, 0⟩,
 ⟨none, .bin 7 .geq (.t 6) (.i 0), none, 0⟩,
 ⟨none, .mv 8 (.t 7), none, 0⟩,
 ⟨some (8, true), .mv 9 (.t 1), none, 9⟩,
 ⟨some (8, true), .call 10 123 [(.t 9)], none, 10⟩,
 ⟨some (8, true), .mv 11 (.t 0), none, 11⟩,
 ⟨some (8, true), .bin 12 .leq (.t 10) (.t 11), none, 12⟩,
 ⟨none, .pick 13 (.t 8) (.t 12) (.b false), none, 0⟩,
 ⟨none, .mv 4 (.t 13), none, 0⟩]
def c107 : SC :=
 (.seq (.reg false c107r0)
 (.seq (.reg false c107r1)
 .ret))
def v107 : List Nat × List Nat := ([], [])
def o107 : List RS := [.t 4]
theorem s107 : slimC Tryz.prog Tryz.f107.ntmps v107.1 v107.2 ((Tryz.f107.body).getD .skip) = some c107 := by kernel_rfl
theorem q107 : slimR Tryz.prog Tryz.f107.ntmps v107.1 v107.2 Tryz.f107.results.toList = some o107 := by kernel_rfl
def c108r0 : List SI := [
 bxR 1 (.t 0),
 mv 2 (.i 0)]
def c108r1 : List SI := [
 ⟨none, .nop, (some 1), 0⟩,
 ⟨none, .ldR 5 1 0 none, none, 0⟩,
 ⟨none, .call 6 124 [(.t 5)], none, 0⟩,
 ⟨none, .un 7 .not (.t 6), none, 0⟩,
 ⟨none, .mv 3 (.t 7), none, 0⟩]
def c108r2 : List SI := [
 ⟨none, .nop, (some 1), 0⟩,
 ⟨none, .ldR 9 1 4 none, none, 0⟩,
 ⟨none, .call 10 124 [(.t 9)], none, 0⟩,
 ⟨none, .un 11 .not (.t 10), none, 0⟩,
 ⟨none, .mv 3 (.t 11), none, 0⟩]
def c108r3 : List SI := [
 ⟨none, .nop, (some 1), 0⟩,
 ⟨none, .ldR 13 1 1 none, none, 0⟩,
 ⟨none, .len 14 true (.t 13), none, 0⟩,
 ⟨none, .nop, (some 1), 0⟩,
 ⟨none, .ldR 16 1 2 none, none, 0⟩,
 ⟨none, .len 17 true (.t 16), none, 0⟩,
 ⟨none, .mm 18 true (.t 14) (.t 17), none, 0⟩,
 ⟨none, .bin 19 .gtr (.t 18) (.i 64), none, 0⟩,
 ⟨none, .mv 3 (.t 19), none, 0⟩]
def c108r4 : List SI := [
 mv 2 (.i 1)]
def c108r5 : List SI := [
 ⟨none, .nop, (some 1), 0⟩,
 ⟨none, .ldR 22 1 3 none, none, 0⟩,
 ⟨none, .mv 23 (.t 22), none, 0⟩,
 ⟨some (23, true), .nop, (some 1), 99999⟩,
 ⟨some (23, true), .ldR 25 1 1 none, none, 25⟩,
 ⟨some (23, true), .bin 26 .eql (.t 25) (.v (.string ⟨#[]⟩)), none, 26⟩,
 ⟨some (23, true), .mv 27 (.t 26), none, 27⟩,
 ⟨some (27, false), .nop, (some 1), 99999⟩,
 ⟨some (27, false), .ldR 29 1 2 none, none, 29⟩,
 ⟨some (27, false), .bin 30 .neq (.t 29) (.v (.string ⟨#[]⟩)), none, 30⟩,
 ⟨some (23, true), .pick 31 (.t 27) (.b true) (.t 30), none, 31⟩,
 ⟨none, .pick 32 (.t 23) (.t 31) (.b false), none, 0⟩,
 ⟨none, .mv 20 (.t 32), none, 0⟩]
def c108r6 : List SI := [
 mv 2 (.i 1)]
def c108r7 : List SI := [
 mv 2 (.i 0)]
def c108 : SC :=
 (.seq (.reg false c108r0)
 (.seq (.blk 0 (.seq (.seq (.reg false c108r1)
  (.cond (.t 3)
   .skip
   (.seq (.reg false c108r2)
   (.cond (.t 3)
    .skip
    (.reg false c108r3)))))
  (.cond (.t 3)
   (.seq (.reg false c108r4)
   .ret)
   (.seq (.reg false c108r5)
   (.cond (.t 20)
    (.seq (.reg false c108r6)
    .ret)
    .skip)))))
 (.seq (.reg false c108r7)
 .ret)))
def v108 : List Nat × List Nat := ([1], [1, 4, 8, 12, 15, 21, 24, 28])
def o108 : List RS := [.t 2]
theorem s108 : slimC Tryz.prog Tryz.f108.ntmps v108.1 v108.2 ((Tryz.f108.body).getD .skip) = some c108 := by kernel_rfl
theorem q108 : slimR Tryz.prog Tryz.f108.ntmps v108.1 v108.2 Tryz.f108.results.toList = some o108 := by kernel_rfl
def c109r0 : List SI := [
 mv 4 (.v (.slice none 0 0))]
def c109r1 : List SI := [
 mv 7 (.t 1),
 cvI 8 .u64 (.t 7),
 bin 9 .shl (.t 8) (.v (.int .u64 1)),
 mv 10 (.t 1),
 bin 11 .shr (.t 10) (.v (.int .u64 63)),
 cvI 12 .u64 (.t 11),
 bin 13 .xor (.t 9) (.t 12),
 mv 5 (.t 13)]
def c109r2 : List SI := [
 mv 14 (.t 0),
 call 15 103 [(.t 14)],
 mv 6 (.t 15)]
def c109r3 : List SI := [
 mv 16 (.t 5),
 bin 17 .geq (.t 16) (.v (.int .u64 128))]
def c109r4 : List SI := [
 mv 20 (.t 6),
 mv 21 (.t 5),
 cvI 22 .u8 (.t 21),
 bin 23 .or (.t 22) (.v (.int .u8 128)),
 bls 24 5 1 1 [(.int .u8 0)] [(0, 1, (.t 23))],
 app 25 (.t 20) (.t 24) 5 1 1,
 mv 6 (.t 25)]
def c109r5 : List SI := [
 mv 18 (.t 5),
 bin 19 .shr (.t 18) (.v (.int .u64 7)),
 mv 5 (.t 19)]
def c109r6 : List SI := [
 mv 26 (.t 6),
 mv 27 (.t 5),
 cvI 28 .u8 (.t 27),
 bls 29 5 1 1 [(.int .u8 0)] [(0, 1, (.t 28))],
 app 30 (.t 26) (.t 29) 5 1 1,
 mv 4 (.t 30)]
def c109 : SC :=
 (.seq (.reg false c109r0)
 (.seq (.reg false c109r1)
 (.seq (.reg false c109r2)
 (.seq (.blk 0 (.loop (.seq (.seq (.reg false c109r3)
   (.cond (.t 17)
    .skip
    (.exit 0)))
   (.seq (.blk 1 (.reg false c109r4))
   (.reg false c109r5)))))
 (.seq (.reg false c109r6)
 .ret)))))
def v109 : List Nat × List Nat := ([], [])
def o109 : List RS := [.t 4]
theorem s109 : slimC Tryz.prog Tryz.f109.ntmps v109.1 v109.2 ((Tryz.f109.body).getD .skip) = some c109 := by kernel_rfl
theorem q109 : slimR Tryz.prog Tryz.f109.ntmps v109.1 v109.2 Tryz.f109.results.toList = some o109 := by kernel_rfl
def c110r0 : List SI := [
 bxR 3 (.t 0),
 mv 6 (.v (.slice none 0 0)),
 mv 7 (.i 0)]
def c110r1 : List SI := [
 ldR 11 3 0 (some 5),
 call 12 108 [(.t 11)],
 mv 8 (.t 12)]
def c110r2 : List SI := [
 mv 13 (.t 8),
 bin 14 .neq (.t 13) (.i 0)]
def c110r3 : List SI := [
 mv 15 (.t 8),
 mv 6 (.v (.slice none 0 0)),
 mv 7 (.t 15)]
def c110r4 : List SI := [
 ⟨none, .mv 16 (.t 1), none, 0⟩,
 ⟨none, .call 17 124 [(.t 16)], none, 0⟩,
 ⟨none, .un 18 .not (.t 17), none, 0⟩,
 ⟨none, .mv 19 (.t 18), none, 0⟩,
 ⟨some (19, false), .mv 20 (.t 2), none, 20⟩,
 ⟨some (19, false), .call 21 124 [(.t 20)], none, 21⟩,
 ⟨some (19, false), .un 22 .not (.t 21), none, 22⟩,
 ⟨none, .pick 23 (.t 19) (.b true) (.t 22), none, 0⟩]
def c110r5 : List SI := [
 mv 6 (.v (.slice none 0 0)),
 mv 7 (.i 1)]
def c110r6 : List SI := [
 mv 9 (.v (.int .u8 0))]
def c110r7 : List SI := [
 ⟨none, .nop, (some 3), 0⟩,
 ⟨none, .ldR 25 3 3 none, none, 0⟩]
def c110r8 : List SI := [
 mv 9 (.v (.int .u8 1))]
def c110r9 : List (Bool × SI) := [
 (true, ⟨none, .nop, (some 3), 0⟩),
 (true, N_ (.ldR 27 3 0 none)),
 (true, N_ (.mv 28 (.t 1))),
 (true, N_ (.bin 29 .sub (.t 27) (.t 28))),
 (true, ⟨none, .nop, (some 3), 0⟩),
 (true, N_ (.ldR 32 3 4 none)),
 (true, N_ (.mv 33 (.t 2))),
 (true, N_ (.bin 34 .sub (.t 32) (.t 33))),
 (false, N_ (.call 30 109 [(.v (.slice none 0 0)), (.t 29)])),
 (false, N_ (.call 35 109 [(.t 30), (.t 34)])),
 (true, N_ (.mv 10 (.t 35)))]
def c110r10 : List (Bool × SI) := [
 (true, N_ (.mv 36 (.t 10))),
 (true, N_ (.mv 37 (.t 9))),
 (true, ⟨none, .nop, (some 3), 0⟩),
 (true, N_ (.ldR 41 3 1 none)),
 (true, ⟨none, .nop, (some 3), 0⟩),
 (true, N_ (.ldR 44 3 2 none)),
 (false, N_ (.bls 38 5 1 1 [(.int .u8 0)] [(0, 1, (.t 37))])),
 (false, N_ (.app 39 (.t 36) (.t 38) 5 1 1)),
 (false, N_ (.call 42 125 [(.t 39), (.t 41)])),
 (false, N_ (.call 45 125 [(.t 42), (.t 44)])),
 (true, N_ (.mv 6 (.t 45))),
 (true, N_ (.mv 7 (.i 0)))]
def c110 : SC :=
 (.seq (.reg false c110r0)
 (.seq (.seq (.reg false c110r1)
 (.seq (.reg false c110r2)
 (.cond (.t 14)
  (.seq (.reg false c110r3)
  .ret)
  .skip)))
 (.seq (.seq (.reg false c110r4)
 (.cond (.t 23)
  (.seq (.reg false c110r5)
  .ret)
  .skip))
 (.seq (.reg false c110r6)
 (.seq (.seq (.reg false c110r7)
 (.cond (.t 25)
  (.reg false c110r8)
  .skip))
 (.seq (.rgX c110r9)
 (.seq (.rgX c110r10)
 .ret)))))))
def v110 : List Nat × List Nat := ([3], [3, 24, 26, 31, 40, 43])
def o110 : List RS := [.t 6, .t 7]
theorem s110 : slimC Tryz.prog Tryz.f110.ntmps v110.1 v110.2 ((Tryz.f110.body).getD .skip) = some c110 := by kernel_rfl
theorem q110 : slimR Tryz.prog Tryz.f110.ntmps v110.1 v110.2 Tryz.f110.results.toList = some o110 := by kernel_rfl
def c111r0 : List SI := [
 mv 2 (.v (.slice none 0 0))]
def c111r1 : List SI := [
 mv 3 (.t 0),
 app 4 (.v (.slice none 0 0)) (.t 3) 5 1 1,
 mv 5 (.t 0),
 call 6 126 [(.t 5)],
 cvI 7 .u64 (.t 6),
 call 8 112 [(.t 4), (.t 7), (.i 4)],
 mv 2 (.t 8)]
def c111 : SC :=
 (.seq (.reg false c111r0)
 (.seq (.reg false c111r1)
 .ret))
def v111 : List Nat × List Nat := ([], [])
def o111 : List RS := [.t 2]
theorem s111 : slimC Tryz.prog Tryz.f111.ntmps v111.1 v111.2 ((Tryz.f111.body).getD .skip) = some c111 := by kernel_rfl
theorem q111 : slimR Tryz.prog Tryz.f111.ntmps v111.1 v111.2 Tryz.f111.results.toList = some o111 := by kernel_rfl
def c112r0 : List SI := [
 mv 6 (.v (.slice none 0 0))]
def c112r1 : List SI := [
 mv 9 (.t 0),
 call 10 103 [(.t 9)],
 mv 7 (.t 10)]
def c112r2 : List SI := [
 ⟨none, .mv 11 (.t 2), none, 0⟩,
 ⟨none, .bin 12 .lss (.t 11) (.i 1), none, 0⟩,
 ⟨none, .mv 13 (.t 12), none, 0⟩,
 ⟨some (13, false), .mv 14 (.t 2), none, 14⟩,
 ⟨some (13, false), .bin 15 .gtr (.t 14) (.i 8), none, 15⟩,
 ⟨none, .pick 16 (.t 13) (.b true) (.t 15), none, 0⟩]
def c112r3 : List SI := [
 mv 17 (.t 7),
 mv 6 (.t 17)]
def c112r4 : List SI := [
 mv 18 (.t 2),
 bin 19 .sub (.t 18) (.i 1),
 bin 20 .mul (.i 8) (.t 19),
 mv 8 (.t 20)]
def c112r5 : List SI := [
 mv 21 (.t 8),
 bin 22 .geq (.t 21) (.i 0)]
def c112r6 : List SI := [
 mv 25 (.t 7),
 mv 26 (.t 1),
 mv 27 (.t 8),
 bin 28 .shr (.t 26) (.t 27),
 cvI 29 .u8 (.t 28),
 bls 30 5 1 1 [(.int .u8 0)] [(0, 1, (.t 29))],
 app 31 (.t 25) (.t 30) 5 1 1,
 mv 7 (.t 31)]
def c112r7 : List SI := [
 mv 23 (.t 8),
 bin 24 .sub (.t 23) (.i 8),
 mv 8 (.t 24)]
def c112r8 : List SI := [
 mv 32 (.t 7),
 mv 6 (.t 32)]
def c112 : SC :=
 (.seq (.reg false c112r0)
 (.seq (.reg false c112r1)
 (.seq (.seq (.reg false c112r2)
 (.cond (.t 16)
  (.seq (.reg false c112r3)
  .ret)
  .skip))
 (.seq (.seq (.reg false c112r4)
 (.blk 0 (.loop (.seq (.seq (.reg false c112r5)
   (.cond (.t 22)
    .skip
    (.exit 0)))
   (.seq (.blk 1 (.reg false c112r6))
   (.reg false c112r7))))))
 (.seq (.reg false c112r8)
 .ret)))))
def v112 : List Nat × List Nat := ([], [])
def o112 : List RS := [.t 6]
theorem s112 : slimC Tryz.prog Tryz.f112.ntmps v112.1 v112.2 ((Tryz.f112.body).getD .skip) = some c112 := by kernel_rfl
theorem q112 : slimR Tryz.prog Tryz.f112.ntmps v112.1 v112.2 Tryz.f112.results.toList = some o112 := by kernel_rfl
def c113r0 : List SI := [
 mv 2 (.b false)]
def c113r1 : List SI := [
 ⟨none, .mv 3 (.t 0), none, 0⟩,
 ⟨none, .bin 4 .geq (.t 3) (.i 0), none, 0⟩,
 ⟨none, .mv 5 (.t 4), none, 0⟩,
 ⟨some (5, true), .mv 6 (.t 0), none, 6⟩,
 ⟨some (5, true), .bin 7 .leq (.t 6) (.i 1099511627776), none, 7⟩,
 ⟨none, .pick 8 (.t 5) (.t 7) (.b false), none, 0⟩,
 ⟨none, .mv 2 (.t 8), none, 0⟩]
def c113 : SC :=
 (.seq (.reg false c113r0)
 (.seq (.reg false c113r1)
 .ret))
def v113 : List Nat × List Nat := ([], [])
def o113 : List RS := [.t 2]
theorem s113 : slimC Tryz.prog Tryz.f113.ntmps v113.1 v113.2 ((Tryz.f113.body).getD .skip) = some c113 := by kernel_rfl
theorem q113 : slimR Tryz.prog Tryz.f113.ntmps v113.1 v113.2 Tryz.f113.results.toList = some o113 := by kernel_rfl
def c114r0 : List SI := [
 mv 4 (.v (.slice none 0 0))]
def c114r1 : List SI := [
 mv 5 (.t 0),
 mv 6 (.t 1),
 len 7 true (.t 6),
 call 8 97 [(.t 5), (.t 7)],
 mv 9 (.t 1),
 app 10 (.t 8) (.t 9) 5 1 1,
 mv 4 (.t 10)]
def c114 : SC :=
 (.seq (.reg false c114r0)
 (.seq (.reg false c114r1)
 .ret))
def v114 : List Nat × List Nat := ([], [])
def o114 : List RS := [.t 4]
theorem s114 : slimC Tryz.prog Tryz.f114.ntmps v114.1 v114.2 ((Tryz.f114.body).getD .skip) = some c114 := by kernel_rfl
theorem q114 : slimR Tryz.prog Tryz.f114.ntmps v114.1 v114.2 Tryz.f114.results.toList = some o114 := by kernel_rfl
def c115r0 : List SI := [
 mv 2 (.v (.slice none 0 0))]
def c115r1 : List SI := [
 mv 3 (.t 0),
 bin 4 .quo (.t 3) (.v (.int .u32 16777216)),
 cvI 5 .u8 (.t 4),
 mv 6 (.t 0),
 bin 7 .quo (.t 6) (.v (.int .u32 65536)),
 cvI 8 .u8 (.t 7),
 mv 9 (.t 0),
 bin 10 .quo (.t 9) (.v (.int .u32 256)),
 cvI 11 .u8 (.t 10),
 mv 12 (.t 0),
 cvI 13 .u8 (.t 12),
 bls 14 5 4 1 [(.int .u8 0), (.int .u8 0), (.int .u8 0), (.int .u8 0)] [(0, 1, (.t 5)), (1, 1, (.t 8)), (2, 1, (.t 11)), (3, 1, (.t 13))],
 mv 2 (.t 14)]
def c115 : SC :=
 (.seq (.reg false c115r0)
 (.seq (.reg false c115r1)
 .ret))
def v115 : List Nat × List Nat := ([], [])
def o115 : List RS := [.t 2]
theorem s115 : slimC Tryz.prog Tryz.f115.ntmps v115.1 v115.2 ((Tryz.f115.body).getD .skip) = some c115 := by kernel_rfl
theorem q115 : slimR Tryz.prog Tryz.f115.ntmps v115.1 v115.2 Tryz.f115.results.toList = some o115 := by kernel_rfl
def c116r0 : List SI := [
 mv 2 (.v (.int .u32 0))]
def c116r1 : List SI := [
 mv 3 (.v (.int .u32 4294967295))]
def c116r2 : List SI := [
 mv 4 (.i 0)]
def c116r3 : List SI := [
 mv 5 (.t 4),
 mv 6 (.t 0),
 len 7 false (.t 6),
 bin 8 .lss (.t 5) (.t 7)]
def c116r4 : List SI := [
 mv 11 (.t 3),
 mv 12 (.t 0),
 mv 13 (.t 4),
 ixA 14 (.t 12) (.t 13) 1,
 ld 15 (.t 14) none,
 cvI 16 .u32 (.t 15),
 bin 17 .xor (.t 11) (.t 16),
 call 18 127 [(.t 17), (.i 8)],
 mv 3 (.t 18)]
def c116r5 : List SI := [
 mv 9 (.t 4),
 bin 10 .add (.t 9) (.i 1),
 mv 4 (.t 10)]
def c116r6 : List SI := [
 mv 19 (.t 3),
 bin 20 .xor (.t 19) (.v (.int .u32 4294967295)),
 mv 2 (.t 20)]
def c116 : SC :=
 (.seq (.reg false c116r0)
 (.seq (.reg false c116r1)
 (.seq (.seq (.reg false c116r2)
 (.blk 0 (.loop (.seq (.seq (.reg false c116r3)
   (.cond (.t 8)
    .skip
    (.exit 0)))
   (.seq (.blk 1 (.reg false c116r4))
   (.reg false c116r5))))))
 (.seq (.reg false c116r6)
 .ret))))
def v116 : List Nat × List Nat := ([], [])
def o116 : List RS := [.t 2]
theorem s116 : slimC Tryz.prog Tryz.f116.ntmps v116.1 v116.2 ((Tryz.f116.body).getD .skip) = some c116 := by kernel_rfl
theorem q116 : slimR Tryz.prog Tryz.f116.ntmps v116.1 v116.2 Tryz.f116.results.toList = some o116 := by kernel_rfl
def c117r0 : List SI := [
 mv 6 (.v (.int .u64 0)),
 mv 7 (.i 0)]
def c117r1 : List SI := [
 ⟨none, .mv 12 (.t 2), none, 0⟩,
 ⟨none, .bin 13 .lss (.t 12) (.i 1), none, 0⟩,
 ⟨none, .mv 14 (.t 13), none, 0⟩,
 ⟨some (14, false), .mv 15 (.t 2), none, 15⟩,
 ⟨some (14, false), .bin 16 .gtr (.t 15) (.i 8), none, 16⟩,
 ⟨none, .pick 17 (.t 14) (.b true) (.t 16), none, 0⟩,
 ⟨none, .mv 18 (.t 17), none, 0⟩,
 ⟨some (18, false), .mv 19 (.t 1), none, 19⟩,
 ⟨some (18, false), .bin 20 .lss (.t 19) (.i 0), none, 20⟩,
 ⟨none, .pick 21 (.t 18) (.b true) (.t 20), none, 0⟩]
def c117r2 : List SI := [
 mv 6 (.v (.int .u64 0)),
 mv 7 (.i 1)]
def c117r3 : List SI := [
 mv 22 (.t 0),
 mv 23 (.t 1),
 call 24 128 [(.t 22), (.t 23)],
 mv 8 (.t 24)]
def c117r4 : List SI := [
 mv 25 (.t 8),
 len 26 false (.t 25),
 mv 27 (.t 2),
 bin 28 .lss (.t 26) (.t 27)]
def c117r5 : List SI := [
 mv 6 (.v (.int .u64 0)),
 mv 7 (.i 10)]
def c117r6 : List SI := [
 mv 9 (.v (.int .u64 0))]
def c117r7 : List SI := [
 mv 29 (.t 8),
 mv 30 (.t 2),
 sl 31 (.t 29) none (some (.t 30)) none 1,
 len 32 false (.t 31),
 mv 33 (.i 0)]
def c117r8 : List SI := [
 bin 34 .lss (.t 33) (.t 32)]
def c117r9 : List SI := [
 ixA 35 (.t 31) (.t 33) 1,
 ld 36 (.t 35) none,
 mv 11 (.t 36)]
def c117r10 : List SI := [
 mv 37 (.t 9),
 bin 38 .shl (.t 37) (.v (.int .u64 8)),
 mv 39 (.t 11),
 cvI 40 .u64 (.t 39),
 bin 41 .or (.t 38) (.t 40),
 mv 9 (.t 41)]
def c117r11 : List SI := [
 bin 42 .add (.t 33) (.i 1),
 mv 33 (.t 42)]
def c117r12 : List SI := [
 mv 43 (.t 9),
 mv 6 (.t 43),
 mv 7 (.i 0)]
def c117 : SC :=
 (.seq (.reg false c117r0)
 (.seq (.seq (.reg false c117r1)
 (.cond (.t 21)
  (.seq (.reg false c117r2)
  .ret)
  .skip))
 (.seq (.reg false c117r3)
 (.seq (.seq (.reg false c117r4)
 (.cond (.t 28)
  (.seq (.reg false c117r5)
  .ret)
  .skip))
 (.seq (.reg false c117r6)
 (.seq (.seq (.reg false c117r7)
 (.blk 0 (.loop (.seq (.reg false c117r8)
   (.seq (.cond (.t 34)
    .skip
    (.exit 0))
   (.seq (.blk 1 (.seq (.reg false c117r9)
    (.reg false c117r10)))
   (.reg false c117r11)))))))
 (.seq (.reg false c117r12)
 .ret)))))))
def v117 : List Nat × List Nat := ([], [])
def o117 : List RS := [.t 6, .t 7]
def c118r0 : List SI := [
 mv 2 (.v (.slice none 0 0)),
 mv 3 (.i 0)]
def c118r1 : List SI := [
 mv 7 (.t 0),
 len 8 false (.t 7),
 bin 9 .sub (.t 8) (.i 4),
 mv 4 (.t 9)]
def c118r2 : List SI := [
 mv 10 (.t 4),
 bin 11 .lss (.t 10) (.i 0)]
def c118r3 : List SI := [
 mv 2 (.v (.slice none 0 0)),
 mv 3 (.i 10)]
def c118r4 : List SI := [
 mv 13 (.t 0),
 mv 14 (.t 4),
 call 15 117 [(.t 13), (.t 14), (.i 4)],
 mv 12 (.t 15),
 ext 16 (.t 12) 0,
 ext 17 (.t 12) 1,
 mv 5 (.t 16),
 mv 6 (.t 17)]
def c118r5 : List SI := [
 ⟨none, .mv 18 (.t 6), none, 0⟩,
 ⟨none, .bin 19 .neq (.t 18) (.i 0), none, 0⟩,
 ⟨none, .mv 20 (.t 19), none, 0⟩,
 ⟨some (20, false), .mv 21 (.t 5), none, 21⟩,
 ⟨some (20, false), .mv 22 (.t 0), none, 22⟩,
 ⟨some (20, false), .mv 23 (.t 4), none, 23⟩,
 ⟨some (20, false), .sl 24 (.t 22) none (some (.t 23)) none 1, none, 24⟩,
 ⟨some (20, false), .call 25 126 [(.t 24)], none, 25⟩,
 ⟨some (20, false), .cvI 26 .u64 (.t 25), none, 26⟩,
 ⟨some (20, false), .bin 27 .neq (.t 21) (.t 26), none, 27⟩,
 ⟨none, .pick 28 (.t 20) (.b true) (.t 27), none, 0⟩]
def c118r6 : List SI := [
 mv 2 (.v (.slice none 0 0)),
 mv 3 (.i 20)]
def c118r7 : List SI := [
 mv 29 (.t 0),
 mv 30 (.t 4),
 sl 31 (.t 29) none (some (.t 30)) none 1,
 app 32 (.v (.slice none 0 0)) (.t 31) 5 1 1,
 mv 2 (.t 32),
 mv 3 (.i 0)]
def c118 : SC :=
 (.seq (.reg false c118r0)
 (.seq (.reg false c118r1)
 (.seq (.seq (.reg false c118r2)
 (.cond (.t 11)
  (.seq (.reg false c118r3)
  .ret)
  .skip))
 (.seq (.seq (.reg false c118r4)
 (.seq (.reg false c118r5)
 (.cond (.t 28)
  (.seq (.reg false c118r6)
  .ret)
  .skip)))
 (.seq (.reg false c118r7)
 .ret)))))
def v118 : List Nat × List Nat := ([], [])
def o118 : List RS := [.t 2, .t 3]
def c119r0 : List SI := [
 bx 1 (.t 0),
 alR 2 [(.int .i64 0), (.int .i64 0), (.int .i64 0), (.int .i64 0), (.int .i64 0), (.int .i64 0), (.int .i64 0), (.bool false), (.int .i64 0), (.slice none 0 0)],
 al 3 [(.bool false)]]
def c119r1 : List SI := [
 al 4 [(.int .i64 0)],
 st (.t 4) 1 (.i 0)]
def c119r2 : List SI := [
 st (.t 3) 1 (.b true)]
def c119r3 : List SI := [
 mkf 15 (.func 129) [(.t 1), (.t 4), (.t 3)],
 mv 5 (.t 15)]
def c119r4 : List SI := [
 al 6 [(.int .i64 0), (.int .i64 0), (.int .i64 0), (.int .i64 0), (.int .i64 0), (.int .i64 0), (.int .i64 0)]]
def c119r5 : List SI := [
 mv 16 (.i 0)]
def c119r6 : List SI := [
 bin 17 .lss (.t 16) (.i 7)]
def c119r7 : List SI := [
 mv 18 (.t 16),
 mv 7 (.t 18)]
def c119r8 : List SI := [
 mv 19 (.t 7),
 mv 20 (.t 5),
 cav 21 (.t 20) [],
 ixP 22 (.t 6) (.t 19) 7 1,
 st (.t 22) 1 (.t 21)]
def c119r9 : List SI := [
 bin 23 .add (.t 16) (.i 1),
 mv 16 (.t 23)]
def c119r10 : List SI := [
 ⟨none, .ld 24 (.t 3) none, none, 0⟩,
 ⟨none, .un 25 .not (.t 24), none, 0⟩,
 ⟨none, .mv 26 (.t 25), none, 0⟩,
 ⟨some (26, false), .ld 27 (.t 4) none, none, 27⟩,
 ⟨some (26, false), .ld 28 (.t 1) none, none, 28⟩,
 ⟨some (26, false), .len 29 false (.t 28), none, 29⟩,
 ⟨some (26, false), .bin 30 .geq (.t 27) (.t 29), none, 30⟩,
 ⟨none, .pick 31 (.t 26) (.b true) (.t 30), none, 0⟩,
 ⟨none, .mv 32 (.t 31), none, 0⟩,
 ⟨some (32, false), .ld 33 (.t 1) none, none, 33⟩,
 ⟨some (32, false), .ld 34 (.t 4) none, none, 34⟩,
 ⟨some (32, false), .ixA 35 (.t 33) (.t 34) 1, none, 35⟩,
 ⟨some (32, false), .ld 36 (.t 35) none, none, 36⟩,
 ⟨some (32, false), .bin 37 .geq (.t 36) (.v (.int .u8 8)), none, 37⟩,
 ⟨none, .pick 38 (.t 32) (.b true) (.t 37), none, 0⟩,
 ⟨none, .mv 39 (.t 38), none, 0⟩,
 ⟨some (39, false), .ixP 40 (.t 6) (.i 0) 7 1, none, 40⟩,
 ⟨some (39, false), .ld 41 (.t 40) none, none, 41⟩,
 ⟨some (39, false), .bin 42 .lss (.t 41) (.i 0), none, 42⟩,
 ⟨none, .pick 43 (.t 39) (.b true) (.t 42), none, 0⟩,
 ⟨none, .mv 44 (.t 43), none, 0⟩,
 ⟨some (44, false), .ixP 45 (.t 6) (.i 0) 7 1, none, 45⟩,
 ⟨some (44, false), .ld 46 (.t 45) none, none, 46⟩,
 ⟨some (44, false), .bin 47 .gtr (.t 46) (.i 1099511627776), none, 47⟩,
 ⟨none, .pick 48 (.t 44) (.b true) (.t 47), none, 0⟩,
 ⟨none, .mv 49 (.t 48), none, 0⟩,
 ⟨some (49, false), .ixP 50 (.t 6) (.i 1) 7 1, none, 50⟩,
 ⟨some (49, false), .ld 51 (.t 50) none, none, 51⟩,
 ⟨some (49, false), .bin 52 .lss (.t 51) (.i 0), none, 52⟩,
 ⟨none, .pick 53 (.t 49) (.b true) (.t 52), none, 0⟩,
 ⟨none, .mv 54 (.t 53), none, 0⟩,
 ⟨some (54, false), .ixP 55 (.t 6) (.i 1) 7 1, none, 55⟩,
 ⟨some (54, false), .ld 56 (.t 55) none, none, 56⟩,
 ⟨some (54, false), .bin 57 .geq (.t 56) (.i 16), none, 57⟩,
 ⟨none, .pick 58 (.t 54) (.b true) (.t 57), none, 0⟩]
def c119r11 : List SI := [
 bld 59 [(.int .i64 0), (.int .i64 0), (.int .i64 0), (.int .i64 0), (.int .i64 0), (.int .i64 0), (.int .i64 0), (.bool false), (.int .i64 0), (.slice none 0 0)] [],
 stR 2 0 10 (.t 59),
 st (.t 3) 1 (.b false)]
def c119r12 : List SI := [
 ld 60 (.t 1) none,
 ld 61 (.t 4) none,
 ixA 62 (.t 60) (.t 61) 1,
 ld 63 (.t 62) none,
 mv 8 (.t 63)]
def c119r13 : List SI := [
 ld 64 (.t 4) none,
 bin 65 .add (.t 64) (.i 1),
 st (.t 4) 1 (.t 65)]
def c119r14 : List SI := [
 ixP 66 (.t 6) (.i 0) 7 1,
 ld 67 (.t 66) none,
 ixP 68 (.t 6) (.i 0) 7 1,
 ld 69 (.t 68) none,
 ixP 70 (.t 6) (.i 1) 7 1,
 ld 71 (.t 70) none,
 bin 72 .add (.t 69) (.t 71),
 ixP 73 (.t 6) (.i 2) 7 1,
 ld 74 (.t 73) none,
 ixP 75 (.t 6) (.i 3) 7 1,
 ld 76 (.t 75) none,
 ixP 77 (.t 6) (.i 4) 7 1,
 ld 78 (.t 77) none,
 ixP 79 (.t 6) (.i 5) 7 1,
 ld 80 (.t 79) none,
 ixP 81 (.t 6) (.i 6) 7 1,
 ld 82 (.t 81) none,
 mv 83 (.t 8),
 bin 84 .and (.t 83) (.v (.int .u8 4)),
 bin 85 .neq (.t 84) (.v (.int .u8 0)),
 mv 86 (.t 8),
 bin 87 .andNot (.t 86) (.v (.int .u8 4)),
 cvI 88 .i64 (.t 87),
 bld 89 [(.int .i64 0), (.int .i64 0), (.int .i64 0), (.int .i64 0), (.int .i64 0), (.int .i64 0), (.int .i64 0), (.bool false), (.int .i64 0), (.slice none 0 0)] [(0, 1, (.t 67)), (1, 1, (.t 72)), (2, 1, (.t 74)), (3, 1, (.t 76)), (4, 1, (.t 78)), (5, 1, (.t 80)), (6, 1, (.t 82)), (7, 1, (.t 85)), (8, 1, (.t 88))],
 stR 2 0 10 (.t 89)]
def c119r15 : List SI := [
 mv 90 (.t 5),
 cav 91 (.t 90) [],
 mv 9 (.t 91)]
def c119r16 : List SI := [
 ⟨none, .ld 92 (.t 3) none, none, 0⟩,
 ⟨none, .un 93 .not (.t 92), none, 0⟩,
 ⟨none, .mv 94 (.t 93), none, 0⟩,
 ⟨some (94, false), .mv 95 (.t 9), none, 95⟩,
 ⟨some (94, false), .bin 96 .lss (.t 95) (.i 0), none, 96⟩,
 ⟨none, .pick 97 (.t 94) (.b true) (.t 96), none, 0⟩,
 ⟨none, .mv 98 (.t 97), none, 0⟩,
 ⟨some (98, false), .mv 99 (.t 9), none, 99⟩,
 ⟨some (98, false), .bin 100 .gtr (.t 99) (.i 16), none, 100⟩,
 ⟨none, .pick 101 (.t 98) (.b true) (.t 100), none, 0⟩]
def c119r17 : List SI := [
 bld 102 [(.int .i64 0), (.int .i64 0), (.int .i64 0), (.int .i64 0), (.int .i64 0), (.int .i64 0), (.int .i64 0), (.bool false), (.int .i64 0), (.slice none 0 0)] [],
 stR 2 0 10 (.t 102),
 st (.t 3) 1 (.b false)]
def c119r18 : List SI := [
 mv 10 (.i 0)]
def c119r19 : List SI := [
 mv 103 (.t 9),
 bin 104 .gtr (.t 103) (.i 0)]
def c119r20 : List SI := [
 mv 105 (.t 5),
 cav 106 (.t 105) [],
 mv 10 (.t 106)]
def c119r21 : List SI := [
 mv 11 (.i 0)]
def c119r22 : List SI := [
 ⟨none, .mv 107 (.t 11), none, 0⟩,
 ⟨none, .mv 108 (.t 9), none, 0⟩,
 ⟨none, .bin 109 .lss (.t 107) (.t 108), none, 0⟩,
 ⟨none, .mv 110 (.t 109), none, 0⟩,
 ⟨some (110, true), .ld 111 (.t 3) none, none, 111⟩,
 ⟨none, .pick 112 (.t 110) (.t 111) (.b false), none, 0⟩]
def c119r23 : List SI := [
 ⟨none, .ld 116 (.t 1) none, none, 0⟩,
 ⟨none, .ld 117 (.t 4) none, none, 0⟩,
 ⟨none, .nop, (some 2), 0⟩,
 ⟨none, .ldR 119 2 0 none, none, 0⟩,
 ⟨none, .mv 120 (.t 10), none, 0⟩,
 ⟨none, .call 121 131 [(.t 116), (.t 117), (.t 119), (.t 120)], none, 0⟩,
 ⟨none, .mv 115 (.t 121), none, 0⟩,
 ⟨none, .ext 122 (.t 115) 0, none, 0⟩,
 ⟨none, .ext 123 (.t 115) 1, none, 0⟩,
 ⟨none, .ext 124 (.t 115) 2, none, 0⟩,
 ⟨none, .alR 12 [(.int .i64 0), (.string ⟨#[]⟩), (.string ⟨#[]⟩), (.bool false), (.int .i64 0)], none, 0⟩,
 ⟨none, .stR 12 0 5 (.t 122), none, 0⟩,
 ⟨none, .mv 13 (.t 123), none, 0⟩,
 ⟨none, .mv 14 (.t 124), none, 0⟩]
def c119r24 : List SI := [
 ⟨none, .ld 125 (.t 3) none, none, 0⟩,
 ⟨none, .mv 126 (.t 125), none, 0⟩,
 ⟨some (126, true), .mv 127 (.t 14), none, 127⟩,
 ⟨some (126, true), .bin 128 .eql (.t 127) (.i 0), none, 128⟩,
 ⟨none, .pick 129 (.t 126) (.t 128) (.b false), none, 0⟩,
 ⟨none, .mv 130 (.t 129), none, 0⟩,
 ⟨some (130, true), .mv 131 (.t 11), none, 131⟩,
 ⟨some (130, true), .bin 132 .gtr (.t 131) (.i 0), none, 132⟩,
 ⟨some (130, true), .mv 133 (.t 132), none, 133⟩,
 ⟨some (133, false), .nop, (some 12), 99999⟩,
 ⟨some (133, false), .ldR 135 12 4 none, none, 135⟩,
 ⟨some (133, false), .mv 136 (.t 10), none, 136⟩,
 ⟨some (133, false), .bin 137 .eql (.t 135) (.t 136), none, 137⟩,
 ⟨some (130, true), .pick 138 (.t 133) (.b true) (.t 137), none, 138⟩,
 ⟨none, .pick 139 (.t 130) (.t 138) (.b false), none, 0⟩,
 ⟨none, .st (.t 3) 1 (.t 139), none, 0⟩]
def c119r25 : List SI := [
 mv 140 (.t 13),
 st (.t 4) 1 (.t 140)]
def c119r26 : List SI := [
 ⟨none, .nop, (some 2), 0⟩,
 ⟨none, .ldR 142 2 9 none, none, 0⟩,
 ⟨none, .ldR 143 12 0 (some 5), none, 0⟩,
 ⟨none, .bls 144 65 1 5 [(.int .i64 0), (.string ⟨#[]⟩), (.string ⟨#[]⟩), (.bool false), (.int .i64 0)] [(0, 5, (.t 143))], none, 0⟩,
 ⟨none, .app 145 (.t 142) (.t 144) 65 5 56, none, 0⟩,
 ⟨none, .nop, (some 2), 0⟩,
 ⟨none, .stR 2 9 1 (.t 145), none, 0⟩]
def c119r27 : List SI := [
 mv 113 (.t 11),
 bin 114 .add (.t 113) (.i 1),
 mv 11 (.t 114)]
def c119r28 : List WI := [
 (true, false, ⟨none, .ldR 147 2 0 (some 10), none, 0⟩),
 (true, false, ⟨none, .ld 148 (.t 3) none, none, 0⟩),
 (true, false, ⟨none, .mv 149 (.t 148), none, 0⟩),
 (true, false, ⟨some (149, true), .ld 150 (.t 4) none, none, 150⟩),
 (true, false, ⟨some (149, true), .ld 151 (.t 1) none, none, 151⟩),
 (true, false, ⟨some (149, true), .len 152 false (.t 151), none, 152⟩),
 (true, false, ⟨some (149, true), .bin 153 .eql (.t 150) (.t 152), none, 153⟩),
 (true, false, ⟨none, .pick 154 (.t 149) (.t 153) (.b false), none, 0⟩),
 (false, false, ⟨none, .stR 2 0 10 (.t 147), none, 0⟩),
 (false, true, ⟨none, .st (.t 3) 1 (.t 154), none, 0⟩)]
def c119 : SC :=
 (.seq (.reg false c119r0)
 (.seq (.reg false c119r1)
 (.seq (.reg false c119r2)
 (.seq (.reg false c119r3)
 (.seq (.reg false c119r4)
 (.seq (.seq (.reg false c119r5)
 (.blk 0 (.loop (.seq (.reg false c119r6)
   (.seq (.cond (.t 17)
    .skip
    (.exit 0))
   (.seq (.blk 1 (.seq (.reg false c119r7)
    (.reg false c119r8)))
   (.reg false c119r9)))))))
 (.seq (.seq (.reg false c119r10)
 (.cond (.t 58)
  (.seq (.reg false c119r11)
  .ret)
  .skip))
 (.seq (.reg false c119r12)
 (.seq (.reg false c119r13)
 (.seq (.reg false c119r14)
 (.seq (.reg false c119r15)
 (.seq (.seq (.reg false c119r16)
 (.cond (.t 101)
  (.seq (.reg false c119r17)
  .ret)
  .skip))
 (.seq (.reg false c119r18)
 (.seq (.seq (.reg false c119r19)
 (.cond (.t 104)
  (.reg false c119r20)
  .skip))
 (.seq (.seq (.reg false c119r21)
 (.blk 2 (.loop (.seq (.seq (.reg false c119r22)
   (.cond (.t 112)
    .skip
    (.exit 2)))
   (.seq (.blk 3 (.seq (.reg false c119r23)
    (.seq (.reg false c119r24)
    (.seq (.reg false c119r25)
    (.reg false c119r26)))))
   (.reg false c119r27))))))
 (.seq (.rgW c119r28)
 .ret))))))))))))))))
def v119 : List Nat × List Nat := ([2, 12], [2, 12, 118, 134, 141, 146])
def o119 : List RS := [.r 2 (some 10), .c 3 none]
def c120r0 : List SI := [
 mv 4 (.i 0),
 mv 5 (.i 0),
 mv 6 (.i 0)]
def c120r1 : List SI := [
 mv 12 (.t 1),
 bin 13 .lss (.t 12) (.i 0)]
def c120r2 : List SI := [
 mv 4 (.i 0),
 mv 5 (.i 0),
 mv 6 (.i 1)]
def c120r3 : List SI := [
 mv 7 (.v (.int .u64 0))]
def c120r4 : List SI := [
 mv 8 (.v (.int .u64 1))]
def c120r5 : List SI := [
 mv 9 (.i 0)]
def c120r6 : List SI := [
 ⟨none, .mv 16 (.t 1), none, 0⟩,
 ⟨none, .mv 17 (.t 0), none, 0⟩,
 ⟨none, .len 18 false (.t 17), none, 0⟩,
 ⟨none, .bin 19 .geq (.t 16) (.t 18), none, 0⟩,
 ⟨none, .mv 20 (.t 19), none, 0⟩,
 ⟨some (20, false), .mv 21 (.t 9), none, 21⟩,
 ⟨some (20, false), .mv 22 (.t 0), none, 22⟩,
 ⟨some (20, false), .len 23 false (.t 22), none, 23⟩,
 ⟨some (20, false), .mv 24 (.t 1), none, 24⟩,
 ⟨some (20, false), .bin 25 .sub (.t 23) (.t 24), none, 25⟩,
 ⟨some (20, false), .bin 26 .geq (.t 21) (.t 25), none, 26⟩,
 ⟨none, .pick 27 (.t 20) (.b true) (.t 26), none, 0⟩]
def c120r7 : List SI := [
 mv 4 (.i 0),
 mv 5 (.i 0),
 mv 6 (.i 10)]
def c120r8 : List SI := [
 mv 28 (.t 0),
 mv 29 (.t 1),
 mv 30 (.t 9),
 bin 31 .add (.t 29) (.t 30),
 ixA 32 (.t 28) (.t 31) 1,
 ld 33 (.t 32) none,
 mv 10 (.t 33)]
def c120r9 : List SI := [
 ⟨none, .mv 34 (.t 9), none, 0⟩,
 ⟨none, .bin 35 .eql (.t 34) (.i 9), none, 0⟩,
 ⟨none, .mv 36 (.t 35), none, 0⟩,
 ⟨some (36, true), .mv 37 (.t 10), none, 37⟩,
 ⟨some (36, true), .bin 38 .gtr (.t 37) (.v (.int .u8 1)), none, 38⟩,
 ⟨none, .pick 39 (.t 36) (.t 38) (.b false), none, 0⟩,
 ⟨none, .mv 40 (.t 39), none, 0⟩,
 ⟨some (40, false), .mv 41 (.t 9), none, 41⟩,
 ⟨some (40, false), .bin 42 .gtr (.t 41) (.i 0), none, 42⟩,
 ⟨some (40, false), .mv 43 (.t 42), none, 43⟩,
 ⟨some (43, true), .mv 44 (.t 10), none, 44⟩,
 ⟨some (43, true), .bin 45 .eql (.t 44) (.v (.int .u8 0)), none, 45⟩,
 ⟨some (40, false), .pick 46 (.t 43) (.t 45) (.b false), none, 46⟩,
 ⟨none, .pick 47 (.t 40) (.b true) (.t 46), none, 0⟩]
def c120r10 : List SI := [
 mv 4 (.i 0),
 mv 5 (.i 0),
 mv 6 (.i 11)]
def c120r11 : List SI := [
 mv 48 (.t 7),
 mv 49 (.t 8),
 mv 50 (.t 10),
 bin 51 .rem (.t 50) (.v (.int .u8 128)),
 cvI 52 .u64 (.t 51),
 bin 53 .mul (.t 49) (.t 52),
 bin 54 .add (.t 48) (.t 53),
 mv 7 (.t 54)]
def c120r12 : List SI := [
 mv 55 (.t 8),
 bin 56 .mul (.t 55) (.v (.int .u64 128)),
 mv 8 (.t 56)]
def c120r13 : List SI := [
 mv 57 (.t 10),
 bin 58 .lss (.t 57) (.v (.int .u8 128))]
def c120r14 : List SI := [
 mv 59 (.t 7),
 bin 60 .quo (.t 59) (.v (.int .u64 2)),
 cvI 61 .i64 (.t 60),
 mv 11 (.t 61)]
def c120r15 : List SI := [
 mv 62 (.t 7),
 bin 63 .rem (.t 62) (.v (.int .u64 2)),
 bin 64 .eql (.t 63) (.v (.int .u64 1))]
def c120r16 : List SI := [
 mv 65 (.t 11),
 un 66 .neg (.t 65),
 bin 67 .sub (.t 66) (.i 1),
 mv 11 (.t 67)]
def c120r17 : List SI := [
 mv 68 (.t 11),
 mv 69 (.t 1),
 mv 70 (.t 9),
 bin 71 .add (.t 69) (.t 70),
 bin 72 .add (.t 71) (.i 1),
 mv 4 (.t 68),
 mv 5 (.t 72),
 mv 6 (.i 0)]
def c120r18 : List SI := [
 mv 14 (.t 9),
 bin 15 .add (.t 14) (.i 1),
 mv 9 (.t 15)]
def c120 : SC :=
 (.seq (.reg false c120r0)
 (.seq (.seq (.reg false c120r1)
 (.cond (.t 13)
  (.seq (.reg false c120r2)
  .ret)
  .skip))
 (.seq (.reg false c120r3)
 (.seq (.reg false c120r4)
 (.seq (.reg false c120r5)
 (.blk 0 (.loop (.seq (.blk 1 (.seq (.seq (.reg false c120r6)
    (.cond (.t 27)
     (.seq (.reg false c120r7)
     .ret)
     .skip))
    (.seq (.reg false c120r8)
    (.seq (.seq (.reg false c120r9)
    (.cond (.t 47)
     (.seq (.reg false c120r10)
     .ret)
     .skip))
    (.seq (.reg false c120r11)
    (.seq (.reg false c120r12)
    (.seq (.reg false c120r13)
    (.cond (.t 58)
     (.seq (.reg false c120r14)
     (.seq (.seq (.reg false c120r15)
     (.cond (.t 64)
      (.reg false c120r16)
      .skip))
     (.seq (.reg false c120r17)
     .ret)))
     .skip))))))))
   (.reg false c120r18)))))))))
def v120 : List Nat × List Nat := ([], [])
def o120 : List RS := [.t 4, .t 5, .t 6]
def c121r0 : List SI := [
 alR 8 [(.int .i64 0), (.string ⟨#[]⟩), (.string ⟨#[]⟩), (.bool false), (.int .i64 0)],
 mv 9 (.i 0),
 mv 10 (.i 0)]
def c121r1 : List SI := [
 bld 25 [(.int .i64 0), (.string ⟨#[]⟩), (.string ⟨#[]⟩), (.bool false), (.int .i64 0)] [],
 alR 11 [(.int .i64 0), (.string ⟨#[]⟩), (.string ⟨#[]⟩), (.bool false), (.int .i64 0)],
 stR 11 0 5 (.t 25)]
def c121r2 : List SI := [
 ⟨none, .mv 26 (.t 2), none, 0⟩,
 ⟨none, .call 27 113 [(.t 26)], none, 0⟩,
 ⟨none, .un 28 .not (.t 27), none, 0⟩,
 ⟨none, .mv 29 (.t 28), none, 0⟩,
 ⟨some (29, false), .mv 30 (.t 3), none, 30⟩,
 ⟨some (29, false), .call 31 113 [(.t 30)], none, 31⟩,
 ⟨some (29, false), .un 32 .not (.t 31), none, 32⟩,
 ⟨none, .pick 33 (.t 29) (.b true) (.t 32), none, 0⟩,
 ⟨none, .mv 34 (.t 33), none, 0⟩,
 ⟨some (34, false), .mv 35 (.t 1), none, 35⟩,
 ⟨some (34, false), .bin 36 .lss (.t 35) (.i 0), none, 36⟩,
 ⟨none, .pick 37 (.t 34) (.b true) (.t 36), none, 0⟩,
 ⟨none, .mv 38 (.t 37), none, 0⟩,
 ⟨some (38, false), .mv 39 (.t 1), none, 39⟩,
 ⟨some (38, false), .mv 40 (.t 0), none, 40⟩,
 ⟨some (38, false), .len 41 false (.t 40), none, 41⟩,
 ⟨some (38, false), .bin 42 .gtr (.t 39) (.t 41), none, 42⟩,
 ⟨none, .pick 43 (.t 38) (.b true) (.t 42), none, 0⟩]
def c121r3 : List SI := [
 ldR 44 11 0 (some 5),
 stR 8 0 5 (.t 44),
 mv 9 (.i 0),
 mv 10 (.i 1)]
def c121r4 : List SI := [
 mv 46 (.t 0),
 mv 47 (.t 1),
 call 48 120 [(.t 46), (.t 47)],
 mv 45 (.t 48),
 ext 49 (.t 45) 0,
 ext 50 (.t 45) 1,
 ext 51 (.t 45) 2,
 mv 12 (.t 49),
 mv 13 (.t 50),
 mv 14 (.t 51)]
def c121r5 : List SI := [
 mv 52 (.t 14),
 bin 53 .neq (.t 52) (.i 0)]
def c121r6 : List SI := [
 ldR 54 11 0 (some 5),
 mv 55 (.t 14),
 stR 8 0 5 (.t 54),
 mv 9 (.i 0),
 mv 10 (.t 55)]
def c121r7 : List SI := [
 mv 57 (.t 0),
 mv 58 (.t 13),
 call 59 120 [(.t 57), (.t 58)],
 mv 56 (.t 59),
 ext 60 (.t 56) 0,
 ext 61 (.t 56) 1,
 ext 62 (.t 56) 2,
 mv 15 (.t 60),
 mv 16 (.t 61),
 mv 17 (.t 62)]
def c121r8 : List SI := [
 mv 63 (.t 17),
 bin 64 .neq (.t 63) (.i 0)]
def c121r9 : List SI := [
 ldR 65 11 0 (some 5),
 mv 66 (.t 17),
 stR 8 0 5 (.t 65),
 mv 9 (.i 0),
 mv 10 (.t 66)]
def c121r10 : List SI := [
 mv 67 (.t 16),
 mv 68 (.t 0),
 len 69 false (.t 68),
 bin 70 .geq (.t 67) (.t 69)]
def c121r11 : List SI := [
 ldR 71 11 0 (some 5),
 stR 8 0 5 (.t 71),
 mv 9 (.i 0),
 mv 10 (.i 10)]
def c121r12 : List SI := [
 mv 72 (.t 0),
 mv 73 (.t 16),
 ixA 74 (.t 72) (.t 73) 1,
 ld 75 (.t 74) none,
 bin 76 .gtr (.t 75) (.v (.int .u8 1))]
def c121r13 : List SI := [
 ldR 77 11 0 (some 5),
 stR 8 0 5 (.t 77),
 mv 9 (.i 0),
 mv 10 (.i 11)]
def c121r14 : List SI := [
 mv 79 (.t 0),
 mv 80 (.t 16),
 bin 81 .add (.t 80) (.i 1),
 call 82 132 [(.t 79), (.t 81), (.i 64)],
 mv 78 (.t 82),
 ext 83 (.t 78) 0,
 ext 84 (.t 78) 1,
 ext 85 (.t 78) 2,
 mv 18 (.t 83),
 mv 19 (.t 84),
 mv 20 (.t 85)]
def c121r15 : List SI := [
 mv 86 (.t 20),
 bin 87 .neq (.t 86) (.i 0)]
def c121r16 : List SI := [
 ldR 88 11 0 (some 5),
 mv 89 (.t 20),
 stR 8 0 5 (.t 88),
 mv 9 (.i 0),
 mv 10 (.t 89)]
def c121r17 : List SI := [
 mv 91 (.t 0),
 mv 92 (.t 19),
 call 93 132 [(.t 91), (.t 92), (.i 64)],
 mv 90 (.t 93),
 ext 94 (.t 90) 0,
 ext 95 (.t 90) 1,
 ext 96 (.t 90) 2,
 mv 21 (.t 94),
 mv 22 (.t 95),
 mv 23 (.t 96)]
def c121r18 : List SI := [
 mv 97 (.t 23),
 bin 98 .neq (.t 97) (.i 0)]
def c121r19 : List SI := [
 ldR 99 11 0 (some 5),
 mv 100 (.t 23),
 stR 8 0 5 (.t 99),
 mv 9 (.i 0),
 mv 10 (.t 100)]
def c121r20 : RX := .br [(true, N_ (.mv 101 (.t 2))),
 (true, N_ (.mv 102 (.t 12))),
 (true, N_ (.mv 104 (.t 18))),
 (true, N_ (.mv 105 (.t 21))),
 (true, N_ (.mv 106 (.t 0))),
 (true, N_ (.mv 107 (.t 16))),
 (true, N_ (.ixA 108 (.t 106) (.t 107) 1)),
 (true, N_ (.ld 109 (.t 108) none)),
 (true, N_ (.bin 110 .eql (.t 109) (.v (.int .u8 1)))),
 (true, N_ (.mv 111 (.t 3))),
 (true, N_ (.mv 112 (.t 15)))]
 ⟨none, .call 103 133 [(.t 101), (.t 102)], none, 0⟩
 (.br []
 ⟨none, .call 113 133 [(.t 111), (.t 112)], none, 0⟩
 (.leaf [(true, ⟨none, .bld 114 [(.int .i64 0), (.string ⟨#[]⟩), (.string ⟨#[]⟩), (.bool false), (.int .i64 0)] [(0, 1, (.t 103)), (1, 1, (.t 104)), (2, 1, (.t 105)), (3, 1, (.t 110)), (4, 1, (.t 113))], none, 0⟩),
 (false, ⟨none, .al 24 [(.int .i64 0), (.string ⟨#[]⟩), (.string ⟨#[]⟩), (.bool false), (.int .i64 0)], none, 0⟩),
 (false, N_ (.st (.t 24) 5 (.t 114)))])
 ⟨none, .al 24 [(.int .i64 0), (.string ⟨#[]⟩), (.string ⟨#[]⟩), (.bool false), (.int .i64 0)], none, 0⟩
 (.leaf [(false, N_ (.call 113 133 [(.t 111), (.t 112)])),
 (true, ⟨none, .bld 114 [(.int .i64 0), (.string ⟨#[]⟩), (.string ⟨#[]⟩), (.bool false), (.int .i64 0)] [(0, 1, (.t 103)), (1, 1, (.t 104)), (2, 1, (.t 105)), (3, 1, (.t 110)), (4, 1, (.t 113))], none, 0⟩),
 (false, N_ (.st (.t 24) 5 (.t 114)))]))
 ⟨none, .al 24 [(.int .i64 0), (.string ⟨#[]⟩), (.string ⟨#[]⟩), (.bool false), (.int .i64 0)], none, 0⟩
 (.leaf [(false, N_ (.call 103 133 [(.t 101), (.t 102)])),
 (false, N_ (.call 113 133 [(.t 111), (.t 112)])),
 (true, ⟨none, .bld 114 [(.int .i64 0), (.string ⟨#[]⟩), (.string ⟨#[]⟩), (.bool false), (.int .i64 0)] [(0, 1, (.t 103)), (1, 1, (.t 104)), (2, 1, (.t 105)), (3, 1, (.t 110)), (4, 1, (.t 113))], none, 0⟩),
 (false, N_ (.st (.t 24) 5 (.t 114)))])
def c121r21 : List SI := [
 ld 115 (.t 24) (some 5),
 call 116 96 [(.t 115)],
 bin 117 .neq (.t 116) (.i 0)]
def c121r22 : List SI := [
 ldR 118 11 0 (some 5),
 stR 8 0 5 (.t 118),
 mv 9 (.i 0),
 mv 10 (.i 1)]
def c121r23 : List SI := [
 ld 119 (.t 24) (some 5),
 mv 120 (.t 22),
 stR 8 0 5 (.t 119),
 mv 9 (.t 120),
 mv 10 (.i 0)]
def c121 : SC :=
 (.seq (.reg false c121r0)
 (.seq (.reg false c121r1)
 (.seq (.seq (.reg false c121r2)
 (.cond (.t 43)
  (.seq (.reg false c121r3)
  .ret)
  .skip))
 (.seq (.reg false c121r4)
 (.seq (.seq (.reg false c121r5)
 (.cond (.t 53)
  (.seq (.reg false c121r6)
  .ret)
  .skip))
 (.seq (.reg false c121r7)
 (.seq (.seq (.reg false c121r8)
 (.cond (.t 64)
  (.seq (.reg false c121r9)
  .ret)
  .skip))
 (.seq (.seq (.reg false c121r10)
 (.cond (.t 70)
  (.seq (.reg false c121r11)
  .ret)
  .skip))
 (.seq (.seq (.reg false c121r12)
 (.cond (.t 76)
  (.seq (.reg false c121r13)
  .ret)
  .skip))
 (.seq (.reg false c121r14)
 (.seq (.seq (.reg false c121r15)
 (.cond (.t 87)
  (.seq (.reg false c121r16)
  .ret)
  .skip))
 (.seq (.reg false c121r17)
 (.seq (.seq (.reg false c121r18)
 (.cond (.t 98)
  (.seq (.reg false c121r19)
  .ret)
  .skip))
 (.seq (.rgZ c121r20)
 (.seq (.seq (.reg false c121r21)
 (.cond (.t 117)
  (.seq (.reg false c121r22)
  .ret)
  .skip))
 (.seq (.reg false c121r23)
 .ret))))))))))))))))
def v121 : List Nat × List Nat := ([8, 11], [8, 11])
def o121 : List RS := [.r 8 (some 5), .t 9, .t 10]
def c122r0 : List SI := [
 mv 2 (.i 0)]
def c122r1 : List SI := [
 mv 5 (.t 0),
 len 6 false (.t 5),
 bin 7 .lss (.t 6) (.i 1)]
def c122r2 : List SI := [
 mv 9 (.t 0),
 ixA 10 (.t 9) (.i 0) 1,
 ld 11 (.t 10) none,
 mv 3 (.t 11)]
def c122r3 : List SI := [
 mv 4 (.i 1)]
def c122r4 : List SI := [
 mv 12 (.t 4),
 mv 13 (.t 0),
 len 14 false (.t 13),
 bin 15 .lss (.t 12) (.t 14)]
def c122r5 : List SI := [
 mv 18 (.t 3),
 mv 19 (.t 0),
 mv 20 (.t 4),
 ixA 21 (.t 19) (.t 20) 1,
 ld 22 (.t 21) none,
 mm 23 false (.t 18) (.t 22),
 mv 3 (.t 23)]
def c122r6 : List SI := [
 mv 16 (.t 4),
 bin 17 .add (.t 16) (.i 1),
 mv 4 (.t 17)]
def c122r7 : List SI := [
 mv 24 (.t 3),
 mv 2 (.t 24)]
def c122 : SC :=
 (.seq (.reg false c122r0)
 (.seq (.seq (.reg false c122r1)
 (.cond (.t 7)
  .dead
  .skip))
 (.seq (.reg false c122r2)
 (.seq (.seq (.reg false c122r3)
 (.blk 0 (.loop (.seq (.seq (.reg false c122r4)
   (.cond (.t 15)
    .skip
    (.exit 0)))
   (.seq (.blk 1 (.reg false c122r5))
   (.reg false c122r6))))))
 (.seq (.reg false c122r7)
 .ret)))))
def v122 : List Nat × List Nat := ([], [])
def o122 : List RS := [.t 2]
theorem s122 : slimC Tryz.prog Tryz.f122.ntmps v122.1 v122.2 ((Tryz.f122.body).getD .skip) = some c122 := by kernel_rfl
theorem q122 : slimR Tryz.prog Tryz.f122.ntmps v122.1 v122.2 Tryz.f122.results.toList = some o122 := by kernel_rfl
def c123r0 : List SI := [
 mv 2 (.i 0)]
def c123r1 : List SI := [
 mv 5 (.t 0),
 len 6 false (.t 5),
 bin 7 .lss (.t 6) (.i 1)]
def c123r2 : List SI := [
 mv 9 (.t 0),
 ixA 10 (.t 9) (.i 0) 1,
 ld 11 (.t 10) none,
 mv 3 (.t 11)]
def c123r3 : List SI := [
 mv 4 (.i 1)]
def c123r4 : List SI := [
 mv 12 (.t 4),
 mv 13 (.t 0),
 len 14 false (.t 13),
 bin 15 .lss (.t 12) (.t 14)]
def c123r5 : List SI := [
 mv 18 (.t 3),
 mv 19 (.t 0),
 mv 20 (.t 4),
 ixA 21 (.t 19) (.t 20) 1,
 ld 22 (.t 21) none,
 mm 23 true (.t 18) (.t 22),
 mv 3 (.t 23)]
def c123r6 : List SI := [
 mv 16 (.t 4),
 bin 17 .add (.t 16) (.i 1),
 mv 4 (.t 17)]
def c123r7 : List SI := [
 mv 24 (.t 3),
 mv 2 (.t 24)]
def c123 : SC :=
 (.seq (.reg false c123r0)
 (.seq (.seq (.reg false c123r1)
 (.cond (.t 7)
  .dead
  .skip))
 (.seq (.reg false c123r2)
 (.seq (.seq (.reg false c123r3)
 (.blk 0 (.loop (.seq (.seq (.reg false c123r4)
   (.cond (.t 15)
    .skip
    (.exit 0)))
   (.seq (.blk 1 (.reg false c123r5))
   (.reg false c123r6))))))
 (.seq (.reg false c123r7)
 .ret)))))
def v123 : List Nat × List Nat := ([], [])
def o123 : List RS := [.t 2]
theorem s123 : slimC Tryz.prog Tryz.f123.ntmps v123.1 v123.2 ((Tryz.f123.body).getD .skip) = some c123 := by kernel_rfl
theorem q123 : slimR Tryz.prog Tryz.f123.ntmps v123.1 v123.2 Tryz.f123.results.toList = some o123 := by kernel_rfl
def c124r0 : List SI := [
 mv 2 (.b false)]
def c124r1 : List SI := [
 ⟨none, .mv 3 (.t 0), none, 0⟩,
 ⟨none, .bin 4 .geq (.t 3) (.i 0), none, 0⟩,
 ⟨none, .mv 5 (.t 4), none, 0⟩,
 ⟨some (5, true), .mv 6 (.t 0), none, 6⟩,
 ⟨some (5, true), .bin 7 .leq (.t 6) (.i 1099511627776), none, 7⟩,
 ⟨none, .pick 8 (.t 5) (.t 7) (.b false), none, 0⟩,
 ⟨none, .mv 2 (.t 8), none, 0⟩]
def c124 : SC :=
 (.seq (.reg false c124r0)
 (.seq (.reg false c124r1)
 .ret))
def v124 : List Nat × List Nat := ([], [])
def o124 : List RS := [.t 2]
theorem s124 : slimC Tryz.prog Tryz.f124.ntmps v124.1 v124.2 ((Tryz.f124.body).getD .skip) = some c124 := by kernel_rfl
theorem q124 : slimR Tryz.prog Tryz.f124.ntmps v124.1 v124.2 Tryz.f124.results.toList = some o124 := by kernel_rfl
def c125r0 : List SI := [
 mv 4 (.v (.slice none 0 0))]
def c125r1 : List SI := [
 mv 5 (.t 0),
 mv 6 (.t 1),
 len 7 true (.t 6),
 call 8 109 [(.t 5), (.t 7)],
 mv 9 (.t 1),
 app 10 (.t 8) (.t 9) 5 1 1,
 mv 4 (.t 10)]
def c125 : SC :=
 (.seq (.reg false c125r0)
 (.seq (.reg false c125r1)
 .ret))
def v125 : List Nat × List Nat := ([], [])
def o125 : List RS := [.t 4]
theorem s125 : slimC Tryz.prog Tryz.f125.ntmps v125.1 v125.2 ((Tryz.f125.body).getD .skip) = some c125 := by kernel_rfl
theorem q125 : slimR Tryz.prog Tryz.f125.ntmps v125.1 v125.2 Tryz.f125.results.toList = some o125 := by kernel_rfl
def c126r0 : List SI := [
 mv 2 (.v (.int .u32 0))]
def c126r1 : List SI := [
 call 7 134 [],
 mv 3 (.t 7)]
def c126r2 : List SI := [
 mv 4 (.v (.int .u32 4294967295))]
def c126r3 : List SI := [
 mv 8 (.t 0),
 len 9 false (.t 8),
 mv 10 (.i 0)]
def c126r4 : List SI := [
 bin 11 .lss (.t 10) (.t 9)]
def c126r5 : List SI := [
 ixA 12 (.t 8) (.t 10) 1,
 ld 13 (.t 12) none,
 mv 6 (.t 13)]
def c126r6 : List SI := [
 mv 14 (.t 3),
 mv 15 (.t 4),
 mv 16 (.t 6),
 cav 17 (.t 14) [(.t 15), (.t 16)],
 mv 4 (.t 17)]
def c126r7 : List SI := [
 bin 18 .add (.t 10) (.i 1),
 mv 10 (.t 18)]
def c126r8 : List SI := [
 mv 19 (.t 4),
 un 20 .xor (.t 19),
 mv 2 (.t 20)]
def c126 : SC :=
 (.seq (.reg false c126r0)
 (.seq (.reg false c126r1)
 (.seq (.reg false c126r2)
 (.seq (.seq (.reg false c126r3)
 (.blk 0 (.loop (.seq (.reg false c126r4)
   (.seq (.cond (.t 11)
    .skip
    (.exit 0))
   (.seq (.blk 1 (.seq (.reg false c126r5)
    (.reg false c126r6)))
   (.reg false c126r7)))))))
 (.seq (.reg false c126r8)
 .ret)))))
def v126 : List Nat × List Nat := ([], [])
def o126 : List RS := [.t 2]
theorem s126 : slimC Tryz.prog Tryz.f126.ntmps v126.1 v126.2 ((Tryz.f126.body).getD .skip) = some c126 := by kernel_rfl
theorem q126 : slimR Tryz.prog Tryz.f126.ntmps v126.1 v126.2 Tryz.f126.results.toList = some o126 := by kernel_rfl
def c127r0 : List SI := [
 mv 4 (.v (.int .u32 0))]
def c127r1 : List SI := [
 mv 5 (.i 0)]
def c127r2 : List SI := [
 mv 6 (.t 5),
 mv 7 (.t 1),
 bin 8 .lss (.t 6) (.t 7)]
def c127r3 : List SI := [
 mv 11 (.t 0),
 call 12 135 [(.t 11)],
 mv 0 (.t 12)]
def c127r4 : List SI := [
 mv 9 (.t 5),
 bin 10 .add (.t 9) (.i 1),
 mv 5 (.t 10)]
def c127r5 : List SI := [
 mv 13 (.t 0),
 mv 4 (.t 13)]
def c127 : SC :=
 (.seq (.reg false c127r0)
 (.seq (.seq (.reg false c127r1)
 (.blk 0 (.loop (.seq (.seq (.reg false c127r2)
   (.cond (.t 8)
    .skip
    (.exit 0)))
   (.seq (.blk 1 (.reg false c127r3))
   (.reg false c127r4))))))
 (.seq (.reg false c127r5)
 .ret)))
def v127 : List Nat × List Nat := ([], [])
def o127 : List RS := [.t 4]
theorem s127 : slimC Tryz.prog Tryz.f127.ntmps v127.1 v127.2 ((Tryz.f127.body).getD .skip) = some c127 := by kernel_rfl
theorem q127 : slimR Tryz.prog Tryz.f127.ntmps v127.1 v127.2 Tryz.f127.results.toList = some o127 := by kernel_rfl
def c128r0 : List SI := [
 mv 4 (.v (.slice none 0 0))]
def c128r1 : List SI := [
 mv 5 (.t 0),
 mv 6 (.t 1),
 mv 7 (.t 0),
 len 8 false (.t 7),
 mm 9 false (.t 6) (.t 8),
 sl 10 (.t 5) (some (.t 9)) none none 1,
 mv 4 (.t 10)]
def c128 : SC :=
 (.seq (.reg false c128r0)
 (.seq (.reg false c128r1)
 .ret))
def v128 : List Nat × List Nat := ([], [])
def o128 : List RS := [.t 4]
def c129r0 : List SI := [
 mv 3 (.i 0)]
def c129r1 : List SI := [
 ld 8 (.t 0) none,
 ld 9 (.t 1) none,
 call 10 130 [(.t 8), (.t 9)],
 mv 7 (.t 10),
 ext 11 (.t 7) 0,
 ext 12 (.t 7) 1,
 ext 13 (.t 7) 2,
 mv 4 (.t 11),
 mv 5 (.t 12),
 mv 6 (.t 13)]
def c129r2 : List SI := [
 mv 14 (.t 6),
 bin 15 .neq (.t 14) (.i 0)]
def c129r3 : List SI := [
 st (.t 2) 1 (.b false)]
def c129r4 : List SI := [
 mv 3 (.i 0)]
def c129r5 : List SI := [
 mv 16 (.t 5),
 st (.t 1) 1 (.t 16)]
def c129r6 : List SI := [
 mv 17 (.t 4),
 mv 3 (.t 17)]
def c129 : SC :=
 (.seq (.reg false c129r0)
 (.seq (.reg false c129r1)
 (.seq (.seq (.reg false c129r2)
 (.cond (.t 15)
  (.seq (.reg false c129r3)
  (.seq (.reg false c129r4)
  .ret))
  .skip))
 (.seq (.reg false c129r5)
 (.seq (.reg false c129r6)
 .ret)))))
def v129 : List Nat × List Nat := ([], [])
def o129 : List RS := [.t 3]
def c130r0 : List SI := [
 mv 4 (.i 0),
 mv 5 (.i 0),
 mv 6 (.i 0)]
def c130r1 : List SI := [
 mv 10 (.t 1),
 bin 11 .lss (.t 10) (.i 0)]
def c130r2 : List SI := [
 mv 4 (.i 0),
 mv 5 (.i 0),
 mv 6 (.i 1)]
def c130r3 : List SI := [
 mv 7 (.v (.int .u64 0))]
def c130r4 : List SI := [
 mv 12 (.t 0),
 mv 13 (.t 1),
 call 14 128 [(.t 12), (.t 13)],
 len 15 false (.t 14),
 mv 16 (.i 0)]
def c130r5 : List SI := [
 bin 17 .lss (.t 16) (.t 15)]
def c130r6 : List SI := [
 mv 18 (.t 16),
 ixA 19 (.t 14) (.t 16) 1,
 ld 20 (.t 19) none,
 mv 8 (.t 18),
 mv 9 (.t 20)]
def c130r7 : List SI := [
 ⟨none, .mv 21 (.t 8), none, 0⟩,
 ⟨none, .bin 22 .eql (.t 21) (.i 9), none, 0⟩,
 ⟨none, .mv 23 (.t 22), none, 0⟩,
 ⟨some (23, true), .mv 24 (.t 9), none, 24⟩,
 ⟨some (23, true), .bin 25 .gtr (.t 24) (.v (.int .u8 1)), none, 25⟩,
 ⟨none, .pick 26 (.t 23) (.t 25) (.b false), none, 0⟩,
 ⟨none, .mv 27 (.t 26), none, 0⟩,
 ⟨some (27, false), .mv 28 (.t 8), none, 28⟩,
 ⟨some (27, false), .bin 29 .gtr (.t 28) (.i 0), none, 29⟩,
 ⟨some (27, false), .mv 30 (.t 29), none, 30⟩,
 ⟨some (30, true), .mv 31 (.t 9), none, 31⟩,
 ⟨some (30, true), .bin 32 .eql (.t 31) (.v (.int .u8 0)), none, 32⟩,
 ⟨some (27, false), .pick 33 (.t 30) (.t 32) (.b false), none, 33⟩,
 ⟨none, .pick 34 (.t 27) (.b true) (.t 33), none, 0⟩]
def c130r8 : List SI := [
 mv 4 (.i 0),
 mv 5 (.i 0),
 mv 6 (.i 11)]
def c130r9 : List SI := [
 mv 35 (.t 7),
 mv 36 (.t 9),
 bin 37 .and (.t 36) (.v (.int .u8 127)),
 cvI 38 .u64 (.t 37),
 mv 39 (.t 8),
 bin 40 .mul (.i 7) (.t 39),
 bin 41 .shl (.t 38) (.t 40),
 bin 42 .or (.t 35) (.t 41),
 mv 7 (.t 42)]
def c130r10 : List SI := [
 mv 43 (.t 9),
 bin 44 .lss (.t 43) (.v (.int .u8 128))]
def c130r11 : List SI := [
 mv 45 (.t 7),
 bin 46 .shr (.t 45) (.v (.int .u64 1)),
 cvI 47 .i64 (.t 46),
 mv 48 (.t 7),
 bin 49 .and (.t 48) (.v (.int .u64 1)),
 cvI 50 .i64 (.t 49),
 un 51 .neg (.t 50),
 bin 52 .xor (.t 47) (.t 51),
 mv 53 (.t 1),
 mv 54 (.t 8),
 bin 55 .add (.t 53) (.t 54),
 bin 56 .add (.t 55) (.i 1),
 mv 4 (.t 52),
 mv 5 (.t 56),
 mv 6 (.i 0)]
def c130r12 : List SI := [
 bin 57 .add (.t 16) (.i 1),
 mv 16 (.t 57)]
def c130r13 : List SI := [
 mv 4 (.i 0),
 mv 5 (.i 0),
 mv 6 (.i 10)]
def c130 : SC :=
 (.seq (.reg false c130r0)
 (.seq (.seq (.reg false c130r1)
 (.cond (.t 11)
  (.seq (.reg false c130r2)
  .ret)
  .skip))
 (.seq (.reg false c130r3)
 (.seq (.seq (.reg false c130r4)
 (.blk 0 (.loop (.seq (.reg false c130r5)
   (.seq (.cond (.t 17)
    .skip
    (.exit 0))
   (.seq (.blk 1 (.seq (.reg false c130r6)
    (.seq (.seq (.reg false c130r7)
    (.cond (.t 34)
     (.seq (.reg false c130r8)
     .ret)
     .skip))
    (.seq (.reg false c130r9)
    (.seq (.reg false c130r10)
    (.cond (.t 44)
     (.seq (.reg false c130r11)
     .ret)
     .skip))))))
   (.reg false c130r12)))))))
 (.seq (.reg false c130r13)
 .ret)))))
def v130 : List Nat × List Nat := ([], [])
def o130 : List RS := [.t 4, .t 5, .t 6]
def c131r0 : List SI := [
 alR 8 [(.int .i64 0), (.string ⟨#[]⟩), (.string ⟨#[]⟩), (.bool false), (.int .i64 0)],
 mv 9 (.i 0),
 mv 10 (.i 0)]
def c131r1 : List SI := [
 ⟨none, .mv 13 (.t 2), none, 0⟩,
 ⟨none, .call 14 124 [(.t 13)], none, 0⟩,
 ⟨none, .un 15 .not (.t 14), none, 0⟩,
 ⟨none, .mv 16 (.t 15), none, 0⟩,
 ⟨some (16, false), .mv 17 (.t 3), none, 17⟩,
 ⟨some (16, false), .call 18 124 [(.t 17)], none, 18⟩,
 ⟨some (16, false), .un 19 .not (.t 18), none, 19⟩,
 ⟨none, .pick 20 (.t 16) (.b true) (.t 19), none, 0⟩,
 ⟨none, .mv 21 (.t 20), none, 0⟩,
 ⟨some (21, false), .mv 22 (.t 1), none, 22⟩,
 ⟨some (21, false), .bin 23 .lss (.t 22) (.i 0), none, 23⟩,
 ⟨none, .pick 24 (.t 21) (.b true) (.t 23), none, 0⟩,
 ⟨none, .mv 25 (.t 24), none, 0⟩,
 ⟨some (25, false), .mv 26 (.t 1), none, 26⟩,
 ⟨some (25, false), .mv 27 (.t 0), none, 27⟩,
 ⟨some (25, false), .len 28 false (.t 27), none, 28⟩,
 ⟨some (25, false), .bin 29 .gtr (.t 26) (.t 28), none, 29⟩,
 ⟨none, .pick 30 (.t 25) (.b true) (.t 29), none, 0⟩]
def c131r2 : List SI := [
 bld 31 [(.int .i64 0), (.string ⟨#[]⟩), (.string ⟨#[]⟩), (.bool false), (.int .i64 0)] [],
 stR 8 0 5 (.t 31),
 mv 9 (.i 0),
 mv 10 (.i 1)]
def c131r3 : List SI := [
 mv 32 (.t 0),
 mv 33 (.t 1),
 bld 34 [(.slice none 0 0), (.int .i64 0), (.int .i64 0)] [(0, 1, (.t 32)), (1, 1, (.t 33))],
 bx 35 (.t 34),
 mv 11 (.t 35)]
def c131r4 : List SI := [
 mv 12 (.v (.func (.func 136) #[] #[]))]
def c131r5 : List SI := [
 ⟨none, .mv 36 (.t 2), none, 0⟩,
 ⟨none, .mv 37 (.t 11), none, 0⟩,
 ⟨none, .call 38 139 [(.t 37), (.v (.func (.func 130) #[] #[]))], none, 0⟩,
 ⟨none, .call 39 138 [(.t 36), (.t 38)], none, 0⟩,
 ⟨none, .nop, (some 8), 0⟩,
 ⟨none, .stR 8 0 1 (.t 39), none, 0⟩]
def c131r6 : List SI := [
 ⟨none, .mv 41 (.t 3), none, 0⟩,
 ⟨none, .mv 42 (.t 11), none, 0⟩,
 ⟨none, .call 43 139 [(.t 42), (.v (.func (.func 130) #[] #[]))], none, 0⟩,
 ⟨none, .call 44 138 [(.t 41), (.t 43)], none, 0⟩,
 ⟨none, .nop, (some 8), 0⟩,
 ⟨none, .stR 8 4 1 (.t 44), none, 0⟩]
def c131r7 : List SI := [
 ⟨none, .mv 46 (.t 11), none, 0⟩,
 ⟨none, .call 47 140 [(.t 46), (.v (.func (.func 141) #[] #[]))], none, 0⟩,
 ⟨none, .nop, (some 8), 0⟩,
 ⟨none, .stR 8 3 1 (.t 47), none, 0⟩]
def c131r8 : List SI := [
 ⟨none, .mv 49 (.t 11), none, 0⟩,
 ⟨none, .mv 50 (.t 12), none, 0⟩,
 ⟨none, .call 51 142 [(.t 49), (.t 50)], none, 0⟩,
 ⟨none, .mv 52 (.t 11), none, 0⟩,
 ⟨none, .mv 53 (.t 12), none, 0⟩,
 ⟨none, .call 54 142 [(.t 52), (.t 53)], none, 0⟩,
 ⟨none, .nop, (some 8), 0⟩,
 ⟨none, .stR 8 1 1 (.t 51), none, 0⟩,
 ⟨none, .nop, (some 8), 0⟩,
 ⟨none, .stR 8 2 1 (.t 54), none, 0⟩]
def c131r9 : List SI := [
 mv 57 (.t 11),
 nck 58 (.t 57),
 flA 59 (.t 58) 2,
 ld 60 (.t 59) none,
 bin 61 .eql (.t 60) (.i 0)]
def c131r10 : List SI := [
 mv 62 (.t 11),
 ldR 63 8 0 (some 5),
 call 64 108 [(.t 63)],
 nck 65 (.t 62),
 flA 66 (.t 65) 2,
 st (.t 66) 1 (.t 64)]
def c131r11 : List SI := [
 mv 67 (.t 11),
 nck 68 (.t 67),
 flA 69 (.t 68) 2,
 ld 70 (.t 69) none,
 bin 71 .neq (.t 70) (.i 0)]
def c131r12 : List WI := [
 (true, false, ⟨none, .bld 72 [(.int .i64 0), (.string ⟨#[]⟩), (.string ⟨#[]⟩), (.bool false), (.int .i64 0)] [], none, 0⟩),
 (true, false, ⟨none, .mv 73 (.t 11), none, 0⟩),
 (true, false, ⟨none, .nck 74 (.t 73), none, 0⟩),
 (true, false, ⟨none, .flA 75 (.t 74) 2, none, 0⟩),
 (true, false, ⟨none, .ld 76 (.t 75) none, none, 0⟩),
 (false, false, ⟨none, .stR 8 0 5 (.t 72), none, 0⟩),
 (true, false, ⟨none, .mv 9 (.i 0), none, 0⟩),
 (true, false, ⟨none, .mv 10 (.t 76), none, 0⟩)]
def c131r13 : List WI := [
 (true, false, ⟨none, .ldR 77 8 0 (some 5), none, 0⟩),
 (true, false, ⟨none, .mv 78 (.t 11), none, 0⟩),
 (true, false, ⟨none, .nck 79 (.t 78), none, 0⟩),
 (true, false, ⟨none, .flA 80 (.t 79) 1, none, 0⟩),
 (true, false, ⟨none, .ld 81 (.t 80) none, none, 0⟩),
 (false, false, ⟨none, .stR 8 0 5 (.t 77), none, 0⟩),
 (true, false, ⟨none, .mv 9 (.t 81), none, 0⟩),
 (true, false, ⟨none, .mv 10 (.i 0), none, 0⟩)]
def c131 : SC :=
 (.seq (.reg false c131r0)
 (.seq (.seq (.reg false c131r1)
 (.cond (.t 30)
  (.seq (.reg false c131r2)
  .ret)
  .skip))
 (.seq (.reg false c131r3)
 (.seq (.reg false c131r4)
 (.seq (.reg false c131r5)
 (.seq (.reg false c131r6)
 (.seq (.reg false c131r7)
 (.seq (.reg false c131r8)
 (.seq (.seq (.reg false c131r9)
 (.cond (.t 61)
  (.reg false c131r10)
  .skip))
 (.seq (.seq (.reg false c131r11)
 (.cond (.t 71)
  (.seq (.rgW c131r12)
  .ret)
  .skip))
 (.seq (.rgW c131r13)
 .ret)))))))))))
def v131 : List Nat × List Nat := ([8], [8, 40, 45, 48, 55, 56])
def o131 : List RS := [.r 8 (some 5), .t 9, .t 10]
def c132r0 : List SI := [
 mv 6 (.v (.string ⟨#[]⟩)),
 mv 7 (.i 0),
 mv 8 (.i 0)]
def c132r1 : List SI := [
 mv 13 (.t 0),
 mv 14 (.t 1),
 call 15 120 [(.t 13), (.t 14)],
 mv 12 (.t 15),
 ext 16 (.t 12) 0,
 ext 17 (.t 12) 1,
 ext 18 (.t 12) 2,
 mv 9 (.t 16),
 mv 10 (.t 17),
 mv 11 (.t 18)]
def c132r2 : List SI := [
 mv 19 (.t 11),
 bin 20 .neq (.t 19) (.i 0)]
def c132r3 : List SI := [
 mv 21 (.t 11),
 mv 6 (.v (.string ⟨#[]⟩)),
 mv 7 (.i 0),
 mv 8 (.t 21)]
def c132r4 : List SI := [
 mv 22 (.t 9),
 bin 23 .lss (.t 22) (.i 0)]
def c132r5 : List SI := [
 mv 6 (.v (.string ⟨#[]⟩)),
 mv 7 (.i 0),
 mv 8 (.i 11)]
def c132r6 : List SI := [
 mv 24 (.t 9),
 mv 25 (.t 2),
 bin 26 .gtr (.t 24) (.t 25)]
def c132r7 : List SI := [
 mv 6 (.v (.string ⟨#[]⟩)),
 mv 7 (.i 0),
 mv 8 (.i 2)]
def c132r8 : List SI := [
 mv 27 (.t 0),
 len 28 false (.t 27),
 mv 29 (.t 10),
 bin 30 .sub (.t 28) (.t 29),
 mv 31 (.t 9),
 bin 32 .lss (.t 30) (.t 31)]
def c132r9 : List SI := [
 mv 6 (.v (.string ⟨#[]⟩)),
 mv 7 (.i 0),
 mv 8 (.i 10)]
def c132r10 : List SI := [
 mv 33 (.t 0),
 mv 34 (.t 10),
 mv 35 (.t 10),
 mv 36 (.t 9),
 bin 37 .add (.t 35) (.t 36),
 sl 38 (.t 33) (some (.t 34)) (some (.t 37)) none 1,
 cvS 39 (.t 38),
 mv 40 (.t 10),
 mv 41 (.t 9),
 bin 42 .add (.t 40) (.t 41),
 mv 6 (.t 39),
 mv 7 (.t 42),
 mv 8 (.i 0)]
def c132 : SC :=
 (.seq (.reg false c132r0)
 (.seq (.reg false c132r1)
 (.seq (.seq (.reg false c132r2)
 (.cond (.t 20)
  (.seq (.reg false c132r3)
  .ret)
  .skip))
 (.seq (.seq (.reg false c132r4)
 (.cond (.t 23)
  (.seq (.reg false c132r5)
  .ret)
  .skip))
 (.seq (.seq (.reg false c132r6)
 (.cond (.t 26)
  (.seq (.reg false c132r7)
  .ret)
  .skip))
 (.seq (.seq (.reg false c132r8)
 (.cond (.t 32)
  (.seq (.reg false c132r9)
  .ret)
  .skip))
 (.seq (.reg false c132r10)
 .ret)))))))
def v132 : List Nat × List Nat := ([], [])
def o132 : List RS := [.t 6, .t 7, .t 8]
def c133r0 : List SI := [
 mv 4 (.i 0)]
def c133r1 : List SI := [
 ⟨none, .mv 5 (.t 1), none, 0⟩,
 ⟨none, .bin 6 .lss (.t 5) (.i (-1099511627776)), none, 0⟩,
 ⟨none, .mv 7 (.t 6), none, 0⟩,
 ⟨some (7, false), .mv 8 (.t 1), none, 8⟩,
 ⟨some (7, false), .bin 9 .gtr (.t 8) (.i 1099511627776), none, 9⟩,
 ⟨none, .pick 10 (.t 7) (.b true) (.t 9), none, 0⟩,
 ⟨none, .mv 11 (.t 10), none, 0⟩,
 ⟨some (11, false), .mv 12 (.t 0), none, 12⟩,
 ⟨some (11, false), .mv 13 (.t 1), none, 13⟩,
 ⟨some (11, false), .bin 14 .add (.t 12) (.t 13), none, 14⟩,
 ⟨some (11, false), .call 15 113 [(.t 14)], none, 15⟩,
 ⟨some (11, false), .un 16 .not (.t 15), none, 16⟩,
 ⟨none, .pick 17 (.t 11) (.b true) (.t 16), none, 0⟩]
def c133r2 : List SI := [
 mv 4 (.i (-1))]
def c133r3 : List SI := [
 mv 18 (.t 0),
 mv 19 (.t 1),
 bin 20 .add (.t 18) (.t 19),
 mv 4 (.t 20)]
def c133 : SC :=
 (.seq (.reg false c133r0)
 (.seq (.seq (.reg false c133r1)
 (.cond (.t 17)
  (.seq (.reg false c133r2)
  .ret)
  .skip))
 (.seq (.reg false c133r3)
 .ret)))
def v133 : List Nat × List Nat := ([], [])
def o133 : List RS := [.t 4]
def c134r0 : List SI := [
 mv 0 (.v .nilFunc)]
def c134r1 : List SI := [
 al 1 [(.int .u32 0), (.int .u32 0), (.int .u32 0), (.int .u32 0), (.int .u32 0), (.int .u32 0), (.int .u32 0), (.int .u32 0), (.int .u32 0), (.int .u32 0), (.int .u32 0), (.int .u32 0), (.int .u32 0), (.int .u32 0), (.int .u32 0), (.int .u32 0)]]
def c134r2 : List SI := [
 mv 3 (.i 0)]
def c134r3 : List SI := [
 bin 4 .lss (.t 3) (.i 16)]
def c134r4 : List SI := [
 mv 5 (.t 3),
 mv 2 (.t 5)]
def c134r5 : List SI := [
 mv 6 (.t 2),
 mv 7 (.t 2),
 cvI 8 .u32 (.t 7),
 call 9 143 [(.t 8)],
 ixP 10 (.t 1) (.t 6) 16 1,
 st (.t 10) 1 (.t 9)]
def c134r6 : List SI := [
 bin 11 .add (.t 3) (.i 1),
 mv 3 (.t 11)]
def c134r7 : List SI := [
 mkf 12 (.func 144) [(.t 1)],
 mv 0 (.t 12)]
def c134 : SC :=
 (.seq (.reg false c134r0)
 (.seq (.reg false c134r1)
 (.seq (.seq (.reg false c134r2)
 (.blk 0 (.loop (.seq (.reg false c134r3)
   (.seq (.cond (.t 4)
    .skip
    (.exit 0))
   (.seq (.blk 1 (.seq (.reg false c134r4)
    (.reg false c134r5)))
   (.reg false c134r6)))))))
 (.seq (.reg false c134r7)
 .ret))))
def v134 : List Nat × List Nat := ([], [])
def o134 : List RS := [.t 0]
theorem s134 : slimC Tryz.prog Tryz.f134.ntmps v134.1 v134.2 ((Tryz.f134.body).getD .skip) = some c134 := by kernel_rfl
theorem q134 : slimR Tryz.prog Tryz.f134.ntmps v134.1 v134.2 Tryz.f134.results.toList = some o134 := by kernel_rfl
def c135r0 : List SI := [
 mv 2 (.v (.int .u32 0))]
def c135r1 : List SI := [
 mv 3 (.t 0),
 bin 4 .rem (.t 3) (.v (.int .u32 2)),
 bin 5 .eql (.t 4) (.v (.int .u32 1))]
def c135r2 : List SI := [
 mv 6 (.t 0),
 bin 7 .quo (.t 6) (.v (.int .u32 2)),
 bin 8 .xor (.t 7) (.v (.int .u32 3988292384)),
 mv 2 (.t 8)]
def c135r3 : List SI := [
 mv 9 (.t 0),
 bin 10 .quo (.t 9) (.v (.int .u32 2)),
 mv 2 (.t 10)]
def c135 : SC :=
 (.seq (.reg false c135r0)
 (.seq (.seq (.reg false c135r1)
 (.cond (.t 5)
  (.seq (.reg false c135r2)
  .ret)
  .skip))
 (.seq (.reg false c135r3)
 .ret)))
def v135 : List Nat × List Nat := ([], [])
def o135 : List RS := [.t 2]
theorem s135 : slimC Tryz.prog Tryz.f135.ntmps v135.1 v135.2 ((Tryz.f135.body).getD .skip) = some c135 := by kernel_rfl
theorem q135 : slimR Tryz.prog Tryz.f135.ntmps v135.1 v135.2 Tryz.f135.results.toList = some o135 := by kernel_rfl
def c136r0 : List SI := [
 mv 4 (.v (.string ⟨#[]⟩)),
 mv 5 (.i 0),
 mv 6 (.i 0)]
def c136r1 : List SI := [
 mv 7 (.t 0),
 mv 8 (.t 1),
 call 9 137 [(.t 7), (.t 8), (.i 64)],
 ext 10 (.t 9) 0,
 ext 11 (.t 9) 1,
 ext 12 (.t 9) 2,
 mv 4 (.t 10),
 mv 5 (.t 11),
 mv 6 (.t 12)]
def c136 : SC :=
 (.seq (.reg false c136r0)
 (.seq (.reg false c136r1)
 .ret))
def v136 : List Nat × List Nat := ([], [])
def o136 : List RS := [.t 4, .t 5, .t 6]
def c137r0 : List SI := [
 mv 6 (.v (.string ⟨#[]⟩)),
 mv 7 (.i 0),
 mv 8 (.i 0)]
def c137r1 : List SI := [
 mv 11 (.t 0),
 mv 12 (.t 1),
 call 13 130 [(.t 11), (.t 12)],
 mv 10 (.t 13),
 ext 14 (.t 10) 0,
 ext 15 (.t 10) 1,
 ext 16 (.t 10) 2,
 mv 9 (.t 14),
 mv 7 (.t 15),
 mv 8 (.t 16)]
def c137r2 : List SI := [
 mv 18 (.t 8),
 bin 19 .neq (.t 18) (.i 0),
 mv 17 (.t 19)]
def c137r3 : List SI := [
 mv 20 (.t 8),
 mv 6 (.v (.string ⟨#[]⟩)),
 mv 7 (.i 0),
 mv 8 (.t 20)]
def c137r4 : List SI := [
 mv 22 (.t 9),
 bin 23 .lss (.t 22) (.i 0),
 mv 21 (.t 23)]
def c137r5 : List SI := [
 mv 6 (.v (.string ⟨#[]⟩)),
 mv 7 (.i 0),
 mv 8 (.i 11)]
def c137r6 : List SI := [
 mv 25 (.t 9),
 mv 26 (.t 2),
 bin 27 .gtr (.t 25) (.t 26),
 mv 24 (.t 27)]
def c137r7 : List SI := [
 mv 6 (.v (.string ⟨#[]⟩)),
 mv 7 (.i 0),
 mv 8 (.i 2)]
def c137r8 : List SI := [
 mv 29 (.t 9),
 mv 30 (.t 0),
 len 31 false (.t 30),
 mv 32 (.t 7),
 bin 33 .sub (.t 31) (.t 32),
 bin 34 .gtr (.t 29) (.t 33),
 mv 28 (.t 34)]
def c137r9 : List SI := [
 mv 6 (.v (.string ⟨#[]⟩)),
 mv 7 (.i 0),
 mv 8 (.i 10)]
def c137r10 : List SI := [
 mv 35 (.t 0),
 mv 36 (.t 7),
 mv 37 (.t 7),
 mv 38 (.t 9),
 bin 39 .add (.t 37) (.t 38),
 sl 40 (.t 35) (some (.t 36)) (some (.t 39)) none 1,
 cvS 41 (.t 40),
 mv 42 (.t 7),
 mv 43 (.t 9),
 bin 44 .add (.t 42) (.t 43),
 mv 6 (.t 41),
 mv 7 (.t 44),
 mv 8 (.i 0)]
def c137 : SC :=
 (.seq (.reg false c137r0)
 (.seq (.reg false c137r1)
 (.seq (.blk 0 (.seq (.reg false c137r2)
  (.cond (.t 17)
   (.seq (.reg false c137r3)
   .ret)
   (.seq (.reg false c137r4)
   (.cond (.t 21)
    (.seq (.reg false c137r5)
    .ret)
    (.seq (.reg false c137r6)
    (.cond (.t 24)
     (.seq (.reg false c137r7)
     .ret)
     (.seq (.reg false c137r8)
     (.cond (.t 28)
      (.seq (.reg false c137r9)
      .ret)
      .skip)))))))))
 (.seq (.reg false c137r10)
 .ret))))
def v137 : List Nat × List Nat := ([], [])
def o137 : List RS := [.t 6, .t 7, .t 8]
def c138r0 : List SI := [
 mv 4 (.i 0)]
def c138r1 : List SI := [
 ⟨none, .mv 5 (.t 1), none, 0⟩,
 ⟨none, .bin 6 .lss (.t 5) (.i (-1099511627776)), none, 0⟩,
 ⟨none, .mv 7 (.t 6), none, 0⟩,
 ⟨some (7, false), .mv 8 (.t 1), none, 8⟩,
 ⟨some (7, false), .bin 9 .gtr (.t 8) (.i 1099511627776), none, 9⟩,
 ⟨none, .pick 10 (.t 7) (.b true) (.t 9), none, 0⟩]
def c138r2 : List SI := [
 mv 4 (.i (-1))]
def c138r3 : List SI := [
 mv 11 (.t 0),
 mv 12 (.t 1),
 bin 13 .add (.t 11) (.t 12),
 mv 4 (.t 13)]
def c138 : SC :=
 (.seq (.reg false c138r0)
 (.seq (.seq (.reg false c138r1)
 (.cond (.t 10)
  (.seq (.reg false c138r2)
  .ret)
  .skip))
 (.seq (.reg false c138r3)
 .ret)))
def v138 : List Nat × List Nat := ([], [])
def o138 : List RS := [.t 4]
def c139r0 : List SI := [
 mv 4 (.i 0)]
def c139r1 : List SI := [
 mv 5 (.i 0)]
def c139r2 : List SI := [
 mv 6 (.t 0),
 nck 7 (.t 6),
 flA 8 (.t 7) 2,
 ld 9 (.t 8) none,
 bin 10 .eql (.t 9) (.i 0)]
def c139r3 : List WI := [
 (true, false, ⟨none, .mv 12 (.t 0), none, 0⟩),
 (true, false, ⟨none, .mv 13 (.t 0), none, 0⟩),
 (true, false, ⟨none, .mv 14 (.t 1), none, 0⟩),
 (true, false, ⟨none, .mv 15 (.t 0), none, 0⟩),
 (true, false, ⟨none, .nck 16 (.t 15), none, 0⟩),
 (true, false, ⟨none, .flA 17 (.t 16) 0, none, 0⟩),
 (true, false, ⟨none, .ld 18 (.t 17) none, none, 0⟩),
 (true, false, ⟨none, .mv 19 (.t 0), none, 0⟩),
 (true, false, ⟨none, .nck 20 (.t 19), none, 0⟩),
 (true, false, ⟨none, .flA 21 (.t 20) 1, none, 0⟩),
 (true, false, ⟨none, .ld 22 (.t 21) none, none, 0⟩),
 (false, true, ⟨none, .cav 23 (.t 14) [(.t 18), (.t 22)], none, 0⟩),
 (true, false, ⟨none, .mv 11 (.t 23), none, 0⟩),
 (true, false, ⟨none, .ext 24 (.t 11) 0, none, 0⟩),
 (true, false, ⟨none, .ext 25 (.t 11) 1, none, 0⟩),
 (true, false, ⟨none, .ext 26 (.t 11) 2, none, 0⟩),
 (true, false, ⟨none, .mv 5 (.t 24), none, 0⟩),
 (true, false, ⟨none, .nck 27 (.t 12), none, 0⟩),
 (true, false, ⟨none, .flA 28 (.t 27) 1, none, 0⟩),
 (false, true, ⟨none, .st (.t 28) 1 (.t 25), none, 0⟩),
 (true, false, ⟨none, .nck 29 (.t 13), none, 0⟩),
 (true, false, ⟨none, .flA 30 (.t 29) 2, none, 0⟩),
 (false, true, ⟨none, .st (.t 30) 1 (.t 26), none, 0⟩)]
def c139r4 : List SI := [
 mv 31 (.t 5),
 mv 4 (.t 31)]
def c139 : SC :=
 (.seq (.reg false c139r0)
 (.seq (.reg false c139r1)
 (.seq (.seq (.reg false c139r2)
 (.cond (.t 10)
  (.rgW c139r3)
  .skip))
 (.seq (.reg false c139r4)
 .ret))))
def v139 : List Nat × List Nat := ([], [])
def o139 : List RS := [.t 4]
def c140r0 : List SI := [
 mv 4 (.b false)]
def c140r1 : List SI := [
 mv 5 (.b false)]
def c140r2 : List SI := [
 mv 6 (.t 0),
 nck 7 (.t 6),
 flA 8 (.t 7) 2,
 ld 9 (.t 8) none,
 bin 10 .eql (.t 9) (.i 0)]
def c140r3 : List WI := [
 (true, false, ⟨none, .mv 12 (.t 0), none, 0⟩),
 (true, false, ⟨none, .mv 13 (.t 0), none, 0⟩),
 (true, false, ⟨none, .mv 14 (.t 1), none, 0⟩),
 (true, false, ⟨none, .mv 15 (.t 0), none, 0⟩),
 (true, false, ⟨none, .nck 16 (.t 15), none, 0⟩),
 (true, false, ⟨none, .flA 17 (.t 16) 0, none, 0⟩),
 (true, false, ⟨none, .ld 18 (.t 17) none, none, 0⟩),
 (true, false, ⟨none, .mv 19 (.t 0), none, 0⟩),
 (true, false, ⟨none, .nck 20 (.t 19), none, 0⟩),
 (true, false, ⟨none, .flA 21 (.t 20) 1, none, 0⟩),
 (true, false, ⟨none, .ld 22 (.t 21) none, none, 0⟩),
 (false, true, ⟨none, .cav 23 (.t 14) [(.t 18), (.t 22)], none, 0⟩),
 (true, false, ⟨none, .mv 11 (.t 23), none, 0⟩),
 (true, false, ⟨none, .ext 24 (.t 11) 0, none, 0⟩),
 (true, false, ⟨none, .ext 25 (.t 11) 1, none, 0⟩),
 (true, false, ⟨none, .ext 26 (.t 11) 2, none, 0⟩),
 (true, false, ⟨none, .mv 5 (.t 24), none, 0⟩),
 (true, false, ⟨none, .nck 27 (.t 12), none, 0⟩),
 (true, false, ⟨none, .flA 28 (.t 27) 1, none, 0⟩),
 (false, true, ⟨none, .st (.t 28) 1 (.t 25), none, 0⟩),
 (true, false, ⟨none, .nck 29 (.t 13), none, 0⟩),
 (true, false, ⟨none, .flA 30 (.t 29) 2, none, 0⟩),
 (false, true, ⟨none, .st (.t 30) 1 (.t 26), none, 0⟩)]
def c140r4 : List SI := [
 mv 31 (.t 5),
 mv 4 (.t 31)]
def c140 : SC :=
 (.seq (.reg false c140r0)
 (.seq (.reg false c140r1)
 (.seq (.seq (.reg false c140r2)
 (.cond (.t 10)
  (.rgW c140r3)
  .skip))
 (.seq (.reg false c140r4)
 .ret))))
def v140 : List Nat × List Nat := ([], [])
def o140 : List RS := [.t 4]
def c141r0 : List SI := [
 mv 4 (.b false),
 mv 5 (.i 0),
 mv 6 (.i 0)]
def c141r1 : List SI := [
 mv 8 (.t 1),
 mv 9 (.t 0),
 len 10 false (.t 9),
 bin 11 .geq (.t 8) (.t 10),
 mv 7 (.t 11)]
def c141r2 : List SI := [
 mv 4 (.b false),
 mv 5 (.i 0),
 mv 6 (.i 10)]
def c141r3 : List SI := [
 mv 13 (.t 0),
 mv 14 (.t 1),
 ixA 15 (.t 13) (.t 14) 1,
 ld 16 (.t 15) none,
 bin 17 .gtr (.t 16) (.v (.int .u8 1)),
 mv 12 (.t 17)]
def c141r4 : List SI := [
 mv 4 (.b false),
 mv 5 (.i 0),
 mv 6 (.i 11)]
def c141r5 : List SI := [
 mv 18 (.t 0),
 mv 19 (.t 1),
 ixA 20 (.t 18) (.t 19) 1,
 ld 21 (.t 20) none,
 bin 22 .eql (.t 21) (.v (.int .u8 1)),
 mv 23 (.t 1),
 bin 24 .add (.t 23) (.i 1),
 mv 4 (.t 22),
 mv 5 (.t 24),
 mv 6 (.i 0)]
def c141 : SC :=
 (.seq (.reg false c141r0)
 (.seq (.blk 0 (.seq (.reg false c141r1)
  (.cond (.t 7)
   (.seq (.reg false c141r2)
   .ret)
   (.seq (.reg false c141r3)
   (.cond (.t 12)
    (.seq (.reg false c141r4)
    .ret)
    .skip)))))
 (.seq (.reg false c141r5)
 .ret)))
def v141 : List Nat × List Nat := ([], [])
def o141 : List RS := [.t 4, .t 5, .t 6]
def c142r0 : List SI := [
 mv 4 (.v (.string ⟨#[]⟩))]
def c142r1 : List SI := [
 mv 5 (.v (.string ⟨#[]⟩))]
def c142r2 : List SI := [
 mv 6 (.t 0),
 nck 7 (.t 6),
 flA 8 (.t 7) 2,
 ld 9 (.t 8) none,
 bin 10 .eql (.t 9) (.i 0)]
def c142r3 : List WI := [
 (true, false, ⟨none, .mv 12 (.t 0), none, 0⟩),
 (true, false, ⟨none, .mv 13 (.t 0), none, 0⟩),
 (true, false, ⟨none, .mv 14 (.t 1), none, 0⟩),
 (true, false, ⟨none, .mv 15 (.t 0), none, 0⟩),
 (true, false, ⟨none, .nck 16 (.t 15), none, 0⟩),
 (true, false, ⟨none, .flA 17 (.t 16) 0, none, 0⟩),
 (true, false, ⟨none, .ld 18 (.t 17) none, none, 0⟩),
 (true, false, ⟨none, .mv 19 (.t 0), none, 0⟩),
 (true, false, ⟨none, .nck 20 (.t 19), none, 0⟩),
 (true, false, ⟨none, .flA 21 (.t 20) 1, none, 0⟩),
 (true, false, ⟨none, .ld 22 (.t 21) none, none, 0⟩),
 (false, true, ⟨none, .cav 23 (.t 14) [(.t 18), (.t 22)], none, 0⟩),
 (true, false, ⟨none, .mv 11 (.t 23), none, 0⟩),
 (true, false, ⟨none, .ext 24 (.t 11) 0, none, 0⟩),
 (true, false, ⟨none, .ext 25 (.t 11) 1, none, 0⟩),
 (true, false, ⟨none, .ext 26 (.t 11) 2, none, 0⟩),
 (true, false, ⟨none, .mv 5 (.t 24), none, 0⟩),
 (true, false, ⟨none, .nck 27 (.t 12), none, 0⟩),
 (true, false, ⟨none, .flA 28 (.t 27) 1, none, 0⟩),
 (false, true, ⟨none, .st (.t 28) 1 (.t 25), none, 0⟩),
 (true, false, ⟨none, .nck 29 (.t 13), none, 0⟩),
 (true, false, ⟨none, .flA 30 (.t 29) 2, none, 0⟩),
 (false, true, ⟨none, .st (.t 30) 1 (.t 26), none, 0⟩)]
def c142r4 : List SI := [
 mv 31 (.t 5),
 mv 4 (.t 31)]
def c142 : SC :=
 (.seq (.reg false c142r0)
 (.seq (.reg false c142r1)
 (.seq (.seq (.reg false c142r2)
 (.cond (.t 10)
  (.rgW c142r3)
  .skip))
 (.seq (.reg false c142r4)
 .ret))))
def v142 : List Nat × List Nat := ([], [])
def o142 : List RS := [.t 4]
def c143r0 : List SI := [
 mv 2 (.v (.int .u32 0))]
def c143r1 : List SI := [
 mv 3 (.i 0)]
def c143r2 : List SI := [
 bin 4 .lss (.t 3) (.i 4)]
def c143r3 : List SI := [
 mv 5 (.t 0),
 bin 6 .shr (.t 5) (.v (.int .u64 1)),
 mv 7 (.t 0),
 bin 8 .and (.t 7) (.v (.int .u32 1)),
 un 9 .neg (.t 8),
 bin 10 .and (.v (.int .u32 3988292384)) (.t 9),
 bin 11 .xor (.t 6) (.t 10),
 mv 0 (.t 11)]
def c143r4 : List SI := [
 bin 12 .add (.t 3) (.i 1),
 mv 3 (.t 12)]
def c143r5 : List SI := [
 mv 13 (.t 0),
 mv 2 (.t 13)]
def c143 : SC :=
 (.seq (.reg false c143r0)
 (.seq (.seq (.reg false c143r1)
 (.blk 0 (.loop (.seq (.reg false c143r2)
   (.seq (.cond (.t 4)
    .skip
    (.exit 0))
   (.seq (.blk 1 (.reg false c143r3))
   (.reg false c143r4)))))))
 (.seq (.reg false c143r5)
 .ret)))
def v143 : List Nat × List Nat := ([], [])
def o143 : List RS := [.t 2]
theorem s143 : slimC Tryz.prog Tryz.f143.ntmps v143.1 v143.2 ((Tryz.f143.body).getD .skip) = some c143 := by kernel_rfl
theorem q143 : slimR Tryz.prog Tryz.f143.ntmps v143.1 v143.2 Tryz.f143.results.toList = some o143 := by kernel_rfl
def c144r0 : List SI := [
 mv 5 (.v (.int .u32 0))]
def c144r1 : List SI := [
 mv 6 (.t 0),
 mv 7 (.t 1),
 cvI 8 .u32 (.t 7),
 bin 9 .xor (.t 6) (.t 8),
 mv 0 (.t 9)]
def c144r2 : List SI := [
 mv 10 (.t 0),
 bin 11 .and (.t 10) (.v (.int .u32 15)),
 ixP 12 (.t 2) (.t 11) 16 1,
 ld 13 (.t 12) none,
 mv 14 (.t 0),
 bin 15 .shr (.t 14) (.v (.int .u64 4)),
 bin 16 .xor (.t 13) (.t 15),
 mv 0 (.t 16)]
def c144r3 : List SI := [
 mv 17 (.t 0),
 bin 18 .and (.t 17) (.v (.int .u32 15)),
 ixP 19 (.t 2) (.t 18) 16 1,
 ld 20 (.t 19) none,
 mv 21 (.t 0),
 bin 22 .shr (.t 21) (.v (.int .u64 4)),
 bin 23 .xor (.t 20) (.t 22),
 mv 5 (.t 23)]
def c144 : SC :=
 (.seq (.reg false c144r0)
 (.seq (.reg false c144r1)
 (.seq (.reg false c144r2)
 (.seq (.reg false c144r3)
 .ret))))
def v144 : List Nat × List Nat := ([], [])
def o144 : List RS := [.t 5]
theorem s144 : slimC Tryz.prog Tryz.f144.ntmps v144.1 v144.2 ((Tryz.f144.body).getD .skip) = some c144 := by kernel_rfl
theorem q144 : slimR Tryz.prog Tryz.f144.ntmps v144.1 v144.2 Tryz.f144.results.toList = some o144 := by kernel_rfl
end Go.Proofs.YtppgnokhdpaljaaGreat
namespace Go.Proofs.YtppgnokhdpaljaaGreat
open Go Go.Kx
theorem F87 : Fun Tryz.prog 87 5 v87 c87 o87 := Fun.mk' Tryz.func87 Tryz.ntmps87 (by kernel_rfl) (by kernel_rfl) s87 q87
theorem F103 : Fun Tryz.prog 103 8 v103 c103 o103 := Fun.mk' Tryz.func103 Tryz.ntmps103 (by kernel_rfl) (by kernel_rfl) s103 q103
def UE (x : UInt8) (cs : List Value) : Prop := cs = [.int .u8 (x.toNat : Int)]
theorem UE1 : ∀ (x : UInt8) cs, UE x cs → ∀ u ∈ cs, u.oneCell' = true := fun x cs h u hu => by
 rw [h] at hu
 simp at hu
 subst hu
 rfl
abbrev SB (G : Nat → Option Obj) (v : Value) (l : List UInt8) : Prop := SlV G UE 1 v l
abbrev OwnB (zs : List UInt8) (L' : List Kx.Item) (r : Value) : Prop := OwnL UE 5 1 zs L' r
theorem SB.le {G G' : Nat → Option Obj} {v : Value} {l : List UInt8} (h : SB G v l) (hg : Gle G G') : SB G' v l := SlV.le h hg fun _ _ h => h
def cellB (l : List UInt8) : List Value := l.map fun b => .int .u8 (b.toNat : Int)
theorem cells_b : ∀ (l : List UInt8), Cells UE 1 l (cellB l)
 | [] => .nil
 | b :: l => .cons (cs := [.int .u8 (b.toNat : Int)]) rfl rfl (cells_b l)
theorem byteCells_b (s : ByteArray) : byteCells s = cellB s.data.toList := rfl
theorem app8 {P : Program} {h : H} {d : Nat} {l : List SI} {e : Env} {K : Env → H → Prop} {u : Value} {b : Nat} {zs : List UInt8} {zc : List Value} {L1 L2 : List Kx.Item} {x : UInt8} {y : Int} (hL : h.L = .row (.slice (some ⟨b, 0, none⟩) 1 1) 5 1 1 [.int .u8 y] :: L1 ++ .row u 5 1 zs.length zc :: L2) (hy : y = (x.toNat : Int))
  (hc : Cells UE 1 zs zc) (hz : zs.length ≤ 10000000)
  (hk : ∀ A' c' zc', Cells UE 1 (zs ++ [x]) zc' → kR P l d e K (.slice A' (zs ++ [x]).length c') ⟨h.G, .row (.slice (some ⟨b, 0, none⟩) 1 1) 5 1 1 [.int .u8 y] :: L1 ++ .row (.slice A' (zs ++ [x]).length c') 5 1 (zs ++ [x]).length zc' :: L2, h.D⟩) :
  apX P u (.slice (some ⟨b, 0, none⟩) 1 1) 5 1 1 d l e h K := by
 subst hy
 refine ⟨.row (.slice (some ⟨b, 0, none⟩) 1 1) 5 1 1 [.int .u8 (x.toNat : Int)] :: L1, zs.length, zc, L2, 1, [.int .u8 (x.toNat : Int)], .inl hL, srcH_row (h := h) (by rw [hL]; exact .head _) (UE1 x _ rfl) rfl, by unfold maxLen; omega, fun A' c' => ?_⟩
 have := hk A' c' (zc ++ [.int .u8 (x.toNat : Int)]) (hc.app (.one (show UE x [.int .u8 (x.toNat : Int)] from rfl) rfl))
 simp only [List.length_append, List.length_cons, List.length_nil, Nat.zero_add] at this
 exact this
theorem apX_s {P : Program} {h : H} {d : Nat} {l : List SI} {e : Env} {K : Env → H → Prop} {u : Value} {s : ByteArray} {zs : List UInt8} {zc : List Value} {L1 L2 : List Kx.Item} (hr : RowAt h.L u 5 1 L1 zs.length zc L2) (hc : Cells UE 1 zs zc) (hz : zs.length + s.size ≤ 10000000)
  (hk : ∀ A' c' zc', Cells UE 1 (zs ++ s.data.toList) zc' → kR P l d e K (.slice A' (zs ++ s.data.toList).length c') { h with L := L1 ++ .row (.slice A' (zs ++ s.data.toList).length c') 5 1 (zs ++ s.data.toList).length zc' :: L2 }) :
  apX P u (.string s) 5 1 1 d l e h K := by
 refine ⟨L1, zs.length, zc, L2, s.size, cellB s.data.toList, hr, ⟨fun u hu => ?_, ?_, .inr (.inr ⟨s, rfl, rfl, byteCells_b s, rfl⟩)⟩, by unfold maxLen; omega, fun A' c' => ?_⟩
 ·simp [cellB] at hu; obtain ⟨_, _, rfl⟩ := hu; rfl
 ·simp [cellB]
 ·have := hk A' c' (zc ++ cellB s.data.toList) (hc.app (cells_b _))
  rw [List.length_append] at this
  exact this
theorem bin_mul (k : IntKind) (a b : Int) : binV .mul (.int k a) (.int k b) = some (.int k (k.wrap (a * b))) := by simp [binV]
theorem bin_add (k : IntKind) (a b : Int) : binV .add (.int k a) (.int k b) = some (.int k (k.wrap (a + b))) := by simp [binV]
theorem bin_quo (k : IntKind) (a b : Nat) (hb : b ≠ 0) (ha : (a : Int) ≤ k.max) (hk : k.signed = false) : binV .quo (.int k a) (.int k b) = some (.int k ((a / b : Nat) : Int)) := by
 have h1 : ¬ (b : Int) = 0 := by omega
 have h2 : k.wrap (((a / b : Nat) : Int)) = ((a / b : Nat) : Int) := by
  have hq := Nat.div_le_self a b
  generalize a / b = q at hq ⊢
  cases k <;> simp [IntKind.signed] at hk <;> simp [IntKind.max, IntKind.signed, IntKind.bits] at ha <;> simp only [IntKind.wrap, IntKind.signed, IntKind.bits] <;> simp <;> omega
 simp only [binV]
 rw [if_pos trivial, if_neg h1]
 have : (a : Int).tdiv (b : Int) = ((a / b : Nat) : Int) := by rw [Int.tdiv_eq_ediv_of_nonneg (by omega)]; rfl
 rw [this, h2]
theorem bin_rem (k : IntKind) (a b : Nat) (hb : b ≠ 0) : binV .rem (.int k a) (.int k b) = some (.int k ((a % b : Nat) : Int)) := by
 have h1 : ¬ (b : Int) = 0 := by omega
 simp only [binV]
 rw [if_pos trivial, if_neg h1]
 have : (a : Int).tmod (b : Int) = ((a % b : Nat) : Int) := by rw [Int.tmod_eq_emod_of_nonneg (by omega)]; rfl
 rw [this]
theorem callsH_gx {P : Program} {f : FuncId} {args : Array Value} {h : H} {M : H → Prop} {R : Value → H → Prop} (hE : Enters P f) (hg : GhostX h M) (hc : ∀ h', M h' → CallsH P f args h' R) : CallsH P f args h R :=
 ⟨hE, fun β w hs => by
  obtain ⟨h1, m, s1, t1, d1, r1⟩ := hg β w hs
  exact ((hc h1 m).2 β w s1).mono fun _ _ ⟨v, h2, a, ⟨b1, b2⟩, c, d, r⟩ => ⟨v, h2, a, ⟨b1.trans d1, r1.trans b2⟩, c, t1.trans d, r⟩⟩
theorem SB.nil {G : Nat → Option Obj} : SB G (.slice none 0 0) [] := ⟨none, 0, rfl, Nat.le_refl _, Nat.zero_le _, fun i x hx => by simp at hx⟩
theorem Copy_ok (l : List UInt8) (v : Value) (G : Nat → Option Obj) (hl : SB G v l) (hb : l.length ≤ 1000000) :
  FnO Tryz.prog 87 #[v] G [] (fun _ L' r => OwnB l L' r) := by
 refine F87.fnO (by simp) noRegs_nil (go_of ?_)
 unfold c87
 intros; refine gr 0 0 ?_; refine sJ c87r0.eq_1 ?_
 intros; refine gr 3 5 ?_; refine sJ c87r1.eq_1 ?_
 refine apX_v (.inr ⟨⟨none, rfl⟩, rfl, rfl, rfl, rfl⟩) hl rfl UE1 (by unfold maxLen; omega) fun ys A c hc => ?_
 simp only [Nat.zero_add]
 refine sI ?_
 (intros; try refine go_st ?_)
 refine go_ret (retQ_o _ rfl (List.Sublist.refl _) (noRegs_row noRegs_nil) ?_)
 exact ⟨ys, hc, rfl⟩
theorem Clone_ok (l : List UInt8) (v : Value) (G : Nat → Option Obj) (hl : SB G v l) (hb : l.length ≤ 1000000) :
  FnO Tryz.prog 103 #[v] G [] (fun _ L' r => OwnB l L' r) := by
 refine F103.fnO (by simp) noRegs_nil (go_of ?_)
 have hl0 := hl
 obtain ⟨A, c, rfl, hc, hm, hA⟩ := hl
 unfold c103
 intros; refine gr 0 0 ?_; refine sJ c103r0.eq_1 ?_
 intros; refine gr 3 4 ?_; refine sJ c103r1.eq_1 ?_
 intros; refine gc ?_; refine sI ?_
 refine gb (fun ht => ?_) (fun ht => ?_)
 ·intros; refine gr 0 0 ?_; refine sJ c103r2.eq_1 ?_
  (intros; try refine go_st ?_)
  have hA0 : l = [] := by
   match l, hA with
   | [], _ => rfl
   | x :: xs, hA => obtain ⟨a, _, ha, _⟩ := hA 0 x rfl; subst ha; cases ht
  subst hA0
  refine go_ghost (ghost_nil none 5 1) ?_
  refine go_ret (retQ_o _ rfl (List.Sublist.refl _) (noRegs_row noRegs_nil) ?_)
  exact ⟨[], .nil, rfl⟩
 ·intros; refine gr 5 8 ?_; refine sJ c103r3.eq_1 ?_
  intro b hb'
  refine apX_v (.inr ⟨⟨_, rfl⟩, rfl, rfl, rfl, rfl⟩) hl0 rfl UE1 (by unfold maxLen; omega) fun ys A c hc => ?_
  simp only [Nat.zero_add]
  refine sI ?_
  (intros; try refine go_st ?_)
  refine go_ret (retQ_o _ rfl (List.Sublist.refl _) (noRegs_row noRegs_nil) ?_)
  exact ⟨ys, hc, rfl⟩
end Go.Proofs.YtppgnokhdpaljaaGreat

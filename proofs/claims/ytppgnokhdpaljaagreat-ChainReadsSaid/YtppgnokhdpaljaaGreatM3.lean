/- Parts of a proof, 1 texts in one file. No condition. -/
import Derived.Test.YtppgnokhdpaljaaGreatRows
import Derived.Test.YtppgnokhdpaljaaGreatM1
import Derived.Test.YtppgnokhdpaljaaGreatM2
set_option linter.unusedSimpArgs false
set_option linter.unusedVariables false
namespace Go.Proofs.YtppgnokhdpaljaaGreat
open Go Go.Kx
def c3r0 : List SI := [
 ⟨none, .bxR 3 (.t 0), none, 0⟩,
 ⟨none, .mv 6 (.b false), none, 0⟩]
def c3r1 : List SI := [
 ⟨none, .call 12 6 [], none, 0⟩,
 ⟨none, .mv 7 (.t 12), none, 0⟩]
def c3r2 : List SI := [
 ⟨none, .ldR 13 3 0 (some 3), none, 0⟩,
 ⟨none, .call 14 7 [(.t 13), (.v (.slice none 0 0))], none, 0⟩,
 ⟨none, .un 15 .not (.t 14), none, 0⟩]
def c3r3 : List SI := [
 ⟨none, .mv 16 (.t 7), none, 0⟩,
 ⟨none, .mv 6 (.t 16), none, 0⟩]
def c3r4 : List SI := [
 ⟨none, .mv 18 (.t 1), none, 0⟩,
 ⟨none, .mv 19 (.t 2), none, 0⟩,
 ⟨none, .call 20 8 [(.t 18), (.t 19)], none, 0⟩,
 ⟨none, .mv 17 (.t 20), none, 0⟩,
 ⟨none, .ext 21 (.t 17) 0, none, 0⟩,
 ⟨none, .ext 22 (.t 17) 1, none, 0⟩,
 ⟨none, .alR 8 [(.int .i64 0), (.int .i64 0), (.slice none 0 0)], none, 0⟩,
 ⟨none, .stR 8 0 3 (.t 21), none, 0⟩,
 ⟨none, .mv 9 (.t 22), none, 0⟩]
def c3r5 : List SI := [
 ⟨none, .mv 24 (.t 1), none, 0⟩,
 ⟨none, .mv 25 (.t 2), none, 0⟩,
 ⟨none, .call 26 9 [(.t 24), (.t 25)], none, 0⟩,
 ⟨none, .mv 23 (.t 26), none, 0⟩,
 ⟨none, .ext 27 (.t 23) 0, none, 0⟩,
 ⟨none, .ext 28 (.t 23) 1, none, 0⟩,
 ⟨none, .alR 10 [(.int .i64 0), (.int .i64 0), (.slice none 0 0)], none, 0⟩,
 ⟨none, .stR 10 0 3 (.t 27), none, 0⟩,
 ⟨none, .mv 11 (.t 28), none, 0⟩]
def c3r6 : List (Bool × SI) := [
 (true, N_ (.mv 29 (.t 7))),
 (true, N_ (.mv 30 (.t 29))),
 (true, ⟨some (30, true), .ldR 31 3 0 (some 3), none, 31⟩),
 (true, ⟨some (30, true), .ldR 33 3 0 (some 3), none, 33⟩),
 (false, ⟨some (30, true), .call 32 10 [(.t 31)], none, 32⟩),
 (false, ⟨some (30, true), .call 34 11 [(.t 33)], none, 34⟩),
 (true, ⟨some (30, true), .bin 35 .eql (.t 32) (.t 34), none, 35⟩),
 (true, N_ (.pick 36 (.t 30) (.t 35) (.b false))),
 (true, N_ (.mv 37 (.t 36))),
 (true, ⟨some (37, true), .ldR 38 3 0 (some 3), none, 38⟩),
 (true, ⟨some (37, true), .ldR 40 3 0 (some 3), none, 40⟩),
 (false, ⟨some (37, true), .call 39 12 [(.t 38)], none, 39⟩),
 (false, ⟨some (37, true), .call 41 13 [(.t 40)], none, 41⟩),
 (true, ⟨some (37, true), .bin 42 .eql (.t 39) (.t 41), none, 42⟩),
 (true, N_ (.pick 43 (.t 37) (.t 42) (.b false))),
 (true, N_ (.mv 44 (.t 43))),
 (true, ⟨some (44, true), .ldR 45 3 0 (some 3), none, 45⟩),
 (true, ⟨some (44, true), .ldR 47 3 0 (some 3), none, 47⟩),
 (false, ⟨some (44, true), .call 46 15 [(.t 45)], none, 46⟩),
 (false, ⟨some (44, true), .call 48 16 [(.t 47)], none, 48⟩),
 (false, ⟨some (44, true), .call 49 14 [(.t 46), (.t 48)], none, 49⟩),
 (true, N_ (.pick 50 (.t 44) (.t 49) (.b false))),
 (true, N_ (.mv 51 (.t 50))),
 (true, ⟨some (51, true), .ldR 52 8 0 (some 3), none, 52⟩),
 (true, ⟨some (51, true), .ldR 53 10 0 (some 3), none, 53⟩),
 (false, ⟨some (51, true), .call 54 17 [(.t 52), (.t 53)], none, 54⟩),
 (true, N_ (.pick 55 (.t 51) (.t 54) (.b false))),
 (true, N_ (.mv 56 (.t 55))),
 (true, ⟨some (56, true), .mv 57 (.t 9), none, 57⟩),
 (true, ⟨some (56, true), .mv 58 (.t 11), none, 58⟩),
 (true, ⟨some (56, true), .bin 59 .eql (.t 57) (.t 58), none, 59⟩),
 (true, N_ (.pick 60 (.t 56) (.t 59) (.b false))),
 (true, N_ (.mv 6 (.t 60)))]
def c3 : SC :=
 (.seq (.reg false c3r0)
 (.seq (.reg false c3r1)
 (.seq (.seq (.reg false c3r2)
 (.cond (.t 15)
  (.seq (.reg false c3r3)
  .ret)
  .skip))
 (.seq (.reg false c3r4)
 (.seq (.reg false c3r5)
 (.seq (.rgX c3r6)
 .ret))))))
def v3 : List Nat × List Nat := ([3, 8, 10], [3, 8, 10])
def o3 : List RS := [.t 6]
theorem s3 : slimC Tryz.prog Tryz.f3.ntmps v3.1 v3.2 ((Tryz.f3.body).getD .skip) = some c3 := by kernel_rfl
theorem q3 : slimR Tryz.prog Tryz.f3.ntmps v3.1 v3.2 Tryz.f3.results.toList = some o3 := by kernel_rfl
def c4r0 : List SI := [
 ⟨none, .bxR 5 (.t 0), none, 0⟩,
 ⟨none, .bxR 6 (.t 1), none, 0⟩,
 ⟨none, .mv 10 (.b false), none, 0⟩]
def c4r1 : List SI := [
 ⟨none, .call 28 6 [], none, 0⟩,
 ⟨none, .mv 11 (.t 28), none, 0⟩]
def c4r2 : List SI := [
 ⟨none, .ldR 29 5 0 (some 3), none, 0⟩,
 ⟨none, .mv 30 (.t 4), none, 0⟩,
 ⟨none, .call 31 7 [(.t 29), (.t 30)], none, 0⟩,
 ⟨none, .un 32 .not (.t 31), none, 0⟩,
 ⟨none, .mv 33 (.t 32), none, 0⟩,
 ⟨some (33, false), .ldR 34 6 0 (some 10), none, 34⟩,
 ⟨some (33, false), .call 35 18 [(.t 34)], none, 35⟩,
 ⟨some (33, false), .un 36 .not (.t 35), none, 36⟩,
 ⟨none, .pick 37 (.t 33) (.b true) (.t 36), none, 0⟩]
def c4r3 : List SI := [
 ⟨none, .mv 38 (.t 11), none, 0⟩,
 ⟨none, .mv 10 (.t 38), none, 0⟩]
def c4r4 : List SI := [
 ⟨none, .ldR 40 5 0 (some 3), none, 0⟩,
 ⟨none, .ldR 41 6 0 (some 10), none, 0⟩,
 ⟨none, .call 42 19 [(.t 40), (.t 41)], none, 0⟩,
 ⟨none, .mv 39 (.t 42), none, 0⟩,
 ⟨none, .ext 43 (.t 39) 0, none, 0⟩,
 ⟨none, .ext 44 (.t 39) 1, none, 0⟩,
 ⟨none, .alR 12 [(.int .i64 0), (.int .i64 0), (.slice none 0 0)], none, 0⟩,
 ⟨none, .stR 12 0 3 (.t 43), none, 0⟩,
 ⟨none, .mv 13 (.t 44), none, 0⟩]
def c4r5 : List SI := [
 ⟨none, .ldR 46 5 0 (some 3), none, 0⟩,
 ⟨none, .ldR 47 6 0 (some 10), none, 0⟩,
 ⟨none, .call 48 20 [(.t 46), (.t 47)], none, 0⟩,
 ⟨none, .mv 45 (.t 48), none, 0⟩,
 ⟨none, .ext 49 (.t 45) 0, none, 0⟩,
 ⟨none, .ext 50 (.t 45) 1, none, 0⟩,
 ⟨none, .alR 14 [(.int .i64 0), (.int .i64 0), (.slice none 0 0)], none, 0⟩,
 ⟨none, .stR 14 0 3 (.t 49), none, 0⟩,
 ⟨none, .mv 15 (.t 50), none, 0⟩]
def c4r6 : List SI := [
 ⟨none, .ldR 52 5 0 (some 3), none, 0⟩,
 ⟨none, .mv 53 (.t 2), none, 0⟩,
 ⟨none, .call 54 21 [(.t 52), (.t 53)], none, 0⟩,
 ⟨none, .mv 51 (.t 54), none, 0⟩,
 ⟨none, .ext 55 (.t 51) 0, none, 0⟩,
 ⟨none, .ext 56 (.t 51) 1, none, 0⟩,
 ⟨none, .alR 16 [(.int .i64 0), (.int .i64 0), (.slice none 0 0)], none, 0⟩,
 ⟨none, .stR 16 0 3 (.t 55), none, 0⟩,
 ⟨none, .mv 17 (.t 56), none, 0⟩]
def c4r7 : List SI := [
 ⟨none, .ldR 58 5 0 (some 3), none, 0⟩,
 ⟨none, .mv 59 (.t 2), none, 0⟩,
 ⟨none, .call 60 22 [(.t 58), (.t 59)], none, 0⟩,
 ⟨none, .mv 57 (.t 60), none, 0⟩,
 ⟨none, .ext 61 (.t 57) 0, none, 0⟩,
 ⟨none, .ext 62 (.t 57) 1, none, 0⟩,
 ⟨none, .alR 18 [(.int .i64 0), (.int .i64 0), (.slice none 0 0)], none, 0⟩,
 ⟨none, .stR 18 0 3 (.t 61), none, 0⟩,
 ⟨none, .mv 19 (.t 62), none, 0⟩]
def c4r8 : List SI := [
 ⟨none, .ldR 64 5 0 (some 3), none, 0⟩,
 ⟨none, .mv 65 (.t 2), none, 0⟩,
 ⟨none, .call 66 23 [(.t 64), (.t 65)], none, 0⟩,
 ⟨none, .mv 63 (.t 66), none, 0⟩,
 ⟨none, .ext 67 (.t 63) 0, none, 0⟩,
 ⟨none, .ext 68 (.t 63) 1, none, 0⟩,
 ⟨none, .alR 20 [(.int .i64 0), (.int .i64 0), (.slice none 0 0)], none, 0⟩,
 ⟨none, .stR 20 0 3 (.t 67), none, 0⟩,
 ⟨none, .mv 21 (.t 68), none, 0⟩]
def c4r9 : List SI := [
 ⟨none, .ldR 70 5 0 (some 3), none, 0⟩,
 ⟨none, .mv 71 (.t 2), none, 0⟩,
 ⟨none, .call 72 24 [(.t 70), (.t 71)], none, 0⟩,
 ⟨none, .mv 69 (.t 72), none, 0⟩,
 ⟨none, .ext 73 (.t 69) 0, none, 0⟩,
 ⟨none, .ext 74 (.t 69) 1, none, 0⟩,
 ⟨none, .alR 22 [(.int .i64 0), (.int .i64 0), (.slice none 0 0)], none, 0⟩,
 ⟨none, .stR 22 0 3 (.t 73), none, 0⟩,
 ⟨none, .mv 23 (.t 74), none, 0⟩]
def c4r10 : List SI := [
 ⟨none, .ldR 76 5 0 (some 3), none, 0⟩,
 ⟨none, .mv 77 (.t 3), none, 0⟩,
 ⟨none, .mv 78 (.t 4), none, 0⟩,
 ⟨none, .call 79 25 [(.t 76), (.t 77), (.t 78)], none, 0⟩,
 ⟨none, .mv 75 (.t 79), none, 0⟩,
 ⟨none, .ext 80 (.t 75) 0, none, 0⟩,
 ⟨none, .ext 81 (.t 75) 1, none, 0⟩,
 ⟨none, .alR 24 [(.int .i64 0), (.int .i64 0), (.slice none 0 0)], none, 0⟩,
 ⟨none, .stR 24 0 3 (.t 80), none, 0⟩,
 ⟨none, .mv 25 (.t 81), none, 0⟩]
def c4r11 : List SI := [
 ⟨none, .ldR 83 5 0 (some 3), none, 0⟩,
 ⟨none, .mv 84 (.t 3), none, 0⟩,
 ⟨none, .mv 85 (.t 4), none, 0⟩,
 ⟨none, .call 86 26 [(.t 83), (.t 84), (.t 85)], none, 0⟩,
 ⟨none, .mv 82 (.t 86), none, 0⟩,
 ⟨none, .ext 87 (.t 82) 0, none, 0⟩,
 ⟨none, .ext 88 (.t 82) 1, none, 0⟩,
 ⟨none, .alR 26 [(.int .i64 0), (.int .i64 0), (.slice none 0 0)], none, 0⟩,
 ⟨none, .stR 26 0 3 (.t 87), none, 0⟩,
 ⟨none, .mv 27 (.t 88), none, 0⟩]
def c4r12 : List SI := [
 ⟨none, .mv 89 (.t 11), none, 0⟩,
 ⟨none, .mv 90 (.t 89), none, 0⟩,
 ⟨some (90, true), .ldR 91 12 0 (some 3), none, 91⟩,
 ⟨some (90, true), .ldR 92 14 0 (some 3), none, 92⟩,
 ⟨some (90, true), .call 93 17 [(.t 91), (.t 92)], none, 93⟩,
 ⟨none, .pick 94 (.t 90) (.t 93) (.b false), none, 0⟩,
 ⟨none, .mv 95 (.t 94), none, 0⟩,
 ⟨some (95, true), .mv 96 (.t 13), none, 96⟩,
 ⟨some (95, true), .mv 97 (.t 15), none, 97⟩,
 ⟨some (95, true), .bin 98 .eql (.t 96) (.t 97), none, 98⟩,
 ⟨none, .pick 99 (.t 95) (.t 98) (.b false), none, 0⟩,
 ⟨none, .mv 100 (.t 99), none, 0⟩,
 ⟨some (100, true), .ldR 101 16 0 (some 3), none, 101⟩,
 ⟨some (100, true), .ldR 102 18 0 (some 3), none, 102⟩,
 ⟨some (100, true), .call 103 17 [(.t 101), (.t 102)], none, 103⟩,
 ⟨none, .pick 104 (.t 100) (.t 103) (.b false), none, 0⟩,
 ⟨none, .mv 105 (.t 104), none, 0⟩,
 ⟨some (105, true), .mv 106 (.t 17), none, 106⟩,
 ⟨some (105, true), .mv 107 (.t 19), none, 107⟩,
 ⟨some (105, true), .bin 108 .eql (.t 106) (.t 107), none, 108⟩,
 ⟨none, .pick 109 (.t 105) (.t 108) (.b false), none, 0⟩,
 ⟨none, .mv 110 (.t 109), none, 0⟩,
 ⟨some (110, true), .ldR 111 20 0 (some 3), none, 111⟩,
 ⟨some (110, true), .ldR 112 22 0 (some 3), none, 112⟩,
 ⟨some (110, true), .call 113 17 [(.t 111), (.t 112)], none, 113⟩,
 ⟨none, .pick 114 (.t 110) (.t 113) (.b false), none, 0⟩,
 ⟨none, .mv 115 (.t 114), none, 0⟩,
 ⟨some (115, true), .mv 116 (.t 21), none, 116⟩,
 ⟨some (115, true), .mv 117 (.t 23), none, 117⟩,
 ⟨some (115, true), .bin 118 .eql (.t 116) (.t 117), none, 118⟩,
 ⟨none, .pick 119 (.t 115) (.t 118) (.b false), none, 0⟩,
 ⟨none, .mv 120 (.t 119), none, 0⟩,
 ⟨some (120, true), .ldR 121 24 0 (some 3), none, 121⟩,
 ⟨some (120, true), .ldR 122 26 0 (some 3), none, 122⟩,
 ⟨some (120, true), .call 123 17 [(.t 121), (.t 122)], none, 123⟩,
 ⟨none, .pick 124 (.t 120) (.t 123) (.b false), none, 0⟩,
 ⟨none, .mv 125 (.t 124), none, 0⟩,
 ⟨some (125, true), .mv 126 (.t 25), none, 126⟩,
 ⟨some (125, true), .mv 127 (.t 27), none, 127⟩,
 ⟨some (125, true), .bin 128 .eql (.t 126) (.t 127), none, 128⟩,
 ⟨none, .pick 129 (.t 125) (.t 128) (.b false), none, 0⟩,
 ⟨none, .mv 10 (.t 129), none, 0⟩]
def c4 : SC :=
 (.seq (.reg false c4r0)
 (.seq (.reg false c4r1)
 (.seq (.seq (.reg false c4r2)
 (.cond (.t 37)
  (.seq (.reg false c4r3)
  .ret)
  .skip))
 (.seq (.reg false c4r4)
 (.seq (.reg false c4r5)
 (.seq (.reg false c4r6)
 (.seq (.reg false c4r7)
 (.seq (.reg false c4r8)
 (.seq (.reg false c4r9)
 (.seq (.reg false c4r10)
 (.seq (.reg false c4r11)
 (.seq (.reg false c4r12)
 .ret))))))))))))
def v4 : List Nat × List Nat := ([5, 6, 12, 14, 16, 18, 20, 22, 24, 26], [5, 6, 12, 14, 16, 18, 20, 22, 24, 26])
def o4 : List RS := [.t 10]
theorem s4 : slimC Tryz.prog Tryz.f4.ntmps v4.1 v4.2 ((Tryz.f4.body).getD .skip) = some c4 := by kernel_rfl
theorem q4 : slimR Tryz.prog Tryz.f4.ntmps v4.1 v4.2 Tryz.f4.results.toList = some o4 := by kernel_rfl
def c5r0 : List SI := [
 ⟨none, .bxR 3 (.t 0), none, 0⟩,
 ⟨none, .mv 6 (.b false), none, 0⟩]
def c5r1 : List SI := [
 ⟨none, .call 16 6 [], none, 0⟩,
 ⟨none, .mv 7 (.t 16), none, 0⟩]
def c5r2 : List SI := [
 ⟨none, .ldR 17 3 0 (some 3), none, 0⟩,
 ⟨none, .call 18 7 [(.t 17), (.v (.slice none 0 0))], none, 0⟩,
 ⟨none, .un 19 .not (.t 18), none, 0⟩]
def c5r3 : List SI := [
 ⟨none, .mv 20 (.t 7), none, 0⟩,
 ⟨none, .mv 6 (.t 20), none, 0⟩]
def c5r4 : List SI := [
 ⟨none, .ldR 22 3 0 (some 3), none, 0⟩,
 ⟨none, .mv 23 (.t 1), none, 0⟩,
 ⟨none, .mv 24 (.t 2), none, 0⟩,
 ⟨none, .call 25 27 [(.t 22), (.t 23), (.t 24)], none, 0⟩,
 ⟨none, .mv 21 (.t 25), none, 0⟩,
 ⟨none, .ext 26 (.t 21) 0, none, 0⟩,
 ⟨none, .ext 27 (.t 21) 1, none, 0⟩,
 ⟨none, .mv 8 (.t 26), none, 0⟩,
 ⟨none, .mv 9 (.t 27), none, 0⟩]
def c5r5 : List SI := [
 ⟨none, .ldR 29 3 0 (some 3), none, 0⟩,
 ⟨none, .mv 30 (.t 1), none, 0⟩,
 ⟨none, .mv 31 (.t 2), none, 0⟩,
 ⟨none, .call 32 28 [(.t 29), (.t 30), (.t 31)], none, 0⟩,
 ⟨none, .mv 28 (.t 32), none, 0⟩,
 ⟨none, .ext 33 (.t 28) 0, none, 0⟩,
 ⟨none, .ext 34 (.t 28) 1, none, 0⟩,
 ⟨none, .mv 10 (.t 33), none, 0⟩,
 ⟨none, .mv 11 (.t 34), none, 0⟩]
def c5r6 : List SI := [
 ⟨none, .ldR 36 3 0 (some 3), none, 0⟩,
 ⟨none, .call 37 29 [(.t 36)], none, 0⟩,
 ⟨none, .mv 35 (.t 37), none, 0⟩,
 ⟨none, .ext 38 (.t 35) 0, none, 0⟩,
 ⟨none, .ext 39 (.t 35) 1, none, 0⟩,
 ⟨none, .alR 12 [(.int .i64 0), (.int .i64 0), (.slice none 0 0)], none, 0⟩,
 ⟨none, .stR 12 0 3 (.t 38), none, 0⟩,
 ⟨none, .mv 13 (.t 39), none, 0⟩]
def c5r7 : List SI := [
 ⟨none, .ldR 41 3 0 (some 3), none, 0⟩,
 ⟨none, .call 42 30 [(.t 41)], none, 0⟩,
 ⟨none, .mv 40 (.t 42), none, 0⟩,
 ⟨none, .ext 43 (.t 40) 0, none, 0⟩,
 ⟨none, .ext 44 (.t 40) 1, none, 0⟩,
 ⟨none, .alR 14 [(.int .i64 0), (.int .i64 0), (.slice none 0 0)], none, 0⟩,
 ⟨none, .stR 14 0 3 (.t 43), none, 0⟩,
 ⟨none, .mv 15 (.t 44), none, 0⟩]
def c5r8 : List SI := [
 ⟨none, .mv 45 (.t 7), none, 0⟩,
 ⟨none, .mv 46 (.t 45), none, 0⟩,
 ⟨some (46, true), .mv 47 (.t 8), none, 47⟩,
 ⟨some (46, true), .mv 48 (.t 10), none, 48⟩,
 ⟨some (46, true), .call 49 14 [(.t 47), (.t 48)], none, 49⟩,
 ⟨none, .pick 50 (.t 46) (.t 49) (.b false), none, 0⟩,
 ⟨none, .mv 51 (.t 50), none, 0⟩,
 ⟨some (51, true), .mv 52 (.t 9), none, 52⟩,
 ⟨some (51, true), .mv 53 (.t 11), none, 53⟩,
 ⟨some (51, true), .bin 54 .eql (.t 52) (.t 53), none, 54⟩,
 ⟨none, .pick 55 (.t 51) (.t 54) (.b false), none, 0⟩,
 ⟨none, .mv 56 (.t 55), none, 0⟩,
 ⟨some (56, true), .ldR 57 12 0 (some 3), none, 57⟩,
 ⟨some (56, true), .ldR 58 14 0 (some 3), none, 58⟩,
 ⟨some (56, true), .call 59 17 [(.t 57), (.t 58)], none, 59⟩,
 ⟨none, .pick 60 (.t 56) (.t 59) (.b false), none, 0⟩,
 ⟨none, .mv 61 (.t 60), none, 0⟩,
 ⟨some (61, true), .mv 62 (.t 13), none, 62⟩,
 ⟨some (61, true), .mv 63 (.t 15), none, 63⟩,
 ⟨some (61, true), .bin 64 .eql (.t 62) (.t 63), none, 64⟩,
 ⟨none, .pick 65 (.t 61) (.t 64) (.b false), none, 0⟩,
 ⟨none, .mv 6 (.t 65), none, 0⟩]
def c5 : SC :=
 (.seq (.reg false c5r0)
 (.seq (.reg false c5r1)
 (.seq (.seq (.reg false c5r2)
 (.cond (.t 19)
  (.seq (.reg false c5r3)
  .ret)
  .skip))
 (.seq (.reg false c5r4)
 (.seq (.reg false c5r5)
 (.seq (.reg false c5r6)
 (.seq (.reg false c5r7)
 (.seq (.reg false c5r8)
 .ret))))))))
def v5 : List Nat × List Nat := ([3, 12, 14], [3, 12, 14])
def o5 : List RS := [.t 6]
theorem s5 : slimC Tryz.prog Tryz.f5.ntmps v5.1 v5.2 ((Tryz.f5.body).getD .skip) = some c5 := by kernel_rfl
theorem q5 : slimR Tryz.prog Tryz.f5.ntmps v5.1 v5.2 Tryz.f5.results.toList = some o5 := by kernel_rfl
def c6r0 : List SI := [
 ⟨none, .mv 0 (.b false), none, 0⟩]
def c6r1 : List SI := [
 ⟨none, .call 20 8 [(.i 256), (.i 10)], none, 0⟩,
 ⟨none, .mv 19 (.t 20), none, 0⟩,
 ⟨none, .ext 21 (.t 19) 0, none, 0⟩,
 ⟨none, .ext 22 (.t 19) 1, none, 0⟩,
 ⟨none, .alR 1 [(.int .i64 0), (.int .i64 0), (.slice none 0 0)], none, 0⟩,
 ⟨none, .stR 1 0 3 (.t 21), none, 0⟩,
 ⟨none, .mv 2 (.t 22), none, 0⟩]
def c6r2 : RX := .br [(true, N_ (.ldR 24 1 0 (some 3)))]
 ⟨none, .call 25 31 [(.i 10)], none, 0⟩
 (.br []
 ⟨none, .call 26 19 [(.t 24), (.t 25)], none, 0⟩
 (.leaf [(true, N_ (.mv 23 (.t 26))),
 (true, N_ (.ext 27 (.t 23) 0)),
 (true, N_ (.ext 28 (.t 23) 1)),
 (false, N_ (.al 3 [(.int .i64 0), (.int .i64 0), (.slice none 0 0)])),
 (false, N_ (.st (.t 3) 3 (.t 27))),
 (true, N_ (.mv 4 (.t 28)))])
 ⟨none, .al 3 [(.int .i64 0), (.int .i64 0), (.slice none 0 0)], none, 0⟩
 (.leaf [(false, N_ (.call 26 19 [(.t 24), (.t 25)])),
 (true, N_ (.mv 23 (.t 26))),
 (true, N_ (.ext 27 (.t 23) 0)),
 (true, N_ (.ext 28 (.t 23) 1)),
 (false, N_ (.st (.t 3) 3 (.t 27))),
 (true, N_ (.mv 4 (.t 28)))]))
 ⟨none, .al 3 [(.int .i64 0), (.int .i64 0), (.slice none 0 0)], none, 0⟩
 (.leaf [(false, N_ (.call 25 31 [(.i 10)])),
 (false, N_ (.call 26 19 [(.t 24), (.t 25)])),
 (true, N_ (.mv 23 (.t 26))),
 (true, N_ (.ext 27 (.t 23) 0)),
 (true, N_ (.ext 28 (.t 23) 1)),
 (false, N_ (.st (.t 3) 3 (.t 27))),
 (true, N_ (.mv 4 (.t 28)))])
def c6r3 : List SI := [
 ⟨none, .ld 30 (.t 3) (some 3), none, 0⟩,
 ⟨none, .call 31 21 [(.t 30), (.i 12)], none, 0⟩,
 ⟨none, .mv 29 (.t 31), none, 0⟩,
 ⟨none, .ext 32 (.t 29) 0, none, 0⟩,
 ⟨none, .ext 33 (.t 29) 1, none, 0⟩,
 ⟨none, .alR 5 [(.int .i64 0), (.int .i64 0), (.slice none 0 0)], none, 0⟩,
 ⟨none, .stR 5 0 3 (.t 32), none, 0⟩,
 ⟨none, .mv 6 (.t 33), none, 0⟩]
def c6r4 : List SI := [
 ⟨none, .ld 35 (.t 3) (some 3), none, 0⟩,
 ⟨none, .call 36 27 [(.t 35), (.i 11), (.i 0)], none, 0⟩,
 ⟨none, .mv 34 (.t 36), none, 0⟩,
 ⟨none, .ext 37 (.t 34) 0, none, 0⟩,
 ⟨none, .ext 38 (.t 34) 1, none, 0⟩,
 ⟨none, .mv 7 (.t 37), none, 0⟩,
 ⟨none, .mv 8 (.t 38), none, 0⟩]
def c6r5 : List SI := [
 ⟨none, .ld 40 (.t 3) (some 3), none, 0⟩,
 ⟨none, .call 41 27 [(.t 40), (.i 14), (.i 0)], none, 0⟩,
 ⟨none, .mv 39 (.t 41), none, 0⟩,
 ⟨none, .ext 42 (.t 39) 0, none, 0⟩,
 ⟨none, .ext 43 (.t 39) 1, none, 0⟩,
 ⟨none, .mv 9 (.t 42), none, 0⟩,
 ⟨none, .mv 10 (.t 43), none, 0⟩]
def c6r6 : RX := .br [(true, N_ (.ld 45 (.t 3) (some 3)))]
 ⟨none, .call 46 31 [(.i 12)], none, 0⟩
 (.br []
 ⟨none, .call 47 19 [(.t 45), (.t 46)], none, 0⟩
 (.leaf [(true, N_ (.mv 44 (.t 47))),
 (true, N_ (.ext 48 (.t 44) 0)),
 (true, N_ (.ext 49 (.t 44) 1)),
 (false, N_ (.al 11 [(.int .i64 0), (.int .i64 0), (.slice none 0 0)])),
 (false, N_ (.st (.t 11) 3 (.t 48))),
 (true, N_ (.mv 12 (.t 49)))])
 ⟨none, .al 11 [(.int .i64 0), (.int .i64 0), (.slice none 0 0)], none, 0⟩
 (.leaf [(false, N_ (.call 47 19 [(.t 45), (.t 46)])),
 (true, N_ (.mv 44 (.t 47))),
 (true, N_ (.ext 48 (.t 44) 0)),
 (true, N_ (.ext 49 (.t 44) 1)),
 (false, N_ (.st (.t 11) 3 (.t 48))),
 (true, N_ (.mv 12 (.t 49)))]))
 ⟨none, .al 11 [(.int .i64 0), (.int .i64 0), (.slice none 0 0)], none, 0⟩
 (.leaf [(false, N_ (.call 46 31 [(.i 12)])),
 (false, N_ (.call 47 19 [(.t 45), (.t 46)])),
 (true, N_ (.mv 44 (.t 47))),
 (true, N_ (.ext 48 (.t 44) 0)),
 (true, N_ (.ext 49 (.t 44) 1)),
 (false, N_ (.st (.t 11) 3 (.t 48))),
 (true, N_ (.mv 12 (.t 49)))])
def c6r7 : List SI := [
 ⟨none, .ld 51 (.t 3) (some 3), none, 0⟩,
 ⟨none, .call 52 23 [(.t 51), (.i 13)], none, 0⟩,
 ⟨none, .mv 50 (.t 52), none, 0⟩,
 ⟨none, .ext 53 (.t 50) 0, none, 0⟩,
 ⟨none, .ext 54 (.t 50) 1, none, 0⟩,
 ⟨none, .alR 13 [(.int .i64 0), (.int .i64 0), (.slice none 0 0)], none, 0⟩,
 ⟨none, .stR 13 0 3 (.t 53), none, 0⟩,
 ⟨none, .mv 14 (.t 54), none, 0⟩]
def c6r8 : List SI := [
 ⟨none, .ld 56 (.t 3) (some 3), none, 0⟩,
 ⟨none, .call 57 29 [(.t 56)], none, 0⟩,
 ⟨none, .mv 55 (.t 57), none, 0⟩,
 ⟨none, .ext 58 (.t 55) 0, none, 0⟩,
 ⟨none, .ext 59 (.t 55) 1, none, 0⟩,
 ⟨none, .alR 15 [(.int .i64 0), (.int .i64 0), (.slice none 0 0)], none, 0⟩,
 ⟨none, .stR 15 0 3 (.t 58), none, 0⟩,
 ⟨none, .mv 16 (.t 59), none, 0⟩]
def c6r9 : List SI := [
 ⟨none, .ld 61 (.t 3) (some 3), none, 0⟩,
 ⟨none, .call 62 25 [(.t 61), (.i 0), (.v (.slice none 0 0))], none, 0⟩,
 ⟨none, .mv 60 (.t 62), none, 0⟩,
 ⟨none, .ext 63 (.t 60) 0, none, 0⟩,
 ⟨none, .ext 64 (.t 60) 1, none, 0⟩,
 ⟨none, .alR 17 [(.int .i64 0), (.int .i64 0), (.slice none 0 0)], none, 0⟩,
 ⟨none, .stR 17 0 3 (.t 63), none, 0⟩,
 ⟨none, .mv 18 (.t 64), none, 0⟩]
def c6r10 : List SI := [
 ⟨none, .mv 65 (.t 2), none, 0⟩,
 ⟨none, .bin 66 .neq (.t 65) (.i 0), none, 0⟩,
 ⟨none, .mv 67 (.t 66), none, 0⟩,
 ⟨some (67, false), .mv 68 (.t 4), none, 68⟩,
 ⟨some (67, false), .bin 69 .neq (.t 68) (.i 0), none, 69⟩,
 ⟨none, .pick 70 (.t 67) (.b true) (.t 69), none, 0⟩,
 ⟨none, .mv 71 (.t 70), none, 0⟩,
 ⟨some (71, false), .mv 72 (.t 6), none, 72⟩,
 ⟨some (71, false), .bin 73 .neq (.t 72) (.i 0), none, 73⟩,
 ⟨none, .pick 74 (.t 71) (.b true) (.t 73), none, 0⟩,
 ⟨none, .mv 75 (.t 74), none, 0⟩,
 ⟨some (75, false), .mv 76 (.t 8), none, 76⟩,
 ⟨some (75, false), .bin 77 .neq (.t 76) (.i 0), none, 77⟩,
 ⟨none, .pick 78 (.t 75) (.b true) (.t 77), none, 0⟩,
 ⟨none, .mv 79 (.t 78), none, 0⟩,
 ⟨some (79, false), .mv 80 (.t 14), none, 80⟩,
 ⟨some (79, false), .bin 81 .neq (.t 80) (.i 0), none, 81⟩,
 ⟨none, .pick 82 (.t 79) (.b true) (.t 81), none, 0⟩,
 ⟨none, .mv 83 (.t 82), none, 0⟩,
 ⟨some (83, false), .mv 84 (.t 7), none, 84⟩,
 ⟨some (83, false), .len 85 false (.t 84), none, 85⟩,
 ⟨some (83, false), .bin 86 .neq (.t 85) (.i 1), none, 86⟩,
 ⟨none, .pick 87 (.t 83) (.b true) (.t 86), none, 0⟩]
def c6r11 : List SI := [
 ⟨none, .mv 0 (.b false), none, 0⟩]
def c6r12 : List SI := [
 ⟨none, .ldR 88 1 0 (some 3), none, 0⟩,
 ⟨none, .call 89 12 [(.t 88)], none, 0⟩,
 ⟨none, .bin 90 .eql (.t 89) (.i 10), none, 0⟩,
 ⟨none, .mv 91 (.t 90), none, 0⟩,
 ⟨some (91, true), .ld 92 (.t 3) (some 3), none, 92⟩,
 ⟨some (91, true), .call 93 12 [(.t 92)], none, 93⟩,
 ⟨some (91, true), .bin 94 .eql (.t 93) (.i 13), none, 94⟩,
 ⟨none, .pick 95 (.t 91) (.t 94) (.b false), none, 0⟩,
 ⟨none, .mv 96 (.t 95), none, 0⟩,
 ⟨some (96, true), .ldR 97 5 0 (some 3), none, 97⟩,
 ⟨some (96, true), .call 98 12 [(.t 97)], none, 98⟩,
 ⟨some (96, true), .bin 99 .eql (.t 98) (.i 10), none, 99⟩,
 ⟨none, .pick 100 (.t 96) (.t 99) (.b false), none, 0⟩,
 ⟨none, .mv 101 (.t 100), none, 0⟩,
 ⟨some (101, true), .ldR 102 5 0 (some 3), none, 102⟩,
 ⟨some (101, true), .call 103 15 [(.t 102)], none, 103⟩,
 ⟨some (101, true), .len 104 false (.t 103), none, 104⟩,
 ⟨some (101, true), .bin 105 .eql (.t 104) (.i 0), none, 105⟩,
 ⟨none, .pick 106 (.t 101) (.t 105) (.b false), none, 0⟩,
 ⟨none, .mv 107 (.t 106), none, 0⟩,
 ⟨some (107, true), .mv 108 (.t 7), none, 108⟩,
 ⟨some (107, true), .ixA 109 (.t 108) (.i 0) 10, none, 109⟩,
 ⟨some (107, true), .flA 110 (.t 109) 0, none, 110⟩,
 ⟨some (107, true), .ld 111 (.t 110) none, none, 111⟩,
 ⟨some (107, true), .bin 112 .eql (.t 111) (.i 10), none, 112⟩,
 ⟨none, .pick 113 (.t 107) (.t 112) (.b false), none, 0⟩,
 ⟨none, .mv 114 (.t 113), none, 0⟩,
 ⟨some (114, true), .mv 115 (.t 10), none, 115⟩,
 ⟨some (114, true), .bin 116 .eql (.t 115) (.i 90), none, 116⟩,
 ⟨none, .pick 117 (.t 114) (.t 116) (.b false), none, 0⟩,
 ⟨none, .mv 118 (.t 117), none, 0⟩,
 ⟨some (118, true), .mv 119 (.t 12), none, 119⟩,
 ⟨some (118, true), .bin 120 .eql (.t 119) (.i 71), none, 120⟩,
 ⟨none, .pick 121 (.t 118) (.t 120) (.b false), none, 0⟩,
 ⟨none, .mv 122 (.t 121), none, 0⟩,
 ⟨some (122, true), .ld 123 (.t 3) (some 3), none, 123⟩,
 ⟨some (122, true), .call 124 15 [(.t 123)], none, 124⟩,
 ⟨some (122, true), .len 125 false (.t 124), none, 125⟩,
 ⟨some (122, true), .bin 126 .eql (.t 125) (.i 1), none, 126⟩,
 ⟨none, .pick 127 (.t 122) (.t 126) (.b false), none, 0⟩,
 ⟨none, .mv 128 (.t 127), none, 0⟩,
 ⟨some (128, true), .ldR 129 13 0 (some 3), none, 129⟩,
 ⟨some (128, true), .call 130 15 [(.t 129)], none, 130⟩,
 ⟨some (128, true), .len 131 false (.t 130), none, 131⟩,
 ⟨some (128, true), .bin 132 .eql (.t 131) (.i 0), none, 132⟩,
 ⟨none, .pick 133 (.t 128) (.t 132) (.b false), none, 0⟩,
 ⟨none, .mv 134 (.t 133), none, 0⟩,
 ⟨some (134, true), .nop, (some 13), 99999⟩,
 ⟨some (134, true), .ldR 136 13 1 none, none, 136⟩,
 ⟨some (134, true), .bin 137 .eql (.t 136) (.i 13), none, 137⟩,
 ⟨none, .pick 138 (.t 134) (.t 137) (.b false), none, 0⟩,
 ⟨none, .mv 139 (.t 138), none, 0⟩,
 ⟨some (139, true), .ldR 140 15 0 (some 3), none, 140⟩,
 ⟨some (139, true), .ld 141 (.t 3) (some 3), none, 141⟩,
 ⟨some (139, true), .call 142 17 [(.t 140), (.t 141)], none, 142⟩,
 ⟨none, .pick 143 (.t 139) (.t 142) (.b false), none, 0⟩,
 ⟨none, .mv 144 (.t 143), none, 0⟩,
 ⟨some (144, true), .mv 145 (.t 16), none, 145⟩,
 ⟨some (144, true), .bin 146 .eql (.t 145) (.i 0), none, 146⟩,
 ⟨none, .pick 147 (.t 144) (.t 146) (.b false), none, 0⟩,
 ⟨none, .mv 148 (.t 147), none, 0⟩,
 ⟨some (148, true), .mv 149 (.t 18), none, 149⟩,
 ⟨some (148, true), .bin 150 .eql (.t 149) (.i 90), none, 150⟩,
 ⟨none, .pick 151 (.t 148) (.t 150) (.b false), none, 0⟩,
 ⟨none, .mv 152 (.t 151), none, 0⟩,
 ⟨some (152, true), .ld 153 (.t 3) (some 3), none, 153⟩,
 ⟨some (152, true), .call 154 10 [(.t 153)], none, 154⟩,
 ⟨some (152, true), .bin 155 .eql (.t 154) (.i 0), none, 155⟩,
 ⟨none, .pick 156 (.t 152) (.t 155) (.b false), none, 0⟩,
 ⟨none, .mv 157 (.t 156), none, 0⟩,
 ⟨some (157, true), .bld 158 [(.int .i64 0), (.int .i64 0), (.slice none 0 0)] [], none, 158⟩,
 ⟨some (157, true), .call 159 10 [(.t 158)], none, 159⟩,
 ⟨some (157, true), .bin 160 .eql (.t 159) (.i 1), none, 160⟩,
 ⟨none, .pick 161 (.t 157) (.t 160) (.b false), none, 0⟩,
 ⟨none, .mv 0 (.t 161), none, 0⟩]
def c6 : SC :=
 (.seq (.reg false c6r0)
 (.seq (.reg false c6r1)
 (.seq (.rgZ c6r2)
 (.seq (.reg false c6r3)
 (.seq (.reg false c6r4)
 (.seq (.reg false c6r5)
 (.seq (.rgZ c6r6)
 (.seq (.reg false c6r7)
 (.seq (.reg false c6r8)
 (.seq (.reg false c6r9)
 (.seq (.seq (.reg false c6r10)
 (.cond (.t 87)
  (.seq (.reg false c6r11)
  .ret)
  .skip))
 (.seq (.reg false c6r12)
 .ret))))))))))))
def v6 : List Nat × List Nat := ([1, 5, 13, 15, 17], [1, 5, 13, 15, 17, 135])
def o6 : List RS := [.t 0]
theorem q6 : slimR Tryz.prog Tryz.f6.ntmps v6.1 v6.2 Tryz.f6.results.toList = some o6 := by kernel_rfl
def c7r0 : List SI := [
 ⟨none, .bxR 2 (.t 0), none, 0⟩,
 ⟨none, .mv 4 (.b false), none, 0⟩]
def c7r1 : List SI := [
 ⟨none, .ldR 5 2 0 (some 3), none, 0⟩,
 ⟨none, .call 6 32 [(.t 5)], none, 0⟩,
 ⟨none, .mv 7 (.t 6), none, 0⟩,
 ⟨some (7, true), .mv 8 (.t 1), none, 8⟩,
 ⟨some (7, true), .call 9 33 [(.t 8), (.i 40)], none, 9⟩,
 ⟨none, .pick 10 (.t 7) (.t 9) (.b false), none, 0⟩,
 ⟨none, .mv 4 (.t 10), none, 0⟩]
def c7 : SC :=
 (.seq (.reg false c7r0)
 (.seq (.reg false c7r1)
 .ret))
def v7 : List Nat × List Nat := ([2], [2])
def o7 : List RS := [.t 4]
theorem q7 : slimR Tryz.prog Tryz.f7.ntmps v7.1 v7.2 Tryz.f7.results.toList = some o7 := by kernel_rfl
def c8r0 : List SI := [
 ⟨none, .alR 4 [(.int .i64 0), (.int .i64 0), (.slice none 0 0)], none, 0⟩,
 ⟨none, .mv 5 (.i 0), none, 0⟩]
def c8r1 : List SI := [
 ⟨none, .mv 6 (.t 0), none, 0⟩,
 ⟨none, .mv 7 (.t 1), none, 0⟩,
 ⟨none, .call 8 34 [(.t 6), (.t 7)], none, 0⟩,
 ⟨none, .un 9 .not (.t 8), none, 0⟩]
def c8r2 : List SI := [
 ⟨none, .bld 10 [(.int .i64 0), (.int .i64 0), (.slice none 0 0)] [], none, 0⟩,
 ⟨none, .stR 4 0 3 (.t 10), none, 0⟩,
 ⟨none, .mv 5 (.i 1), none, 0⟩]
def c8r3 : List SI := [
 ⟨none, .mv 11 (.t 0), none, 0⟩,
 ⟨none, .mv 12 (.t 1), none, 0⟩,
 ⟨none, .mv 13 (.t 1), none, 0⟩,
 ⟨none, .bld 14 [(.int .i64 0), (.slice none 0 0)] [(0, 1, (.t 13))], none, 0⟩,
 ⟨none, .bls 15 55 1 2 [(.int .i64 0), (.slice none 0 0)] [(0, 2, (.t 14))], none, 0⟩,
 ⟨none, .bld 16 [(.int .i64 0), (.int .i64 0), (.slice none 0 0)] [(0, 1, (.t 11)), (1, 1, (.t 12)), (2, 1, (.t 15))], none, 0⟩,
 ⟨none, .stR 4 0 3 (.t 16), none, 0⟩,
 ⟨none, .mv 5 (.i 0), none, 0⟩]
def c8 : SC :=
 (.seq (.reg false c8r0)
 (.seq (.seq (.reg false c8r1)
 (.cond (.t 9)
  (.seq (.reg false c8r2)
  .ret)
  .skip))
 (.seq (.reg false c8r3)
 .ret)))
def v8 : List Nat × List Nat := ([4], [4])
def o8 : List RS := [.r 4 (some 3), .t 5]
theorem q8 : slimR Tryz.prog Tryz.f8.ntmps v8.1 v8.2 Tryz.f8.results.toList = some o8 := by kernel_rfl
def c9r0 : List SI := [
 ⟨none, .alR 4 [(.int .i64 0), (.int .i64 0), (.slice none 0 0)], none, 0⟩,
 ⟨none, .mv 5 (.i 0), none, 0⟩]
def c9r1 : List SI := [
 ⟨none, .mv 6 (.t 0), none, 0⟩,
 ⟨none, .bin 7 .lss (.t 6) (.i 256), none, 0⟩,
 ⟨none, .mv 8 (.t 7), none, 0⟩,
 ⟨some (8, false), .mv 9 (.t 0), none, 9⟩,
 ⟨some (8, false), .bin 10 .gtr (.t 9) (.i 4096), none, 10⟩,
 ⟨none, .pick 11 (.t 8) (.b true) (.t 10), none, 0⟩,
 ⟨none, .mv 12 (.t 11), none, 0⟩,
 ⟨some (12, false), .mv 13 (.t 1), none, 13⟩,
 ⟨some (12, false), .call 14 35 [(.t 13)], none, 14⟩,
 ⟨some (12, false), .un 15 .not (.t 14), none, 15⟩,
 ⟨none, .pick 16 (.t 12) (.b true) (.t 15), none, 0⟩]
def c9r2 : List SI := [
 ⟨none, .bld 17 [(.int .i64 0), (.int .i64 0), (.slice none 0 0)] [], none, 0⟩,
 ⟨none, .stR 4 0 3 (.t 17), none, 0⟩,
 ⟨none, .mv 5 (.i 1), none, 0⟩]
def c9r3 : List SI := [
 ⟨none, .mv 18 (.t 0), none, 0⟩,
 ⟨none, .mv 19 (.t 1), none, 0⟩,
 ⟨none, .mv 20 (.t 1), none, 0⟩,
 ⟨none, .bld 21 [(.int .i64 0), (.slice none 0 0)] [(0, 1, (.t 20))], none, 0⟩,
 ⟨none, .bls 22 55 1 2 [(.int .i64 0), (.slice none 0 0)] [(0, 2, (.t 21))], none, 0⟩,
 ⟨none, .bld 23 [(.int .i64 0), (.int .i64 0), (.slice none 0 0)] [(0, 1, (.t 18)), (1, 1, (.t 19)), (2, 1, (.t 22))], none, 0⟩,
 ⟨none, .stR 4 0 3 (.t 23), none, 0⟩,
 ⟨none, .mv 5 (.i 0), none, 0⟩]
def c9 : SC :=
 (.seq (.reg false c9r0)
 (.seq (.seq (.reg false c9r1)
 (.cond (.t 16)
  (.seq (.reg false c9r2)
  .ret)
  .skip))
 (.seq (.reg false c9r3)
 .ret)))
def v9 : List Nat × List Nat := ([4], [4])
def o9 : List RS := [.r 4 (some 3), .t 5]
theorem q9 : slimR Tryz.prog Tryz.f9.ntmps v9.1 v9.2 Tryz.f9.results.toList = some o9 := by kernel_rfl
def c10r0 : List SI := [
 ⟨none, .bxR 1 (.t 0), none, 0⟩,
 ⟨none, .mv 2 (.i 0), none, 0⟩]
def c10r1 : List SI := [
 ⟨none, .nop, (some 1), 0⟩,
 ⟨none, .ldR 6 1 0 none, none, 0⟩,
 ⟨none, .nop, (some 1), 0⟩,
 ⟨none, .ldR 8 1 1 none, none, 0⟩,
 ⟨none, .call 9 34 [(.t 6), (.t 8)], none, 0⟩,
 ⟨none, .un 10 .not (.t 9), none, 0⟩,
 ⟨none, .mv 11 (.t 10), none, 0⟩,
 ⟨some (11, false), .nop, (some 1), 99999⟩,
 ⟨some (11, false), .ldR 13 1 2 none, none, 13⟩,
 ⟨some (11, false), .len 14 false (.t 13), none, 14⟩,
 ⟨some (11, false), .bin 15 .eql (.t 14) (.i 0), none, 15⟩,
 ⟨none, .pick 16 (.t 11) (.b true) (.t 15), none, 0⟩]
def c10r2 : List SI := [
 ⟨none, .mv 2 (.i 1), none, 0⟩]
def c10r3 : List SI := [
 ⟨none, .nop, (some 1), 0⟩,
 ⟨none, .ldR 18 1 2 none, none, 0⟩,
 ⟨none, .len 19 false (.t 18), none, 0⟩,
 ⟨none, .mv 20 (.i 0), none, 0⟩]
def c10r4 : List SI := [
 ⟨none, .bin 21 .lss (.t 20) (.t 19), none, 0⟩]
def c10r5 : List SI := [
 ⟨none, .mv 22 (.t 20), none, 0⟩,
 ⟨none, .ixA 23 (.t 18) (.t 20) 2, none, 0⟩,
 ⟨none, .ld 24 (.t 23) (some 2), none, 0⟩,
 ⟨none, .alR 4 [(.int .i64 0), (.slice none 0 0)], none, 0⟩,
 ⟨none, .mv 3 (.t 22), none, 0⟩,
 ⟨none, .stR 4 0 2 (.t 24), none, 0⟩]
def c10r6 : List (Bool × SI) := [
 (true, ⟨none, .nop, (some 4), 0⟩),
 (true, N_ (.ldR 26 4 1 none)),
 (true, N_ (.len 27 false (.t 26))),
 (true, ⟨none, .nop, (some 1), 0⟩),
 (true, N_ (.ldR 29 1 0 none)),
 (true, N_ (.bin 30 .gtr (.t 27) (.t 29))),
 (true, N_ (.mv 31 (.t 30))),
 (true, ⟨some (31, false), .ldR 32 4 0 (some 2), none, 32⟩),
 (false, ⟨some (31, false), .call 33 36 [(.t 32)], none, 33⟩),
 (true, ⟨some (31, false), .un 34 .not (.t 33), none, 34⟩),
 (true, N_ (.pick 35 (.t 31) (.b true) (.t 34))),
 (true, N_ (.mv 36 (.t 35))),
 (true, ⟨some (36, false), .mv 37 (.t 3), none, 37⟩),
 (true, ⟨some (36, false), .bin 38 .gtr (.t 37) (.i 0), none, 38⟩),
 (true, ⟨some (36, false), .mv 39 (.t 38), none, 39⟩),
 (true, ⟨some (39, true), .nop, (some 1), 99999⟩),
 (true, ⟨some (39, true), .ldR 41 1 2 none, none, 41⟩),
 (true, ⟨some (39, true), .mv 42 (.t 3), none, 42⟩),
 (true, ⟨some (39, true), .bin 43 .sub (.t 42) (.i 1), none, 43⟩),
 (true, ⟨some (39, true), .ixA 44 (.t 41) (.t 43) 2, none, 44⟩),
 (true, ⟨some (39, true), .ld 45 (.t 44) (some 2), none, 45⟩),
 (true, ⟨some (39, true), .ldR 46 4 0 (some 2), none, 46⟩),
 (false, ⟨some (39, true), .call 47 37 [(.t 45), (.t 46)], none, 47⟩),
 (true, ⟨some (39, true), .un 48 .not (.t 47), none, 48⟩),
 (true, ⟨some (36, false), .pick 49 (.t 39) (.t 48) (.b false), none, 49⟩),
 (true, N_ (.pick 50 (.t 36) (.b true) (.t 49)))]
def c10r7 : List SI := [
 ⟨none, .mv 2 (.i 1), none, 0⟩]
def c10r8 : List SI := [
 ⟨none, .bin 51 .add (.t 20) (.i 1), none, 0⟩,
 ⟨none, .mv 20 (.t 51), none, 0⟩]
def c10r9 : List SI := [
 ⟨none, .nop, (some 1), 0⟩,
 ⟨none, .ldR 53 1 2 none, none, 0⟩,
 ⟨none, .len 54 false (.t 53), none, 0⟩,
 ⟨none, .bin 55 .gtr (.t 54) (.i 256), none, 0⟩]
def c10r10 : List SI := [
 ⟨none, .mv 2 (.i 2), none, 0⟩]
def c10r11 : List SI := [
 ⟨none, .mv 2 (.i 0), none, 0⟩]
def c10 : SC :=
 (.seq (.reg false c10r0)
 (.seq (.seq (.reg false c10r1)
 (.cond (.t 16)
  (.seq (.reg false c10r2)
  .ret)
  .skip))
 (.seq (.seq (.reg false c10r3)
 (.blk 0 (.loop (.seq (.reg false c10r4)
   (.seq (.cond (.t 21)
    .skip
    (.exit 0))
   (.seq (.blk 1 (.seq (.reg false c10r5)
    (.seq (.rgX c10r6)
    (.cond (.t 50)
     (.seq (.reg false c10r7)
     .ret)
     .skip))))
   (.reg false c10r8)))))))
 (.seq (.seq (.reg false c10r9)
 (.cond (.t 55)
  (.seq (.reg false c10r10)
  .ret)
  .skip))
 (.seq (.reg false c10r11)
 .ret)))))
def v10 : List Nat × List Nat := ([1, 4], [1, 4, 5, 7, 12, 17, 25, 28, 40, 52])
def o10 : List RS := [.t 2]
theorem q10 : slimR Tryz.prog Tryz.f10.ntmps v10.1 v10.2 Tryz.f10.results.toList = some o10 := by kernel_rfl
def c11r0 : List SI := [
 ⟨none, .bxR 1 (.t 0), none, 0⟩,
 ⟨none, .mv 2 (.i 0), none, 0⟩]
def c11r1 : List SI := [
 ⟨none, .nop, (some 1), 0⟩,
 ⟨none, .ldR 5 1 0 none, none, 0⟩,
 ⟨none, .bin 6 .lss (.t 5) (.i 256), none, 0⟩,
 ⟨none, .mv 7 (.t 6), none, 0⟩,
 ⟨some (7, false), .nop, (some 1), 99999⟩,
 ⟨some (7, false), .ldR 9 1 0 none, none, 9⟩,
 ⟨some (7, false), .bin 10 .gtr (.t 9) (.i 4096), none, 10⟩,
 ⟨none, .pick 11 (.t 7) (.b true) (.t 10), none, 0⟩,
 ⟨none, .mv 12 (.t 11), none, 0⟩,
 ⟨some (12, false), .nop, (some 1), 99999⟩,
 ⟨some (12, false), .ldR 14 1 1 none, none, 14⟩,
 ⟨some (12, false), .call 15 35 [(.t 14)], none, 15⟩,
 ⟨some (12, false), .un 16 .not (.t 15), none, 16⟩,
 ⟨none, .pick 17 (.t 12) (.b true) (.t 16), none, 0⟩,
 ⟨none, .mv 18 (.t 17), none, 0⟩,
 ⟨some (18, false), .nop, (some 1), 99999⟩,
 ⟨some (18, false), .ldR 20 1 2 none, none, 20⟩,
 ⟨some (18, false), .len 21 false (.t 20), none, 21⟩,
 ⟨some (18, false), .bin 22 .eql (.t 21) (.i 0), none, 22⟩,
 ⟨none, .pick 23 (.t 18) (.b true) (.t 22), none, 0⟩]
def c11r2 : List SI := [
 ⟨none, .mv 2 (.i 1), none, 0⟩]
def c11r3 : List SI := [
 ⟨none, .mv 3 (.i 0), none, 0⟩]
def c11r4 : List SI := [
 ⟨none, .mv 24 (.t 3), none, 0⟩,
 ⟨none, .nop, (some 1), 0⟩,
 ⟨none, .ldR 26 1 2 none, none, 0⟩,
 ⟨none, .len 27 false (.t 26), none, 0⟩,
 ⟨none, .bin 28 .lss (.t 24) (.t 27), none, 0⟩]
def c11r5 : List (Bool × SI) := [
 (true, ⟨none, .nop, (some 1), 0⟩),
 (true, N_ (.ldR 32 1 2 none)),
 (true, N_ (.mv 33 (.t 3))),
 (true, N_ (.ixA 34 (.t 32) (.t 33) 2)),
 (true, N_ (.ld 35 (.t 34) (some 2))),
 (false, N_ (.call 36 38 [(.t 35)])),
 (true, N_ (.un 37 .not (.t 36))),
 (true, N_ (.mv 38 (.t 37))),
 (true, ⟨some (38, false), .nop, (some 1), 99999⟩),
 (true, ⟨some (38, false), .ldR 40 1 2 none, none, 40⟩),
 (true, ⟨some (38, false), .mv 41 (.t 3), none, 41⟩),
 (true, ⟨some (38, false), .ixA 42 (.t 40) (.t 41) 2, none, 42⟩),
 (true, ⟨some (38, false), .flA 43 (.t 42) 1, none, 43⟩),
 (true, ⟨some (38, false), .ld 44 (.t 43) none, none, 44⟩),
 (true, ⟨some (38, false), .len 45 false (.t 44), none, 45⟩),
 (true, ⟨some (38, false), .nop, (some 1), 99999⟩),
 (true, ⟨some (38, false), .ldR 47 1 0 none, none, 47⟩),
 (true, ⟨some (38, false), .bin 48 .gtr (.t 45) (.t 47), none, 48⟩),
 (true, N_ (.pick 49 (.t 38) (.b true) (.t 48))),
 (true, N_ (.mv 50 (.t 49))),
 (true, ⟨some (50, false), .mv 51 (.t 3), none, 51⟩),
 (true, ⟨some (50, false), .bin 52 .gtr (.t 51) (.i 0), none, 52⟩),
 (true, ⟨some (50, false), .mv 53 (.t 52), none, 53⟩),
 (true, ⟨some (53, true), .nop, (some 1), 99999⟩),
 (true, ⟨some (53, true), .ldR 55 1 2 none, none, 55⟩),
 (true, ⟨some (53, true), .mv 56 (.t 3), none, 56⟩),
 (true, ⟨some (53, true), .bin 57 .sub (.t 56) (.i 1), none, 57⟩),
 (true, ⟨some (53, true), .ixA 58 (.t 55) (.t 57) 2, none, 58⟩),
 (true, ⟨some (53, true), .ld 59 (.t 58) (some 2), none, 59⟩),
 (true, ⟨some (53, true), .nop, (some 1), 99999⟩),
 (true, ⟨some (53, true), .ldR 61 1 2 none, none, 61⟩),
 (true, ⟨some (53, true), .mv 62 (.t 3), none, 62⟩),
 (true, ⟨some (53, true), .ixA 63 (.t 61) (.t 62) 2, none, 63⟩),
 (true, ⟨some (53, true), .ld 64 (.t 63) (some 2), none, 64⟩),
 (false, ⟨some (53, true), .call 65 39 [(.t 59), (.t 64)], none, 65⟩),
 (true, ⟨some (53, true), .un 66 .not (.t 65), none, 66⟩),
 (true, ⟨some (50, false), .pick 67 (.t 53) (.t 66) (.b false), none, 67⟩),
 (true, N_ (.pick 68 (.t 50) (.b true) (.t 67)))]
def c11r6 : List SI := [
 ⟨none, .mv 2 (.i 1), none, 0⟩]
def c11r7 : List SI := [
 ⟨none, .mv 29 (.t 3), none, 0⟩,
 ⟨none, .bin 30 .add (.t 29) (.i 1), none, 0⟩,
 ⟨none, .mv 3 (.t 30), none, 0⟩]
def c11r8 : List SI := [
 ⟨none, .nop, (some 1), 0⟩,
 ⟨none, .ldR 70 1 2 none, none, 0⟩,
 ⟨none, .len 71 false (.t 70), none, 0⟩,
 ⟨none, .bin 72 .gtr (.t 71) (.i 256), none, 0⟩]
def c11r9 : List SI := [
 ⟨none, .mv 2 (.i 2), none, 0⟩]
def c11r10 : List SI := [
 ⟨none, .mv 2 (.i 0), none, 0⟩]
def c11 : SC :=
 (.seq (.reg false c11r0)
 (.seq (.seq (.reg false c11r1)
 (.cond (.t 23)
  (.seq (.reg false c11r2)
  .ret)
  .skip))
 (.seq (.seq (.reg false c11r3)
 (.blk 0 (.loop (.seq (.seq (.reg false c11r4)
   (.cond (.t 28)
    .skip
    (.exit 0)))
   (.seq (.blk 1 (.seq (.rgX c11r5)
    (.cond (.t 68)
     (.seq (.reg false c11r6)
     .ret)
     .skip)))
   (.reg false c11r7))))))
 (.seq (.seq (.reg false c11r8)
 (.cond (.t 72)
  (.seq (.reg false c11r9)
  .ret)
  .skip))
 (.seq (.reg false c11r10)
 .ret)))))
def v11 : List Nat × List Nat := ([1], [1, 4, 8, 13, 19, 25, 31, 39, 46, 54, 60, 69])
def o11 : List RS := [.t 2]
def c12r0 : List SI := [
 ⟨none, .bxR 1 (.t 0), none, 0⟩,
 ⟨none, .mv 2 (.i 0), none, 0⟩]
def c12r1 : List SI := [
 ⟨none, .ldR 3 1 0 (some 3), none, 0⟩,
 ⟨none, .call 4 10 [(.t 3)], none, 0⟩,
 ⟨none, .bin 5 .neq (.t 4) (.i 0), none, 0⟩]
def c12r2 : List SI := [
 ⟨none, .mv 2 (.i 0), none, 0⟩]
def c12r3 : List SI := [
 ⟨none, .ldR 6 1 0 (some 3), none, 0⟩,
 ⟨none, .call 7 40 [(.t 6)], none, 0⟩,
 ⟨none, .mv 2 (.t 7), none, 0⟩]
def c12 : SC :=
 (.seq (.reg false c12r0)
 (.seq (.seq (.reg false c12r1)
 (.cond (.t 5)
  (.seq (.reg false c12r2)
  .ret)
  .skip))
 (.seq (.reg false c12r3)
 .ret)))
def v12 : List Nat × List Nat := ([1], [1])
def o12 : List RS := [.t 2]
def c13r0 : List SI := [
 ⟨none, .bxR 1 (.t 0), none, 0⟩,
 ⟨none, .mv 2 (.i 0), none, 0⟩]
def c13r1 : List SI := [
 ⟨none, .ldR 3 1 0 (some 3), none, 0⟩,
 ⟨none, .call 4 11 [(.t 3)], none, 0⟩,
 ⟨none, .bin 5 .neq (.t 4) (.i 0), none, 0⟩]
def c13r2 : List SI := [
 ⟨none, .mv 2 (.i 0), none, 0⟩]
def c13r3 : List SI := [
 ⟨none, .ldR 6 1 0 (some 3), none, 0⟩,
 ⟨none, .call 7 41 [(.t 6)], none, 0⟩,
 ⟨none, .mv 2 (.t 7), none, 0⟩]
def c13 : SC :=
 (.seq (.reg false c13r0)
 (.seq (.seq (.reg false c13r1)
 (.cond (.t 5)
  (.seq (.reg false c13r2)
  .ret)
  .skip))
 (.seq (.reg false c13r3)
 .ret)))
def v13 : List Nat × List Nat := ([1], [1])
def o13 : List RS := [.t 2]
theorem q13 : slimR Tryz.prog Tryz.f13.ntmps v13.1 v13.2 Tryz.f13.results.toList = some o13 := by kernel_rfl
def c14r0 : List SI := [
 ⟨none, .mv 4 (.b false), none, 0⟩]
def c14r1 : List SI := [
 ⟨none, .mv 6 (.t 0), none, 0⟩,
 ⟨none, .len 7 false (.t 6), none, 0⟩,
 ⟨none, .mv 8 (.t 1), none, 0⟩,
 ⟨none, .len 9 false (.t 8), none, 0⟩,
 ⟨none, .bin 10 .neq (.t 7) (.t 9), none, 0⟩]
def c14r2 : List SI := [
 ⟨none, .mv 4 (.b false), none, 0⟩]
def c14r3 : List SI := [
 ⟨none, .mv 11 (.t 0), none, 0⟩,
 ⟨none, .len 12 false (.t 11), none, 0⟩,
 ⟨none, .mv 13 (.i 0), none, 0⟩]
def c14r4 : List SI := [
 ⟨none, .bin 14 .lss (.t 13) (.t 12), none, 0⟩]
def c14r5 : List SI := [
 ⟨none, .mv 15 (.t 13), none, 0⟩,
 ⟨none, .mv 5 (.t 15), none, 0⟩]
def c14r6 : List (Bool × SI) := [
 (true, N_ (.mv 16 (.t 0))),
 (true, N_ (.mv 17 (.t 5))),
 (true, N_ (.ixA 18 (.t 16) (.t 17) 10)),
 (true, N_ (.ld 19 (.t 18) (some 10))),
 (true, N_ (.mv 20 (.t 1))),
 (true, N_ (.mv 21 (.t 5))),
 (true, N_ (.ixA 22 (.t 20) (.t 21) 10)),
 (true, N_ (.ld 23 (.t 22) (some 10))),
 (false, N_ (.call 24 42 [(.t 19), (.t 23)])),
 (true, N_ (.un 25 .not (.t 24)))]
def c14r7 : List SI := [
 ⟨none, .mv 4 (.b false), none, 0⟩]
def c14r8 : List SI := [
 ⟨none, .bin 26 .add (.t 13) (.i 1), none, 0⟩,
 ⟨none, .mv 13 (.t 26), none, 0⟩]
def c14r9 : List SI := [
 ⟨none, .mv 4 (.b true), none, 0⟩]
def c14 : SC :=
 (.seq (.reg false c14r0)
 (.seq (.seq (.reg false c14r1)
 (.cond (.t 10)
  (.seq (.reg false c14r2)
  .ret)
  .skip))
 (.seq (.seq (.reg false c14r3)
 (.blk 0 (.loop (.seq (.reg false c14r4)
   (.seq (.cond (.t 14)
    .skip
    (.exit 0))
   (.seq (.blk 1 (.seq (.reg false c14r5)
    (.seq (.rgX c14r6)
    (.cond (.t 25)
     (.seq (.reg false c14r7)
     .ret)
     .skip))))
   (.reg false c14r8)))))))
 (.seq (.reg false c14r9)
 .ret))))
def v14 : List Nat × List Nat := ([], [])
def o14 : List RS := [.t 4]
def c15r0 : List SI := [
 ⟨none, .bxR 1 (.t 0), none, 0⟩,
 ⟨none, .mv 2 (.v (.slice none 0 0)), none, 0⟩]
def c15r1 : List SI := [
 ⟨none, .ldR 3 1 0 (some 3), none, 0⟩,
 ⟨none, .call 4 10 [(.t 3)], none, 0⟩,
 ⟨none, .bin 5 .neq (.t 4) (.i 0), none, 0⟩]
def c15r2 : List SI := [
 ⟨none, .mv 2 (.v (.slice none 0 0)), none, 0⟩]
def c15r3 : List SI := [
 ⟨none, .ldR 6 1 0 (some 3), none, 0⟩,
 ⟨none, .nop, (some 1), 0⟩,
 ⟨none, .ldR 8 1 1 none, none, 0⟩,
 ⟨none, .call 9 44 [(.t 6), (.t 8)], none, 0⟩,
 ⟨none, .call 10 43 [(.t 9)], none, 0⟩,
 ⟨none, .mv 2 (.t 10), none, 0⟩]
def c15 : SC :=
 (.seq (.reg false c15r0)
 (.seq (.seq (.reg false c15r1)
 (.cond (.t 5)
  (.seq (.reg false c15r2)
  .ret)
  .skip))
 (.seq (.reg false c15r3)
 .ret)))
def v15 : List Nat × List Nat := ([1], [1, 7])
def o15 : List RS := [.t 2]
def c17r0 : List SI := [
 ⟨none, .bxR 2 (.t 0), none, 0⟩,
 ⟨none, .bxR 3 (.t 1), none, 0⟩,
 ⟨none, .mv 4 (.b false), none, 0⟩]
def c17r1 : List SI := [
 ⟨none, .nop, (some 2), 0⟩,
 ⟨none, .ldR 7 2 0 none, none, 0⟩,
 ⟨none, .nop, (some 3), 0⟩,
 ⟨none, .ldR 9 3 0 none, none, 0⟩,
 ⟨none, .bin 10 .neq (.t 7) (.t 9), none, 0⟩,
 ⟨none, .mv 11 (.t 10), none, 0⟩,
 ⟨some (11, false), .nop, (some 2), 99999⟩,
 ⟨some (11, false), .ldR 13 2 1 none, none, 13⟩,
 ⟨some (11, false), .nop, (some 3), 99999⟩,
 ⟨some (11, false), .ldR 15 3 1 none, none, 15⟩,
 ⟨some (11, false), .bin 16 .neq (.t 13) (.t 15), none, 16⟩,
 ⟨none, .pick 17 (.t 11) (.b true) (.t 16), none, 0⟩,
 ⟨none, .mv 18 (.t 17), none, 0⟩,
 ⟨some (18, false), .nop, (some 2), 99999⟩,
 ⟨some (18, false), .ldR 20 2 2 none, none, 20⟩,
 ⟨some (18, false), .len 21 false (.t 20), none, 21⟩,
 ⟨some (18, false), .nop, (some 3), 99999⟩,
 ⟨some (18, false), .ldR 23 3 2 none, none, 23⟩,
 ⟨some (18, false), .len 24 false (.t 23), none, 24⟩,
 ⟨some (18, false), .bin 25 .neq (.t 21) (.t 24), none, 25⟩,
 ⟨none, .pick 26 (.t 18) (.b true) (.t 25), none, 0⟩]
def c17r2 : List SI := [
 ⟨none, .mv 4 (.b false), none, 0⟩]
def c17r3 : List SI := [
 ⟨none, .mv 5 (.i 0), none, 0⟩]
def c17r4 : List SI := [
 ⟨none, .mv 27 (.t 5), none, 0⟩,
 ⟨none, .nop, (some 2), 0⟩,
 ⟨none, .ldR 29 2 2 none, none, 0⟩,
 ⟨none, .len 30 false (.t 29), none, 0⟩,
 ⟨none, .bin 31 .lss (.t 27) (.t 30), none, 0⟩]
def c17r5 : List (Bool × SI) := [
 (true, ⟨none, .nop, (some 2), 0⟩),
 (true, N_ (.ldR 35 2 2 none)),
 (true, N_ (.mv 36 (.t 5))),
 (true, N_ (.ixA 37 (.t 35) (.t 36) 2)),
 (true, N_ (.ld 38 (.t 37) (some 2))),
 (true, ⟨none, .nop, (some 3), 0⟩),
 (true, N_ (.ldR 40 3 2 none)),
 (true, N_ (.mv 41 (.t 5))),
 (true, N_ (.ixA 42 (.t 40) (.t 41) 2)),
 (true, N_ (.ld 43 (.t 42) (some 2))),
 (false, N_ (.call 44 46 [(.t 38), (.t 43)])),
 (true, N_ (.un 45 .not (.t 44)))]
def c17r6 : List SI := [
 ⟨none, .mv 4 (.b false), none, 0⟩]
def c17r7 : List SI := [
 ⟨none, .mv 32 (.t 5), none, 0⟩,
 ⟨none, .bin 33 .add (.t 32) (.i 1), none, 0⟩,
 ⟨none, .mv 5 (.t 33), none, 0⟩]
def c17r8 : List SI := [
 ⟨none, .mv 4 (.b true), none, 0⟩]
def c17 : SC :=
 (.seq (.reg false c17r0)
 (.seq (.seq (.reg false c17r1)
 (.cond (.t 26)
  (.seq (.reg false c17r2)
  .ret)
  .skip))
 (.seq (.seq (.reg false c17r3)
 (.blk 0 (.loop (.seq (.seq (.reg false c17r4)
   (.cond (.t 31)
    .skip
    (.exit 0)))
   (.seq (.blk 1 (.seq (.rgX c17r5)
    (.cond (.t 45)
     (.seq (.reg false c17r6)
     .ret)
     .skip)))
   (.reg false c17r7))))))
 (.seq (.reg false c17r8)
 .ret))))
def v17 : List Nat × List Nat := ([2, 3], [2, 3, 6, 8, 12, 14, 19, 22, 28, 34, 39])
def o17 : List RS := [.t 4]
def c18r0 : List SI := [
 ⟨none, .bxR 1 (.t 0), none, 0⟩,
 ⟨none, .mv 2 (.b false), none, 0⟩]
def c18r1 : List SI := [
 ⟨none, .mv 3 (.i 0), none, 0⟩]
def c18r2 : List SI := [
 ⟨none, .nop, (some 1), 0⟩,
 ⟨none, .ldR 7 1 9 none, none, 0⟩,
 ⟨none, .len 8 false (.t 7), none, 0⟩,
 ⟨none, .mv 9 (.i 0), none, 0⟩]
def c18r3 : List SI := [
 ⟨none, .bin 10 .lss (.t 9) (.t 8), none, 0⟩]
def c18r4 : List SI := [
 ⟨none, .ixA 11 (.t 7) (.t 9) 5, none, 0⟩,
 ⟨none, .ld 12 (.t 11) (some 5), none, 0⟩,
 ⟨none, .alR 5 [(.int .i64 0), (.string ⟨#[]⟩), (.string ⟨#[]⟩), (.bool false), (.int .i64 0)], none, 0⟩,
 ⟨none, .stR 5 0 5 (.t 12), none, 0⟩]
def c18r5 : List SI := [
 ⟨none, .mv 13 (.t 3), none, 0⟩,
 ⟨none, .nop, (some 5), 0⟩,
 ⟨none, .ldR 15 5 1 none, none, 0⟩,
 ⟨none, .len 16 true (.t 15), none, 0⟩,
 ⟨none, .nop, (some 5), 0⟩,
 ⟨none, .ldR 18 5 2 none, none, 0⟩,
 ⟨none, .len 19 true (.t 18), none, 0⟩,
 ⟨none, .bin 20 .add (.t 16) (.t 19), none, 0⟩,
 ⟨none, .bin 21 .add (.t 13) (.t 20), none, 0⟩,
 ⟨none, .mv 3 (.t 21), none, 0⟩]
def c18r6 : List SI := [
 ⟨none, .mv 22 (.t 3), none, 0⟩,
 ⟨none, .bin 23 .gtr (.t 22) (.i 20000), none, 0⟩]
def c18r7 : List SI := [
 ⟨none, .mv 2 (.b false), none, 0⟩]
def c18r8 : List SI := [
 ⟨none, .bin 24 .add (.t 9) (.i 1), none, 0⟩,
 ⟨none, .mv 9 (.t 24), none, 0⟩]
def c18r9 : List SI := [
 ⟨none, .nop, (some 1), 0⟩,
 ⟨none, .ldR 26 1 9 none, none, 0⟩,
 ⟨none, .len 27 false (.t 26), none, 0⟩,
 ⟨none, .bin 28 .leq (.t 27) (.i 100), none, 0⟩,
 ⟨none, .mv 2 (.t 28), none, 0⟩]
def c18 : SC :=
 (.seq (.reg false c18r0)
 (.seq (.reg false c18r1)
 (.seq (.seq (.reg false c18r2)
 (.blk 0 (.loop (.seq (.reg false c18r3)
   (.seq (.cond (.t 10)
    .skip
    (.exit 0))
   (.seq (.blk 1 (.seq (.reg false c18r4)
    (.seq (.reg false c18r5)
    (.seq (.reg false c18r6)
    (.cond (.t 23)
     (.seq (.reg false c18r7)
     .ret)
     .skip)))))
   (.reg false c18r8)))))))
 (.seq (.reg false c18r9)
 .ret))))
def v18 : List Nat × List Nat := ([1, 5], [1, 5, 6, 14, 17, 25])
def o18 : List RS := [.t 2]
def c19r0 : List SI := [
 ⟨none, .bxR 2 (.t 0), none, 0⟩,
 ⟨none, .bxR 3 (.t 1), none, 0⟩,
 ⟨none, .alR 4 [(.int .i64 0), (.int .i64 0), (.slice none 0 0)], none, 0⟩,
 ⟨none, .mv 5 (.i 0), none, 0⟩]
def c19r1 : List SI := [
 ⟨none, .ldR 11 2 0 (some 3), none, 0⟩,
 ⟨none, .call 12 10 [(.t 11)], none, 0⟩,
 ⟨none, .mv 6 (.t 12), none, 0⟩]
def c19r2 : List SI := [
 ⟨none, .mv 13 (.t 6), none, 0⟩,
 ⟨none, .bin 14 .eql (.t 13) (.i 0), none, 0⟩]
def c19r3 : List SI := [
 ⟨none, .ldR 15 3 0 (some 10), none, 0⟩,
 ⟨none, .call 16 47 [(.t 15)], none, 0⟩,
 ⟨none, .mv 6 (.t 16), none, 0⟩]
def c19r4 : List SI := [
 ⟨none, .mv 18 (.t 6), none, 0⟩,
 ⟨none, .bin 19 .neq (.t 18) (.i 0), none, 0⟩,
 ⟨none, .mv 17 (.t 19), none, 0⟩]
def c19r5 : List SI := [
 ⟨none, .bld 20 [(.int .i64 0), (.int .i64 0), (.slice none 0 0)] [], none, 0⟩,
 ⟨none, .mv 21 (.t 6), none, 0⟩,
 ⟨none, .stR 4 0 3 (.t 20), none, 0⟩,
 ⟨none, .mv 5 (.t 21), none, 0⟩]
def c19r6 : List (Bool × SI) := [
 (true, ⟨none, .nop, (some 3), 0⟩),
 (true, N_ (.ldR 24 3 0 none)),
 (true, N_ (.ldR 25 2 0 (some 3))),
 (false, N_ (.call 26 40 [(.t 25)])),
 (true, N_ (.bin 27 .lss (.t 24) (.t 26))),
 (true, N_ (.mv 22 (.t 27)))]
def c19r7 : List SI := [
 ⟨none, .bld 28 [(.int .i64 0), (.int .i64 0), (.slice none 0 0)] [], none, 0⟩,
 ⟨none, .stR 4 0 3 (.t 28), none, 0⟩,
 ⟨none, .mv 5 (.i 71), none, 0⟩]
def c19r8 : List (Bool × SI) := [
 (true, N_ (.ldR 30 3 0 (some 10))),
 (true, ⟨none, .nop, (some 2), 0⟩),
 (true, N_ (.ldR 33 2 0 none)),
 (false, N_ (.call 31 48 [(.t 30)])),
 (true, N_ (.bin 34 .gtr (.t 31) (.t 33))),
 (true, N_ (.mv 29 (.t 34)))]
def c19r9 : List SI := [
 ⟨none, .bld 35 [(.int .i64 0), (.int .i64 0), (.slice none 0 0)] [], none, 0⟩,
 ⟨none, .stR 4 0 3 (.t 35), none, 0⟩,
 ⟨none, .mv 5 (.i 70), none, 0⟩]
def c19r10 : List SI := [
 ⟨none, .ldR 36 2 0 (some 3), none, 0⟩,
 ⟨none, .call 37 49 [(.t 36)], none, 0⟩,
 ⟨none, .mv 7 (.t 37), none, 0⟩]
def c19r11 : RX := .br [(true, ⟨none, .nop, (some 2), 0⟩),
 (true, N_ (.ldR 40 2 2 none)),
 (true, N_ (.mv 41 (.t 7))),
 (true, N_ (.ixA 42 (.t 40) (.t 41) 2)),
 (true, N_ (.ld 43 (.t 42) (some 2))),
 (true, N_ (.ldR 44 3 0 (some 10))),
 (true, ⟨none, .nop, (some 2), 0⟩),
 (true, N_ (.ldR 46 2 0 none))]
 ⟨none, .call 47 50 [(.t 43), (.t 44), (.t 46)], none, 0⟩
 (.leaf [(true, N_ (.mv 38 (.t 47))),
 (true, N_ (.ext 48 (.t 38) 0)),
 (true, N_ (.ext 49 (.t 38) 1)),
 (false, N_ (.al 8 [(.int .i64 0), (.slice none 0 0)])),
 (false, N_ (.st (.t 8) 2 (.t 48))),
 (true, N_ (.mv 9 (.t 49)))])
 ⟨none, .al 8 [(.int .i64 0), (.slice none 0 0)], none, 0⟩
 (.leaf [(false, N_ (.call 47 50 [(.t 43), (.t 44), (.t 46)])),
 (true, N_ (.mv 38 (.t 47))),
 (true, N_ (.ext 48 (.t 38) 0)),
 (true, N_ (.ext 49 (.t 38) 1)),
 (false, N_ (.st (.t 8) 2 (.t 48))),
 (true, N_ (.mv 9 (.t 49)))])
def c19r12 : List SI := [
 ⟨none, .mv 50 (.t 9), none, 0⟩,
 ⟨none, .bin 51 .eql (.t 50) (.i 0), none, 0⟩]
def c19r13 : RX := .br [(true, N_ (.ldR 52 2 0 (some 3))),
 (true, ⟨none, .nop, (some 2), 0⟩),
 (true, N_ (.ldR 54 2 2 none)),
 (true, N_ (.mv 55 (.t 7))),
 (true, N_ (.sl 56 (.t 54) none (some (.t 55)) none 2)),
 (true, N_ (.ld 58 (.t 8) (some 2)))]
 ⟨none, .call 57 52 [(.t 56)], none, 0⟩
 (.leaf [(false, N_ (.bls 59 55 1 2 [(.int .i64 0), (.slice none 0 0)] [(0, 2, (.t 58))])),
 (false, N_ (.app 60 (.t 57) (.t 59) 55 2 32)),
 (false, N_ (.call 61 51 [(.t 52), (.t 60)])),
 (false, N_ (.stR 4 0 3 (.t 61))),
 (true, N_ (.mv 5 (.i 0)))])
 ⟨none, .bls 59 55 1 2 [(.int .i64 0), (.slice none 0 0)] [(0, 2, (.t 58))], none, 0⟩
 (.leaf [(false, N_ (.call 57 52 [(.t 56)])),
 (false, N_ (.app 60 (.t 57) (.t 59) 55 2 32)),
 (false, N_ (.call 61 51 [(.t 52), (.t 60)])),
 (false, N_ (.stR 4 0 3 (.t 61))),
 (true, N_ (.mv 5 (.i 0)))])
def c19r14 : List SI := [
 ⟨none, .nop, (some 2), 0⟩,
 ⟨none, .ldR 63 2 2 none, none, 0⟩,
 ⟨none, .len 64 false (.t 63), none, 0⟩,
 ⟨none, .bin 65 .eql (.t 64) (.i 256), none, 0⟩]
def c19r15 : List SI := [
 ⟨none, .bld 66 [(.int .i64 0), (.int .i64 0), (.slice none 0 0)] [], none, 0⟩,
 ⟨none, .stR 4 0 3 (.t 66), none, 0⟩,
 ⟨none, .mv 5 (.i 2), none, 0⟩]
def c19r16 : List SI := [
 ⟨none, .nop, (some 3), 0⟩,
 ⟨none, .ldR 69 3 0 none, none, 0⟩,
 ⟨none, .ldR 70 3 0 (some 10), none, 0⟩,
 ⟨none, .bls 71 39 1 10 [(.int .i64 0), (.int .i64 0), (.int .i64 0), (.int .i64 0), (.int .i64 0), (.int .i64 0), (.int .i64 0), (.bool false), (.int .i64 0), (.slice none 0 0)] [(0, 10, (.t 70))], none, 0⟩,
 ⟨none, .nop, (some 2), 0⟩,
 ⟨none, .ldR 73 2 0 none, none, 0⟩,
 ⟨none, .call 74 53 [(.t 69), (.t 71), (.t 73)], none, 0⟩,
 ⟨none, .mv 67 (.t 74), none, 0⟩,
 ⟨none, .ext 75 (.t 67) 0, none, 0⟩,
 ⟨none, .ext 76 (.t 67) 1, none, 0⟩,
 ⟨none, .alR 10 [(.int .i64 0), (.slice none 0 0)], none, 0⟩,
 ⟨none, .stR 10 0 2 (.t 75), none, 0⟩,
 ⟨none, .mv 6 (.t 76), none, 0⟩]
def c19r17 : List SI := [
 ⟨none, .mv 77 (.t 6), none, 0⟩,
 ⟨none, .bin 78 .neq (.t 77) (.i 0), none, 0⟩]
def c19r18 : List SI := [
 ⟨none, .bld 79 [(.int .i64 0), (.int .i64 0), (.slice none 0 0)] [], none, 0⟩,
 ⟨none, .mv 80 (.t 6), none, 0⟩,
 ⟨none, .stR 4 0 3 (.t 79), none, 0⟩,
 ⟨none, .mv 5 (.t 80), none, 0⟩]
def c19r19 : RX := .br [(true, N_ (.ldR 81 2 0 (some 3))),
 (true, ⟨none, .nop, (some 2), 0⟩),
 (true, N_ (.ldR 83 2 2 none)),
 (true, N_ (.ldR 85 10 0 (some 2)))]
 ⟨none, .call 84 52 [(.t 83)], none, 0⟩
 (.leaf [(false, N_ (.bls 86 55 1 2 [(.int .i64 0), (.slice none 0 0)] [(0, 2, (.t 85))])),
 (false, N_ (.app 87 (.t 84) (.t 86) 55 2 32)),
 (false, N_ (.call 88 51 [(.t 81), (.t 87)])),
 (false, N_ (.stR 4 0 3 (.t 88))),
 (true, N_ (.mv 5 (.i 0)))])
 ⟨none, .bls 86 55 1 2 [(.int .i64 0), (.slice none 0 0)] [(0, 2, (.t 85))], none, 0⟩
 (.leaf [(false, N_ (.call 84 52 [(.t 83)])),
 (false, N_ (.app 87 (.t 84) (.t 86) 55 2 32)),
 (false, N_ (.call 88 51 [(.t 81), (.t 87)])),
 (false, N_ (.stR 4 0 3 (.t 88))),
 (true, N_ (.mv 5 (.i 0)))])
def c19 : SC :=
 (.seq (.reg false c19r0)
 (.seq (.reg false c19r1)
 (.seq (.seq (.reg false c19r2)
 (.cond (.t 14)
  (.reg false c19r3)
  .skip))
 (.seq (.blk 0 (.seq (.reg false c19r4)
  (.cond (.t 17)
   (.seq (.reg false c19r5)
   .ret)
   (.seq (.rgX c19r6)
   (.cond (.t 22)
    (.seq (.reg false c19r7)
    .ret)
    (.seq (.rgX c19r8)
    (.cond (.t 29)
     (.seq (.reg false c19r9)
     .ret)
     .skip)))))))
 (.seq (.reg false c19r10)
 (.seq (.seq (.rgZ c19r11)
 (.seq (.reg false c19r12)
 (.cond (.t 51)
  (.seq (.rgZ c19r13)
  .ret)
  .skip)))
 (.seq (.seq (.reg false c19r14)
 (.cond (.t 65)
  (.seq (.reg false c19r15)
  .ret)
  .skip))
 (.seq (.reg false c19r16)
 (.seq (.seq (.reg false c19r17)
 (.cond (.t 78)
  (.seq (.reg false c19r18)
  .ret)
  .skip))
 (.seq (.rgZ c19r19)
 .ret))))))))))
def v19 : List Nat × List Nat := ([2, 3, 4, 10], [2, 3, 4, 10, 23, 32, 39, 45, 53, 62, 68, 72, 82])
def o19 : List RS := [.r 4 (some 3), .t 5]
def c21r0 : List SI := [
 ⟨none, .bx 2 (.t 0), none, 0⟩,
 ⟨none, .bx 3 (.t 1), none, 0⟩,
 ⟨none, .alR 4 [(.int .i64 0), (.int .i64 0), (.slice none 0 0)], none, 0⟩,
 ⟨none, .mv 5 (.i 0), none, 0⟩]
def c21r1 : List SI := [
 ⟨none, .ld 6 (.t 2) (some 3), none, 0⟩,
 ⟨none, .ld 7 (.t 3) none, none, 0⟩,
 ⟨none, .mkf 8 (.func 60) [(.t 2), (.t 3)], none, 0⟩,
 ⟨none, .call 9 59 [(.t 6), (.t 7), (.t 8)], none, 0⟩,
 ⟨none, .ext 10 (.t 9) 0, none, 0⟩,
 ⟨none, .ext 11 (.t 9) 1, none, 0⟩,
 ⟨none, .stR 4 0 3 (.t 10), none, 0⟩,
 ⟨none, .mv 5 (.t 11), none, 0⟩]
def c21 : SC :=
 (.seq (.reg false c21r0)
 (.seq (.reg false c21r1)
 .ret))
def v21 : List Nat × List Nat := ([4], [4])
def o21 : List RS := [.r 4 (some 3), .t 5]
def c23r0 : List SI := [
 ⟨none, .bx 2 (.t 0), none, 0⟩,
 ⟨none, .bx 3 (.t 1), none, 0⟩,
 ⟨none, .alR 4 [(.int .i64 0), (.int .i64 0), (.slice none 0 0)], none, 0⟩,
 ⟨none, .mv 5 (.i 0), none, 0⟩]
def c23r1 : List SI := [
 ⟨none, .ld 6 (.t 3) none, none, 0⟩,
 ⟨none, .call 7 64 [(.t 6)], none, 0⟩,
 ⟨none, .un 8 .not (.t 7), none, 0⟩,
 ⟨none, .mv 9 (.t 8), none, 0⟩,
 ⟨some (9, true), .ld 10 (.t 2) (some 3), none, 10⟩,
 ⟨some (9, true), .call 11 10 [(.t 10)], none, 11⟩,
 ⟨some (9, true), .bin 12 .eql (.t 11) (.i 0), none, 12⟩,
 ⟨none, .pick 13 (.t 9) (.t 12) (.b false), none, 0⟩]
def c23r2 : List SI := [
 ⟨none, .bld 14 [(.int .i64 0), (.int .i64 0), (.slice none 0 0)] [], none, 0⟩,
 ⟨none, .stR 4 0 3 (.t 14), none, 0⟩,
 ⟨none, .mv 5 (.i 90), none, 0⟩]
def c23r3 : List SI := [
 ⟨none, .ld 15 (.t 2) (some 3), none, 0⟩,
 ⟨none, .ld 16 (.t 3) none, none, 0⟩,
 ⟨none, .mkf 17 (.func 65) [(.t 2), (.t 3)], none, 0⟩,
 ⟨none, .call 18 59 [(.t 15), (.t 16), (.t 17)], none, 0⟩,
 ⟨none, .ext 19 (.t 18) 0, none, 0⟩,
 ⟨none, .ext 20 (.t 18) 1, none, 0⟩,
 ⟨none, .stR 4 0 3 (.t 19), none, 0⟩,
 ⟨none, .mv 5 (.t 20), none, 0⟩]
def c23 : SC :=
 (.seq (.reg false c23r0)
 (.seq (.seq (.reg false c23r1)
 (.cond (.t 13)
  (.seq (.reg false c23r2)
  .ret)
  .skip))
 (.seq (.reg false c23r3)
 .ret)))
def v23 : List Nat × List Nat := ([4], [4])
def o23 : List RS := [.r 4 (some 3), .t 5]
def c25r0 : List SI := [
 ⟨none, .bxR 3 (.t 0), none, 0⟩,
 ⟨none, .alR 6 [(.int .i64 0), (.int .i64 0), (.slice none 0 0)], none, 0⟩,
 ⟨none, .mv 7 (.i 0), none, 0⟩]
def c25r1 : List SI := [
 ⟨none, .ldR 12 3 0 (some 3), none, 0⟩,
 ⟨none, .call 13 10 [(.t 12)], none, 0⟩,
 ⟨none, .mv 8 (.t 13), none, 0⟩]
def c25r2 : List SI := [
 ⟨none, .mv 14 (.t 8), none, 0⟩,
 ⟨none, .bin 15 .neq (.t 14) (.i 0), none, 0⟩]
def c25r3 : List SI := [
 ⟨none, .bld 16 [(.int .i64 0), (.int .i64 0), (.slice none 0 0)] [], none, 0⟩,
 ⟨none, .mv 17 (.t 8), none, 0⟩,
 ⟨none, .stR 6 0 3 (.t 16), none, 0⟩,
 ⟨none, .mv 7 (.t 17), none, 0⟩]
def c25r4 : List SI := [
 ⟨none, .mv 18 (.t 1), none, 0⟩,
 ⟨none, .bin 19 .lss (.t 18) (.i 0), none, 0⟩,
 ⟨none, .mv 20 (.t 19), none, 0⟩,
 ⟨some (20, false), .mv 21 (.t 1), none, 21⟩,
 ⟨some (20, false), .ldR 22 3 0 (some 3), none, 22⟩,
 ⟨some (20, false), .call 23 49 [(.t 22)], none, 23⟩,
 ⟨some (20, false), .bin 24 .geq (.t 21) (.t 23), none, 24⟩,
 ⟨none, .pick 25 (.t 20) (.b true) (.t 24), none, 0⟩]
def c25r5 : List SI := [
 ⟨none, .bld 26 [(.int .i64 0), (.int .i64 0), (.slice none 0 0)] [], none, 0⟩,
 ⟨none, .stR 6 0 3 (.t 26), none, 0⟩,
 ⟨none, .mv 7 (.i 90), none, 0⟩]
def c25r6 : RX := .br [(true, ⟨none, .nop, (some 3), 0⟩),
 (true, N_ (.ldR 29 3 2 none)),
 (true, N_ (.mv 30 (.t 1))),
 (true, N_ (.ixA 31 (.t 29) (.t 30) 2)),
 (true, N_ (.flA 32 (.t 31) 0)),
 (true, N_ (.ld 33 (.t 32) none)),
 (true, N_ (.mv 34 (.t 2))),
 (true, ⟨none, .nop, (some 3), 0⟩),
 (true, N_ (.ldR 36 3 0 none))]
 ⟨none, .call 37 53 [(.t 33), (.t 34), (.t 36)], none, 0⟩
 (.leaf [(true, N_ (.mv 27 (.t 37))),
 (true, N_ (.ext 38 (.t 27) 0)),
 (true, N_ (.ext 39 (.t 27) 1)),
 (false, N_ (.al 9 [(.int .i64 0), (.slice none 0 0)])),
 (false, N_ (.st (.t 9) 2 (.t 38))),
 (true, N_ (.mv 10 (.t 39)))])
 ⟨none, .al 9 [(.int .i64 0), (.slice none 0 0)], none, 0⟩
 (.leaf [(false, N_ (.call 37 53 [(.t 33), (.t 34), (.t 36)])),
 (true, N_ (.mv 27 (.t 37))),
 (true, N_ (.ext 38 (.t 27) 0)),
 (true, N_ (.ext 39 (.t 27) 1)),
 (false, N_ (.st (.t 9) 2 (.t 38))),
 (true, N_ (.mv 10 (.t 39)))])
def c25r7 : List (Bool × SI) := [
 (true, N_ (.mv 40 (.t 10))),
 (true, N_ (.bin 41 .eql (.t 40) (.i 0))),
 (true, N_ (.mv 42 (.t 41))),
 (true, ⟨some (42, true), .ld 43 (.t 9) (some 2), none, 43⟩),
 (true, ⟨some (42, true), .nop, (some 3), 99999⟩),
 (true, ⟨some (42, true), .ldR 46 3 2 none, none, 46⟩),
 (true, ⟨some (42, true), .mv 47 (.t 1), none, 47⟩),
 (true, ⟨some (42, true), .bin 48 .add (.t 47) (.i 1), none, 48⟩),
 (true, ⟨some (42, true), .ixA 49 (.t 46) (.t 48) 2, none, 49⟩),
 (true, ⟨some (42, true), .flA 50 (.t 49) 0, none, 50⟩),
 (true, ⟨some (42, true), .ld 51 (.t 50) none, none, 51⟩),
 (false, ⟨some (42, true), .call 44 68 [(.t 43)], none, 44⟩),
 (true, ⟨some (42, true), .bin 52 .gtr (.t 44) (.t 51), none, 52⟩),
 (true, N_ (.pick 53 (.t 42) (.t 52) (.b false)))]
def c25r8 : List SI := [
 ⟨none, .mv 10 (.i 71), none, 0⟩]
def c25r9 : List SI := [
 ⟨none, .mv 54 (.t 10), none, 0⟩,
 ⟨none, .bin 55 .neq (.t 54) (.i 0), none, 0⟩]
def c25r10 : List SI := [
 ⟨none, .bld 56 [(.int .i64 0), (.int .i64 0), (.slice none 0 0)] [], none, 0⟩,
 ⟨none, .mv 57 (.t 10), none, 0⟩,
 ⟨none, .stR 6 0 3 (.t 56), none, 0⟩,
 ⟨none, .mv 7 (.t 57), none, 0⟩]
def c25r11 : List SI := [
 ⟨none, .nop, (some 3), 0⟩,
 ⟨none, .ldR 59 3 2 none, none, 0⟩,
 ⟨none, .call 60 52 [(.t 59)], none, 0⟩,
 ⟨none, .mv 11 (.t 60), none, 0⟩]
def c25r12 : List SI := [
 ⟨none, .mv 61 (.t 11), none, 0⟩,
 ⟨none, .mv 62 (.t 1), none, 0⟩,
 ⟨none, .ld 63 (.t 9) (some 2), none, 0⟩,
 ⟨none, .ixA 64 (.t 61) (.t 62) 2, none, 0⟩,
 ⟨none, .st (.t 64) 2 (.t 63), none, 0⟩]
def c25r13 : List SI := [
 ⟨none, .ldR 65 3 0 (some 3), none, 0⟩,
 ⟨none, .mv 66 (.t 11), none, 0⟩,
 ⟨none, .call 67 51 [(.t 65), (.t 66)], none, 0⟩,
 ⟨none, .stR 6 0 3 (.t 67), none, 0⟩,
 ⟨none, .mv 7 (.i 0), none, 0⟩]
def c25 : SC :=
 (.seq (.reg false c25r0)
 (.seq (.seq (.reg false c25r1)
 (.seq (.reg false c25r2)
 (.cond (.t 15)
  (.seq (.reg false c25r3)
  .ret)
  .skip)))
 (.seq (.seq (.reg false c25r4)
 (.cond (.t 25)
  (.seq (.reg false c25r5)
  .ret)
  .skip))
 (.seq (.rgZ c25r6)
 (.seq (.seq (.rgX c25r7)
 (.cond (.t 53)
  (.reg false c25r8)
  .skip))
 (.seq (.seq (.reg false c25r9)
 (.cond (.t 55)
  (.seq (.reg false c25r10)
  .ret)
  .skip))
 (.seq (.reg false c25r11)
 (.seq (.reg false c25r12)
 (.seq (.reg false c25r13)
 .ret)))))))))
def v25 : List Nat × List Nat := ([3, 6], [3, 6, 28, 35, 45, 58])
def o25 : List RS := [.r 6 (some 3), .t 7]
def c27r0 : List SI := [
 ⟨none, .bx 3 (.t 0), none, 0⟩,
 ⟨none, .bx 5 (.t 2), none, 0⟩,
 ⟨none, .mv 6 (.v (.slice none 0 0)), none, 0⟩,
 ⟨none, .mv 7 (.i 0), none, 0⟩]
def c27r1 : List SI := [
 ⟨none, .ld 11 (.t 3) (some 3), none, 0⟩,
 ⟨none, .call 12 10 [(.t 11)], none, 0⟩,
 ⟨none, .mv 8 (.t 12), none, 0⟩]
def c27r2 : List SI := [
 ⟨none, .mv 13 (.t 8), none, 0⟩,
 ⟨none, .bin 14 .neq (.t 13) (.i 0), none, 0⟩]
def c27r3 : List SI := [
 ⟨none, .mv 15 (.t 8), none, 0⟩,
 ⟨none, .mv 6 (.v (.slice none 0 0)), none, 0⟩,
 ⟨none, .mv 7 (.t 15), none, 0⟩]
def c27r4 : List SI := [
 ⟨none, .ld 17 (.t 5) none, none, 0⟩,
 ⟨none, .bin 18 .lss (.t 17) (.i 0), none, 0⟩,
 ⟨none, .mv 16 (.t 18), none, 0⟩]
def c27r5 : List SI := [
 ⟨none, .mv 6 (.v (.slice none 0 0)), none, 0⟩,
 ⟨none, .mv 7 (.i 1), none, 0⟩]
def c27r6 : List SI := [
 ⟨none, .ld 20 (.t 3) (some 3), none, 0⟩,
 ⟨none, .mv 21 (.t 1), none, 0⟩,
 ⟨none, .call 22 70 [(.t 20), (.t 21)], none, 0⟩,
 ⟨none, .un 23 .not (.t 22), none, 0⟩,
 ⟨none, .mv 19 (.t 23), none, 0⟩]
def c27r7 : List SI := [
 ⟨none, .mv 6 (.v (.slice none 0 0)), none, 0⟩,
 ⟨none, .mv 7 (.i 90), none, 0⟩]
def c27r8 : List SI := [
 ⟨none, .al 9 [(.slice none 0 0)], none, 0⟩]
def c27r9 : List SI := [
 ⟨none, .ld 24 (.t 3) (some 3), none, 0⟩,
 ⟨none, .mv 25 (.t 1), none, 0⟩,
 ⟨none, .call 26 44 [(.t 24), (.t 25)], none, 0⟩]
def c27r10 : List SI := [
 ⟨none, .alR 10 [(.int .i64 0), (.int .i64 0), (.int .i64 0), (.int .i64 0), (.int .i64 0), (.int .i64 0), (.int .i64 0), (.bool false), (.int .i64 0), (.slice none 0 0)], none, 0⟩,
 ⟨none, .stR 10 0 10 (.t 27), none, 0⟩]
def c27r11 : List (Bool × SI) := [
 (true, N_ (.ld 28 (.t 5) none)),
 (true, N_ (.ldR 29 10 0 (some 10))),
 (false, N_ (.call 30 48 [(.t 29)])),
 (true, N_ (.bin 31 .sub (.t 28) (.t 30)))]
def c27r12 : List SI := [
 ⟨none, .st (.t 5) 1 (.t 31), none, 0⟩]
def c27r13 : List SI := [
 ⟨none, .ld 32 (.t 9) none, none, 0⟩,
 ⟨none, .len 33 false (.t 32), none, 0⟩,
 ⟨none, .bin 34 .gtr (.t 33) (.i 0), none, 0⟩,
 ⟨none, .mv 35 (.t 34), none, 0⟩,
 ⟨some (35, true), .ld 36 (.t 5) none, none, 36⟩,
 ⟨some (35, true), .bin 37 .lss (.t 36) (.i 0), none, 37⟩,
 ⟨none, .pick 38 (.t 35) (.t 37) (.b false), none, 0⟩]
def c27r14 : List SI := [
 ⟨none, .ld 39 (.t 9) none, none, 0⟩,
 ⟨none, .ldR 40 10 0 (some 10), none, 0⟩,
 ⟨none, .bls 41 39 1 10 [(.int .i64 0), (.int .i64 0), (.int .i64 0), (.int .i64 0), (.int .i64 0), (.int .i64 0), (.int .i64 0), (.bool false), (.int .i64 0), (.slice none 0 0)] [(0, 10, (.t 40))], none, 0⟩,
 ⟨none, .app 42 (.t 39) (.t 41) 39 10 96, none, 0⟩,
 ⟨none, .st (.t 9) 1 (.t 42), none, 0⟩]
def c27r15 : List SI := [
 ⟨none, .ld 43 (.t 9) none, none, 0⟩,
 ⟨none, .mv 6 (.t 43), none, 0⟩,
 ⟨none, .mv 7 (.i 0), none, 0⟩]
def c27 : SC :=
 (.seq (.reg false c27r0)
 (.seq (.seq (.reg false c27r1)
 (.seq (.reg false c27r2)
 (.cond (.t 14)
  (.seq (.reg false c27r3)
  .ret)
  .skip)))
 (.seq (.blk 0 (.seq (.reg false c27r4)
  (.cond (.t 16)
   (.seq (.reg false c27r5)
   .ret)
   (.seq (.reg false c27r6)
   (.cond (.t 19)
    (.seq (.reg false c27r7)
    .ret)
    .skip)))))
 (.seq (.reg false c27r8)
 (.seq (.seq (.reg false c27r9)
 (.blk 1 (.rf (.t 26) [27] (.reg false c27r10)
   (.blk 2 (.seq (.rgY c27r11 c27r12)
    (.seq (.seq (.reg false c27r13)
    (.cond (.t 38)
     (.exit 1)
     .skip))
    (.reg false c27r14)))))))
 (.seq (.reg false c27r15)
 .ret))))))
def v27 : List Nat × List Nat := ([10], [10])
def o27 : List RS := [.t 6, .t 7]
def c28r0 : List SI := [
 ⟨none, .bxR 3 (.t 0), none, 0⟩,
 ⟨none, .mv 6 (.v (.slice none 0 0)), none, 0⟩,
 ⟨none, .mv 7 (.i 0), none, 0⟩]
def c28r1 : List SI := [
 ⟨none, .ldR 13 3 0 (some 3), none, 0⟩,
 ⟨none, .call 14 11 [(.t 13)], none, 0⟩,
 ⟨none, .mv 8 (.t 14), none, 0⟩]
def c28r2 : List SI := [
 ⟨none, .mv 15 (.t 8), none, 0⟩,
 ⟨none, .bin 16 .neq (.t 15) (.i 0), none, 0⟩]
def c28r3 : List SI := [
 ⟨none, .mv 17 (.t 8), none, 0⟩,
 ⟨none, .mv 6 (.v (.slice none 0 0)), none, 0⟩,
 ⟨none, .mv 7 (.t 17), none, 0⟩]
def c28r4 : List SI := [
 ⟨none, .mv 18 (.t 2), none, 0⟩,
 ⟨none, .bin 19 .lss (.t 18) (.i 0), none, 0⟩]
def c28r5 : List SI := [
 ⟨none, .mv 6 (.v (.slice none 0 0)), none, 0⟩,
 ⟨none, .mv 7 (.i 1), none, 0⟩]
def c28r6 : List SI := [
 ⟨none, .mv 20 (.t 1), none, 0⟩,
 ⟨none, .nop, (some 3), 0⟩,
 ⟨none, .ldR 22 3 1 none, none, 0⟩,
 ⟨none, .bin 23 .lss (.t 20) (.t 22), none, 0⟩,
 ⟨none, .mv 24 (.t 23), none, 0⟩,
 ⟨some (24, false), .mv 25 (.t 1), none, 25⟩,
 ⟨some (24, false), .ldR 26 3 0 (some 3), none, 26⟩,
 ⟨some (24, false), .call 27 41 [(.t 26)], none, 27⟩,
 ⟨some (24, false), .bin 28 .gtr (.t 25) (.t 27), none, 28⟩,
 ⟨none, .pick 29 (.t 24) (.b true) (.t 28), none, 0⟩]
def c28r7 : List SI := [
 ⟨none, .mv 6 (.v (.slice none 0 0)), none, 0⟩,
 ⟨none, .mv 7 (.i 90), none, 0⟩]
def c28r8 : List SI := [
 ⟨none, .ldR 30 3 0 (some 3), none, 0⟩,
 ⟨none, .call 31 45 [(.t 30)], none, 0⟩,
 ⟨none, .mv 9 (.t 31), none, 0⟩]
def c28r9 : List SI := [
 ⟨none, .mv 10 (.v (.slice none 0 0)), none, 0⟩]
def c28r10 : List SI := [
 ⟨none, .mv 11 (.i 0), none, 0⟩]
def c28r11 : List SI := [
 ⟨none, .mv 12 (.i 0), none, 0⟩]
def c28r12 : List SI := [
 ⟨none, .mv 32 (.t 12), none, 0⟩,
 ⟨none, .mv 33 (.t 9), none, 0⟩,
 ⟨none, .len 34 false (.t 33), none, 0⟩,
 ⟨none, .bin 35 .lss (.t 32) (.t 34), none, 0⟩]
def c28r13 : List SI := [
 ⟨none, .mv 38 (.t 9), none, 0⟩,
 ⟨none, .mv 39 (.t 12), none, 0⟩,
 ⟨none, .ixA 40 (.t 38) (.t 39) 10, none, 0⟩,
 ⟨none, .flA 41 (.t 40) 1, none, 0⟩,
 ⟨none, .ld 42 (.t 41) none, none, 0⟩,
 ⟨none, .mv 43 (.t 1), none, 0⟩,
 ⟨none, .bin 44 .lss (.t 42) (.t 43), none, 0⟩]
def c28r14 : List SI := [
 ⟨none, .mv 45 (.t 11), none, 0⟩,
 ⟨none, .mv 46 (.t 9), none, 0⟩,
 ⟨none, .mv 47 (.t 12), none, 0⟩,
 ⟨none, .ixA 48 (.t 46) (.t 47) 10, none, 0⟩,
 ⟨none, .ld 49 (.t 48) (some 10), none, 0⟩,
 ⟨none, .call 50 55 [(.t 49)], none, 0⟩,
 ⟨none, .bin 51 .add (.t 45) (.t 50), none, 0⟩,
 ⟨none, .mv 11 (.t 51), none, 0⟩]
def c28r15 : List SI := [
 ⟨none, .mv 52 (.t 10), none, 0⟩,
 ⟨none, .len 53 false (.t 52), none, 0⟩,
 ⟨none, .bin 54 .gtr (.t 53) (.i 0), none, 0⟩,
 ⟨none, .mv 55 (.t 54), none, 0⟩,
 ⟨some (55, true), .mv 56 (.t 11), none, 56⟩,
 ⟨some (55, true), .mv 57 (.t 2), none, 57⟩,
 ⟨some (55, true), .bin 58 .gtr (.t 56) (.t 57), none, 58⟩,
 ⟨none, .pick 59 (.t 55) (.t 58) (.b false), none, 0⟩]
def c28r16 : List SI := [
 ⟨none, .mv 60 (.t 10), none, 0⟩,
 ⟨none, .mv 6 (.t 60), none, 0⟩,
 ⟨none, .mv 7 (.i 0), none, 0⟩]
def c28r17 : List SI := [
 ⟨none, .mv 61 (.t 10), none, 0⟩,
 ⟨none, .mv 62 (.t 9), none, 0⟩,
 ⟨none, .mv 63 (.t 12), none, 0⟩,
 ⟨none, .ixA 64 (.t 62) (.t 63) 10, none, 0⟩,
 ⟨none, .ld 65 (.t 64) (some 10), none, 0⟩,
 ⟨none, .bls 66 39 1 10 [(.int .i64 0), (.int .i64 0), (.int .i64 0), (.int .i64 0), (.int .i64 0), (.int .i64 0), (.int .i64 0), (.bool false), (.int .i64 0), (.slice none 0 0)] [(0, 10, (.t 65))], none, 0⟩,
 ⟨none, .app 67 (.t 61) (.t 66) 39 10 96, none, 0⟩,
 ⟨none, .mv 10 (.t 67), none, 0⟩]
def c28r18 : List SI := [
 ⟨none, .mv 36 (.t 12), none, 0⟩,
 ⟨none, .bin 37 .add (.t 36) (.i 1), none, 0⟩,
 ⟨none, .mv 12 (.t 37), none, 0⟩]
def c28r19 : List SI := [
 ⟨none, .mv 68 (.t 10), none, 0⟩,
 ⟨none, .mv 6 (.t 68), none, 0⟩,
 ⟨none, .mv 7 (.i 0), none, 0⟩]
def c28 : SC :=
 (.seq (.reg false c28r0)
 (.seq (.reg false c28r1)
 (.seq (.seq (.reg false c28r2)
 (.cond (.t 16)
  (.seq (.reg false c28r3)
  .ret)
  .skip))
 (.seq (.seq (.reg false c28r4)
 (.cond (.t 19)
  (.seq (.reg false c28r5)
  .ret)
  .skip))
 (.seq (.seq (.reg false c28r6)
 (.cond (.t 29)
  (.seq (.reg false c28r7)
  .ret)
  .skip))
 (.seq (.reg false c28r8)
 (.seq (.reg false c28r9)
 (.seq (.reg false c28r10)
 (.seq (.seq (.reg false c28r11)
 (.blk 0 (.loop (.seq (.seq (.reg false c28r12)
   (.cond (.t 35)
    .skip
    (.exit 0)))
   (.seq (.blk 1 (.seq (.seq (.reg false c28r13)
    (.cond (.t 44)
     (.exit 1)
     .skip))
    (.seq (.reg false c28r14)
    (.seq (.seq (.reg false c28r15)
    (.cond (.t 59)
     (.seq (.reg false c28r16)
     .ret)
     .skip))
    (.reg false c28r17)))))
   (.reg false c28r18))))))
 (.seq (.reg false c28r19)
 .ret))))))))))
def v28 : List Nat × List Nat := ([3], [3, 21])
def o28 : List RS := [.t 6, .t 7]
def c29r0 : List SI := [
 ⟨none, .bxR 1 (.t 0), none, 0⟩,
 ⟨none, .alR 2 [(.int .i64 0), (.int .i64 0), (.slice none 0 0)], none, 0⟩,
 ⟨none, .mv 3 (.i 0), none, 0⟩]
def c29r1 : List SI := [
 ⟨none, .nop, (some 1), 0⟩,
 ⟨none, .ldR 9 1 0 none, none, 0⟩,
 ⟨none, .nop, (some 1), 0⟩,
 ⟨none, .ldR 11 1 1 none, none, 0⟩,
 ⟨none, .call 12 34 [(.t 9), (.t 11)], none, 0⟩,
 ⟨none, .un 13 .not (.t 12), none, 0⟩,
 ⟨none, .mv 14 (.t 13), none, 0⟩,
 ⟨some (14, false), .nop, (some 1), 99999⟩,
 ⟨some (14, false), .ldR 16 1 2 none, none, 16⟩,
 ⟨some (14, false), .len 17 false (.t 16), none, 17⟩,
 ⟨some (14, false), .bin 18 .eql (.t 17) (.i 0), none, 18⟩,
 ⟨none, .pick 19 (.t 14) (.b true) (.t 18), none, 0⟩,
 ⟨none, .mv 20 (.t 19), none, 0⟩,
 ⟨some (20, false), .nop, (some 1), 99999⟩,
 ⟨some (20, false), .ldR 22 1 2 none, none, 22⟩,
 ⟨some (20, false), .ixA 23 (.t 22) (.i 0) 2, none, 23⟩,
 ⟨some (20, false), .flA 24 (.t 23) 0, none, 24⟩,
 ⟨some (20, false), .ld 25 (.t 24) none, none, 25⟩,
 ⟨some (20, false), .call 26 64 [(.t 25)], none, 26⟩,
 ⟨some (20, false), .un 27 .not (.t 26), none, 27⟩,
 ⟨none, .pick 28 (.t 20) (.b true) (.t 27), none, 0⟩]
def c29r2 : List SI := [
 ⟨none, .bld 29 [(.int .i64 0), (.int .i64 0), (.slice none 0 0)] [], none, 0⟩,
 ⟨none, .stR 2 0 3 (.t 29), none, 0⟩,
 ⟨none, .mv 3 (.i 0), none, 0⟩]
def c29r3 : List SI := [
 ⟨none, .ldR 30 1 0 (some 3), none, 0⟩,
 ⟨none, .call 31 51 [(.t 30), (.v (.slice none 0 0))], none, 0⟩,
 ⟨none, .stR 2 0 3 (.t 31), none, 0⟩]
def c29r4 : List SI := [
 ⟨none, .nop, (some 1), 0⟩,
 ⟨none, .ldR 33 1 2 none, none, 0⟩,
 ⟨none, .len 34 false (.t 33), none, 0⟩,
 ⟨none, .mv 35 (.i 0), none, 0⟩]
def c29r5 : List SI := [
 ⟨none, .bin 36 .lss (.t 35) (.t 34), none, 0⟩]
def c29r6 : List SI := [
 ⟨none, .mv 37 (.t 35), none, 0⟩,
 ⟨none, .ixA 38 (.t 33) (.t 35) 2, none, 0⟩,
 ⟨none, .ld 39 (.t 38) (some 2), none, 0⟩,
 ⟨none, .alR 5 [(.int .i64 0), (.slice none 0 0)], none, 0⟩,
 ⟨none, .mv 4 (.t 37), none, 0⟩,
 ⟨none, .stR 5 0 2 (.t 39), none, 0⟩]
def c29r7 : List SI := [
 ⟨none, .mv 40 (.t 3), none, 0⟩,
 ⟨none, .nop, (some 5), 0⟩,
 ⟨none, .ldR 42 5 1 none, none, 0⟩,
 ⟨none, .len 43 false (.t 42), none, 0⟩,
 ⟨none, .bin 44 .add (.t 40) (.t 43), none, 0⟩,
 ⟨none, .mv 3 (.t 44), none, 0⟩]
def c29r8 : List (Bool × SI) := [
 (true, ⟨none, .nop, (some 2), 0⟩),
 (true, N_ (.ldR 46 2 2 none)),
 (true, N_ (.len 47 false (.t 46))),
 (true, N_ (.mv 48 (.t 4))),
 (true, N_ (.bin 49 .lss (.t 47) (.t 48))),
 (true, N_ (.mv 50 (.t 49))),
 (true, ⟨some (50, false), .mv 51 (.t 4), none, 51⟩),
 (true, ⟨some (50, false), .bin 52 .gtr (.t 51) (.i 0), none, 52⟩),
 (true, ⟨some (50, false), .mv 53 (.t 52), none, 53⟩),
 (true, ⟨some (53, true), .nop, (some 1), 99999⟩),
 (true, ⟨some (53, true), .ldR 55 1 2 none, none, 55⟩),
 (true, ⟨some (53, true), .mv 56 (.t 4), none, 56⟩),
 (true, ⟨some (53, true), .bin 57 .sub (.t 56) (.i 1), none, 57⟩),
 (true, ⟨some (53, true), .ixA 58 (.t 55) (.t 57) 2, none, 58⟩),
 (true, ⟨some (53, true), .ld 59 (.t 58) (some 2), none, 59⟩),
 (false, ⟨some (53, true), .call 60 36 [(.t 59)], none, 60⟩),
 (true, ⟨some (53, true), .un 61 .not (.t 60), none, 61⟩),
 (true, ⟨some (53, true), .mv 62 (.t 61), none, 62⟩),
 (true, ⟨some (62, false), .nop, (some 1), 99999⟩),
 (true, ⟨some (62, false), .ldR 64 1 2 none, none, 64⟩),
 (true, ⟨some (62, false), .mv 65 (.t 4), none, 65⟩),
 (true, ⟨some (62, false), .bin 66 .sub (.t 65) (.i 1), none, 66⟩),
 (true, ⟨some (62, false), .ixA 67 (.t 64) (.t 66) 2, none, 67⟩),
 (true, ⟨some (62, false), .ld 68 (.t 67) (some 2), none, 68⟩),
 (true, ⟨some (62, false), .ldR 69 5 0 (some 2), none, 69⟩),
 (false, ⟨some (62, false), .call 70 37 [(.t 68), (.t 69)], none, 70⟩),
 (true, ⟨some (62, false), .un 71 .not (.t 70), none, 71⟩),
 (true, ⟨some (53, true), .pick 72 (.t 62) (.b true) (.t 71), none, 72⟩),
 (true, ⟨some (50, false), .pick 73 (.t 53) (.t 72) (.b false), none, 73⟩),
 (true, N_ (.pick 74 (.t 50) (.b true) (.t 73)))]
def c29r9 : List SI := [
 ⟨none, .ldR 76 5 0 (some 2), none, 0⟩,
 ⟨none, .call 77 71 [(.t 76)], none, 0⟩,
 ⟨none, .mv 75 (.t 77), none, 0⟩,
 ⟨none, .ext 78 (.t 75) 0, none, 0⟩,
 ⟨none, .ext 79 (.t 75) 1, none, 0⟩,
 ⟨none, .alR 6 [(.int .i64 0), (.slice none 0 0)], none, 0⟩,
 ⟨none, .stR 6 0 2 (.t 78), none, 0⟩,
 ⟨none, .mv 7 (.t 79), none, 0⟩]
def c29r10 : List SI := [
 ⟨none, .mv 80 (.t 3), none, 0⟩,
 ⟨none, .nop, (some 6), 0⟩,
 ⟨none, .ldR 82 6 1 none, none, 0⟩,
 ⟨none, .len 83 false (.t 82), none, 0⟩,
 ⟨none, .bin 84 .sub (.t 80) (.t 83), none, 0⟩,
 ⟨none, .mv 3 (.t 84), none, 0⟩]
def c29r11 : List SI := [
 ⟨none, .nop, (some 2), 0⟩,
 ⟨none, .ldR 86 2 2 none, none, 0⟩,
 ⟨none, .ldR 87 6 0 (some 2), none, 0⟩,
 ⟨none, .bls 88 55 1 2 [(.int .i64 0), (.slice none 0 0)] [(0, 2, (.t 87))], none, 0⟩,
 ⟨none, .app 89 (.t 86) (.t 88) 55 2 32, none, 0⟩,
 ⟨none, .nop, (some 2), 0⟩,
 ⟨none, .stR 2 2 1 (.t 89), none, 0⟩]
def c29r12 : List SI := [
 ⟨none, .bin 91 .add (.t 35) (.i 1), none, 0⟩,
 ⟨none, .mv 35 (.t 91), none, 0⟩]
def c29r13 : List SI := [
 ⟨none, .ldR 92 2 0 (some 3), none, 0⟩,
 ⟨none, .mv 93 (.t 3), none, 0⟩,
 ⟨none, .stR 2 0 3 (.t 92), none, 0⟩,
 ⟨none, .mv 3 (.t 93), none, 0⟩]
def c29 : SC :=
 (.seq (.reg false c29r0)
 (.seq (.seq (.reg false c29r1)
 (.cond (.t 28)
  (.seq (.reg false c29r2)
  .ret)
  .skip))
 (.seq (.reg false c29r3)
 (.seq (.seq (.reg false c29r4)
 (.blk 0 (.loop (.seq (.reg false c29r5)
   (.seq (.cond (.t 36)
    .skip
    (.exit 0))
   (.seq (.blk 1 (.seq (.reg false c29r6)
    (.seq (.reg false c29r7)
    (.seq (.seq (.rgX c29r8)
    (.cond (.t 74)
     (.exit 1)
     .skip))
    (.seq (.reg false c29r9)
    (.seq (.reg false c29r10)
    (.reg false c29r11)))))))
   (.reg false c29r12)))))))
 (.seq (.reg false c29r13)
 .ret)))))
def v29 : List Nat × List Nat := ([1, 2, 5, 6], [1, 2, 5, 6, 8, 10, 15, 21, 32, 41, 45, 54, 63, 81, 85, 90])
def o29 : List RS := [.r 2 (some 3), .t 3]
def c30r0 : List SI := [
 ⟨none, .bxR 1 (.t 0), none, 0⟩,
 ⟨none, .alR 2 [(.int .i64 0), (.int .i64 0), (.slice none 0 0)], none, 0⟩,
 ⟨none, .mv 3 (.i 0), none, 0⟩]
def c30r1 : List SI := [
 ⟨none, .nop, (some 1), 0⟩,
 ⟨none, .ldR 11 1 0 none, none, 0⟩,
 ⟨none, .bin 12 .lss (.t 11) (.i 256), none, 0⟩,
 ⟨none, .mv 13 (.t 12), none, 0⟩,
 ⟨some (13, false), .nop, (some 1), 99999⟩,
 ⟨some (13, false), .ldR 15 1 0 none, none, 15⟩,
 ⟨some (13, false), .bin 16 .gtr (.t 15) (.i 4096), none, 16⟩,
 ⟨none, .pick 17 (.t 13) (.b true) (.t 16), none, 0⟩,
 ⟨none, .mv 18 (.t 17), none, 0⟩,
 ⟨some (18, false), .nop, (some 1), 99999⟩,
 ⟨some (18, false), .ldR 20 1 1 none, none, 20⟩,
 ⟨some (18, false), .call 21 35 [(.t 20)], none, 21⟩,
 ⟨some (18, false), .un 22 .not (.t 21), none, 22⟩,
 ⟨none, .pick 23 (.t 18) (.b true) (.t 22), none, 0⟩,
 ⟨none, .mv 24 (.t 23), none, 0⟩,
 ⟨some (24, false), .nop, (some 1), 99999⟩,
 ⟨some (24, false), .ldR 26 1 2 none, none, 26⟩,
 ⟨some (24, false), .len 27 false (.t 26), none, 27⟩,
 ⟨some (24, false), .bin 28 .eql (.t 27) (.i 0), none, 28⟩,
 ⟨none, .pick 29 (.t 24) (.b true) (.t 28), none, 0⟩,
 ⟨none, .mv 30 (.t 29), none, 0⟩,
 ⟨some (30, false), .nop, (some 1), 99999⟩,
 ⟨some (30, false), .ldR 32 1 2 none, none, 32⟩,
 ⟨some (30, false), .ixA 33 (.t 32) (.i 0) 2, none, 33⟩,
 ⟨some (30, false), .flA 34 (.t 33) 0, none, 34⟩,
 ⟨some (30, false), .ld 35 (.t 34) none, none, 35⟩,
 ⟨some (30, false), .call 36 35 [(.t 35)], none, 36⟩,
 ⟨some (30, false), .un 37 .not (.t 36), none, 37⟩,
 ⟨none, .pick 38 (.t 30) (.b true) (.t 37), none, 0⟩]
def c30r2 : List SI := [
 ⟨none, .bld 39 [(.int .i64 0), (.int .i64 0), (.slice none 0 0)] [], none, 0⟩,
 ⟨none, .stR 2 0 3 (.t 39), none, 0⟩,
 ⟨none, .mv 3 (.i 0), none, 0⟩]
def c30r3 : List SI := [
 ⟨none, .nop, (some 1), 0⟩,
 ⟨none, .ldR 41 1 0 none, none, 0⟩,
 ⟨none, .nop, (some 1), 0⟩,
 ⟨none, .ldR 43 1 1 none, none, 0⟩,
 ⟨none, .bld 44 [(.int .i64 0), (.int .i64 0), (.slice none 0 0)] [(0, 1, (.t 41)), (1, 1, (.t 43))], none, 0⟩,
 ⟨none, .alR 4 [(.int .i64 0), (.int .i64 0), (.slice none 0 0)], none, 0⟩,
 ⟨none, .stR 4 0 3 (.t 44), none, 0⟩]
def c30r4 : List SI := [
 ⟨none, .mv 5 (.i 0), none, 0⟩]
def c30r5 : List SI := [
 ⟨none, .mv 6 (.b true), none, 0⟩]
def c30r6 : List SI := [
 ⟨none, .mv 7 (.i 0), none, 0⟩]
def c30r7 : List SI := [
 ⟨none, .mv 45 (.t 7), none, 0⟩,
 ⟨none, .nop, (some 1), 0⟩,
 ⟨none, .ldR 47 1 2 none, none, 0⟩,
 ⟨none, .len 48 false (.t 47), none, 0⟩,
 ⟨none, .bin 49 .lss (.t 45) (.t 48), none, 0⟩]
def c30r8 : List (Bool × SI) := [
 (true, N_ (.mv 52 (.t 6))),
 (true, N_ (.mv 53 (.t 52))),
 (true, ⟨some (53, true), .mv 54 (.t 7), none, 54⟩),
 (true, ⟨some (53, true), .bin 55 .eql (.t 54) (.i 0), none, 55⟩),
 (true, ⟨some (53, true), .mv 56 (.t 55), none, 56⟩),
 (true, ⟨some (56, false), .nop, (some 1), 99999⟩),
 (true, ⟨some (56, false), .ldR 58 1 2 none, none, 58⟩),
 (true, ⟨some (56, false), .mv 59 (.t 7), none, 59⟩),
 (true, ⟨some (56, false), .bin 60 .sub (.t 59) (.i 1), none, 60⟩),
 (true, ⟨some (56, false), .ixA 61 (.t 58) (.t 60) 2, none, 61⟩),
 (true, ⟨some (56, false), .ld 62 (.t 61) (some 2), none, 62⟩),
 (true, ⟨some (56, false), .nop, (some 1), 99999⟩),
 (true, ⟨some (56, false), .ldR 64 1 2 none, none, 64⟩),
 (true, ⟨some (56, false), .mv 65 (.t 7), none, 65⟩),
 (true, ⟨some (56, false), .ixA 66 (.t 64) (.t 65) 2, none, 66⟩),
 (true, ⟨some (56, false), .ld 67 (.t 66) (some 2), none, 67⟩),
 (false, ⟨some (56, false), .call 68 39 [(.t 62), (.t 67)], none, 68⟩),
 (true, ⟨some (53, true), .pick 69 (.t 56) (.b true) (.t 68), none, 69⟩),
 (true, N_ (.pick 70 (.t 53) (.t 69) (.b false))),
 (true, N_ (.mv 6 (.t 70)))]
def c30r9 : List SI := [
 ⟨none, .mv 71 (.t 6), none, 0⟩,
 ⟨none, .un 72 .not (.t 71), none, 0⟩]
def c30r10 : List SI := [
 ⟨none, .mv 73 (.t 5), none, 0⟩,
 ⟨none, .nop, (some 1), 0⟩,
 ⟨none, .ldR 75 1 2 none, none, 0⟩,
 ⟨none, .mv 76 (.t 7), none, 0⟩,
 ⟨none, .ixA 77 (.t 75) (.t 76) 2, none, 0⟩,
 ⟨none, .flA 78 (.t 77) 1, none, 0⟩,
 ⟨none, .ld 79 (.t 78) none, none, 0⟩,
 ⟨none, .len 80 false (.t 79), none, 0⟩,
 ⟨none, .bin 81 .add (.t 73) (.t 80), none, 0⟩,
 ⟨none, .mv 5 (.t 81), none, 0⟩]
def c30r11 : List SI := [
 ⟨none, .nop, (some 1), 0⟩,
 ⟨none, .ldR 84 1 2 none, none, 0⟩,
 ⟨none, .mv 85 (.t 7), none, 0⟩,
 ⟨none, .ixA 86 (.t 84) (.t 85) 2, none, 0⟩,
 ⟨none, .ld 87 (.t 86) (some 2), none, 0⟩,
 ⟨none, .call 88 72 [(.t 87)], none, 0⟩,
 ⟨none, .mv 82 (.t 88), none, 0⟩,
 ⟨none, .ext 89 (.t 82) 0, none, 0⟩,
 ⟨none, .ext 90 (.t 82) 1, none, 0⟩,
 ⟨none, .alR 8 [(.int .i64 0), (.slice none 0 0)], none, 0⟩,
 ⟨none, .stR 8 0 2 (.t 89), none, 0⟩,
 ⟨none, .mv 9 (.t 90), none, 0⟩]
def c30r12 : List SI := [
 ⟨none, .nop, (some 4), 0⟩,
 ⟨none, .ldR 92 4 2 none, none, 0⟩,
 ⟨none, .ldR 93 8 0 (some 2), none, 0⟩,
 ⟨none, .bls 94 55 1 2 [(.int .i64 0), (.slice none 0 0)] [(0, 2, (.t 93))], none, 0⟩,
 ⟨none, .app 95 (.t 92) (.t 94) 55 2 32, none, 0⟩,
 ⟨none, .nop, (some 4), 0⟩,
 ⟨none, .stR 4 2 1 (.t 95), none, 0⟩]
def c30r13 : List SI := [
 ⟨none, .mv 97 (.t 5), none, 0⟩,
 ⟨none, .mv 98 (.t 9), none, 0⟩,
 ⟨none, .bin 99 .add (.t 97) (.t 98), none, 0⟩,
 ⟨none, .mv 5 (.t 99), none, 0⟩]
def c30r14 : List SI := [
 ⟨none, .nop, (some 1), 0⟩,
 ⟨none, .ldR 101 1 2 none, none, 0⟩,
 ⟨none, .mv 102 (.t 7), none, 0⟩,
 ⟨none, .ixA 103 (.t 101) (.t 102) 2, none, 0⟩,
 ⟨none, .ld 104 (.t 103) (some 2), none, 0⟩,
 ⟨none, .call 105 38 [(.t 104)], none, 0⟩,
 ⟨none, .mv 6 (.t 105), none, 0⟩]
def c30r15 : List SI := [
 ⟨none, .mv 50 (.t 7), none, 0⟩,
 ⟨none, .bin 51 .add (.t 50) (.i 1), none, 0⟩,
 ⟨none, .mv 7 (.t 51), none, 0⟩]
def c30r16 : List SI := [
 ⟨none, .ldR 106 4 0 (some 3), none, 0⟩,
 ⟨none, .mv 107 (.t 5), none, 0⟩,
 ⟨none, .stR 2 0 3 (.t 106), none, 0⟩,
 ⟨none, .mv 3 (.t 107), none, 0⟩]
def c30 : SC :=
 (.seq (.reg false c30r0)
 (.seq (.seq (.reg false c30r1)
 (.cond (.t 38)
  (.seq (.reg false c30r2)
  .ret)
  .skip))
 (.seq (.reg false c30r3)
 (.seq (.reg false c30r4)
 (.seq (.reg false c30r5)
 (.seq (.seq (.reg false c30r6)
 (.blk 0 (.loop (.seq (.seq (.reg false c30r7)
   (.cond (.t 49)
    .skip
    (.exit 0)))
   (.seq (.blk 1 (.seq (.rgX c30r8)
    (.seq (.seq (.reg false c30r9)
    (.cond (.t 72)
     (.seq (.reg false c30r10)
     (.exit 1))
     .skip))
    (.seq (.reg false c30r11)
    (.seq (.reg false c30r12)
    (.seq (.reg false c30r13)
    (.reg false c30r14)))))))
   (.reg false c30r15))))))
 (.seq (.reg false c30r16)
 .ret)))))))
def v30 : List Nat × List Nat := ([1, 2, 4, 8], [1, 2, 4, 8, 10, 14, 19, 25, 31, 40, 42, 46, 57, 63, 74, 83, 91, 96, 100])
def o30 : List RS := [.r 2 (some 3), .t 3]
def c31r0 : List SI := [
 ⟨none, .alR 2 [(.int .i64 0), (.int .i64 0), (.int .i64 0), (.int .i64 0), (.int .i64 0), (.int .i64 0), (.int .i64 0), (.bool false), (.int .i64 0), (.slice none 0 0)], none, 0⟩]
def c31r1 : List SI := [
 ⟨none, .mv 3 (.t 0), none, 0⟩,
 ⟨none, .mv 4 (.t 0), none, 0⟩,
 ⟨none, .bin 5 .add (.t 4) (.i 2), none, 0⟩,
 ⟨none, .mv 6 (.t 0), none, 0⟩,
 ⟨none, .mv 7 (.t 0), none, 0⟩,
 ⟨none, .bld 8 [(.int .i64 0), (.string ⟨#[]⟩), (.string ⟨#[]⟩), (.bool false), (.int .i64 0)] [(0, 1, (.t 7)), (2, 1, (.v (.string ⟨#[118]⟩)))], none, 0⟩,
 ⟨none, .mv 9 (.t 0), none, 0⟩,
 ⟨none, .bin 10 .add (.t 9) (.i 2), none, 0⟩,
 ⟨none, .bld 11 [(.int .i64 0), (.string ⟨#[]⟩), (.string ⟨#[]⟩), (.bool false), (.int .i64 0)] [(0, 1, (.t 10)), (2, 1, (.v (.string ⟨#[119]⟩)))], none, 0⟩,
 ⟨none, .bls 12 65 2 5 [(.int .i64 0), (.string ⟨#[]⟩), (.string ⟨#[]⟩), (.bool false), (.int .i64 0), (.int .i64 0), (.string ⟨#[]⟩), (.string ⟨#[]⟩), (.bool false), (.int .i64 0)] [(0, 5, (.t 8)), (5, 5, (.t 11))], none, 0⟩,
 ⟨none, .bld 13 [(.int .i64 0), (.int .i64 0), (.int .i64 0), (.int .i64 0), (.int .i64 0), (.int .i64 0), (.int .i64 0), (.bool false), (.int .i64 0), (.slice none 0 0)] [(0, 1, (.t 3)), (1, 1, (.t 5)), (2, 1, (.t 6)), (4, 1, (.i (-1))), (9, 1, (.t 12))], none, 0⟩,
 ⟨none, .stR 2 0 10 (.t 13), none, 0⟩]
def c31 : SC :=
 (.seq (.reg false c31r0)
 (.seq (.reg false c31r1)
 .ret))
def v31 : List Nat × List Nat := ([2], [2])
def o31 : List RS := [.r 2 (some 10)]
def c32r0 : List SI := [
 ⟨none, .bxR 1 (.t 0), none, 0⟩,
 ⟨none, .mv 2 (.b false), none, 0⟩]
def c32r1 : List SI := [
 ⟨none, .mv 3 (.i 0), none, 0⟩]
def c32r2 : List SI := [
 ⟨none, .mv 4 (.t 3), none, 0⟩,
 ⟨none, .nop, (some 1), 0⟩,
 ⟨none, .ldR 6 1 2 none, none, 0⟩,
 ⟨none, .len 7 false (.t 6), none, 0⟩,
 ⟨none, .bin 8 .lss (.t 4) (.t 7), none, 0⟩,
 ⟨none, .mv 9 (.t 8), none, 0⟩,
 ⟨some (9, true), .mv 10 (.t 3), none, 10⟩,
 ⟨some (9, true), .bin 11 .lss (.t 10) (.i 300), none, 11⟩,
 ⟨none, .pick 12 (.t 9) (.t 11) (.b false), none, 0⟩]
def c32r3 : List SI := [
 ⟨none, .nop, (some 1), 0⟩,
 ⟨none, .ldR 16 1 2 none, none, 0⟩,
 ⟨none, .mv 17 (.t 3), none, 0⟩,
 ⟨none, .ixA 18 (.t 16) (.t 17) 2, none, 0⟩,
 ⟨none, .flA 19 (.t 18) 1, none, 0⟩,
 ⟨none, .ld 20 (.t 19) none, none, 0⟩,
 ⟨none, .len 21 false (.t 20), none, 0⟩,
 ⟨none, .bin 22 .gtr (.t 21) (.i 5000), none, 0⟩]
def c32r4 : List SI := [
 ⟨none, .mv 2 (.b false), none, 0⟩]
def c32r5 : List SI := [
 ⟨none, .mv 13 (.t 3), none, 0⟩,
 ⟨none, .bin 14 .add (.t 13) (.i 1), none, 0⟩,
 ⟨none, .mv 3 (.t 14), none, 0⟩]
def c32r6 : List SI := [
 ⟨none, .nop, (some 1), 0⟩,
 ⟨none, .ldR 24 1 2 none, none, 0⟩,
 ⟨none, .len 25 false (.t 24), none, 0⟩,
 ⟨none, .bin 26 .leq (.t 25) (.i 12), none, 0⟩,
 ⟨none, .mv 2 (.t 26), none, 0⟩]
def c32 : SC :=
 (.seq (.reg false c32r0)
 (.seq (.seq (.reg false c32r1)
 (.blk 0 (.loop (.seq (.seq (.reg false c32r2)
   (.cond (.t 12)
    .skip
    (.exit 0)))
   (.seq (.blk 1 (.seq (.reg false c32r3)
    (.cond (.t 22)
     (.seq (.reg false c32r4)
     .ret)
     .skip)))
   (.reg false c32r5))))))
 (.seq (.reg false c32r6)
 .ret)))
def v32 : List Nat × List Nat := ([1], [1, 5, 15, 23])
def o32 : List RS := [.t 2]
def c33r0 : List SI := [
 ⟨none, .mv 4 (.b false), none, 0⟩]
def c33r1 : List SI := [
 ⟨none, .mv 7 (.t 0), none, 0⟩,
 ⟨none, .len 8 false (.t 7), none, 0⟩,
 ⟨none, .mv 9 (.i 0), none, 0⟩]
def c33r2 : List SI := [
 ⟨none, .bin 10 .lss (.t 9) (.t 8), none, 0⟩]
def c33r3 : List SI := [
 ⟨none, .ixA 11 (.t 7) (.t 9) 10, none, 0⟩,
 ⟨none, .ld 12 (.t 11) (some 10), none, 0⟩,
 ⟨none, .alR 6 [(.int .i64 0), (.int .i64 0), (.int .i64 0), (.int .i64 0), (.int .i64 0), (.int .i64 0), (.int .i64 0), (.bool false), (.int .i64 0), (.slice none 0 0)], none, 0⟩,
 ⟨none, .stR 6 0 10 (.t 12), none, 0⟩]
def c33r4 : List SI := [
 ⟨none, .ldR 13 6 0 (some 10), none, 0⟩,
 ⟨none, .call 14 18 [(.t 13)], none, 0⟩,
 ⟨none, .un 15 .not (.t 14), none, 0⟩]
def c33r5 : List SI := [
 ⟨none, .mv 4 (.b false), none, 0⟩]
def c33r6 : List SI := [
 ⟨none, .bin 16 .add (.t 9) (.i 1), none, 0⟩,
 ⟨none, .mv 9 (.t 16), none, 0⟩]
def c33r7 : List SI := [
 ⟨none, .mv 17 (.t 0), none, 0⟩,
 ⟨none, .len 18 false (.t 17), none, 0⟩,
 ⟨none, .mv 19 (.t 1), none, 0⟩,
 ⟨none, .bin 20 .leq (.t 18) (.t 19), none, 0⟩,
 ⟨none, .mv 4 (.t 20), none, 0⟩]
def c33 : SC :=
 (.seq (.reg false c33r0)
 (.seq (.seq (.reg false c33r1)
 (.blk 0 (.loop (.seq (.reg false c33r2)
   (.seq (.cond (.t 10)
    .skip
    (.exit 0))
   (.seq (.blk 1 (.seq (.reg false c33r3)
    (.seq (.reg false c33r4)
    (.cond (.t 15)
     (.seq (.reg false c33r5)
     .ret)
     .skip))))
   (.reg false c33r6)))))))
 (.seq (.reg false c33r7)
 .ret)))
def v33 : List Nat × List Nat := ([6], [6])
def o33 : List RS := [.t 4]
def c34r0 : List SI := [
 ⟨none, .mv 4 (.b false), none, 0⟩]
def c34r1 : List SI := [
 ⟨none, .mv 5 (.t 0), none, 0⟩,
 ⟨none, .bin 6 .geq (.t 5) (.i 256), none, 0⟩,
 ⟨none, .mv 7 (.t 6), none, 0⟩,
 ⟨some (7, true), .mv 8 (.t 0), none, 8⟩,
 ⟨some (7, true), .bin 9 .leq (.t 8) (.i 4096), none, 9⟩,
 ⟨none, .pick 10 (.t 7) (.t 9) (.b false), none, 0⟩,
 ⟨none, .mv 11 (.t 10), none, 0⟩,
 ⟨some (11, true), .mv 12 (.t 1), none, 12⟩,
 ⟨some (11, true), .call 13 64 [(.t 12)], none, 13⟩,
 ⟨none, .pick 14 (.t 11) (.t 13) (.b false), none, 0⟩,
 ⟨none, .mv 4 (.t 14), none, 0⟩]
def c34 : SC :=
 (.seq (.reg false c34r0)
 (.seq (.reg false c34r1)
 .ret))
def v34 : List Nat × List Nat := ([], [])
def o34 : List RS := [.t 4]
def c35r0 : List SI := [
 ⟨none, .mv 2 (.b false), none, 0⟩]
def c35r1 : List SI := [
 ⟨none, .mv 3 (.t 0), none, 0⟩,
 ⟨none, .bin 4 .geq (.t 3) (.i 0), none, 0⟩,
 ⟨none, .mv 5 (.t 4), none, 0⟩,
 ⟨some (5, true), .mv 6 (.t 0), none, 6⟩,
 ⟨some (5, true), .bin 7 .leq (.t 6) (.i 1099511627776), none, 7⟩,
 ⟨none, .pick 8 (.t 5) (.t 7) (.b false), none, 0⟩,
 ⟨none, .mv 2 (.t 8), none, 0⟩]
def c35 : SC :=
 (.seq (.reg false c35r0)
 (.seq (.reg false c35r1)
 .ret))
def v35 : List Nat × List Nat := ([], [])
def o35 : List RS := [.t 2]
def c36r0 : List SI := [
 ⟨none, .bxR 1 (.t 0), none, 0⟩,
 ⟨none, .mv 2 (.b false), none, 0⟩]
def c36r1 : List SI := [
 ⟨none, .ldR 6 1 0 (some 2), none, 0⟩,
 ⟨none, .call 7 73 [(.t 6)], none, 0⟩,
 ⟨none, .mv 5 (.t 7), none, 0⟩,
 ⟨none, .ext 8 (.t 5) 0, none, 0⟩,
 ⟨none, .ext 9 (.t 5) 1, none, 0⟩,
 ⟨none, .mv 3 (.t 8), none, 0⟩,
 ⟨none, .mv 4 (.t 9), none, 0⟩]
def c36r2 : List SI := [
 ⟨none, .nop, (some 1), 0⟩,
 ⟨none, .ldR 11 1 0 none, none, 0⟩,
 ⟨none, .call 12 64 [(.t 11)], none, 0⟩,
 ⟨none, .mv 13 (.t 12), none, 0⟩,
 ⟨some (13, true), .mv 14 (.t 4), none, 14⟩,
 ⟨some (13, true), .nop, (some 1), 99999⟩,
 ⟨some (13, true), .ldR 16 1 1 none, none, 16⟩,
 ⟨some (13, true), .len 17 false (.t 16), none, 17⟩,
 ⟨some (13, true), .bin 18 .eql (.t 14) (.t 17), none, 18⟩,
 ⟨none, .pick 19 (.t 13) (.t 18) (.b false), none, 0⟩,
 ⟨none, .mv 2 (.t 19), none, 0⟩]
def c36 : SC :=
 (.seq (.reg false c36r0)
 (.seq (.reg false c36r1)
 (.seq (.reg false c36r2)
 .ret)))
def v36 : List Nat × List Nat := ([1], [1, 10, 15])
def o36 : List RS := [.t 2]
def c37r0 : List SI := [
 ⟨none, .bxR 2 (.t 0), none, 0⟩,
 ⟨none, .bxR 3 (.t 1), none, 0⟩,
 ⟨none, .mv 4 (.b false), none, 0⟩]
def c37r1 : List (Bool × SI) := [
 (true, ⟨none, .nop, (some 3), 0⟩),
 (true, N_ (.ldR 6 3 0 none)),
 (true, ⟨none, .nop, (some 2), 0⟩),
 (true, N_ (.ldR 8 2 0 none)),
 (true, N_ (.bin 9 .gtr (.t 6) (.t 8))),
 (true, N_ (.mv 10 (.t 9))),
 (true, ⟨some (10, true), .nop, (some 3), 99999⟩),
 (true, ⟨some (10, true), .ldR 12 3 0 none, none, 12⟩),
 (true, ⟨some (10, true), .ldR 13 2 0 (some 2), none, 13⟩),
 (false, ⟨some (10, true), .call 14 68 [(.t 13)], none, 14⟩),
 (true, ⟨some (10, true), .bin 15 .geq (.t 12) (.t 14), none, 15⟩),
 (true, N_ (.pick 16 (.t 10) (.t 15) (.b false))),
 (true, N_ (.mv 4 (.t 16)))]
def c37 : SC :=
 (.seq (.reg false c37r0)
 (.seq (.rgX c37r1)
 .ret))
def v37 : List Nat × List Nat := ([2, 3], [2, 3, 5, 7, 11])
def o37 : List RS := [.t 4]
def c38r0 : List SI := [
 ⟨none, .bxR 1 (.t 0), none, 0⟩,
 ⟨none, .mv 2 (.b false), none, 0⟩]
def c38r1 : List SI := [
 ⟨none, .ldR 6 1 0 (some 2), none, 0⟩,
 ⟨none, .call 7 74 [(.t 6)], none, 0⟩,
 ⟨none, .mv 5 (.t 7), none, 0⟩,
 ⟨none, .ext 8 (.t 5) 0, none, 0⟩,
 ⟨none, .ext 9 (.t 5) 1, none, 0⟩,
 ⟨none, .mv 3 (.t 8), none, 0⟩,
 ⟨none, .mv 4 (.t 9), none, 0⟩]
def c38r2 : List SI := [
 ⟨none, .nop, (some 1), 0⟩,
 ⟨none, .ldR 11 1 0 none, none, 0⟩,
 ⟨none, .bin 12 .geq (.t 11) (.i 0), none, 0⟩,
 ⟨none, .mv 13 (.t 12), none, 0⟩,
 ⟨some (13, true), .nop, (some 1), 99999⟩,
 ⟨some (13, true), .ldR 15 1 0 none, none, 15⟩,
 ⟨some (13, true), .bin 16 .leq (.t 15) (.i 1099511627776), none, 16⟩,
 ⟨none, .pick 17 (.t 13) (.t 16) (.b false), none, 0⟩,
 ⟨none, .mv 18 (.t 17), none, 0⟩,
 ⟨some (18, true), .mv 19 (.t 4), none, 19⟩,
 ⟨some (18, true), .nop, (some 1), 99999⟩,
 ⟨some (18, true), .ldR 21 1 1 none, none, 21⟩,
 ⟨some (18, true), .len 22 false (.t 21), none, 22⟩,
 ⟨some (18, true), .bin 23 .eql (.t 19) (.t 22), none, 23⟩,
 ⟨none, .pick 24 (.t 18) (.t 23) (.b false), none, 0⟩,
 ⟨none, .mv 2 (.t 24), none, 0⟩]
def c38 : SC :=
 (.seq (.reg false c38r0)
 (.seq (.reg false c38r1)
 (.seq (.reg false c38r2)
 .ret)))
def v38 : List Nat × List Nat := ([1], [1, 10, 14, 20])
def o38 : List RS := [.t 2]
def c39r0 : List SI := [
 ⟨none, .bxR 2 (.t 0), none, 0⟩,
 ⟨none, .bxR 3 (.t 1), none, 0⟩,
 ⟨none, .mv 4 (.b false), none, 0⟩]
def c39r1 : List (Bool × SI) := [
 (true, ⟨none, .nop, (some 3), 0⟩),
 (true, N_ (.ldR 6 3 0 none)),
 (true, ⟨none, .nop, (some 2), 0⟩),
 (true, N_ (.ldR 8 2 0 none)),
 (true, N_ (.bin 9 .gtr (.t 6) (.t 8))),
 (true, N_ (.mv 10 (.t 9))),
 (true, ⟨some (10, true), .nop, (some 3), 99999⟩),
 (true, ⟨some (10, true), .ldR 12 3 0 none, none, 12⟩),
 (true, ⟨some (10, true), .ldR 13 2 0 (some 2), none, 13⟩),
 (false, ⟨some (10, true), .call 14 69 [(.t 13)], none, 14⟩),
 (true, ⟨some (10, true), .bin 15 .geq (.t 12) (.t 14), none, 15⟩),
 (true, N_ (.pick 16 (.t 10) (.t 15) (.b false))),
 (true, N_ (.mv 4 (.t 16)))]
def c39 : SC :=
 (.seq (.reg false c39r0)
 (.seq (.rgX c39r1)
 .ret))
def v39 : List Nat × List Nat := ([2, 3], [2, 3, 5, 7, 11])
def o39 : List RS := [.t 4]
def c40r0 : List SI := [
 ⟨none, .bxR 1 (.t 0), none, 0⟩,
 ⟨none, .mv 2 (.i 0), none, 0⟩]
def c40r1 : List (Bool × SI) := [
 (true, ⟨none, .nop, (some 1), 0⟩),
 (true, N_ (.ldR 4 1 1 none)),
 (true, ⟨none, .nop, (some 1), 0⟩),
 (true, N_ (.ldR 6 1 2 none)),
 (true, N_ (.ldR 7 1 0 (some 3))),
 (false, N_ (.call 8 49 [(.t 7)])),
 (true, N_ (.ixA 9 (.t 6) (.t 8) 2)),
 (true, N_ (.ld 10 (.t 9) (some 2))),
 (false, N_ (.call 11 68 [(.t 10)])),
 (true, N_ (.mm 12 true (.t 4) (.t 11))),
 (true, N_ (.mv 2 (.t 12)))]
def c40 : SC :=
 (.seq (.reg false c40r0)
 (.seq (.rgX c40r1)
 .ret))
def v40 : List Nat × List Nat := ([1], [1, 3, 5])
def o40 : List RS := [.t 2]
def c41r0 : List SI := [
 ⟨none, .bxR 1 (.t 0), none, 0⟩,
 ⟨none, .mv 2 (.i 0), none, 0⟩]
def c41r1 : List SI := [
 ⟨none, .nop, (some 1), 0⟩,
 ⟨none, .ldR 6 1 1 none, none, 0⟩,
 ⟨none, .mv 3 (.t 6), none, 0⟩]
def c41r2 : List SI := [
 ⟨none, .mv 4 (.i 0), none, 0⟩]
def c41r3 : List SI := [
 ⟨none, .mv 7 (.t 4), none, 0⟩,
 ⟨none, .nop, (some 1), 0⟩,
 ⟨none, .ldR 9 1 2 none, none, 0⟩,
 ⟨none, .len 10 false (.t 9), none, 0⟩,
 ⟨none, .bin 11 .lss (.t 7) (.t 10), none, 0⟩]
def c41r4 : List SI := [
 ⟨none, .mv 14 (.t 3), none, 0⟩,
 ⟨none, .nop, (some 1), 0⟩,
 ⟨none, .ldR 16 1 2 none, none, 0⟩,
 ⟨none, .mv 17 (.t 4), none, 0⟩,
 ⟨none, .ixA 18 (.t 16) (.t 17) 2, none, 0⟩,
 ⟨none, .ld 19 (.t 18) (some 2), none, 0⟩,
 ⟨none, .call 20 69 [(.t 19)], none, 0⟩,
 ⟨none, .mm 21 true (.t 14) (.t 20), none, 0⟩,
 ⟨none, .mv 3 (.t 21), none, 0⟩]
def c41r5 : List SI := [
 ⟨none, .mv 12 (.t 4), none, 0⟩,
 ⟨none, .bin 13 .add (.t 12) (.i 1), none, 0⟩,
 ⟨none, .mv 4 (.t 13), none, 0⟩]
def c41r6 : List SI := [
 ⟨none, .mv 22 (.t 3), none, 0⟩,
 ⟨none, .mv 2 (.t 22), none, 0⟩]
def c41 : SC :=
 (.seq (.reg false c41r0)
 (.seq (.reg false c41r1)
 (.seq (.seq (.reg false c41r2)
 (.blk 0 (.loop (.seq (.seq (.reg false c41r3)
   (.cond (.t 11)
    .skip
    (.exit 0)))
   (.seq (.blk 1 (.reg false c41r4))
   (.reg false c41r5))))))
 (.seq (.reg false c41r6)
 .ret))))
def v41 : List Nat × List Nat := ([1], [1, 5, 8, 15])
def o41 : List RS := [.t 2]
def c42r0 : List SI := [
 ⟨none, .bxR 2 (.t 0), none, 0⟩,
 ⟨none, .bxR 3 (.t 1), none, 0⟩,
 ⟨none, .mv 4 (.b false), none, 0⟩]
def c42r1 : List SI := [
 ⟨none, .nop, (some 2), 0⟩,
 ⟨none, .ldR 6 2 0 none, none, 0⟩,
 ⟨none, .nop, (some 3), 0⟩,
 ⟨none, .ldR 8 3 0 none, none, 0⟩,
 ⟨none, .bin 9 .eql (.t 6) (.t 8), none, 0⟩,
 ⟨none, .mv 10 (.t 9), none, 0⟩,
 ⟨some (10, true), .nop, (some 2), 99999⟩,
 ⟨some (10, true), .ldR 12 2 1 none, none, 12⟩,
 ⟨some (10, true), .nop, (some 3), 99999⟩,
 ⟨some (10, true), .ldR 14 3 1 none, none, 14⟩,
 ⟨some (10, true), .bin 15 .eql (.t 12) (.t 14), none, 15⟩,
 ⟨none, .pick 16 (.t 10) (.t 15) (.b false), none, 0⟩,
 ⟨none, .mv 17 (.t 16), none, 0⟩,
 ⟨some (17, true), .nop, (some 2), 99999⟩,
 ⟨some (17, true), .ldR 19 2 2 none, none, 19⟩,
 ⟨some (17, true), .nop, (some 3), 99999⟩,
 ⟨some (17, true), .ldR 21 3 2 none, none, 21⟩,
 ⟨some (17, true), .bin 22 .eql (.t 19) (.t 21), none, 22⟩,
 ⟨none, .pick 23 (.t 17) (.t 22) (.b false), none, 0⟩,
 ⟨none, .mv 24 (.t 23), none, 0⟩,
 ⟨some (24, true), .nop, (some 2), 99999⟩,
 ⟨some (24, true), .ldR 26 2 3 none, none, 26⟩,
 ⟨some (24, true), .nop, (some 3), 99999⟩,
 ⟨some (24, true), .ldR 28 3 3 none, none, 28⟩,
 ⟨some (24, true), .bin 29 .eql (.t 26) (.t 28), none, 29⟩,
 ⟨none, .pick 30 (.t 24) (.t 29) (.b false), none, 0⟩,
 ⟨none, .mv 31 (.t 30), none, 0⟩,
 ⟨some (31, true), .nop, (some 2), 99999⟩,
 ⟨some (31, true), .ldR 33 2 4 none, none, 33⟩,
 ⟨some (31, true), .nop, (some 3), 99999⟩,
 ⟨some (31, true), .ldR 35 3 4 none, none, 35⟩,
 ⟨some (31, true), .bin 36 .eql (.t 33) (.t 35), none, 36⟩,
 ⟨none, .pick 37 (.t 31) (.t 36) (.b false), none, 0⟩,
 ⟨none, .mv 38 (.t 37), none, 0⟩,
 ⟨some (38, true), .nop, (some 2), 99999⟩,
 ⟨some (38, true), .ldR 40 2 5 none, none, 40⟩,
 ⟨some (38, true), .nop, (some 3), 99999⟩,
 ⟨some (38, true), .ldR 42 3 5 none, none, 42⟩,
 ⟨some (38, true), .bin 43 .eql (.t 40) (.t 42), none, 43⟩,
 ⟨none, .pick 44 (.t 38) (.t 43) (.b false), none, 0⟩,
 ⟨none, .mv 45 (.t 44), none, 0⟩,
 ⟨some (45, true), .nop, (some 2), 99999⟩,
 ⟨some (45, true), .ldR 47 2 6 none, none, 47⟩,
 ⟨some (45, true), .nop, (some 3), 99999⟩,
 ⟨some (45, true), .ldR 49 3 6 none, none, 49⟩,
 ⟨some (45, true), .bin 50 .eql (.t 47) (.t 49), none, 50⟩,
 ⟨none, .pick 51 (.t 45) (.t 50) (.b false), none, 0⟩,
 ⟨none, .mv 52 (.t 51), none, 0⟩,
 ⟨some (52, true), .nop, (some 2), 99999⟩,
 ⟨some (52, true), .ldR 54 2 7 none, none, 54⟩,
 ⟨some (52, true), .nop, (some 3), 99999⟩,
 ⟨some (52, true), .ldR 56 3 7 none, none, 56⟩,
 ⟨some (52, true), .eqb 57 false (.t 54) (.t 56), none, 57⟩,
 ⟨none, .pick 58 (.t 52) (.t 57) (.b false), none, 0⟩,
 ⟨none, .mv 59 (.t 58), none, 0⟩,
 ⟨some (59, true), .nop, (some 2), 99999⟩,
 ⟨some (59, true), .ldR 61 2 8 none, none, 61⟩,
 ⟨some (59, true), .nop, (some 3), 99999⟩,
 ⟨some (59, true), .ldR 63 3 8 none, none, 63⟩,
 ⟨some (59, true), .bin 64 .eql (.t 61) (.t 63), none, 64⟩,
 ⟨none, .pick 65 (.t 59) (.t 64) (.b false), none, 0⟩,
 ⟨none, .mv 66 (.t 65), none, 0⟩,
 ⟨some (66, true), .nop, (some 2), 99999⟩,
 ⟨some (66, true), .ldR 68 2 9 none, none, 68⟩,
 ⟨some (66, true), .nop, (some 3), 99999⟩,
 ⟨some (66, true), .ldR 70 3 9 none, none, 70⟩,
 ⟨some (66, true), .call 71 75 [(.t 68), (.t 70)], none, 71⟩,
 ⟨none, .pick 72 (.t 66) (.t 71) (.b false), none, 0⟩,
 ⟨none, .mv 4 (.t 72), none, 0⟩]
def c42 : SC :=
 (.seq (.reg false c42r0)
 (.seq (.reg false c42r1)
 .ret))
def v42 : List Nat × List Nat := ([2, 3], [2, 3, 5, 7, 11, 13, 18, 20, 25, 27, 32, 34, 39, 41, 46, 48, 53, 55, 60, 62, 67, 69])
def o42 : List RS := [.t 4]
def c43r0 : List SI := [
 ⟨none, .mv 2 (.v (.slice none 0 0)), none, 0⟩]
def c43r1 : List SI := [
 ⟨none, .mv 3 (.t 0), none, 0⟩,
 ⟨none, .call 4 76 [(.v (.slice none 0 0)), (.t 3)], none, 0⟩,
 ⟨none, .mv 2 (.t 4), none, 0⟩]
def c43 : SC :=
 (.seq (.reg false c43r0)
 (.seq (.reg false c43r1)
 .ret))
def v43 : List Nat × List Nat := ([], [])
def o43 : List RS := [.t 2]
def c44r0 : List SI := [
 ⟨none, .bx 2 (.t 0), none, 0⟩,
 ⟨none, .bx 3 (.t 1), none, 0⟩,
 ⟨none, .mv 4 (.v .nilFunc), none, 0⟩]
def c44r1 : List SI := [
 ⟨none, .mkf 5 (.func 77) [(.t 2), (.t 3)], none, 0⟩,
 ⟨none, .mv 4 (.t 5), none, 0⟩]
def c44 : SC :=
 (.seq (.reg false c44r0)
 (.seq (.reg false c44r1)
 .ret))
def v44 : List Nat × List Nat := ([], [])
def o44 : List RS := [.t 4]
def c45r0 : List SI := [
 ⟨none, .bxR 1 (.t 0), none, 0⟩,
 ⟨none, .mv 2 (.v (.slice none 0 0)), none, 0⟩]
def c45r1 : List SI := [
 ⟨none, .mv 3 (.v (.slice none 0 0)), none, 0⟩]
def c45r2 : List SI := [
 ⟨none, .mv 4 (.i 0), none, 0⟩]
def c45r3 : List SI := [
 ⟨none, .mv 8 (.t 4), none, 0⟩,
 ⟨none, .nop, (some 1), 0⟩,
 ⟨none, .ldR 10 1 2 none, none, 0⟩,
 ⟨none, .len 11 false (.t 10), none, 0⟩,
 ⟨none, .bin 12 .lss (.t 8) (.t 11), none, 0⟩]
def c45r4 : List SI := [
 ⟨none, .nop, (some 1), 0⟩,
 ⟨none, .ldR 17 1 2 none, none, 0⟩,
 ⟨none, .mv 18 (.t 4), none, 0⟩,
 ⟨none, .ixA 19 (.t 17) (.t 18) 2, none, 0⟩,
 ⟨none, .ld 20 (.t 19) (some 2), none, 0⟩,
 ⟨none, .call 21 74 [(.t 20)], none, 0⟩,
 ⟨none, .mv 15 (.t 21), none, 0⟩,
 ⟨none, .ext 22 (.t 15) 0, none, 0⟩,
 ⟨none, .ext 23 (.t 15) 1, none, 0⟩,
 ⟨none, .mv 5 (.t 22), none, 0⟩,
 ⟨none, .mv 6 (.t 23), none, 0⟩]
def c45r5 : List SI := [
 ⟨none, .mv 7 (.i 0), none, 0⟩]
def c45r6 : List SI := [
 ⟨none, .mv 24 (.t 7), none, 0⟩,
 ⟨none, .mv 25 (.t 5), none, 0⟩,
 ⟨none, .len 26 false (.t 25), none, 0⟩,
 ⟨none, .bin 27 .lss (.t 24) (.t 26), none, 0⟩]
def c45r7 : List SI := [
 ⟨none, .mv 30 (.t 5), none, 0⟩,
 ⟨none, .mv 31 (.t 7), none, 0⟩,
 ⟨none, .ixA 32 (.t 30) (.t 31) 10, none, 0⟩,
 ⟨none, .flA 33 (.t 32) 1, none, 0⟩,
 ⟨none, .ld 34 (.t 33) none, none, 0⟩,
 ⟨none, .nop, (some 1), 0⟩,
 ⟨none, .ldR 36 1 1 none, none, 0⟩,
 ⟨none, .bin 37 .geq (.t 34) (.t 36), none, 0⟩]
def c45r8 : List SI := [
 ⟨none, .mv 38 (.t 3), none, 0⟩,
 ⟨none, .mv 39 (.t 5), none, 0⟩,
 ⟨none, .mv 40 (.t 7), none, 0⟩,
 ⟨none, .ixA 41 (.t 39) (.t 40) 10, none, 0⟩,
 ⟨none, .ld 42 (.t 41) (some 10), none, 0⟩,
 ⟨none, .bls 43 39 1 10 [(.int .i64 0), (.int .i64 0), (.int .i64 0), (.int .i64 0), (.int .i64 0), (.int .i64 0), (.int .i64 0), (.bool false), (.int .i64 0), (.slice none 0 0)] [(0, 10, (.t 42))], none, 0⟩,
 ⟨none, .app 44 (.t 38) (.t 43) 39 10 96, none, 0⟩,
 ⟨none, .mv 3 (.t 44), none, 0⟩]
def c45r9 : List SI := [
 ⟨none, .mv 28 (.t 7), none, 0⟩,
 ⟨none, .bin 29 .add (.t 28) (.i 1), none, 0⟩,
 ⟨none, .mv 7 (.t 29), none, 0⟩]
def c45r10 : List SI := [
 ⟨none, .mv 13 (.t 4), none, 0⟩,
 ⟨none, .bin 14 .add (.t 13) (.i 1), none, 0⟩,
 ⟨none, .mv 4 (.t 14), none, 0⟩]
def c45r11 : List SI := [
 ⟨none, .mv 45 (.t 3), none, 0⟩,
 ⟨none, .mv 2 (.t 45), none, 0⟩]
def c45 : SC :=
 (.seq (.reg false c45r0)
 (.seq (.reg false c45r1)
 (.seq (.seq (.reg false c45r2)
 (.blk 0 (.loop (.seq (.seq (.reg false c45r3)
   (.cond (.t 12)
    .skip
    (.exit 0)))
   (.seq (.blk 1 (.seq (.reg false c45r4)
    (.seq (.reg false c45r5)
    (.blk 2 (.loop (.seq (.seq (.reg false c45r6)
      (.cond (.t 27)
       .skip
       (.exit 2)))
      (.seq (.blk 3 (.seq (.reg true c45r7)
       (.cond (.t 37)
        (.reg false c45r8)
        .skip)))
      (.reg false c45r9))))))))
   (.reg false c45r10))))))
 (.seq (.reg false c45r11)
 .ret))))
def v45 : List Nat × List Nat := ([1], [1, 9, 16, 35])
def o45 : List RS := [.t 2]
def c46r0 : List SI := [
 ⟨none, .bxR 2 (.t 0), none, 0⟩,
 ⟨none, .bxR 3 (.t 1), none, 0⟩,
 ⟨none, .mv 4 (.b false), none, 0⟩]
def c46r1 : List SI := [
 ⟨none, .nop, (some 2), 0⟩,
 ⟨none, .ldR 6 2 0 none, none, 0⟩,
 ⟨none, .nop, (some 3), 0⟩,
 ⟨none, .ldR 8 3 0 none, none, 0⟩,
 ⟨none, .bin 9 .eql (.t 6) (.t 8), none, 0⟩,
 ⟨none, .mv 10 (.t 9), none, 0⟩,
 ⟨some (10, true), .nop, (some 2), 99999⟩,
 ⟨some (10, true), .ldR 12 2 1 none, none, 12⟩,
 ⟨some (10, true), .nop, (some 3), 99999⟩,
 ⟨some (10, true), .ldR 14 3 1 none, none, 14⟩,
 ⟨some (10, true), .call 15 78 [(.t 12), (.t 14)], none, 15⟩,
 ⟨none, .pick 16 (.t 10) (.t 15) (.b false), none, 0⟩,
 ⟨none, .mv 4 (.t 16), none, 0⟩]
def c46 : SC :=
 (.seq (.reg false c46r0)
 (.seq (.reg false c46r1)
 .ret))
def v46 : List Nat × List Nat := ([2, 3], [2, 3, 5, 7, 11, 13])
def o46 : List RS := [.t 4]
def c47r0 : List SI := [
 ⟨none, .bxR 1 (.t 0), none, 0⟩,
 ⟨none, .mv 2 (.i 0), none, 0⟩]
def c47r1 : List SI := [
 ⟨none, .ldR 6 1 0 (some 10), none, 0⟩,
 ⟨none, .call 7 79 [(.t 6)], none, 0⟩,
 ⟨none, .mv 5 (.t 7), none, 0⟩,
 ⟨none, .ext 8 (.t 5) 0, none, 0⟩,
 ⟨none, .ext 9 (.t 5) 1, none, 0⟩,
 ⟨none, .mv 3 (.t 8), none, 0⟩,
 ⟨none, .mv 4 (.t 9), none, 0⟩]
def c47r2 : List SI := [
 ⟨none, .mv 10 (.t 4), none, 0⟩,
 ⟨none, .mv 2 (.t 10), none, 0⟩]
def c47 : SC :=
 (.seq (.reg false c47r0)
 (.seq (.reg false c47r1)
 (.seq (.reg false c47r2)
 .ret)))
def v47 : List Nat × List Nat := ([1], [1])
def o47 : List RS := [.t 2]
def c48r0 : List SI := [
 ⟨none, .bxR 1 (.t 0), none, 0⟩,
 ⟨none, .mv 2 (.i 0), none, 0⟩]
def c48r1 : List SI := [
 ⟨none, .ldR 6 1 0 (some 10), none, 0⟩,
 ⟨none, .call 7 79 [(.t 6)], none, 0⟩,
 ⟨none, .mv 5 (.t 7), none, 0⟩,
 ⟨none, .ext 8 (.t 5) 0, none, 0⟩,
 ⟨none, .ext 9 (.t 5) 1, none, 0⟩,
 ⟨none, .mv 3 (.t 8), none, 0⟩,
 ⟨none, .mv 4 (.t 9), none, 0⟩]
def c48r2 : List SI := [
 ⟨none, .mv 10 (.t 3), none, 0⟩,
 ⟨none, .len 11 false (.t 10), none, 0⟩,
 ⟨none, .mv 2 (.t 11), none, 0⟩]
def c48 : SC :=
 (.seq (.reg false c48r0)
 (.seq (.reg false c48r1)
 (.seq (.reg false c48r2)
 .ret)))
def v48 : List Nat × List Nat := ([1], [1])
def o48 : List RS := [.t 2]
def c49r0 : List SI := [
 ⟨none, .bxR 1 (.t 0), none, 0⟩,
 ⟨none, .mv 2 (.i 0), none, 0⟩]
def c49r1 : List SI := [
 ⟨none, .nop, (some 1), 0⟩,
 ⟨none, .ldR 4 1 2 none, none, 0⟩,
 ⟨none, .len 5 false (.t 4), none, 0⟩,
 ⟨none, .bin 6 .sub (.t 5) (.i 1), none, 0⟩,
 ⟨none, .mv 2 (.t 6), none, 0⟩]
def c49 : SC :=
 (.seq (.reg false c49r0)
 (.seq (.reg false c49r1)
 .ret))
def v49 : List Nat × List Nat := ([1], [1, 3])
def o49 : List RS := [.t 2]
def c50r0 : List SI := [
 ⟨none, .bxR 3 (.t 0), none, 0⟩,
 ⟨none, .bxR 4 (.t 1), none, 0⟩,
 ⟨none, .alR 6 [(.int .i64 0), (.slice none 0 0)], none, 0⟩,
 ⟨none, .mv 7 (.i 0), none, 0⟩]
def c50r1 : List SI := [
 ⟨none, .ldR 13 3 0 (some 2), none, 0⟩,
 ⟨none, .call 14 73 [(.t 13)], none, 0⟩,
 ⟨none, .mv 12 (.t 14), none, 0⟩,
 ⟨none, .ext 15 (.t 12) 0, none, 0⟩,
 ⟨none, .ext 16 (.t 12) 1, none, 0⟩,
 ⟨none, .mv 8 (.t 15), none, 0⟩,
 ⟨none, .mv 9 (.t 16), none, 0⟩]
def c50r2 : List SI := [
 ⟨none, .mv 17 (.t 9), none, 0⟩,
 ⟨none, .nop, (some 3), 0⟩,
 ⟨none, .ldR 19 3 1 none, none, 0⟩,
 ⟨none, .len 20 false (.t 19), none, 0⟩,
 ⟨none, .bin 21 .neq (.t 17) (.t 20), none, 0⟩,
 ⟨none, .mv 22 (.t 21), none, 0⟩,
 ⟨some (22, false), .nop, (some 3), 99999⟩,
 ⟨some (22, false), .ldR 24 3 0 none, none, 24⟩,
 ⟨some (22, false), .call 25 80 [(.t 24)], none, 25⟩,
 ⟨some (22, false), .un 26 .not (.t 25), none, 26⟩,
 ⟨none, .pick 27 (.t 22) (.b true) (.t 26), none, 0⟩,
 ⟨none, .mv 28 (.t 27), none, 0⟩,
 ⟨some (28, false), .mv 29 (.t 2), none, 29⟩,
 ⟨some (28, false), .call 30 81 [(.t 29)], none, 30⟩,
 ⟨some (28, false), .un 31 .not (.t 30), none, 31⟩,
 ⟨none, .pick 32 (.t 28) (.b true) (.t 31), none, 0⟩]
def c50r3 : List SI := [
 ⟨none, .bld 33 [(.int .i64 0), (.slice none 0 0)] [], none, 0⟩,
 ⟨none, .stR 6 0 2 (.t 33), none, 0⟩,
 ⟨none, .mv 7 (.i 1), none, 0⟩]
def c50r4 : List SI := [
 ⟨none, .ldR 35 4 0 (some 10), none, 0⟩,
 ⟨none, .call 36 79 [(.t 35)], none, 0⟩,
 ⟨none, .mv 34 (.t 36), none, 0⟩,
 ⟨none, .ext 37 (.t 34) 0, none, 0⟩,
 ⟨none, .ext 38 (.t 34) 1, none, 0⟩,
 ⟨none, .mv 10 (.t 37), none, 0⟩,
 ⟨none, .mv 11 (.t 38), none, 0⟩]
def c50r5 : List SI := [
 ⟨none, .mv 40 (.t 11), none, 0⟩,
 ⟨none, .bin 41 .neq (.t 40) (.i 0), none, 0⟩,
 ⟨none, .mv 39 (.t 41), none, 0⟩]
def c50r6 : List SI := [
 ⟨none, .bld 42 [(.int .i64 0), (.slice none 0 0)] [], none, 0⟩,
 ⟨none, .mv 43 (.t 11), none, 0⟩,
 ⟨none, .stR 6 0 2 (.t 42), none, 0⟩,
 ⟨none, .mv 7 (.t 43), none, 0⟩]
def c50r7 : List (Bool × SI) := [
 (true, ⟨none, .nop, (some 4), 0⟩),
 (true, N_ (.ldR 46 4 0 none)),
 (true, N_ (.ldR 47 3 0 (some 2))),
 (false, N_ (.call 48 68 [(.t 47)])),
 (true, N_ (.bin 49 .lss (.t 46) (.t 48))),
 (true, N_ (.mv 44 (.t 49)))]
def c50r8 : List SI := [
 ⟨none, .bld 50 [(.int .i64 0), (.slice none 0 0)] [], none, 0⟩,
 ⟨none, .stR 6 0 2 (.t 50), none, 0⟩,
 ⟨none, .mv 7 (.i 71), none, 0⟩]
def c50r9 : List SI := [
 ⟨none, .nop, (some 3), 0⟩,
 ⟨none, .ldR 53 3 1 none, none, 0⟩,
 ⟨none, .len 54 false (.t 53), none, 0⟩,
 ⟨none, .mv 55 (.t 10), none, 0⟩,
 ⟨none, .len 56 false (.t 55), none, 0⟩,
 ⟨none, .bin 57 .add (.t 54) (.t 56), none, 0⟩,
 ⟨none, .mv 58 (.t 2), none, 0⟩,
 ⟨none, .bin 59 .gtr (.t 57) (.t 58), none, 0⟩,
 ⟨none, .mv 51 (.t 59), none, 0⟩]
def c50r10 : List SI := [
 ⟨none, .bld 60 [(.int .i64 0), (.slice none 0 0)] [], none, 0⟩,
 ⟨none, .stR 6 0 2 (.t 60), none, 0⟩,
 ⟨none, .mv 7 (.i 70), none, 0⟩]
def c50r11 : List (Bool × SI) := [
 (true, ⟨none, .nop, (some 3), 0⟩),
 (true, N_ (.ldR 62 3 0 none)),
 (true, ⟨none, .nop, (some 3), 0⟩),
 (true, N_ (.ldR 64 3 1 none)),
 (true, N_ (.mv 65 (.t 10))),
 (false, N_ (.bls 66 53 2 1 [(.slice none 0 0), (.slice none 0 0)] [(0, 1, (.t 64)), (1, 1, (.t 65))])),
 (false, N_ (.call 67 82 [(.t 66)])),
 (true, N_ (.bld 68 [(.int .i64 0), (.slice none 0 0)] [(0, 1, (.t 62)), (1, 1, (.t 67))]))]
def c50r12 : List SI := [
 ⟨none, .stR 6 0 2 (.t 68), none, 0⟩,
 ⟨none, .mv 7 (.i 0), none, 0⟩]
def c50 : SC :=
 (.seq (.reg false c50r0)
 (.seq (.seq (.reg false c50r1)
 (.seq (.reg false c50r2)
 (.cond (.t 32)
  (.seq (.reg false c50r3)
  .ret)
  .skip)))
 (.seq (.reg false c50r4)
 (.seq (.blk 0 (.seq (.reg false c50r5)
  (.cond (.t 39)
   (.seq (.reg false c50r6)
   .ret)
   (.seq (.rgX c50r7)
   (.cond (.t 44)
    (.seq (.reg false c50r8)
    .ret)
    (.seq (.reg false c50r9)
    (.cond (.t 51)
     (.seq (.reg false c50r10)
     .ret)
     .skip)))))))
 (.seq (.rgY c50r11 c50r12)
 .ret)))))
def v50 : List Nat × List Nat := ([3, 4, 6], [3, 4, 6, 18, 23, 45, 52, 61, 63])
def o50 : List RS := [.r 6 (some 2), .t 7]
def c51r0 : List SI := [
 ⟨none, .bxR 2 (.t 0), none, 0⟩,
 ⟨none, .alR 4 [(.int .i64 0), (.int .i64 0), (.slice none 0 0)], none, 0⟩]
def c51r1 : List SI := [
 ⟨none, .nop, (some 2), 0⟩,
 ⟨none, .ldR 6 2 0 none, none, 0⟩,
 ⟨none, .nop, (some 2), 0⟩,
 ⟨none, .ldR 8 2 1 none, none, 0⟩,
 ⟨none, .mv 9 (.t 1), none, 0⟩,
 ⟨none, .bld 10 [(.int .i64 0), (.int .i64 0), (.slice none 0 0)] [(0, 1, (.t 6)), (1, 1, (.t 8)), (2, 1, (.t 9))], none, 0⟩,
 ⟨none, .stR 4 0 3 (.t 10), none, 0⟩]
def c51 : SC :=
 (.seq (.reg false c51r0)
 (.seq (.reg false c51r1)
 .ret))
def v51 : List Nat × List Nat := ([2, 4], [2, 4, 5, 7])
def o51 : List RS := [.r 4 (some 3)]
def c52r0 : List SI := [
 ⟨none, .mv 2 (.v (.slice none 0 0)), none, 0⟩]
def c52r1 : List SI := [
 ⟨none, .mv 3 (.t 0), none, 0⟩,
 ⟨none, .isn 4 false (.t 3), none, 0⟩]
def c52r2 : List SI := [
 ⟨none, .mv 2 (.v (.slice none 0 0)), none, 0⟩]
def c52r3 : List SI := [
 ⟨none, .bl0 5, none, 0⟩,
 ⟨none, .mv 6 (.t 0), none, 0⟩,
 ⟨none, .app 7 (.t 5) (.t 6) 55 2 32, none, 0⟩,
 ⟨none, .mv 2 (.t 7), none, 0⟩]
def c52 : SC :=
 (.seq (.reg false c52r0)
 (.seq (.seq (.reg false c52r1)
 (.cond (.t 4)
  (.seq (.reg false c52r2)
  .ret)
  .skip))
 (.seq (.reg false c52r3)
 .ret)))
def v52 : List Nat × List Nat := ([], [])
def o52 : List RS := [.t 2]
def c53r0 : List SI := [
 ⟨none, .alR 6 [(.int .i64 0), (.slice none 0 0)], none, 0⟩,
 ⟨none, .mv 7 (.i 0), none, 0⟩]
def c53r1 : List SI := [
 ⟨none, .mv 13 (.t 0), none, 0⟩,
 ⟨none, .call 14 83 [(.t 13)], none, 0⟩,
 ⟨none, .mv 12 (.t 14), none, 0⟩,
 ⟨none, .ext 15 (.t 12) 0, none, 0⟩,
 ⟨none, .ext 16 (.t 12) 1, none, 0⟩,
 ⟨none, .alR 8 [(.int .i64 0), (.slice none 0 0)], none, 0⟩,
 ⟨none, .stR 8 0 2 (.t 15), none, 0⟩,
 ⟨none, .mv 9 (.t 16), none, 0⟩]
def c53r2 : List SI := [
 ⟨none, .mv 17 (.t 9), none, 0⟩,
 ⟨none, .bin 18 .neq (.t 17) (.i 0), none, 0⟩,
 ⟨none, .mv 19 (.t 18), none, 0⟩,
 ⟨some (19, false), .mv 20 (.t 2), none, 20⟩,
 ⟨some (19, false), .call 21 81 [(.t 20)], none, 21⟩,
 ⟨some (19, false), .un 22 .not (.t 21), none, 22⟩,
 ⟨none, .pick 23 (.t 19) (.b true) (.t 22), none, 0⟩]
def c53r3 : List SI := [
 ⟨none, .bld 24 [(.int .i64 0), (.slice none 0 0)] [], none, 0⟩,
 ⟨none, .stR 6 0 2 (.t 24), none, 0⟩,
 ⟨none, .mv 7 (.i 1), none, 0⟩]
def c53r4 : List SI := [
 ⟨none, .mv 25 (.t 1), none, 0⟩,
 ⟨none, .len 26 false (.t 25), none, 0⟩,
 ⟨none, .mv 27 (.i 0), none, 0⟩]
def c53r5 : List SI := [
 ⟨none, .bin 28 .lss (.t 27) (.t 26), none, 0⟩]
def c53r6 : List SI := [
 ⟨none, .ixA 29 (.t 25) (.t 27) 10, none, 0⟩,
 ⟨none, .ld 30 (.t 29) (some 10), none, 0⟩,
 ⟨none, .alR 11 [(.int .i64 0), (.int .i64 0), (.int .i64 0), (.int .i64 0), (.int .i64 0), (.int .i64 0), (.int .i64 0), (.bool false), (.int .i64 0), (.slice none 0 0)], none, 0⟩,
 ⟨none, .stR 11 0 10 (.t 30), none, 0⟩]
def c53r7 : List SI := [
 ⟨none, .ldR 32 8 0 (some 2), none, 0⟩,
 ⟨none, .ldR 33 11 0 (some 10), none, 0⟩,
 ⟨none, .mv 34 (.t 2), none, 0⟩,
 ⟨none, .call 35 50 [(.t 32), (.t 33), (.t 34)], none, 0⟩,
 ⟨none, .mv 31 (.t 35), none, 0⟩,
 ⟨none, .ext 36 (.t 31) 0, none, 0⟩,
 ⟨none, .ext 37 (.t 31) 1, none, 0⟩,
 ⟨none, .stR 8 0 2 (.t 36), none, 0⟩,
 ⟨none, .mv 9 (.t 37), none, 0⟩]
def c53r8 : List SI := [
 ⟨none, .mv 38 (.t 9), none, 0⟩,
 ⟨none, .bin 39 .neq (.t 38) (.i 0), none, 0⟩]
def c53r9 : List SI := [
 ⟨none, .bld 40 [(.int .i64 0), (.slice none 0 0)] [], none, 0⟩,
 ⟨none, .mv 41 (.t 9), none, 0⟩,
 ⟨none, .stR 6 0 2 (.t 40), none, 0⟩,
 ⟨none, .mv 7 (.t 41), none, 0⟩]
def c53r10 : List SI := [
 ⟨none, .bin 42 .add (.t 27) (.i 1), none, 0⟩,
 ⟨none, .mv 27 (.t 42), none, 0⟩]
def c53r11 : List SI := [
 ⟨none, .ldR 43 8 0 (some 2), none, 0⟩,
 ⟨none, .stR 6 0 2 (.t 43), none, 0⟩,
 ⟨none, .mv 7 (.i 0), none, 0⟩]
def c53 : SC :=
 (.seq (.reg false c53r0)
 (.seq (.reg false c53r1)
 (.seq (.seq (.reg false c53r2)
 (.cond (.t 23)
  (.seq (.reg false c53r3)
  .ret)
  .skip))
 (.seq (.seq (.reg false c53r4)
 (.blk 0 (.loop (.seq (.reg false c53r5)
   (.seq (.cond (.t 28)
    .skip
    (.exit 0))
   (.seq (.blk 1 (.seq (.reg false c53r6)
    (.seq (.reg false c53r7)
    (.seq (.reg false c53r8)
    (.cond (.t 39)
     (.seq (.reg false c53r9)
     .ret)
     .skip)))))
   (.reg false c53r10)))))))
 (.seq (.reg false c53r11)
 .ret)))))
def v53 : List Nat × List Nat := ([6, 8, 11], [6, 8, 11])
def o53 : List RS := [.r 6 (some 2), .t 7]
def c54r0 : List SI := [
 ⟨none, .bxR 1 (.t 0), none, 0⟩,
 ⟨none, .mv 2 (.i 0), none, 0⟩]
def c54r1 : List SI := [
 ⟨none, .ldR 3 1 0 (some 10), none, 0⟩,
 ⟨none, .call 4 84 [(.t 3)], none, 0⟩,
 ⟨none, .un 5 .not (.t 4), none, 0⟩]
def c54r2 : List SI := [
 ⟨none, .mv 2 (.i 1), none, 0⟩]
def c54r3 : List SI := [
 ⟨none, .ldR 6 1 0 (some 10), none, 0⟩,
 ⟨none, .call 7 85 [(.t 6)], none, 0⟩,
 ⟨none, .len 8 false (.t 7), none, 0⟩,
 ⟨none, .bin 9 .gtr (.t 8) (.i 2048), none, 0⟩]
def c54r4 : List SI := [
 ⟨none, .mv 2 (.i 2), none, 0⟩]
def c54r5 : List SI := [
 ⟨none, .mv 2 (.i 0), none, 0⟩]
def c54 : SC :=
 (.seq (.reg false c54r0)
 (.seq (.seq (.reg false c54r1)
 (.cond (.t 5)
  (.seq (.reg false c54r2)
  .ret)
  .skip))
 (.seq (.seq (.reg false c54r3)
 (.cond (.t 9)
  (.seq (.reg false c54r4)
  .ret)
  .skip))
 (.seq (.reg false c54r5)
 .ret))))
def v54 : List Nat × List Nat := ([1], [1])
def o54 : List RS := [.t 2]
def c55r0 : List SI := [
 ⟨none, .bxR 1 (.t 0), none, 0⟩,
 ⟨none, .mv 2 (.i 0), none, 0⟩]
def c55r1 : List SI := [
 ⟨none, .ldR 3 1 0 (some 10), none, 0⟩,
 ⟨none, .call 4 54 [(.t 3)], none, 0⟩,
 ⟨none, .bin 5 .neq (.t 4) (.i 0), none, 0⟩]
def c55r2 : List SI := [
 ⟨none, .mv 2 (.i 0), none, 0⟩]
def c55r3 : List SI := [
 ⟨none, .ldR 6 1 0 (some 10), none, 0⟩,
 ⟨none, .call 7 85 [(.t 6)], none, 0⟩,
 ⟨none, .len 8 false (.t 7), none, 0⟩,
 ⟨none, .mv 2 (.t 8), none, 0⟩]
def c55 : SC :=
 (.seq (.reg false c55r0)
 (.seq (.seq (.reg false c55r1)
 (.cond (.t 5)
  (.seq (.reg false c55r2)
  .ret)
  .skip))
 (.seq (.reg false c55r3)
 .ret)))
def v55 : List Nat × List Nat := ([1], [1])
def o55 : List RS := [.t 2]
def c59r0 : List SI := [
 ⟨none, .bxR 3 (.t 0), none, 0⟩,
 ⟨none, .alR 6 [(.int .i64 0), (.int .i64 0), (.slice none 0 0)], none, 0⟩,
 ⟨none, .mv 7 (.i 0), none, 0⟩]
def c59r1 : List SI := [
 ⟨none, .ldR 9 3 0 (some 3), none, 0⟩,
 ⟨none, .call 10 10 [(.t 9)], none, 0⟩,
 ⟨none, .mv 8 (.t 10), none, 0⟩]
def c59r2 : List SI := [
 ⟨none, .mv 11 (.t 8), none, 0⟩,
 ⟨none, .bin 12 .neq (.t 11) (.i 0), none, 0⟩]
def c59r3 : List SI := [
 ⟨none, .bld 13 [(.int .i64 0), (.int .i64 0), (.slice none 0 0)] [], none, 0⟩,
 ⟨none, .mv 14 (.t 8), none, 0⟩,
 ⟨none, .stR 6 0 3 (.t 13), none, 0⟩,
 ⟨none, .mv 7 (.t 14), none, 0⟩]
def c59r4 : List SI := [
 ⟨none, .ldR 15 3 0 (some 3), none, 0⟩,
 ⟨none, .mv 16 (.t 1), none, 0⟩,
 ⟨none, .call 17 70 [(.t 15), (.t 16)], none, 0⟩,
 ⟨none, .un 18 .not (.t 17), none, 0⟩]
def c59r5 : List SI := [
 ⟨none, .bld 19 [(.int .i64 0), (.int .i64 0), (.slice none 0 0)] [], none, 0⟩,
 ⟨none, .stR 6 0 3 (.t 19), none, 0⟩,
 ⟨none, .mv 7 (.i 90), none, 0⟩]
def c59r6 : List SI := [
 ⟨none, .mv 20 (.t 2), none, 0⟩,
 ⟨none, .cav 21 (.t 20) [], none, 0⟩,
 ⟨none, .stR 6 0 3 (.t 21), none, 0⟩,
 ⟨none, .mv 7 (.i 0), none, 0⟩]
def c59 : SC :=
 (.seq (.reg false c59r0)
 (.seq (.seq (.reg false c59r1)
 (.seq (.reg false c59r2)
 (.cond (.t 12)
  (.seq (.reg false c59r3)
  .ret)
  .skip)))
 (.seq (.seq (.reg false c59r4)
 (.cond (.t 18)
  (.seq (.reg false c59r5)
  .ret)
  .skip))
 (.seq (.reg false c59r6)
 .ret))))
def v59 : List Nat × List Nat := ([3, 6], [3, 6])
def o59 : List RS := [.r 6 (some 3), .t 7]
def c60r0 : List SI := [
 ⟨none, .alR 2 [(.int .i64 0), (.int .i64 0), (.slice none 0 0)], none, 0⟩]
def c60r1 : List SI := [
 ⟨none, .mv 3 (.v (.slice none 0 0)), none, 0⟩]
def c60r2 : List SI := [
 ⟨none, .flA 6 (.t 0) 2, none, 0⟩,
 ⟨none, .ld 7 (.t 6) none, none, 0⟩,
 ⟨none, .len 8 false (.t 7), none, 0⟩,
 ⟨none, .mv 9 (.i 0), none, 0⟩]
def c60r3 : List SI := [
 ⟨none, .bin 10 .lss (.t 9) (.t 8), none, 0⟩]
def c60r4 : List SI := [
 ⟨none, .ixA 11 (.t 7) (.t 9) 2, none, 0⟩,
 ⟨none, .ld 12 (.t 11) (some 2), none, 0⟩,
 ⟨none, .alR 5 [(.int .i64 0), (.slice none 0 0)], none, 0⟩,
 ⟨none, .stR 5 0 2 (.t 12), none, 0⟩]
def c60r5 : List SI := [
 ⟨none, .nop, (some 5), 0⟩,
 ⟨none, .ldR 14 5 0 none, none, 0⟩,
 ⟨none, .ld 15 (.t 1) none, none, 0⟩,
 ⟨none, .bin 16 .lss (.t 14) (.t 15), none, 0⟩]
def c60r6 : List SI := [
 ⟨none, .mv 17 (.t 3), none, 0⟩,
 ⟨none, .ldR 18 5 0 (some 2), none, 0⟩,
 ⟨none, .ld 19 (.t 1) none, none, 0⟩,
 ⟨none, .call 20 61 [(.t 18), (.t 19)], none, 0⟩,
 ⟨none, .bls 21 55 1 2 [(.int .i64 0), (.slice none 0 0)] [(0, 2, (.t 20))], none, 0⟩,
 ⟨none, .app 22 (.t 17) (.t 21) 55 2 32, none, 0⟩,
 ⟨none, .mv 3 (.t 22), none, 0⟩]
def c60r7 : List SI := [
 ⟨none, .bin 23 .add (.t 9) (.i 1), none, 0⟩,
 ⟨none, .mv 9 (.t 23), none, 0⟩]
def c60r8 : List SI := [
 ⟨none, .mv 24 (.t 3), none, 0⟩,
 ⟨none, .len 25 false (.t 24), none, 0⟩,
 ⟨none, .bin 26 .eql (.t 25) (.i 0), none, 0⟩]
def c60r9 : List SI := [
 ⟨none, .ld 27 (.t 1) none, none, 0⟩,
 ⟨none, .bld 28 [(.int .i64 0), (.slice none 0 0)] [(0, 1, (.t 27))], none, 0⟩,
 ⟨none, .bls 29 55 1 2 [(.int .i64 0), (.slice none 0 0)] [(0, 2, (.t 28))], none, 0⟩,
 ⟨none, .mv 3 (.t 29), none, 0⟩]
def c60r10 : List SI := [
 ⟨none, .ld 30 (.t 0) (some 3), none, 0⟩,
 ⟨none, .mv 31 (.t 3), none, 0⟩,
 ⟨none, .call 32 51 [(.t 30), (.t 31)], none, 0⟩,
 ⟨none, .stR 2 0 3 (.t 32), none, 0⟩]
def c60 : SC :=
 (.seq (.reg false c60r0)
 (.seq (.reg false c60r1)
 (.seq (.seq (.reg false c60r2)
 (.blk 0 (.loop (.seq (.reg false c60r3)
   (.seq (.cond (.t 10)
    .skip
    (.exit 0))
   (.seq (.blk 1 (.seq (.reg false c60r4)
    (.seq (.reg false c60r5)
    (.cond (.t 16)
     (.reg false c60r6)
     .skip))))
   (.reg false c60r7)))))))
 (.seq (.seq (.reg false c60r8)
 (.cond (.t 26)
  (.reg false c60r9)
  .skip))
 (.seq (.reg false c60r10)
 .ret)))))
def v60 : List Nat × List Nat := ([2, 5], [2, 5, 13])
def o60 : List RS := [.r 2 (some 3)]
def c61r0 : List SI := [
 ⟨none, .bx 2 (.t 0), none, 0⟩,
 ⟨none, .bx 3 (.t 1), none, 0⟩,
 ⟨none, .al 4 [(.int .i64 0), (.slice none 0 0)], none, 0⟩]
def c61r1 : List SI := [
 ⟨none, .al 5 [(.int .i64 0)], none, 0⟩,
 ⟨none, .st (.t 5) 1 (.i 0), none, 0⟩]
def c61r2 : List SI := [
 ⟨none, .ld 8 (.t 2) (some 2), none, 0⟩,
 ⟨none, .call 9 89 [(.t 8)], none, 0⟩]
def c61r3 : List SI := [
 ⟨none, .alR 6 [(.int .i64 0), (.int .i64 0), (.int .i64 0), (.int .i64 0), (.int .i64 0), (.int .i64 0), (.int .i64 0), (.bool false), (.int .i64 0), (.slice none 0 0)], none, 0⟩,
 ⟨none, .stR 6 0 10 (.t 10), none, 0⟩]
def c61r4 : List SI := [
 ⟨none, .mv 7 (.t 11), none, 0⟩]
def c61r5 : List SI := [
 ⟨none, .nop, (some 6), 0⟩,
 ⟨none, .ldR 13 6 1 none, none, 0⟩,
 ⟨none, .ld 14 (.t 3) none, none, 0⟩,
 ⟨none, .bin 15 .geq (.t 13) (.t 14), none, 0⟩]
def c61r6 : List SI := [
 ⟨none, .mv 16 (.t 7), none, 0⟩,
 ⟨none, .st (.t 5) 1 (.t 16), none, 0⟩]
def c61r7 : List SI := [
 ⟨none, .ld 17 (.t 2) (some 2), none, 0⟩,
 ⟨none, .ld 18 (.t 5) none, none, 0⟩,
 ⟨none, .call 19 90 [(.t 17), (.t 18)], none, 0⟩,
 ⟨none, .st (.t 4) 2 (.t 19), none, 0⟩]
def c61 : SC :=
 (.seq (.reg false c61r0)
 (.seq (.reg false c61r1)
 (.seq (.seq (.reg false c61r2)
 (.blk 0 (.rf (.t 9) [10, 11] (.seq (.reg false c61r3)
   (.reg false c61r4))
   (.blk 1 (.seq (.seq (.reg false c61r5)
    (.cond (.t 15)
     (.exit 0)
     .skip))
    (.reg false c61r6))))))
 (.seq (.reg false c61r7)
 .ret))))
def v61 : List Nat × List Nat := ([6], [6, 12])
def o61 : List RS := [.c 4 (some 2)]
def c64r0 : List SI := [
 ⟨none, .mv 2 (.b false), none, 0⟩]
def c64r1 : List SI := [
 ⟨none, .mv 3 (.t 0), none, 0⟩,
 ⟨none, .bin 4 .geq (.t 3) (.i 0), none, 0⟩,
 ⟨none, .mv 5 (.t 4), none, 0⟩,
 ⟨some (5, true), .mv 6 (.t 0), none, 6⟩,
 ⟨some (5, true), .bin 7 .leq (.t 6) (.i 1099511627776), none, 7⟩,
 ⟨none, .pick 8 (.t 5) (.t 7) (.b false), none, 0⟩,
 ⟨none, .mv 2 (.t 8), none, 0⟩]
def c64 : SC :=
 (.seq (.reg false c64r0)
 (.seq (.reg false c64r1)
 .ret))
def v64 : List Nat × List Nat := ([], [])
def o64 : List RS := [.t 2]
def c65r0 : List SI := [
 ⟨none, .alR 2 [(.int .i64 0), (.int .i64 0), (.slice none 0 0)], none, 0⟩]
def c65r1 : List (Bool × SI) := [
 (true, N_ (.flA 4 (.t 0) 2)),
 (true, N_ (.ld 5 (.t 4) none)),
 (true, N_ (.ld 6 (.t 0) (some 3))),
 (true, N_ (.mkf 9 (.func 67) [(.t 1)])),
 (false, N_ (.call 7 49 [(.t 6)])),
 (true, N_ (.sl 8 (.t 5) none (some (.t 7)) none 2)),
 (false, N_ (.call 10 66 [(.t 8), (.t 9)])),
 (true, N_ (.mv 3 (.t 10)))]
def c65r2 : List SI := [
 ⟨none, .mv 11 (.t 3), none, 0⟩,
 ⟨none, .bin 12 .lss (.t 11) (.i 0), none, 0⟩]
def c65r3 : List SI := [
 ⟨none, .ld 13 (.t 0) (some 3), none, 0⟩,
 ⟨none, .call 14 49 [(.t 13)], none, 0⟩,
 ⟨none, .mv 3 (.t 14), none, 0⟩]
def c65r4 : List (Bool × SI) := [
 (true, N_ (.flA 15 (.t 0) 0)),
 (true, N_ (.ld 16 (.t 15) none)),
 (true, N_ (.ld 17 (.t 1) none)),
 (true, N_ (.flA 18 (.t 0) 2)),
 (true, N_ (.ld 19 (.t 18) none)),
 (true, N_ (.mv 20 (.t 3))),
 (true, N_ (.sl 21 (.t 19) (some (.t 20)) none none 2)),
 (false, N_ (.call 22 52 [(.t 21)])),
 (true, N_ (.bld 23 [(.int .i64 0), (.int .i64 0), (.slice none 0 0)] [(0, 1, (.t 16)), (1, 1, (.t 17)), (2, 1, (.t 22))]))]
def c65r5 : List SI := [
 ⟨none, .stR 2 0 3 (.t 23), none, 0⟩]
def c65 : SC :=
 (.seq (.reg false c65r0)
 (.seq (.rgX c65r1)
 (.seq (.seq (.reg false c65r2)
 (.cond (.t 12)
  (.reg false c65r3)
  .skip))
 (.seq (.rgY c65r4 c65r5)
 .ret))))
def v65 : List Nat × List Nat := ([2], [2])
def o65 : List RS := [.r 2 (some 3)]
def c66r0 : List SI := [
 ⟨none, .mv 4 (.i 0), none, 0⟩]
def c66r1 : List SI := [
 ⟨none, .mv 6 (.t 0), none, 0⟩,
 ⟨none, .len 7 false (.t 6), none, 0⟩,
 ⟨none, .mv 8 (.i 0), none, 0⟩]
def c66r2 : List SI := [
 ⟨none, .bin 9 .lss (.t 8) (.t 7), none, 0⟩]
def c66r3 : List SI := [
 ⟨none, .mv 10 (.t 8), none, 0⟩,
 ⟨none, .mv 5 (.t 10), none, 0⟩]
def c66r4 : List SI := [
 ⟨none, .mv 11 (.t 1), none, 0⟩,
 ⟨none, .mv 12 (.t 0), none, 0⟩,
 ⟨none, .mv 13 (.t 5), none, 0⟩,
 ⟨none, .ixA 14 (.t 12) (.t 13) 2, none, 0⟩,
 ⟨none, .ld 15 (.t 14) (some 2), none, 0⟩,
 ⟨none, .cav 16 (.t 11) [(.t 15)], none, 0⟩]
def c66r5 : List SI := [
 ⟨none, .mv 17 (.t 5), none, 0⟩,
 ⟨none, .mv 4 (.t 17), none, 0⟩]
def c66r6 : List SI := [
 ⟨none, .bin 18 .add (.t 8) (.i 1), none, 0⟩,
 ⟨none, .mv 8 (.t 18), none, 0⟩]
def c66r7 : List SI := [
 ⟨none, .mv 4 (.i (-1)), none, 0⟩]
def c66 : SC :=
 (.seq (.reg false c66r0)
 (.seq (.seq (.reg false c66r1)
 (.blk 0 (.loop (.seq (.reg false c66r2)
   (.seq (.cond (.t 9)
    .skip
    (.exit 0))
   (.seq (.blk 1 (.seq (.reg false c66r3)
    (.seq (.reg false c66r4)
    (.cond (.t 16)
     (.seq (.reg false c66r5)
     .ret)
     .skip))))
   (.reg false c66r6)))))))
 (.seq (.reg false c66r7)
 .ret)))
def v66 : List Nat × List Nat := ([], [])
def o66 : List RS := [.t 4]
def c67r0 : List SI := [
 ⟨none, .bxR 2 (.t 0), none, 0⟩,
 ⟨none, .mv 3 (.b false), none, 0⟩]
def c67r1 : List (Bool × SI) := [
 (true, N_ (.ldR 4 2 0 (some 2))),
 (true, N_ (.ld 6 (.t 1) none)),
 (false, N_ (.call 5 68 [(.t 4)])),
 (true, N_ (.bin 7 .gtr (.t 5) (.t 6))),
 (true, N_ (.mv 3 (.t 7)))]
def c67 : SC :=
 (.seq (.reg false c67r0)
 (.seq (.rgX c67r1)
 .ret))
def v67 : List Nat × List Nat := ([2], [2])
def o67 : List RS := [.t 3]
def c68r0 : List SI := [
 ⟨none, .bx 1 (.t 0), none, 0⟩,
 ⟨none, .mv 2 (.i 0), none, 0⟩]
def c68r1 : List SI := [
 ⟨none, .flA 5 (.t 1) 0, none, 0⟩,
 ⟨none, .ld 6 (.t 5) none, none, 0⟩,
 ⟨none, .al 3 [(.int .i64 0)], none, 0⟩,
 ⟨none, .st (.t 3) 1 (.t 6), none, 0⟩]
def c68r2 : List SI := [
 ⟨none, .ld 7 (.t 1) (some 2), none, 0⟩,
 ⟨none, .call 8 89 [(.t 7)], none, 0⟩]
def c68r3 : List SI := [
 ⟨none, .alR 4 [(.int .i64 0), (.int .i64 0), (.int .i64 0), (.int .i64 0), (.int .i64 0), (.int .i64 0), (.int .i64 0), (.bool false), (.int .i64 0), (.slice none 0 0)], none, 0⟩,
 ⟨none, .stR 4 0 10 (.t 9), none, 0⟩]
def c68r4 : List SI := [
 ⟨none, .nop, (some 4), 0⟩,
 ⟨none, .ldR 12 4 1 none, none, 0⟩,
 ⟨none, .bin 13 .add (.t 12) (.i 1), none, 0⟩,
 ⟨none, .st (.t 3) 1 (.t 13), none, 0⟩]
def c68r5 : List SI := [
 ⟨none, .ld 14 (.t 3) none, none, 0⟩,
 ⟨none, .mv 2 (.t 14), none, 0⟩]
def c68 : SC :=
 (.seq (.reg false c68r0)
 (.seq (.reg false c68r1)
 (.seq (.seq (.reg false c68r2)
 (.blk 0 (.rf (.t 8) [9, 10] (.reg false c68r3)
  (.blk 1 (.reg false c68r4)))))
 (.seq (.reg false c68r5)
 .ret))))
def v68 : List Nat × List Nat := ([4], [4, 11])
def o68 : List RS := [.t 2]
def c69r0 : List SI := [
 ⟨none, .bxR 1 (.t 0), none, 0⟩,
 ⟨none, .mv 2 (.i 0), none, 0⟩]
def c69r1 : List SI := [
 ⟨none, .ldR 6 1 0 (some 2), none, 0⟩,
 ⟨none, .call 7 74 [(.t 6)], none, 0⟩,
 ⟨none, .mv 5 (.t 7), none, 0⟩,
 ⟨none, .ext 8 (.t 5) 0, none, 0⟩,
 ⟨none, .ext 9 (.t 5) 1, none, 0⟩,
 ⟨none, .mv 3 (.t 8), none, 0⟩,
 ⟨none, .mv 4 (.t 9), none, 0⟩]
def c69r2 : List SI := [
 ⟨none, .mv 10 (.t 3), none, 0⟩,
 ⟨none, .len 11 false (.t 10), none, 0⟩,
 ⟨none, .bin 12 .eql (.t 11) (.i 0), none, 0⟩]
def c69r3 : List SI := [
 ⟨none, .nop, (some 1), 0⟩,
 ⟨none, .ldR 14 1 0 none, none, 0⟩,
 ⟨none, .mv 2 (.t 14), none, 0⟩]
def c69r4 : List SI := [
 ⟨none, .mv 15 (.t 3), none, 0⟩,
 ⟨none, .mv 16 (.t 3), none, 0⟩,
 ⟨none, .len 17 false (.t 16), none, 0⟩,
 ⟨none, .bin 18 .sub (.t 17) (.i 1), none, 0⟩,
 ⟨none, .ixA 19 (.t 15) (.t 18) 10, none, 0⟩,
 ⟨none, .flA 20 (.t 19) 1, none, 0⟩,
 ⟨none, .ld 21 (.t 20) none, none, 0⟩,
 ⟨none, .bin 22 .add (.t 21) (.i 1), none, 0⟩,
 ⟨none, .mv 2 (.t 22), none, 0⟩]
def c69 : SC :=
 (.seq (.reg false c69r0)
 (.seq (.reg false c69r1)
 (.seq (.seq (.reg false c69r2)
 (.cond (.t 12)
  (.seq (.reg false c69r3)
  .ret)
  .skip))
 (.seq (.reg false c69r4)
 .ret))))
def v69 : List Nat × List Nat := ([1], [1, 13])
def o69 : List RS := [.t 2]
def c70r0 : List SI := [
 ⟨none, .bxR 2 (.t 0), none, 0⟩,
 ⟨none, .mv 4 (.b false), none, 0⟩]
def c70r1 : List SI := [
 ⟨none, .nop, (some 2), 0⟩,
 ⟨none, .ldR 6 2 1 none, none, 0⟩,
 ⟨none, .mv 7 (.t 1), none, 0⟩,
 ⟨none, .bin 8 .leq (.t 6) (.t 7), none, 0⟩,
 ⟨none, .mv 9 (.t 8), none, 0⟩,
 ⟨some (9, true), .mv 10 (.t 1), none, 10⟩,
 ⟨some (9, true), .ldR 11 2 0 (some 3), none, 11⟩,
 ⟨some (9, true), .call 12 40 [(.t 11)], none, 12⟩,
 ⟨some (9, true), .bin 13 .leq (.t 10) (.t 12), none, 13⟩,
 ⟨none, .pick 14 (.t 9) (.t 13) (.b false), none, 0⟩,
 ⟨none, .mv 4 (.t 14), none, 0⟩]
def c70 : SC :=
 (.seq (.reg false c70r0)
 (.seq (.reg false c70r1)
 .ret))
def v70 : List Nat × List Nat := ([2], [2, 5])
def o70 : List RS := [.t 4]
def c71r0 : List SI := [
 ⟨none, .bxR 1 (.t 0), none, 0⟩,
 ⟨none, .alR 2 [(.int .i64 0), (.slice none 0 0)], none, 0⟩,
 ⟨none, .mv 3 (.i 0), none, 0⟩]
def c71r1 : List SI := [
 ⟨none, .ldR 7 1 0 (some 2), none, 0⟩,
 ⟨none, .call 8 73 [(.t 7)], none, 0⟩,
 ⟨none, .mv 6 (.t 8), none, 0⟩,
 ⟨none, .ext 9 (.t 6) 0, none, 0⟩,
 ⟨none, .ext 10 (.t 6) 1, none, 0⟩,
 ⟨none, .mv 4 (.t 9), none, 0⟩,
 ⟨none, .mv 5 (.t 10), none, 0⟩]
def c71r2 : List WI := [
 (true, false, ⟨none, .ldR 11 1 0 (some 2), none, 0⟩),
 (true, false, ⟨none, .mv 12 (.t 5), none, 0⟩),
 (true, false, ⟨none, .nop, (some 1), 0⟩),
 (true, false, ⟨none, .ldR 15 1 1 none, none, 0⟩),
 (true, false, ⟨none, .len 16 false (.t 15), none, 0⟩),
 (true, false, ⟨none, .mv 17 (.t 5), none, 0⟩),
 (true, false, ⟨none, .bin 18 .sub (.t 16) (.t 17), none, 0⟩),
 (false, false, ⟨none, .call 13 90 [(.t 11), (.t 12)], none, 0⟩),
 (false, false, ⟨none, .stR 2 0 2 (.t 13), none, 0⟩),
 (true, false, ⟨none, .mv 3 (.t 18), none, 0⟩)]
def c71 : SC :=
 (.seq (.reg false c71r0)
 (.seq (.reg false c71r1)
 (.seq (.rgW c71r2)
 .ret)))
def v71 : List Nat × List Nat := ([1, 2], [1, 2, 14])
def o71 : List RS := [.r 2 (some 2), .t 3]
theorem q71 : slimR Tryz.prog Tryz.f71.ntmps v71.1 v71.2 Tryz.f71.results.toList = some o71 := by kernel_rfl
def c72r0 : List SI := [
 ⟨none, .bxR 1 (.t 0), none, 0⟩,
 ⟨none, .alR 2 [(.int .i64 0), (.slice none 0 0)], none, 0⟩,
 ⟨none, .mv 3 (.i 0), none, 0⟩]
def c72r1 : List SI := [
 ⟨none, .ldR 7 1 0 (some 2), none, 0⟩,
 ⟨none, .call 8 74 [(.t 7)], none, 0⟩,
 ⟨none, .mv 6 (.t 8), none, 0⟩,
 ⟨none, .ext 9 (.t 6) 0, none, 0⟩,
 ⟨none, .ext 10 (.t 6) 1, none, 0⟩,
 ⟨none, .mv 4 (.t 9), none, 0⟩,
 ⟨none, .mv 5 (.t 10), none, 0⟩]
def c72r2 : List WI := [
 (true, false, ⟨none, .nop, (some 1), 0⟩),
 (true, false, ⟨none, .ldR 12 1 0 none, none, 0⟩),
 (true, false, ⟨none, .nop, (some 1), 0⟩),
 (true, false, ⟨none, .ldR 14 1 1 none, none, 0⟩),
 (true, false, ⟨none, .mv 15 (.t 5), none, 0⟩),
 (true, false, ⟨none, .sl 16 (.t 14) none (some (.t 15)) none 1, none, 0⟩),
 (true, false, ⟨none, .nop, (some 1), 0⟩),
 (true, false, ⟨none, .ldR 20 1 1 none, none, 0⟩),
 (true, false, ⟨none, .len 21 false (.t 20), none, 0⟩),
 (true, false, ⟨none, .mv 22 (.t 5), none, 0⟩),
 (true, false, ⟨none, .bin 23 .sub (.t 21) (.t 22), none, 0⟩),
 (false, false, ⟨none, .call 17 87 [(.t 16)], none, 0⟩),
 (true, false, ⟨none, .bld 18 [(.int .i64 0), (.slice none 0 0)] [(0, 1, (.t 12)), (1, 1, (.t 17))], none, 0⟩),
 (false, false, ⟨none, .stR 2 0 2 (.t 18), none, 0⟩),
 (true, false, ⟨none, .mv 3 (.t 23), none, 0⟩)]
def c72 : SC :=
 (.seq (.reg false c72r0)
 (.seq (.reg false c72r1)
 (.seq (.rgW c72r2)
 .ret)))
def v72 : List Nat × List Nat := ([1, 2], [1, 2, 11, 13, 19])
def o72 : List RS := [.r 2 (some 2), .t 3]
def c73r0 : List SI := [
 ⟨none, .bx 1 (.t 0), none, 0⟩,
 ⟨none, .al 2 [(.slice none 0 0)], none, 0⟩,
 ⟨none, .al 3 [(.int .i64 0)], none, 0⟩]
def c73r1 : List SI := [
 ⟨none, .ld 6 (.t 1) (some 2), none, 0⟩,
 ⟨none, .call 7 89 [(.t 6)], none, 0⟩]
def c73r2 : List SI := [
 ⟨none, .alR 4 [(.int .i64 0), (.int .i64 0), (.int .i64 0), (.int .i64 0), (.int .i64 0), (.int .i64 0), (.int .i64 0), (.bool false), (.int .i64 0), (.slice none 0 0)], none, 0⟩,
 ⟨none, .stR 4 0 10 (.t 8), none, 0⟩]
def c73r3 : List SI := [
 ⟨none, .mv 5 (.t 9), none, 0⟩]
def c73r4 : List SI := [
 ⟨none, .ld 10 (.t 2) none, none, 0⟩,
 ⟨none, .ldR 11 4 0 (some 10), none, 0⟩,
 ⟨none, .bls 12 39 1 10 [(.int .i64 0), (.int .i64 0), (.int .i64 0), (.int .i64 0), (.int .i64 0), (.int .i64 0), (.int .i64 0), (.bool false), (.int .i64 0), (.slice none 0 0)] [(0, 10, (.t 11))], none, 0⟩,
 ⟨none, .app 13 (.t 10) (.t 12) 39 10 96, none, 0⟩,
 ⟨none, .mv 14 (.t 5), none, 0⟩,
 ⟨none, .st (.t 2) 1 (.t 13), none, 0⟩,
 ⟨none, .st (.t 3) 1 (.t 14), none, 0⟩]
def c73r5 : List WI := [
 (true, false, ⟨none, .ld 15 (.t 2) none, none, 0⟩),
 (true, false, ⟨none, .ld 16 (.t 3) none, none, 0⟩),
 (false, false, ⟨none, .st (.t 2) 1 (.t 15), none, 0⟩),
 (false, true, ⟨none, .st (.t 3) 1 (.t 16), none, 0⟩)]
def c73 : SC :=
 (.seq (.reg false c73r0)
 (.seq (.seq (.reg false c73r1)
 (.blk 0 (.rf (.t 7) [8, 9] (.seq (.reg false c73r2)
  (.reg false c73r3))
  (.blk 1 (.reg false c73r4)))))
 (.seq (.rgW c73r5)
 .ret)))
def v73 : List Nat × List Nat := ([4], [4])
def o73 : List RS := [.c 2 none, .c 3 none]
def c74r0 : List SI := [
 ⟨none, .bxR 1 (.t 0), none, 0⟩,
 ⟨none, .mv 2 (.v (.slice none 0 0)), none, 0⟩,
 ⟨none, .mv 3 (.i 0), none, 0⟩]
def c74r1 : List SI := [
 ⟨none, .mv 4 (.v (.slice none 0 0)), none, 0⟩]
def c74r2 : List SI := [
 ⟨none, .mv 5 (.i 0), none, 0⟩]
def c74r3 : List SI := [
 ⟨none, .nop, (some 1), 0⟩,
 ⟨none, .ldR 11 1 1 none, none, 0⟩,
 ⟨none, .mv 12 (.t 5), none, 0⟩,
 ⟨none, .call 13 91 [(.t 11), (.t 12)], none, 0⟩,
 ⟨none, .mv 9 (.t 13), none, 0⟩,
 ⟨none, .ext 14 (.t 9) 0, none, 0⟩,
 ⟨none, .ext 15 (.t 9) 1, none, 0⟩,
 ⟨none, .ext 16 (.t 9) 2, none, 0⟩,
 ⟨none, .alR 6 [(.int .i64 0), (.int .i64 0), (.int .i64 0), (.int .i64 0), (.int .i64 0), (.int .i64 0), (.int .i64 0), (.bool false), (.int .i64 0), (.slice none 0 0)], none, 0⟩,
 ⟨none, .stR 6 0 10 (.t 14), none, 0⟩,
 ⟨none, .mv 7 (.t 15), none, 0⟩,
 ⟨none, .mv 8 (.t 16), none, 0⟩]
def c74r4 : List SI := [
 ⟨none, .mv 17 (.t 8), none, 0⟩,
 ⟨none, .bin 18 .neq (.t 17) (.i 0), none, 0⟩,
 ⟨none, .mv 19 (.t 18), none, 0⟩,
 ⟨some (19, false), .nop, (some 6), 99999⟩,
 ⟨some (19, false), .ldR 21 6 0 none, none, 21⟩,
 ⟨some (19, false), .nop, (some 1), 99999⟩,
 ⟨some (19, false), .ldR 23 1 0 none, none, 23⟩,
 ⟨some (19, false), .bin 24 .lss (.t 21) (.t 23), none, 24⟩,
 ⟨none, .pick 25 (.t 19) (.b true) (.t 24), none, 0⟩,
 ⟨none, .mv 26 (.t 25), none, 0⟩,
 ⟨some (26, false), .mv 27 (.t 4), none, 27⟩,
 ⟨some (26, false), .len 28 false (.t 27), none, 28⟩,
 ⟨some (26, false), .bin 29 .gtr (.t 28) (.i 0), none, 29⟩,
 ⟨some (26, false), .mv 30 (.t 29), none, 30⟩,
 ⟨some (30, true), .nop, (some 6), 99999⟩,
 ⟨some (30, true), .ldR 32 6 0 none, none, 32⟩,
 ⟨some (30, true), .mv 33 (.t 4), none, 33⟩,
 ⟨some (30, true), .mv 34 (.t 4), none, 34⟩,
 ⟨some (30, true), .len 35 false (.t 34), none, 35⟩,
 ⟨some (30, true), .bin 36 .sub (.t 35) (.i 1), none, 36⟩,
 ⟨some (30, true), .ixA 37 (.t 33) (.t 36) 10, none, 37⟩,
 ⟨some (30, true), .flA 38 (.t 37) 1, none, 38⟩,
 ⟨some (30, true), .ld 39 (.t 38) none, none, 39⟩,
 ⟨some (30, true), .bin 40 .leq (.t 32) (.t 39), none, 40⟩,
 ⟨some (26, false), .pick 41 (.t 30) (.t 40) (.b false), none, 41⟩,
 ⟨none, .pick 42 (.t 26) (.b true) (.t 41), none, 0⟩]
def c74r5 : List SI := [
 ⟨none, .mv 43 (.t 4), none, 0⟩,
 ⟨none, .mv 44 (.t 5), none, 0⟩,
 ⟨none, .mv 2 (.t 43), none, 0⟩,
 ⟨none, .mv 3 (.t 44), none, 0⟩]
def c74r6 : List SI := [
 ⟨none, .mv 45 (.t 4), none, 0⟩,
 ⟨none, .ldR 46 6 0 (some 10), none, 0⟩,
 ⟨none, .bls 47 39 1 10 [(.int .i64 0), (.int .i64 0), (.int .i64 0), (.int .i64 0), (.int .i64 0), (.int .i64 0), (.int .i64 0), (.bool false), (.int .i64 0), (.slice none 0 0)] [(0, 10, (.t 46))], none, 0⟩,
 ⟨none, .app 48 (.t 45) (.t 47) 39 10 96, none, 0⟩,
 ⟨none, .mv 4 (.t 48), none, 0⟩]
def c74r7 : List SI := [
 ⟨none, .mv 49 (.t 7), none, 0⟩,
 ⟨none, .mv 5 (.t 49), none, 0⟩]
def c74 : SC :=
 (.seq (.reg false c74r0)
 (.seq (.reg false c74r1)
 (.seq (.reg false c74r2)
 (.blk 0 (.loop (.blk 1 (.seq (.reg false c74r3)
    (.seq (.seq (.reg true c74r4)
    (.cond (.t 42)
     (.seq (.reg false c74r5)
     .ret)
     .skip))
    (.seq (.reg false c74r6)
    (.reg false c74r7))))))))))
def v74 : List Nat × List Nat := ([1, 6], [1, 6, 10, 20, 22, 31])
def o74 : List RS := [.t 2, .t 3]
def c75r0 : List SI := [
 ⟨none, .mv 4 (.b false), none, 0⟩]
def c75r1 : List SI := [
 ⟨none, .mv 6 (.t 0), none, 0⟩,
 ⟨none, .len 7 false (.t 6), none, 0⟩,
 ⟨none, .mv 8 (.t 1), none, 0⟩,
 ⟨none, .len 9 false (.t 8), none, 0⟩,
 ⟨none, .bin 10 .neq (.t 7) (.t 9), none, 0⟩]
def c75r2 : List SI := [
 ⟨none, .mv 4 (.b false), none, 0⟩]
def c75r3 : List SI := [
 ⟨none, .mv 11 (.t 0), none, 0⟩,
 ⟨none, .len 12 false (.t 11), none, 0⟩,
 ⟨none, .mv 13 (.i 0), none, 0⟩]
def c75r4 : List SI := [
 ⟨none, .bin 14 .lss (.t 13) (.t 12), none, 0⟩]
def c75r5 : List SI := [
 ⟨none, .mv 15 (.t 13), none, 0⟩,
 ⟨none, .mv 5 (.t 15), none, 0⟩]
def c75r6 : List SI := [
 ⟨none, .mv 16 (.t 0), none, 0⟩,
 ⟨none, .mv 17 (.t 5), none, 0⟩,
 ⟨none, .ixA 18 (.t 16) (.t 17) 5, none, 0⟩,
 ⟨none, .ld 19 (.t 18) (some 5), none, 0⟩,
 ⟨none, .mv 20 (.t 1), none, 0⟩,
 ⟨none, .mv 21 (.t 5), none, 0⟩,
 ⟨none, .ixA 22 (.t 20) (.t 21) 5, none, 0⟩,
 ⟨none, .ld 23 (.t 22) (some 5), none, 0⟩,
 ⟨none, .eqf 24 true [0, 2, 2, 1, 0] (.t 19) (.t 23), none, 0⟩]
def c75r7 : List SI := [
 ⟨none, .mv 4 (.b false), none, 0⟩]
def c75r8 : List SI := [
 ⟨none, .bin 25 .add (.t 13) (.i 1), none, 0⟩,
 ⟨none, .mv 13 (.t 25), none, 0⟩]
def c75r9 : List SI := [
 ⟨none, .mv 4 (.b true), none, 0⟩]
def c75 : SC :=
 (.seq (.reg false c75r0)
 (.seq (.seq (.reg false c75r1)
 (.cond (.t 10)
  (.seq (.reg false c75r2)
  .ret)
  .skip))
 (.seq (.seq (.reg false c75r3)
 (.blk 0 (.loop (.seq (.reg false c75r4)
   (.seq (.cond (.t 14)
    .skip
    (.exit 0))
   (.seq (.blk 1 (.seq (.reg false c75r5)
    (.seq (.reg true c75r6)
    (.cond (.t 24)
     (.seq (.reg false c75r7)
     .ret)
     .skip))))
   (.reg false c75r8)))))))
 (.seq (.reg false c75r9)
 .ret))))
def v75 : List Nat × List Nat := ([], [])
def o75 : List RS := [.t 4]
def c76r0 : List SI := [
 ⟨none, .bx 2 (.t 0), none, 0⟩,
 ⟨none, .mv 4 (.v (.slice none 0 0)), none, 0⟩]
def c76r1 : List SI := [
 ⟨none, .mv 6 (.t 1), none, 0⟩]
def c76r2 : List SI := [
 ⟨none, .alR 5 [(.int .i64 0), (.int .i64 0), (.int .i64 0), (.int .i64 0), (.int .i64 0), (.int .i64 0), (.int .i64 0), (.bool false), (.int .i64 0), (.slice none 0 0)], none, 0⟩,
 ⟨none, .stR 5 0 10 (.t 7), none, 0⟩]
def c76r3 : List SI := [
 ⟨none, .ld 8 (.t 2) none, none, 0⟩,
 ⟨none, .ldR 9 5 0 (some 10), none, 0⟩,
 ⟨none, .bls 10 39 1 10 [(.int .i64 0), (.int .i64 0), (.int .i64 0), (.int .i64 0), (.int .i64 0), (.int .i64 0), (.int .i64 0), (.bool false), (.int .i64 0), (.slice none 0 0)] [(0, 10, (.t 9))], none, 0⟩,
 ⟨none, .app 11 (.t 8) (.t 10) 39 10 96, none, 0⟩,
 ⟨none, .st (.t 2) 1 (.t 11), none, 0⟩]
def c76r4 : List SI := [
 ⟨none, .ld 12 (.t 2) none, none, 0⟩,
 ⟨none, .mv 4 (.t 12), none, 0⟩]
def c76 : SC :=
 (.seq (.reg false c76r0)
 (.seq (.seq (.reg false c76r1)
 (.blk 0 (.rf (.t 6) [7] (.reg false c76r2)
  (.blk 1 (.reg false c76r3)))))
 (.seq (.reg false c76r4)
 .ret)))
def v76 : List Nat × List Nat := ([5], [5])
def o76 : List RS := [.t 4]
def c77r0 : List SI := [
 ⟨none, .flA 10 (.t 1) 2, none, 0⟩,
 ⟨none, .ld 11 (.t 10) none, none, 0⟩,
 ⟨none, .len 12 false (.t 11), none, 0⟩,
 ⟨none, .mv 13 (.i 0), none, 0⟩]
def c77r1 : List SI := [
 ⟨none, .bin 14 .lss (.t 13) (.t 12), none, 0⟩]
def c77r2 : List SI := [
 ⟨none, .ixA 15 (.t 11) (.t 13) 2, none, 0⟩,
 ⟨none, .ld 16 (.t 15) (some 2), none, 0⟩,
 ⟨none, .alR 5 [(.int .i64 0), (.slice none 0 0)], none, 0⟩,
 ⟨none, .stR 5 0 2 (.t 16), none, 0⟩]
def c77r3 : List SI := [
 ⟨none, .ldR 18 5 0 (some 2), none, 0⟩,
 ⟨none, .call 19 73 [(.t 18)], none, 0⟩,
 ⟨none, .mv 17 (.t 19), none, 0⟩,
 ⟨none, .ext 20 (.t 17) 0, none, 0⟩,
 ⟨none, .ext 21 (.t 17) 1, none, 0⟩,
 ⟨none, .mv 6 (.t 20), none, 0⟩,
 ⟨none, .mv 7 (.t 21), none, 0⟩]
def c77r4 : List SI := [
 ⟨none, .mv 22 (.t 6), none, 0⟩,
 ⟨none, .len 23 false (.t 22), none, 0⟩,
 ⟨none, .mv 24 (.i 0), none, 0⟩]
def c77r5 : List SI := [
 ⟨none, .bin 25 .lss (.t 24) (.t 23), none, 0⟩]
def c77r6 : List SI := [
 ⟨none, .ixA 26 (.t 22) (.t 24) 10, none, 0⟩,
 ⟨none, .ld 27 (.t 26) (some 10), none, 0⟩,
 ⟨none, .alR 9 [(.int .i64 0), (.int .i64 0), (.int .i64 0), (.int .i64 0), (.int .i64 0), (.int .i64 0), (.int .i64 0), (.bool false), (.int .i64 0), (.slice none 0 0)], none, 0⟩,
 ⟨none, .stR 9 0 10 (.t 27), none, 0⟩]
def c77r7 : List SI := [
 ⟨none, .nop, (some 9), 0⟩,
 ⟨none, .ldR 29 9 1 none, none, 0⟩,
 ⟨none, .ld 30 (.t 2) none, none, 0⟩,
 ⟨none, .bin 31 .geq (.t 29) (.t 30), none, 0⟩,
 ⟨none, .mv 32 (.t 31), none, 0⟩,
 ⟨some (32, true), .mv 33 (.t 0), none, 33⟩,
 ⟨some (32, true), .ldR 34 9 0 (some 10), none, 34⟩,
 ⟨some (32, true), .cav 35 (.t 33) [(.t 34)], none, 35⟩,
 ⟨some (32, true), .un 36 .not (.t 35), none, 36⟩,
 ⟨none, .pick 37 (.t 32) (.t 36) (.b false), none, 0⟩]
def c77r8 : List SI := [
 ⟨none, .bin 38 .add (.t 24) (.i 1), none, 0⟩,
 ⟨none, .mv 24 (.t 38), none, 0⟩]
def c77r9 : List SI := [
 ⟨none, .bin 39 .add (.t 13) (.i 1), none, 0⟩,
 ⟨none, .mv 13 (.t 39), none, 0⟩]
def c77 : SC :=
 (.seq (.reg false c77r0)
 (.blk 0 (.loop (.seq (.reg false c77r1)
   (.seq (.cond (.t 14)
    .skip
    (.exit 0))
   (.seq (.blk 1 (.seq (.reg false c77r2)
    (.seq (.reg false c77r3)
    (.seq (.reg false c77r4)
    (.blk 2 (.loop (.seq (.reg false c77r5)
      (.seq (.cond (.t 25)
       .skip
       (.exit 2))
      (.seq (.blk 3 (.seq (.reg false c77r6)
       (.seq (.reg false c77r7)
       (.cond (.t 37)
        .ret
        .skip))))
      (.reg false c77r8))))))))))
   (.reg false c77r9)))))))
def v77 : List Nat × List Nat := ([5, 9], [5, 9, 28])
def o77 : List RS := []
def c78r0 : List SI := [
 ⟨none, .mv 4 (.b false), none, 0⟩]
def c78r1 : List SI := [
 ⟨none, .mv 5 (.t 0), none, 0⟩,
 ⟨none, .cvS 6 (.t 5), none, 0⟩,
 ⟨none, .mv 7 (.t 1), none, 0⟩,
 ⟨none, .cvS 8 (.t 7), none, 0⟩,
 ⟨none, .bin 9 .eql (.t 6) (.t 8), none, 0⟩,
 ⟨none, .mv 4 (.t 9), none, 0⟩]
def c78 : SC :=
 (.seq (.reg false c78r0)
 (.seq (.reg false c78r1)
 .ret))
def v78 : List Nat × List Nat := ([], [])
def o78 : List RS := [.t 4]
def c79r0 : List SI := [
 ⟨none, .bxR 1 (.t 0), none, 0⟩,
 ⟨none, .mv 2 (.v (.slice none 0 0)), none, 0⟩,
 ⟨none, .mv 3 (.i 0), none, 0⟩]
def c79r1 : List SI := [
 ⟨none, .ldR 5 1 0 (some 10), none, 0⟩,
 ⟨none, .call 6 92 [(.t 5)], none, 0⟩,
 ⟨none, .un 7 .not (.t 6), none, 0⟩]
def c79r2 : List SI := [
 ⟨none, .mv 2 (.v (.slice none 0 0)), none, 0⟩,
 ⟨none, .mv 3 (.i 1), none, 0⟩]
def c79r3 : List SI := [
 ⟨none, .ldR 8 1 0 (some 10), none, 0⟩,
 ⟨none, .call 9 93 [(.t 8)], none, 0⟩,
 ⟨none, .mv 4 (.t 9), none, 0⟩]
def c79r4 : List SI := [
 ⟨none, .mv 10 (.t 4), none, 0⟩,
 ⟨none, .len 11 false (.t 10), none, 0⟩,
 ⟨none, .bin 12 .gtr (.t 11) (.i 2048), none, 0⟩]
def c79r5 : List SI := [
 ⟨none, .mv 2 (.v (.slice none 0 0)), none, 0⟩,
 ⟨none, .mv 3 (.i 2), none, 0⟩]
def c79r6 : List SI := [
 ⟨none, .mv 13 (.t 4), none, 0⟩,
 ⟨none, .mv 2 (.t 13), none, 0⟩,
 ⟨none, .mv 3 (.i 0), none, 0⟩]
def c79 : SC :=
 (.seq (.reg false c79r0)
 (.seq (.seq (.reg false c79r1)
 (.cond (.t 7)
  (.seq (.reg false c79r2)
  .ret)
  .skip))
 (.seq (.reg false c79r3)
 (.seq (.seq (.reg false c79r4)
 (.cond (.t 12)
  (.seq (.reg false c79r5)
  .ret)
  .skip))
 (.seq (.reg false c79r6)
 .ret)))))
def v79 : List Nat × List Nat := ([1], [1])
def o79 : List RS := [.t 2, .t 3]
def c80r0 : List SI := [
 ⟨none, .mv 2 (.b false), none, 0⟩]
def c80r1 : List SI := [
 ⟨none, .mv 3 (.t 0), none, 0⟩,
 ⟨none, .bin 4 .geq (.t 3) (.i 0), none, 0⟩,
 ⟨none, .mv 5 (.t 4), none, 0⟩,
 ⟨some (5, true), .mv 6 (.t 0), none, 6⟩,
 ⟨some (5, true), .bin 7 .leq (.t 6) (.i 1099511627776), none, 7⟩,
 ⟨none, .pick 8 (.t 5) (.t 7) (.b false), none, 0⟩,
 ⟨none, .mv 2 (.t 8), none, 0⟩]
def c80 : SC :=
 (.seq (.reg false c80r0)
 (.seq (.reg false c80r1)
 .ret))
def v80 : List Nat × List Nat := ([], [])
def o80 : List RS := [.t 2]
def c81r0 : List SI := [
 ⟨none, .mv 2 (.b false), none, 0⟩]
def c81r1 : List SI := [
 ⟨none, .mv 3 (.t 0), none, 0⟩,
 ⟨none, .bin 4 .geq (.t 3) (.i 1), none, 0⟩,
 ⟨none, .mv 5 (.t 4), none, 0⟩,
 ⟨some (5, true), .mv 6 (.t 0), none, 6⟩,
 ⟨some (5, true), .bin 7 .leq (.t 6) (.i 4096), none, 7⟩,
 ⟨none, .pick 8 (.t 5) (.t 7) (.b false), none, 0⟩,
 ⟨none, .mv 2 (.t 8), none, 0⟩]
def c81 : SC :=
 (.seq (.reg false c81r0)
 (.seq (.reg false c81r1)
 .ret))
def v81 : List Nat × List Nat := ([], [])
def o81 : List RS := [.t 2]
def c82r0 : List SI := [
 ⟨none, .mv 2 (.v (.slice none 0 0)), none, 0⟩]
def c82r1 : List SI := [
 ⟨none, .mv 3 (.i 0), none, 0⟩]
def c82r2 : List SI := [
 ⟨none, .mv 9 (.t 0), none, 0⟩,
 ⟨none, .len 10 false (.t 9), none, 0⟩,
 ⟨none, .mv 11 (.i 0), none, 0⟩]
def c82r3 : List SI := [
 ⟨none, .bin 12 .lss (.t 11) (.t 10), none, 0⟩]
def c82r4 : List SI := [
 ⟨none, .ixA 13 (.t 9) (.t 11) 1, none, 0⟩,
 ⟨none, .ld 14 (.t 13) none, none, 0⟩,
 ⟨none, .mv 5 (.t 14), none, 0⟩]
def c82r5 : List SI := [
 ⟨none, .mv 15 (.t 3), none, 0⟩,
 ⟨none, .mv 16 (.t 5), none, 0⟩,
 ⟨none, .len 17 false (.t 16), none, 0⟩,
 ⟨none, .bin 18 .add (.t 15) (.t 17), none, 0⟩,
 ⟨none, .mv 3 (.t 18), none, 0⟩]
def c82r6 : List SI := [
 ⟨none, .mv 19 (.t 3), none, 0⟩,
 ⟨none, .bin 20 .lss (.t 19) (.i 0), none, 0⟩]
def c82r7 : List SI := [
 ⟨none, .bin 22 .add (.t 11) (.i 1), none, 0⟩,
 ⟨none, .mv 11 (.t 22), none, 0⟩]
def c82r8 : List SI := [
 ⟨none, .mv 23 (.t 3), none, 0⟩,
 ⟨none, .call 24 94 [(.v (.slice none 0 0)), (.t 23)], none, 0⟩,
 ⟨none, .mv 6 (.t 24), none, 0⟩]
def c82r9 : List SI := [
 ⟨none, .mv 25 (.t 0), none, 0⟩,
 ⟨none, .len 26 false (.t 25), none, 0⟩,
 ⟨none, .mv 27 (.i 0), none, 0⟩]
def c82r10 : List SI := [
 ⟨none, .bin 28 .lss (.t 27) (.t 26), none, 0⟩]
def c82r11 : List SI := [
 ⟨none, .ixA 29 (.t 25) (.t 27) 1, none, 0⟩,
 ⟨none, .ld 30 (.t 29) none, none, 0⟩,
 ⟨none, .mv 8 (.t 30), none, 0⟩]
def c82r12 : List SI := [
 ⟨none, .mv 31 (.t 6), none, 0⟩,
 ⟨none, .mv 32 (.t 8), none, 0⟩,
 ⟨none, .app 33 (.t 31) (.t 32) 5 1 1, none, 0⟩,
 ⟨none, .mv 6 (.t 33), none, 0⟩]
def c82r13 : List SI := [
 ⟨none, .bin 34 .add (.t 27) (.i 1), none, 0⟩,
 ⟨none, .mv 27 (.t 34), none, 0⟩]
def c82r14 : List SI := [
 ⟨none, .mv 35 (.t 6), none, 0⟩,
 ⟨none, .mv 2 (.t 35), none, 0⟩]
def c82 : SC :=
 (.seq (.reg false c82r0)
 (.seq (.reg false c82r1)
 (.seq (.seq (.reg false c82r2)
 (.blk 0 (.loop (.seq (.reg false c82r3)
   (.seq (.cond (.t 12)
    .skip
    (.exit 0))
   (.seq (.blk 1 (.seq (.reg false c82r4)
    (.seq (.reg false c82r5)
    (.seq (.reg false c82r6)
    (.cond (.t 20)
     .dead
     .skip)))))
   (.reg false c82r7)))))))
 (.seq (.reg false c82r8)
 (.seq (.seq (.reg false c82r9)
 (.blk 2 (.loop (.seq (.reg false c82r10)
   (.seq (.cond (.t 28)
    .skip
    (.exit 2))
   (.seq (.blk 3 (.seq (.reg false c82r11)
    (.reg false c82r12)))
   (.reg false c82r13)))))))
 (.seq (.reg false c82r14)
 .ret))))))
def v82 : List Nat × List Nat := ([], [])
def o82 : List RS := [.t 2]
def c83r0 : List SI := [
 ⟨none, .alR 2 [(.int .i64 0), (.slice none 0 0)], none, 0⟩,
 ⟨none, .mv 3 (.i 0), none, 0⟩]
def c83r1 : List SI := [
 ⟨none, .mv 4 (.t 0), none, 0⟩,
 ⟨none, .call 5 80 [(.t 4)], none, 0⟩,
 ⟨none, .un 6 .not (.t 5), none, 0⟩]
def c83r2 : List SI := [
 ⟨none, .bld 7 [(.int .i64 0), (.slice none 0 0)] [], none, 0⟩,
 ⟨none, .stR 2 0 2 (.t 7), none, 0⟩,
 ⟨none, .mv 3 (.i 1), none, 0⟩]
def c83r3 : List SI := [
 ⟨none, .mv 8 (.t 0), none, 0⟩,
 ⟨none, .bld 9 [(.int .i64 0), (.slice none 0 0)] [(0, 1, (.t 8))], none, 0⟩,
 ⟨none, .stR 2 0 2 (.t 9), none, 0⟩,
 ⟨none, .mv 3 (.i 0), none, 0⟩]
def c83 : SC :=
 (.seq (.reg false c83r0)
 (.seq (.seq (.reg false c83r1)
 (.cond (.t 6)
  (.seq (.reg false c83r2)
  .ret)
  .skip))
 (.seq (.reg false c83r3)
 .ret)))
def v83 : List Nat × List Nat := ([2], [2])
def o83 : List RS := [.r 2 (some 2), .t 3]
end Go.Proofs.YtppgnokhdpaljaaGreat

/- Parts of a proof, 4 texts in one file. No condition. -/
import Derived.Test.YtppgnokhdpaljaaRows
import Derived.Test.YtppgnokhdpaljaaM1
import Derived.Test.YtppgnokhdpaljaaM2
set_option linter.unusedSimpArgs false
set_option linter.unusedVariables false
namespace Go.Proofs.Ytppgnokhdpaljaa
open Go Go.Kx
-- watermeet/watermeetlaw09.ChainBack N=107
def c3r0 : List SI := [
 ⟨none, .mv 8 (.b false), none, 0⟩]
def c3r1 : List SI := [
 ⟨none, .call 17 9 [], none, 0⟩,
 ⟨none, .mv 9 (.t 17), none, 0⟩]
def c3r2 : List SI := [
 ⟨none, .mv 18 (.t 2), none, 0⟩,
 ⟨none, .call 19 10 [(.t 18), (.i 40)], none, 0⟩,
 ⟨none, .un 20 .not (.t 19), none, 0⟩]
def c3r3 : List SI := [
 ⟨none, .mv 21 (.t 9), none, 0⟩,
 ⟨none, .mv 8 (.t 21), none, 0⟩]
def c3r4 : List SI := [
 ⟨none, .mv 23 (.t 0), none, 0⟩,
 ⟨none, .mv 24 (.t 1), none, 0⟩,
 ⟨none, .call 25 11 [(.t 23), (.t 24)], none, 0⟩,
 ⟨none, .mv 22 (.t 25), none, 0⟩,
 ⟨none, .ext 26 (.t 22) 0, none, 0⟩,
 ⟨none, .ext 27 (.t 22) 1, none, 0⟩,
 ⟨none, .alR 10 [(.int .i64 0), (.int .i64 0), (.slice none 0 0)], none, 0⟩,
 ⟨none, .stR 10 0 3 (.t 26), none, 0⟩,
 ⟨none, .mv 11 (.t 27), none, 0⟩]
def c3r5 : List SI := [
 ⟨none, .mv 28 (.t 11), none, 0⟩,
 ⟨none, .bin 29 .neq (.t 28) (.i 0), none, 0⟩]
def c3r6 : List SI := [
 ⟨none, .mv 30 (.t 9), none, 0⟩,
 ⟨none, .mv 31 (.t 30), none, 0⟩,
 ⟨some (31, true), .nop, (some 10), 99999⟩,
 ⟨some (31, true), .ldR 33 10 2 none, none, 33⟩,
 ⟨some (31, true), .len 34 false (.t 33), none, 34⟩,
 ⟨some (31, true), .bin 35 .eql (.t 34) (.i 0), none, 35⟩,
 ⟨none, .pick 36 (.t 31) (.t 35) (.b false), none, 0⟩,
 ⟨none, .mv 8 (.t 36), none, 0⟩]
def c3r7 : List SI := [
 ⟨none, .ldR 38 10 0 (some 3), none, 0⟩,
 ⟨none, .mv 39 (.t 2), none, 0⟩,
 ⟨none, .call 40 12 [(.t 38), (.t 39)], none, 0⟩,
 ⟨none, .mv 37 (.t 40), none, 0⟩,
 ⟨none, .ext 41 (.t 37) 0, none, 0⟩,
 ⟨none, .ext 42 (.t 37) 1, none, 0⟩,
 ⟨none, .alR 12 [(.int .i64 0), (.int .i64 0), (.slice none 0 0)], none, 0⟩,
 ⟨none, .stR 12 0 3 (.t 41), none, 0⟩,
 ⟨none, .mv 13 (.t 42), none, 0⟩]
def c3r8 : List SI := [
 ⟨none, .mv 43 (.t 1), none, 0⟩,
 ⟨none, .mv 14 (.t 43), none, 0⟩]
def c3r9 : List SI := [
 ⟨none, .mv 44 (.t 13), none, 0⟩,
 ⟨none, .len 45 false (.t 44), none, 0⟩,
 ⟨none, .bin 46 .gtr (.t 45) (.i 0), none, 0⟩]
def c3r10 : List SI := [
 ⟨none, .mv 47 (.t 13), none, 0⟩,
 ⟨none, .mv 48 (.t 13), none, 0⟩,
 ⟨none, .len 49 false (.t 48), none, 0⟩,
 ⟨none, .bin 50 .sub (.t 49) (.i 1), none, 0⟩,
 ⟨none, .ixA 51 (.t 47) (.t 50) 10, none, 0⟩,
 ⟨none, .flA 52 (.t 51) 1, none, 0⟩,
 ⟨none, .ld 53 (.t 52) none, none, 0⟩,
 ⟨none, .bin 54 .add (.t 53) (.i 1), none, 0⟩,
 ⟨none, .mv 14 (.t 54), none, 0⟩]
def c3r11 : List SI := [
 ⟨none, .ldR 55 12 0 (some 3), none, 0⟩,
 ⟨none, .call 56 13 [(.t 55)], none, 0⟩,
 ⟨none, .bin 57 .neq (.t 56) (.i 0), none, 0⟩,
 ⟨none, .mv 58 (.t 57), none, 0⟩,
 ⟨some (58, false), .ldR 59 12 0 (some 3), none, 59⟩,
 ⟨some (58, false), .call 60 14 [(.t 59)], none, 60⟩,
 ⟨some (58, false), .mv 61 (.t 14), none, 61⟩,
 ⟨some (58, false), .bin 62 .neq (.t 60) (.t 61), none, 62⟩,
 ⟨none, .pick 63 (.t 58) (.b true) (.t 62), none, 0⟩,
 ⟨none, .mv 64 (.t 63), none, 0⟩,
 ⟨some (64, false), .ldR 65 12 0 (some 3), none, 65⟩,
 ⟨some (64, false), .call 66 16 [(.t 65)], none, 66⟩,
 ⟨some (64, false), .mv 67 (.t 13), none, 67⟩,
 ⟨some (64, false), .call 68 15 [(.t 66), (.t 67)], none, 68⟩,
 ⟨some (64, false), .un 69 .not (.t 68), none, 69⟩,
 ⟨none, .pick 70 (.t 64) (.b true) (.t 69), none, 0⟩]
def c3r12 : List SI := [
 ⟨none, .mv 8 (.b false), none, 0⟩]
def c3r13 : List SI := [
 ⟨none, .ldR 72 12 0 (some 3), none, 0⟩,
 ⟨none, .mv 73 (.t 3), none, 0⟩,
 ⟨none, .call 74 17 [(.t 72), (.t 73), (.i 1099511627776)], none, 0⟩,
 ⟨none, .mv 71 (.t 74), none, 0⟩,
 ⟨none, .ext 75 (.t 71) 0, none, 0⟩,
 ⟨none, .ext 76 (.t 71) 1, none, 0⟩,
 ⟨none, .mv 15 (.t 75), none, 0⟩,
 ⟨none, .mv 16 (.t 76), none, 0⟩]
def c3r14 : List SI := [
 ⟨none, .mv 77 (.t 3), none, 0⟩,
 ⟨none, .mv 78 (.t 1), none, 0⟩,
 ⟨none, .bin 79 .lss (.t 77) (.t 78), none, 0⟩,
 ⟨none, .mv 80 (.t 79), none, 0⟩,
 ⟨some (80, false), .mv 81 (.t 3), none, 81⟩,
 ⟨some (80, false), .mv 82 (.t 14), none, 82⟩,
 ⟨some (80, false), .bin 83 .gtr (.t 81) (.t 82), none, 83⟩,
 ⟨none, .pick 84 (.t 80) (.b true) (.t 83), none, 0⟩]
def c3r15 : List SI := [
 ⟨none, .mv 85 (.t 9), none, 0⟩,
 ⟨none, .mv 86 (.t 85), none, 0⟩,
 ⟨some (86, true), .mv 87 (.t 16), none, 87⟩,
 ⟨some (86, true), .bin 88 .eql (.t 87) (.i 90), none, 88⟩,
 ⟨none, .pick 89 (.t 86) (.t 88) (.b false), none, 0⟩,
 ⟨none, .mv 90 (.t 89), none, 0⟩,
 ⟨some (90, true), .mv 91 (.t 15), none, 91⟩,
 ⟨some (90, true), .len 92 false (.t 91), none, 92⟩,
 ⟨some (90, true), .bin 93 .eql (.t 92) (.i 0), none, 93⟩,
 ⟨none, .pick 94 (.t 90) (.t 93) (.b false), none, 0⟩,
 ⟨none, .mv 8 (.t 94), none, 0⟩]
def c3r16 : List SI := [
 ⟨none, .mv 95 (.t 9), none, 0⟩,
 ⟨none, .mv 96 (.t 95), none, 0⟩,
 ⟨some (96, true), .mv 97 (.t 16), none, 97⟩,
 ⟨some (96, true), .bin 98 .eql (.t 97) (.i 0), none, 98⟩,
 ⟨none, .pick 99 (.t 96) (.t 98) (.b false), none, 0⟩,
 ⟨none, .mv 100 (.t 99), none, 0⟩,
 ⟨some (100, true), .mv 101 (.t 15), none, 101⟩,
 ⟨some (100, true), .mv 102 (.t 13), none, 102⟩,
 ⟨some (100, true), .mv 103 (.t 3), none, 103⟩,
 ⟨some (100, true), .call 104 18 [(.t 102), (.t 103), (.i 1099511627777)], none, 104⟩,
 ⟨some (100, true), .call 105 15 [(.t 101), (.t 104)], none, 105⟩,
 ⟨none, .pick 106 (.t 100) (.t 105) (.b false), none, 0⟩,
 ⟨none, .mv 8 (.t 106), none, 0⟩]
def c3 : SC :=
 (.seq (.reg false c3r0)
 (.seq (.reg false c3r1)
 (.seq (.seq (.reg false c3r2)
 (.cond (.t 20)
  (.seq (.reg false c3r3)
  .ret)
  .skip))
 (.seq (.reg false c3r4)
 (.seq (.seq (.reg false c3r5)
 (.cond (.t 29)
  (.seq (.reg false c3r6)
  .ret)
  .skip))
 (.seq (.reg false c3r7)
 (.seq (.reg false c3r8)
 (.seq (.seq (.reg false c3r9)
 (.cond (.t 46)
  (.reg false c3r10)
  .skip))
 (.seq (.seq (.reg false c3r11)
 (.cond (.t 70)
  (.seq (.reg false c3r12)
  .ret)
  .skip))
 (.seq (.reg false c3r13)
 (.seq (.seq (.reg false c3r14)
 (.cond (.t 84)
  (.seq (.reg false c3r15)
  .ret)
  .skip))
 (.seq (.reg false c3r16)
 .ret))))))))))))
def v3 : List Nat × List Nat := ([10, 12], [10, 12, 32])
def o3 : List RS := [.t 8]
theorem s3 : slimC Try.prog Try.f3.ntmps v3.1 v3.2 ((Try.f3.body).getD .skip) = some c3 := by kernel_rfl
theorem q3 : slimR Try.prog Try.f3.ntmps v3.1 v3.2 Try.f3.results.toList = some o3 := by kernel_rfl
-- watermeet/watermeetlaw09.ChainOnce N=128
def c4r0 : List SI := [
 ⟨none, .bxR 2 (.t 0), none, 0⟩,
 ⟨none, .bxR 3 (.t 1), none, 0⟩,
 ⟨none, .mv 4 (.b false), none, 0⟩]
def c4r1 : List SI := [
 ⟨none, .call 9 9 [], none, 0⟩,
 ⟨none, .mv 5 (.t 9), none, 0⟩]
def c4r2 : List SI := [
 ⟨none, .ldR 10 2 0 (some 3), none, 0⟩,
 ⟨none, .call 11 19 [(.t 10), (.v (.slice none 0 0))], none, 0⟩,
 ⟨none, .un 12 .not (.t 11), none, 0⟩,
 ⟨none, .mv 13 (.t 12), none, 0⟩,
 ⟨some (13, false), .ldR 14 3 0 (some 10), none, 14⟩,
 ⟨some (13, false), .call 15 20 [(.t 14)], none, 15⟩,
 ⟨some (13, false), .un 16 .not (.t 15), none, 16⟩,
 ⟨none, .pick 17 (.t 13) (.b true) (.t 16), none, 0⟩,
 ⟨none, .mv 18 (.t 17), none, 0⟩,
 ⟨some (18, false), .ldR 19 2 0 (some 3), none, 19⟩,
 ⟨some (18, false), .call 20 13 [(.t 19)], none, 20⟩,
 ⟨some (18, false), .bin 21 .neq (.t 20) (.i 0), none, 21⟩,
 ⟨none, .pick 22 (.t 18) (.b true) (.t 21), none, 0⟩]
def c4r3 : List SI := [
 ⟨none, .mv 23 (.t 5), none, 0⟩,
 ⟨none, .mv 4 (.t 23), none, 0⟩]
def c4r4 : List SI := [
 ⟨none, .ldR 25 2 0 (some 3), none, 0⟩,
 ⟨none, .ldR 26 3 0 (some 10), none, 0⟩,
 ⟨none, .call 27 21 [(.t 25), (.t 26)], none, 0⟩,
 ⟨none, .mv 24 (.t 27), none, 0⟩,
 ⟨none, .ext 28 (.t 24) 0, none, 0⟩,
 ⟨none, .ext 29 (.t 24) 1, none, 0⟩,
 ⟨none, .alR 6 [(.int .i64 0), (.int .i64 0), (.slice none 0 0)], none, 0⟩,
 ⟨none, .stR 6 0 3 (.t 28), none, 0⟩,
 ⟨none, .mv 7 (.t 29), none, 0⟩]
def c4r5 : List SI := [
 ⟨none, .mv 30 (.t 7), none, 0⟩,
 ⟨none, .bin 31 .neq (.t 30) (.i 0), none, 0⟩]
def c4r6 : List (Bool × SI) := [
 (true, ⟨none, .mv 32 (.t 5), none, 0⟩),
 (true, ⟨none, .mv 33 (.t 32), none, 0⟩),
 (true, ⟨some (33, true), .nop, (some 6), 99999⟩),
 (true, ⟨some (33, true), .ldR 35 6 2 none, none, 35⟩),
 (true, ⟨some (33, true), .len 36 false (.t 35), none, 36⟩),
 (true, ⟨some (33, true), .bin 37 .eql (.t 36) (.i 0), none, 37⟩),
 (true, ⟨none, .pick 38 (.t 33) (.t 37) (.b false), none, 0⟩),
 (true, ⟨none, .mv 39 (.t 38), none, 0⟩),
 (true, ⟨some (39, true), .ldR 40 3 0 (some 10), none, 40⟩),
 (true, ⟨some (39, true), .mv 42 (.t 7), none, 42⟩),
 (false, ⟨some (39, true), .call 41 22 [(.t 40)], none, 41⟩),
 (true, ⟨some (39, true), .bin 43 .eql (.t 41) (.t 42), none, 43⟩),
 (true, ⟨some (39, true), .mv 44 (.t 43), none, 44⟩),
 (true, ⟨some (44, false), .mv 45 (.t 7), none, 45⟩),
 (true, ⟨some (44, false), .bin 46 .eql (.t 45) (.i 71), none, 46⟩),
 (true, ⟨some (44, false), .mv 47 (.t 46), none, 47⟩),
 (true, ⟨some (47, true), .nop, (some 3), 99999⟩),
 (true, ⟨some (47, true), .ldR 49 3 0 none, none, 49⟩),
 (true, ⟨some (47, true), .ldR 50 2 0 (some 3), none, 50⟩),
 (false, ⟨some (47, true), .call 51 14 [(.t 50)], none, 51⟩),
 (true, ⟨some (47, true), .bin 52 .lss (.t 49) (.t 51), none, 52⟩),
 (true, ⟨some (44, false), .pick 53 (.t 47) (.t 52) (.b false), none, 53⟩),
 (true, ⟨some (39, true), .pick 54 (.t 44) (.b true) (.t 53), none, 54⟩),
 (true, ⟨some (39, true), .mv 55 (.t 54), none, 55⟩),
 (true, ⟨some (55, false), .mv 56 (.t 7), none, 56⟩),
 (true, ⟨some (55, false), .bin 57 .eql (.t 56) (.i 70), none, 57⟩),
 (true, ⟨some (39, true), .pick 58 (.t 55) (.b true) (.t 57), none, 58⟩),
 (true, ⟨some (39, true), .mv 59 (.t 58), none, 59⟩),
 (true, ⟨some (59, false), .mv 60 (.t 7), none, 60⟩),
 (true, ⟨some (59, false), .bin 61 .eql (.t 60) (.i 2), none, 61⟩),
 (true, ⟨some (39, true), .pick 62 (.t 59) (.b true) (.t 61), none, 62⟩),
 (true, ⟨none, .pick 63 (.t 39) (.t 62) (.b false), none, 0⟩),
 (true, ⟨none, .mv 4 (.t 63), none, 0⟩)]
def c4r7 : List SI := [
 ⟨none, .ldR 64 2 0 (some 3), none, 0⟩,
 ⟨none, .call 65 16 [(.t 64)], none, 0⟩,
 ⟨none, .mv 8 (.t 65), none, 0⟩]
def c4r8 : List SI := [
 ⟨none, .mv 66 (.t 8), none, 0⟩,
 ⟨none, .ldR 67 3 0 (some 10), none, 0⟩,
 ⟨none, .bls 68 35 1 10 [(.int .i64 0), (.int .i64 0), (.int .i64 0), (.int .i64 0), (.int .i64 0), (.int .i64 0), (.int .i64 0), (.bool false), (.int .i64 0), (.slice none 0 0)] [(0, 10, (.t 67))], none, 0⟩,
 ⟨none, .app 69 (.t 66) (.t 68) 35 10 96, none, 0⟩,
 ⟨none, .mv 8 (.t 69), none, 0⟩]
-- BIG 9
def c4r9 : List (Bool × SI) := [
 (true, ⟨none, .mv 70 (.t 5), none, 0⟩),
 (true, ⟨none, .mv 71 (.t 70), none, 0⟩),
 (true, ⟨some (71, true), .nop, (some 3), 99999⟩),
 (true, ⟨some (71, true), .ldR 73 3 0 none, none, 73⟩),
 (true, ⟨some (71, true), .ldR 74 2 0 (some 3), none, 74⟩),
 (false, ⟨some (71, true), .call 75 14 [(.t 74)], none, 75⟩),
 (true, ⟨some (71, true), .bin 76 .geq (.t 73) (.t 75), none, 76⟩),
 (true, ⟨none, .pick 77 (.t 71) (.t 76) (.b false), none, 0⟩),
 (true, ⟨none, .mv 78 (.t 77), none, 0⟩),
 (true, ⟨some (78, true), .ldR 79 3 0 (some 10), none, 79⟩),
 (false, ⟨some (78, true), .call 80 22 [(.t 79)], none, 80⟩),
 (true, ⟨some (78, true), .bin 81 .eql (.t 80) (.i 0), none, 81⟩),
 (true, ⟨none, .pick 82 (.t 78) (.t 81) (.b false), none, 0⟩),
 (true, ⟨none, .mv 83 (.t 82), none, 0⟩),
 (true, ⟨some (83, true), .ldR 84 3 0 (some 10), none, 84⟩),
 (true, ⟨some (83, true), .nop, (some 2), 99999⟩),
 (true, ⟨some (83, true), .ldR 87 2 0 none, none, 87⟩),
 (false, ⟨some (83, true), .call 85 23 [(.t 84)], none, 85⟩),
 (true, ⟨some (83, true), .bin 88 .leq (.t 85) (.t 87), none, 88⟩),
 (true, ⟨none, .pick 89 (.t 83) (.t 88) (.b false), none, 0⟩),
 (true, ⟨none, .mv 90 (.t 89), none, 0⟩),
 (true, ⟨some (90, true), .ldR 91 6 0 (some 3), none, 91⟩),
 (false, ⟨some (90, true), .call 92 13 [(.t 91)], none, 92⟩),
 (true, ⟨some (90, true), .bin 93 .eql (.t 92) (.i 0), none, 93⟩),
 (true, ⟨none, .pick 94 (.t 90) (.t 93) (.b false), none, 0⟩),
 (true, ⟨none, .mv 95 (.t 94), none, 0⟩),
 (true, ⟨some (95, true), .ldR 96 6 0 (some 3), none, 96⟩),
 (true, ⟨some (95, true), .nop, (some 3), 99999⟩),
 (true, ⟨some (95, true), .ldR 99 3 1 none, none, 99⟩),
 (true, ⟨some (95, true), .bin 100 .add (.t 99) (.i 1), none, 100⟩),
 (false, ⟨some (95, true), .call 97 14 [(.t 96)], none, 97⟩),
 (true, ⟨some (95, true), .bin 101 .eql (.t 97) (.t 100), none, 101⟩),
 (true, ⟨none, .pick 102 (.t 95) (.t 101) (.b false), none, 0⟩),
 (true, ⟨none, .mv 103 (.t 102), none, 0⟩),
 (true, ⟨some (103, true), .ldR 104 6 0 (some 3), none, 104⟩),
 (true, ⟨some (103, true), .mv 106 (.t 8), none, 106⟩),
 (false, ⟨some (103, true), .call 105 16 [(.t 104)], none, 105⟩),
 (false, ⟨some (103, true), .call 107 15 [(.t 105), (.t 106)], none, 107⟩),
 (true, ⟨none, .pick 108 (.t 103) (.t 107) (.b false), none, 0⟩),
 (true, ⟨none, .mv 109 (.t 108), none, 0⟩),
 (true, ⟨some (109, true), .nop, (some 6), 99999⟩),
 (true, ⟨some (109, true), .ldR 111 6 2 none, none, 111⟩),
 (true, ⟨some (109, true), .len 112 false (.t 111), none, 112⟩),
 (true, ⟨some (109, true), .nop, (some 2), 99999⟩),
 (true, ⟨some (109, true), .ldR 114 2 2 none, none, 114⟩),
 (true, ⟨some (109, true), .len 115 false (.t 114), none, 115⟩),
 (true, ⟨some (109, true), .bin 116 .eql (.t 112) (.t 115), none, 116⟩),
 (true, ⟨some (109, true), .mv 117 (.t 116), none, 117⟩),
 (true, ⟨some (117, false), .nop, (some 6), 99999⟩),
 (true, ⟨some (117, false), .ldR 119 6 2 none, none, 119⟩),
 (true, ⟨some (117, false), .len 120 false (.t 119), none, 120⟩),
 (true, ⟨some (117, false), .nop, (some 2), 99999⟩),
 (true, ⟨some (117, false), .ldR 122 2 2 none, none, 122⟩),
 (true, ⟨some (117, false), .len 123 false (.t 122), none, 123⟩),
 (true, ⟨some (117, false), .bin 124 .add (.t 123) (.i 1), none, 124⟩),
 (true, ⟨some (117, false), .bin 125 .eql (.t 120) (.t 124), none, 125⟩),
 (true, ⟨some (109, true), .pick 126 (.t 117) (.b true) (.t 125), none, 126⟩),
 (true, ⟨none, .pick 127 (.t 109) (.t 126) (.b false), none, 0⟩),
 (true, ⟨none, .mv 4 (.t 127), none, 0⟩)]
def c4 : SC :=
 (.seq (.reg false c4r0)
 (.seq (.reg false c4r1)
 (.seq (.seq (.reg false c4r2)
 (.cond (.t 22)
  (.seq (.reg false c4r3)
  .ret)
  .skip))
 (.seq (.reg false c4r4)
 (.seq (.seq (.reg false c4r5)
 (.cond (.t 31)
  (.seq (.rgX c4r6)
  .ret)
  .skip))
 (.seq (.reg false c4r7)
 (.seq (.reg false c4r8)
 (.seq (.rgX c4r9)
 .ret))))))))
def v4 : List Nat × List Nat := ([2, 3, 6], [2, 3, 6, 34, 48, 72, 86, 98, 110, 113, 118, 121])
def o4 : List RS := [.t 4]
def u4r9 : List (Bool × Nat) := [(true, 0), (true, 1), (true, 2), (true, 3), (true, 4), (false, 5), (true, 6), (true, 7), (true, 8), (true, 9), (false, 10), (true, 11), (true, 12), (true, 13), (true, 14), (true, 16), (true, 17), (false, 15), (true, 18), (true, 19), (true, 20), (true, 21), (false, 22), (true, 23), (true, 24), (true, 25), (true, 26), (true, 28), (true, 29), (true, 30), (false, 27), (true, 31), (true, 32), (true, 33), (true, 34), (true, 36), (false, 35), (false, 37), (true, 38), (true, 39), (true, 40), (true, 41), (true, 42), (true, 43), (true, 44), (true, 45), (true, 46), (true, 47), (true, 48), (true, 49), (true, 50), (true, 51), (true, 52), (true, 53), (true, 54), (true, 55), (true, 56), (true, 57), (true, 58)]
theorem x4r9a : (Region.noSelect (regN 9 ((Try.f4.body).getD .skip)) && (regN 9 ((Try.f4.body).getD .skip)).all (dstOk v4.1)) = true := by kernel_rfl
theorem x4r9b : schedB .any (regN 9 ((Try.f4.body).getD .skip)) u4r9 (Array.replicate (regN 9 ((Try.f4.body).getD .skip)).size false) = true := by kernel_rfl
theorem x4r9c : slimX3 Try.prog Try.f4.ntmps v4.1 v4.2 (regN 9 ((Try.f4.body).getD .skip)) u4r9 = some c4r9 := by kernel_rfl
theorem x4r9 : XOk Try.prog Try.f4.ntmps v4.1 v4.2 (regN 9 ((Try.f4.body).getD .skip)) c4r9 := XOk.mk u4r9 x4r9a x4r9b (by kernel_rfl) x4r9c
theorem s4 : SlimC Try.prog Try.f4.ntmps v4.1 v4.2 ((Try.f4.body).getD .skip) c4 := SlimC.mk [(9, c4r9)] (⟨⟨_, by kernel_rfl, x4r9⟩, trivial⟩) (by kernel_rfl)
theorem q4 : slimR Try.prog Try.f4.ntmps v4.1 v4.2 Try.f4.results.toList = some o4 := by kernel_rfl
-- watermeet/watermeetlaw09.ChainMost N=111
def c5r0 : List SI := [
 ⟨none, .bxR 3 (.t 0), none, 0⟩,
 ⟨none, .mv 6 (.b false), none, 0⟩]
def c5r1 : List SI := [
 ⟨none, .call 14 9 [], none, 0⟩,
 ⟨none, .mv 7 (.t 14), none, 0⟩]
def c5r2 : List SI := [
 ⟨none, .ldR 15 3 0 (some 3), none, 0⟩,
 ⟨none, .call 16 19 [(.t 15), (.v (.slice none 0 0))], none, 0⟩,
 ⟨none, .un 17 .not (.t 16), none, 0⟩,
 ⟨none, .mv 18 (.t 17), none, 0⟩,
 ⟨some (18, false), .mv 19 (.t 2), none, 19⟩,
 ⟨some (18, false), .bin 20 .lss (.t 19) (.i 0), none, 20⟩,
 ⟨none, .pick 21 (.t 18) (.b true) (.t 20), none, 0⟩]
def c5r3 : List SI := [
 ⟨none, .mv 22 (.t 7), none, 0⟩,
 ⟨none, .mv 6 (.t 22), none, 0⟩]
def c5r4 : List SI := [
 ⟨none, .ldR 24 3 0 (some 3), none, 0⟩,
 ⟨none, .mv 25 (.t 1), none, 0⟩,
 ⟨none, .mv 26 (.t 2), none, 0⟩,
 ⟨none, .call 27 17 [(.t 24), (.t 25), (.t 26)], none, 0⟩,
 ⟨none, .mv 23 (.t 27), none, 0⟩,
 ⟨none, .ext 28 (.t 23) 0, none, 0⟩,
 ⟨none, .ext 29 (.t 23) 1, none, 0⟩,
 ⟨none, .mv 8 (.t 28), none, 0⟩,
 ⟨none, .mv 9 (.t 29), none, 0⟩]
def c5r5 : List SI := [
 ⟨none, .ldR 31 3 0 (some 3), none, 0⟩,
 ⟨none, .mv 32 (.t 1), none, 0⟩,
 ⟨none, .call 33 17 [(.t 31), (.t 32), (.i 1125899906842624)], none, 0⟩,
 ⟨none, .mv 30 (.t 33), none, 0⟩,
 ⟨none, .ext 34 (.t 30) 0, none, 0⟩,
 ⟨none, .ext 35 (.t 30) 1, none, 0⟩,
 ⟨none, .mv 10 (.t 34), none, 0⟩,
 ⟨none, .mv 11 (.t 35), none, 0⟩]
def c5r6 : List SI := [
 ⟨none, .mv 36 (.t 9), none, 0⟩,
 ⟨none, .mv 37 (.t 11), none, 0⟩,
 ⟨none, .bin 38 .neq (.t 36) (.t 37), none, 0⟩]
def c5r7 : List SI := [
 ⟨none, .mv 6 (.b false), none, 0⟩]
def c5r8 : List SI := [
 ⟨none, .mv 39 (.t 9), none, 0⟩,
 ⟨none, .bin 40 .neq (.t 39) (.i 0), none, 0⟩]
def c5r9 : List SI := [
 ⟨none, .mv 41 (.t 7), none, 0⟩,
 ⟨none, .mv 42 (.t 41), none, 0⟩,
 ⟨some (42, true), .mv 43 (.t 8), none, 43⟩,
 ⟨some (42, true), .len 44 false (.t 43), none, 44⟩,
 ⟨some (42, true), .bin 45 .eql (.t 44) (.i 0), none, 45⟩,
 ⟨none, .pick 46 (.t 42) (.t 45) (.b false), none, 0⟩,
 ⟨none, .mv 6 (.t 46), none, 0⟩]
def c5r10 : List SI := [
 ⟨none, .mv 12 (.i 0), none, 0⟩]
def c5r11 : List SI := [
 ⟨none, .mv 13 (.i 0), none, 0⟩]
def c5r12 : List SI := [
 ⟨none, .mv 47 (.t 13), none, 0⟩,
 ⟨none, .mv 48 (.t 8), none, 0⟩,
 ⟨none, .len 49 false (.t 48), none, 0⟩,
 ⟨none, .bin 50 .lss (.t 47) (.t 49), none, 0⟩]
def c5r13 : List SI := [
 ⟨none, .mv 53 (.t 12), none, 0⟩,
 ⟨none, .mv 54 (.t 8), none, 0⟩,
 ⟨none, .mv 55 (.t 13), none, 0⟩,
 ⟨none, .ixA 56 (.t 54) (.t 55) 10, none, 0⟩,
 ⟨none, .ld 57 (.t 56) (some 10), none, 0⟩,
 ⟨none, .call 58 23 [(.t 57)], none, 0⟩,
 ⟨none, .bin 59 .add (.t 53) (.t 58), none, 0⟩,
 ⟨none, .mv 12 (.t 59), none, 0⟩]
def c5r14 : List SI := [
 ⟨none, .mv 51 (.t 13), none, 0⟩,
 ⟨none, .bin 52 .add (.t 51) (.i 1), none, 0⟩,
 ⟨none, .mv 13 (.t 52), none, 0⟩]
def c5r15 : List SI := [
 ⟨none, .mv 60 (.t 8), none, 0⟩,
 ⟨none, .len 61 false (.t 60), none, 0⟩,
 ⟨none, .mv 62 (.t 10), none, 0⟩,
 ⟨none, .len 63 false (.t 62), none, 0⟩,
 ⟨none, .bin 64 .gtr (.t 61) (.t 63), none, 0⟩,
 ⟨none, .mv 65 (.t 64), none, 0⟩,
 ⟨some (65, false), .mv 66 (.t 8), none, 66⟩,
 ⟨some (65, false), .len 67 false (.t 66), none, 67⟩,
 ⟨some (65, false), .bin 68 .eql (.t 67) (.i 0), none, 68⟩,
 ⟨some (65, false), .mv 69 (.t 68), none, 69⟩,
 ⟨some (69, true), .mv 70 (.t 10), none, 70⟩,
 ⟨some (69, true), .len 71 false (.t 70), none, 71⟩,
 ⟨some (69, true), .bin 72 .gtr (.t 71) (.i 0), none, 72⟩,
 ⟨some (65, false), .pick 73 (.t 69) (.t 72) (.b false), none, 73⟩,
 ⟨none, .pick 74 (.t 65) (.b true) (.t 73), none, 0⟩,
 ⟨none, .mv 75 (.t 74), none, 0⟩,
 ⟨some (75, false), .mv 76 (.t 12), none, 76⟩,
 ⟨some (75, false), .mv 77 (.t 2), none, 77⟩,
 ⟨some (75, false), .bin 78 .gtr (.t 76) (.t 77), none, 78⟩,
 ⟨some (75, false), .mv 79 (.t 78), none, 79⟩,
 ⟨some (79, true), .mv 80 (.t 8), none, 80⟩,
 ⟨some (79, true), .len 81 false (.t 80), none, 81⟩,
 ⟨some (79, true), .bin 82 .gtr (.t 81) (.i 1), none, 82⟩,
 ⟨some (75, false), .pick 83 (.t 79) (.t 82) (.b false), none, 83⟩,
 ⟨none, .pick 84 (.t 75) (.b true) (.t 83), none, 0⟩]
def c5r16 : List SI := [
 ⟨none, .mv 6 (.b false), none, 0⟩]
def c5r17 : List SI := [
 ⟨none, .mv 85 (.t 8), none, 0⟩,
 ⟨none, .len 86 false (.t 85), none, 0⟩,
 ⟨none, .mv 87 (.t 10), none, 0⟩,
 ⟨none, .len 88 false (.t 87), none, 0⟩,
 ⟨none, .bin 89 .lss (.t 86) (.t 88), none, 0⟩,
 ⟨none, .mv 90 (.t 89), none, 0⟩,
 ⟨some (90, true), .mv 91 (.t 12), none, 91⟩,
 ⟨some (90, true), .mv 92 (.t 10), none, 92⟩,
 ⟨some (90, true), .mv 93 (.t 8), none, 93⟩,
 ⟨some (90, true), .len 94 false (.t 93), none, 94⟩,
 ⟨some (90, true), .ixA 95 (.t 92) (.t 94) 10, none, 95⟩,
 ⟨some (90, true), .ld 96 (.t 95) (some 10), none, 96⟩,
 ⟨some (90, true), .call 97 23 [(.t 96)], none, 97⟩,
 ⟨some (90, true), .bin 98 .add (.t 91) (.t 97), none, 98⟩,
 ⟨some (90, true), .mv 99 (.t 2), none, 99⟩,
 ⟨some (90, true), .bin 100 .leq (.t 98) (.t 99), none, 100⟩,
 ⟨none, .pick 101 (.t 90) (.t 100) (.b false), none, 0⟩]
def c5r18 : List SI := [
 ⟨none, .mv 6 (.b false), none, 0⟩]
def c5r19 : List SI := [
 ⟨none, .mv 102 (.t 7), none, 0⟩,
 ⟨none, .mv 103 (.t 102), none, 0⟩,
 ⟨some (103, true), .mv 104 (.t 8), none, 104⟩,
 ⟨some (103, true), .mv 105 (.t 10), none, 105⟩,
 ⟨some (103, true), .mv 106 (.t 8), none, 106⟩,
 ⟨some (103, true), .len 107 false (.t 106), none, 107⟩,
 ⟨some (103, true), .sl 108 (.t 105) none (some (.t 107)) none 10, none, 108⟩,
 ⟨some (103, true), .call 109 15 [(.t 104), (.t 108)], none, 109⟩,
 ⟨none, .pick 110 (.t 103) (.t 109) (.b false), none, 0⟩,
 ⟨none, .mv 6 (.t 110), none, 0⟩]
def c5 : SC :=
 (.seq (.reg false c5r0)
 (.seq (.reg false c5r1)
 (.seq (.seq (.reg false c5r2)
 (.cond (.t 21)
  (.seq (.reg false c5r3)
  .ret)
  .skip))
 (.seq (.reg false c5r4)
 (.seq (.reg false c5r5)
 (.seq (.seq (.reg false c5r6)
 (.cond (.t 38)
  (.seq (.reg false c5r7)
  .ret)
  .skip))
 (.seq (.seq (.reg false c5r8)
 (.cond (.t 40)
  (.seq (.reg false c5r9)
  .ret)
  .skip))
 (.seq (.reg false c5r10)
 (.seq (.seq (.reg false c5r11)
 (.blk 0 (.loop (.seq (.seq (.reg false c5r12)
   (.cond (.t 50)
    .skip
    (.exit 0)))
   (.seq (.blk 1 (.reg false c5r13))
   (.reg false c5r14))))))
 (.seq (.seq (.reg false c5r15)
 (.cond (.t 84)
  (.seq (.reg false c5r16)
  .ret)
  .skip))
 (.seq (.seq (.reg false c5r17)
 (.cond (.t 101)
  (.seq (.reg false c5r18)
  .ret)
  .skip))
 (.seq (.reg false c5r19)
 .ret))))))))))))
def v5 : List Nat × List Nat := ([3], [3])
def o5 : List RS := [.t 6]
theorem s5 : slimC Try.prog Try.f5.ntmps v5.1 v5.2 ((Try.f5.body).getD .skip) = some c5 := by kernel_rfl
theorem q5 : slimR Try.prog Try.f5.ntmps v5.1 v5.2 Try.f5.results.toList = some o5 := by kernel_rfl
-- watermeet/watermeetlaw09.ChainTorn N=91
def c6r0 : List SI := [
 ⟨none, .bxR 2 (.t 0), none, 0⟩,
 ⟨none, .mv 4 (.b false), none, 0⟩]
def c6r1 : List SI := [
 ⟨none, .call 12 9 [], none, 0⟩,
 ⟨none, .mv 5 (.t 12), none, 0⟩]
def c6r2 : List SI := [
 ⟨none, .ldR 13 2 0 (some 3), none, 0⟩,
 ⟨none, .call 14 19 [(.t 13), (.v (.slice none 0 0))], none, 0⟩,
 ⟨none, .un 15 .not (.t 14), none, 0⟩,
 ⟨none, .mv 16 (.t 15), none, 0⟩,
 ⟨some (16, false), .ldR 17 2 0 (some 3), none, 17⟩,
 ⟨some (16, false), .call 18 13 [(.t 17)], none, 18⟩,
 ⟨some (16, false), .bin 19 .neq (.t 18) (.i 0), none, 19⟩,
 ⟨none, .pick 20 (.t 16) (.b true) (.t 19), none, 0⟩,
 ⟨none, .mv 21 (.t 20), none, 0⟩,
 ⟨some (21, false), .nop, (some 2), 99999⟩,
 ⟨some (21, false), .ldR 23 2 2 none, none, 23⟩,
 ⟨some (21, false), .len 24 false (.t 23), none, 24⟩,
 ⟨some (21, false), .bin 25 .eql (.t 24) (.i 0), none, 25⟩,
 ⟨none, .pick 26 (.t 21) (.b true) (.t 25), none, 0⟩]
def c6r3 : List SI := [
 ⟨none, .mv 27 (.t 5), none, 0⟩,
 ⟨none, .mv 4 (.t 27), none, 0⟩]
def c6r4 : List SI := [
 ⟨none, .nop, (some 2), 0⟩,
 ⟨none, .ldR 29 2 2 none, none, 0⟩,
 ⟨none, .len 30 false (.t 29), none, 0⟩,
 ⟨none, .bin 31 .sub (.t 30) (.i 1), none, 0⟩,
 ⟨none, .mv 6 (.t 31), none, 0⟩]
def c6r5 : List SI := [
 ⟨none, .nop, (some 2), 0⟩,
 ⟨none, .ldR 33 2 2 none, none, 0⟩,
 ⟨none, .mv 34 (.t 6), none, 0⟩,
 ⟨none, .ixA 35 (.t 33) (.t 34) 2, none, 0⟩,
 ⟨none, .flA 36 (.t 35) 1, none, 0⟩,
 ⟨none, .ld 37 (.t 36) none, none, 0⟩,
 ⟨none, .len 38 false (.t 37), none, 0⟩,
 ⟨none, .mv 7 (.t 38), none, 0⟩]
def c6r6 : List SI := [
 ⟨none, .mv 39 (.t 1), none, 0⟩,
 ⟨none, .bin 40 .and (.t 39) (.i 65535), none, 0⟩,
 ⟨none, .mv 41 (.t 7), none, 0⟩,
 ⟨none, .bin 42 .add (.t 41) (.i 1), none, 0⟩,
 ⟨none, .bin 43 .rem (.t 40) (.t 42), none, 0⟩,
 ⟨none, .mv 8 (.t 43), none, 0⟩]
def c6r7 : List SI := [
 ⟨none, .ldR 44 2 0 (some 3), none, 0⟩,
 ⟨none, .alR 9 [(.int .i64 0), (.int .i64 0), (.slice none 0 0)], none, 0⟩,
 ⟨none, .stR 9 0 3 (.t 44), none, 0⟩]
def c6r8 : List SI := [
 ⟨none, .bl0 45, none, 0⟩,
 ⟨none, .nop, (some 2), 0⟩,
 ⟨none, .ldR 47 2 2 none, none, 0⟩,
 ⟨none, .app 48 (.t 45) (.t 47) 53 2 32, none, 0⟩,
 ⟨none, .nop, (some 9), 0⟩,
 ⟨none, .stR 9 2 1 (.t 48), none, 0⟩]
def c6r9 : List SI := [
 ⟨none, .nop, (some 9), 0⟩,
 ⟨none, .ldR 51 9 2 none, none, 0⟩,
 ⟨none, .mv 52 (.t 6), none, 0⟩,
 ⟨none, .nop, (some 2), 0⟩,
 ⟨none, .ldR 54 2 2 none, none, 0⟩,
 ⟨none, .mv 55 (.t 6), none, 0⟩,
 ⟨none, .ixA 56 (.t 54) (.t 55) 2, none, 0⟩,
 ⟨none, .flA 57 (.t 56) 0, none, 0⟩,
 ⟨none, .ld 58 (.t 57) none, none, 0⟩,
 ⟨none, .nop, (some 2), 0⟩,
 ⟨none, .ldR 60 2 2 none, none, 0⟩,
 ⟨none, .mv 61 (.t 6), none, 0⟩,
 ⟨none, .ixA 62 (.t 60) (.t 61) 2, none, 0⟩,
 ⟨none, .flA 63 (.t 62) 1, none, 0⟩,
 ⟨none, .ld 64 (.t 63) none, none, 0⟩,
 ⟨none, .mv 65 (.t 7), none, 0⟩,
 ⟨none, .mv 66 (.t 8), none, 0⟩,
 ⟨none, .bin 67 .sub (.t 65) (.t 66), none, 0⟩,
 ⟨none, .sl 68 (.t 64) none (some (.t 67)) none 1, none, 0⟩,
 ⟨none, .bld 69 [(.int .i64 0), (.slice none 0 0)] [(0, 1, (.t 58)), (1, 1, (.t 68))], none, 0⟩,
 ⟨none, .ixA 70 (.t 51) (.t 52) 2, none, 0⟩]
def c6r10 : List SI := [
 ⟨none, .st (.t 70) 2 (.t 69), none, 0⟩]
def c6r11 : List SI := [
 ⟨none, .ldR 72 9 0 (some 3), none, 0⟩,
 ⟨none, .call 73 24 [(.t 72)], none, 0⟩,
 ⟨none, .mv 71 (.t 73), none, 0⟩,
 ⟨none, .ext 74 (.t 71) 0, none, 0⟩,
 ⟨none, .ext 75 (.t 71) 1, none, 0⟩,
 ⟨none, .alR 10 [(.int .i64 0), (.int .i64 0), (.slice none 0 0)], none, 0⟩,
 ⟨none, .stR 10 0 3 (.t 74), none, 0⟩,
 ⟨none, .mv 11 (.t 75), none, 0⟩]
def c6r12 : List SI := [
 ⟨none, .mv 76 (.t 5), none, 0⟩,
 ⟨none, .mv 77 (.t 76), none, 0⟩,
 ⟨some (77, true), .ldR 78 2 0 (some 3), none, 78⟩,
 ⟨some (77, true), .ldR 79 9 0 (some 3), none, 79⟩,
 ⟨some (77, true), .call 80 25 [(.t 78), (.t 79)], none, 80⟩,
 ⟨none, .pick 81 (.t 77) (.t 80) (.b false), none, 0⟩,
 ⟨none, .mv 82 (.t 81), none, 0⟩,
 ⟨some (82, true), .mv 83 (.t 8), none, 83⟩,
 ⟨some (82, true), .bin 84 .gtr (.t 83) (.i 0), none, 84⟩,
 ⟨some (82, true), .mv 85 (.t 84), none, 85⟩,
 ⟨some (85, false), .ldR 86 10 0 (some 3), none, 86⟩,
 ⟨some (85, false), .ldR 87 2 0 (some 3), none, 87⟩,
 ⟨some (85, false), .call 88 26 [(.t 86), (.t 87)], none, 88⟩,
 ⟨some (82, true), .pick 89 (.t 85) (.b true) (.t 88), none, 89⟩,
 ⟨none, .pick 90 (.t 82) (.t 89) (.b false), none, 0⟩,
 ⟨none, .mv 4 (.t 90), none, 0⟩]
def c6 : SC :=
 (.seq (.reg false c6r0)
 (.seq (.reg false c6r1)
 (.seq (.seq (.reg false c6r2)
 (.cond (.t 26)
  (.seq (.reg false c6r3)
  .ret)
  .skip))
 (.seq (.reg false c6r4)
 (.seq (.reg false c6r5)
 (.seq (.reg false c6r6)
 (.seq (.reg false c6r7)
 (.seq (.reg false c6r8)
 (.seq (.rgT c6r9 c6r10)
 (.seq (.reg false c6r11)
 (.seq (.reg false c6r12)
 .ret)))))))))))
def v6 : List Nat × List Nat := ([2, 9, 10], [2, 9, 10, 22, 28, 32, 46, 49, 50, 53, 59])
def o6 : List RS := [.t 4]
theorem q6 : slimR Try.prog Try.f6.ntmps v6.1 v6.2 Try.f6.results.toList = some o6 := by kernel_rfl
-- watermeet/watermeetlaw09.ChainSpoilt N=106
def c7r0 : List SI := [
 ⟨none, .bxR 4 (.t 0), none, 0⟩,
 ⟨none, .mv 8 (.b false), none, 0⟩]
def c7r1 : List SI := [
 ⟨none, .call 16 9 [], none, 0⟩,
 ⟨none, .mv 9 (.t 16), none, 0⟩]
def c7r2 : List SI := [
 ⟨none, .ldR 17 4 0 (some 3), none, 0⟩,
 ⟨none, .call 18 19 [(.t 17), (.v (.slice none 0 0))], none, 0⟩,
 ⟨none, .un 19 .not (.t 18), none, 0⟩,
 ⟨none, .mv 20 (.t 19), none, 0⟩,
 ⟨some (20, false), .ldR 21 4 0 (some 3), none, 21⟩,
 ⟨some (20, false), .call 22 13 [(.t 21)], none, 22⟩,
 ⟨some (20, false), .bin 23 .neq (.t 22) (.i 0), none, 23⟩,
 ⟨none, .pick 24 (.t 20) (.b true) (.t 23), none, 0⟩,
 ⟨none, .mv 25 (.t 24), none, 0⟩,
 ⟨some (25, false), .nop, (some 4), 99999⟩,
 ⟨some (25, false), .ldR 27 4 2 none, none, 27⟩,
 ⟨some (25, false), .len 28 false (.t 27), none, 28⟩,
 ⟨some (25, false), .bin 29 .eql (.t 28) (.i 0), none, 29⟩,
 ⟨none, .pick 30 (.t 25) (.b true) (.t 29), none, 0⟩,
 ⟨none, .mv 31 (.t 30), none, 0⟩,
 ⟨some (31, false), .mv 32 (.t 3), none, 32⟩,
 ⟨some (31, false), .bin 33 .eql (.t 32) (.v (.int .u8 0)), none, 33⟩,
 ⟨none, .pick 34 (.t 31) (.b true) (.t 33), none, 0⟩]
def c7r3 : List SI := [
 ⟨none, .mv 35 (.t 9), none, 0⟩,
 ⟨none, .mv 8 (.t 35), none, 0⟩]
def c7r4 : List SI := [
 ⟨none, .mv 36 (.t 1), none, 0⟩,
 ⟨none, .bin 37 .and (.t 36) (.i 65535), none, 0⟩,
 ⟨none, .nop, (some 4), 0⟩,
 ⟨none, .ldR 39 4 2 none, none, 0⟩,
 ⟨none, .len 40 false (.t 39), none, 0⟩,
 ⟨none, .bin 41 .rem (.t 37) (.t 40), none, 0⟩,
 ⟨none, .mv 10 (.t 41), none, 0⟩]
def c7r5 : List SI := [
 ⟨none, .nop, (some 4), 0⟩,
 ⟨none, .ldR 43 4 2 none, none, 0⟩,
 ⟨none, .mv 44 (.t 10), none, 0⟩,
 ⟨none, .ixA 45 (.t 43) (.t 44) 2, none, 0⟩,
 ⟨none, .flA 46 (.t 45) 1, none, 0⟩,
 ⟨none, .ld 47 (.t 46) none, none, 0⟩,
 ⟨none, .len 48 false (.t 47), none, 0⟩,
 ⟨none, .bin 49 .eql (.t 48) (.i 0), none, 0⟩]
def c7r6 : List SI := [
 ⟨none, .mv 50 (.t 9), none, 0⟩,
 ⟨none, .mv 8 (.t 50), none, 0⟩]
def c7r7 : List SI := [
 ⟨none, .bl0 51, none, 0⟩,
 ⟨none, .nop, (some 4), 0⟩,
 ⟨none, .ldR 53 4 2 none, none, 0⟩,
 ⟨none, .mv 54 (.t 10), none, 0⟩,
 ⟨none, .ixA 55 (.t 53) (.t 54) 2, none, 0⟩,
 ⟨none, .flA 56 (.t 55) 1, none, 0⟩,
 ⟨none, .ld 57 (.t 56) none, none, 0⟩,
 ⟨none, .app 58 (.t 51) (.t 57) 5 1 1, none, 0⟩,
 ⟨none, .mv 11 (.t 58), none, 0⟩]
def c7r8 : List SI := [
 ⟨none, .mv 59 (.t 2), none, 0⟩,
 ⟨none, .bin 60 .and (.t 59) (.i 65535), none, 0⟩,
 ⟨none, .mv 61 (.t 11), none, 0⟩,
 ⟨none, .len 62 false (.t 61), none, 0⟩,
 ⟨none, .bin 63 .rem (.t 60) (.t 62), none, 0⟩,
 ⟨none, .mv 12 (.t 63), none, 0⟩]
def c7r9 : List SI := [
 ⟨none, .mv 64 (.t 11), none, 0⟩,
 ⟨none, .mv 65 (.t 12), none, 0⟩,
 ⟨none, .mv 66 (.t 11), none, 0⟩,
 ⟨none, .mv 67 (.t 12), none, 0⟩,
 ⟨none, .ixA 68 (.t 66) (.t 67) 1, none, 0⟩,
 ⟨none, .ld 69 (.t 68) none, none, 0⟩,
 ⟨none, .mv 70 (.t 3), none, 0⟩,
 ⟨none, .bin 71 .xor (.t 69) (.t 70), none, 0⟩,
 ⟨none, .ixA 72 (.t 64) (.t 65) 1, none, 0⟩,
 ⟨none, .st (.t 72) 1 (.t 71), none, 0⟩]
def c7r10 : List SI := [
 ⟨none, .ldR 73 4 0 (some 3), none, 0⟩,
 ⟨none, .alR 13 [(.int .i64 0), (.int .i64 0), (.slice none 0 0)], none, 0⟩,
 ⟨none, .stR 13 0 3 (.t 73), none, 0⟩]
def c7r11 : List SI := [
 ⟨none, .bl0 74, none, 0⟩,
 ⟨none, .nop, (some 4), 0⟩,
 ⟨none, .ldR 76 4 2 none, none, 0⟩,
 ⟨none, .app 77 (.t 74) (.t 76) 53 2 32, none, 0⟩,
 ⟨none, .nop, (some 13), 0⟩,
 ⟨none, .stR 13 2 1 (.t 77), none, 0⟩]
def c7r12 : List SI := [
 ⟨none, .nop, (some 13), 0⟩,
 ⟨none, .ldR 80 13 2 none, none, 0⟩,
 ⟨none, .mv 81 (.t 10), none, 0⟩,
 ⟨none, .nop, (some 4), 0⟩,
 ⟨none, .ldR 83 4 2 none, none, 0⟩,
 ⟨none, .mv 84 (.t 10), none, 0⟩,
 ⟨none, .ixA 85 (.t 83) (.t 84) 2, none, 0⟩,
 ⟨none, .flA 86 (.t 85) 0, none, 0⟩,
 ⟨none, .ld 87 (.t 86) none, none, 0⟩,
 ⟨none, .mv 88 (.t 11), none, 0⟩,
 ⟨none, .bld 89 [(.int .i64 0), (.slice none 0 0)] [(0, 1, (.t 87)), (1, 1, (.t 88))], none, 0⟩,
 ⟨none, .ixA 90 (.t 80) (.t 81) 2, none, 0⟩]
def c7r13 : List SI := [
 ⟨none, .st (.t 90) 2 (.t 89), none, 0⟩]
def c7r14 : List SI := [
 ⟨none, .ldR 92 13 0 (some 3), none, 0⟩,
 ⟨none, .call 93 24 [(.t 92)], none, 0⟩,
 ⟨none, .mv 91 (.t 93), none, 0⟩,
 ⟨none, .ext 94 (.t 91) 0, none, 0⟩,
 ⟨none, .ext 95 (.t 91) 1, none, 0⟩,
 ⟨none, .alR 14 [(.int .i64 0), (.int .i64 0), (.slice none 0 0)], none, 0⟩,
 ⟨none, .stR 14 0 3 (.t 94), none, 0⟩,
 ⟨none, .mv 15 (.t 95), none, 0⟩]
def c7r15 : List SI := [
 ⟨none, .mv 96 (.t 9), none, 0⟩,
 ⟨none, .mv 97 (.t 96), none, 0⟩,
 ⟨some (97, true), .mv 98 (.t 15), none, 98⟩,
 ⟨some (97, true), .bin 99 .gtr (.t 98) (.i 0), none, 99⟩,
 ⟨none, .pick 100 (.t 97) (.t 99) (.b false), none, 0⟩,
 ⟨none, .mv 101 (.t 100), none, 0⟩,
 ⟨some (101, true), .ldR 102 4 0 (some 3), none, 102⟩,
 ⟨some (101, true), .ldR 103 13 0 (some 3), none, 103⟩,
 ⟨some (101, true), .call 104 25 [(.t 102), (.t 103)], none, 104⟩,
 ⟨none, .pick 105 (.t 101) (.t 104) (.b false), none, 0⟩,
 ⟨none, .mv 8 (.t 105), none, 0⟩]
def c7 : SC :=
 (.seq (.reg false c7r0)
 (.seq (.reg false c7r1)
 (.seq (.seq (.reg false c7r2)
 (.cond (.t 34)
  (.seq (.reg false c7r3)
  .ret)
  .skip))
 (.seq (.reg false c7r4)
 (.seq (.seq (.reg false c7r5)
 (.cond (.t 49)
  (.seq (.reg false c7r6)
  .ret)
  .skip))
 (.seq (.reg false c7r7)
 (.seq (.reg false c7r8)
 (.seq (.reg false c7r9)
 (.seq (.reg false c7r10)
 (.seq (.reg false c7r11)
 (.seq (.rgT c7r12 c7r13)
 (.seq (.reg false c7r14)
 (.seq (.reg false c7r15)
 .ret)))))))))))))
def v7 : List Nat × List Nat := ([4, 13, 14], [4, 13, 14, 26, 38, 42, 52, 75, 78, 79, 82])
def o7 : List RS := [.t 8]
theorem q7 : slimR Try.prog Try.f7.ntmps v7.1 v7.2 Try.f7.results.toList = some o7 := by kernel_rfl
-- watermeet/watermeetlaw09.ChainReplace N=148
def c8r0 : List SI := [
 ⟨none, .bxR 3 (.t 0), none, 0⟩,
 ⟨none, .mv 6 (.b false), none, 0⟩]
def c8r1 : List SI := [
 ⟨none, .call 20 9 [], none, 0⟩,
 ⟨none, .mv 7 (.t 20), none, 0⟩]
def c8r2 : List SI := [
 ⟨none, .ldR 21 3 0 (some 3), none, 0⟩,
 ⟨none, .call 22 19 [(.t 21), (.v (.slice none 0 0))], none, 0⟩,
 ⟨none, .un 23 .not (.t 22), none, 0⟩,
 ⟨none, .mv 24 (.t 23), none, 0⟩,
 ⟨some (24, false), .ldR 25 3 0 (some 3), none, 25⟩,
 ⟨some (24, false), .call 26 13 [(.t 25)], none, 26⟩,
 ⟨some (24, false), .bin 27 .neq (.t 26) (.i 0), none, 27⟩,
 ⟨none, .pick 28 (.t 24) (.b true) (.t 27), none, 0⟩,
 ⟨none, .mv 29 (.t 28), none, 0⟩,
 ⟨some (29, false), .nop, (some 3), 99999⟩,
 ⟨some (29, false), .ldR 31 3 2 none, none, 31⟩,
 ⟨some (29, false), .len 32 false (.t 31), none, 32⟩,
 ⟨some (29, false), .bin 33 .lss (.t 32) (.i 2), none, 33⟩,
 ⟨none, .pick 34 (.t 29) (.b true) (.t 33), none, 0⟩]
def c8r3 : List SI := [
 ⟨none, .mv 35 (.t 7), none, 0⟩,
 ⟨none, .mv 6 (.t 35), none, 0⟩]
def c8r4 : List SI := [
 ⟨none, .mv 36 (.t 1), none, 0⟩,
 ⟨none, .bin 37 .and (.t 36) (.i 65535), none, 0⟩,
 ⟨none, .nop, (some 3), 0⟩,
 ⟨none, .ldR 39 3 2 none, none, 0⟩,
 ⟨none, .len 40 false (.t 39), none, 0⟩,
 ⟨none, .bin 41 .sub (.t 40) (.i 1), none, 0⟩,
 ⟨none, .bin 42 .rem (.t 37) (.t 41), none, 0⟩,
 ⟨none, .mv 8 (.t 42), none, 0⟩]
def c8r5 : List SI := [
 ⟨none, .nop, (some 3), 0⟩,
 ⟨none, .ldR 45 3 2 none, none, 0⟩,
 ⟨none, .mv 46 (.t 8), none, 0⟩,
 ⟨none, .ixA 47 (.t 45) (.t 46) 2, none, 0⟩,
 ⟨none, .ld 48 (.t 47) (some 2), none, 0⟩,
 ⟨none, .call 49 27 [(.t 48)], none, 0⟩,
 ⟨none, .mv 43 (.t 49), none, 0⟩,
 ⟨none, .ext 50 (.t 43) 0, none, 0⟩,
 ⟨none, .ext 51 (.t 43) 1, none, 0⟩,
 ⟨none, .mv 9 (.t 50), none, 0⟩,
 ⟨none, .mv 10 (.t 51), none, 0⟩]
def c8r6 : List SI := [
 ⟨none, .ldR 53 3 0 (some 3), none, 0⟩,
 ⟨none, .mv 54 (.t 8), none, 0⟩,
 ⟨none, .mv 55 (.t 9), none, 0⟩,
 ⟨none, .call 56 28 [(.t 53), (.t 54), (.t 55)], none, 0⟩,
 ⟨none, .mv 52 (.t 56), none, 0⟩,
 ⟨none, .ext 57 (.t 52) 0, none, 0⟩,
 ⟨none, .ext 58 (.t 52) 1, none, 0⟩,
 ⟨none, .alR 11 [(.int .i64 0), (.int .i64 0), (.slice none 0 0)], none, 0⟩,
 ⟨none, .stR 11 0 3 (.t 57), none, 0⟩,
 ⟨none, .mv 12 (.t 58), none, 0⟩]
def c8r7 : List SI := [
 ⟨none, .mv 13 (.v (.slice none 0 0)), none, 0⟩]
def c8r8 : List SI := [
 ⟨none, .mv 14 (.v (.slice none 0 0)), none, 0⟩]
def c8r9 : List SI := [
 ⟨none, .mv 15 (.i 0), none, 0⟩]
def c8r10 : List SI := [
 ⟨none, .mv 59 (.t 15), none, 0⟩,
 ⟨none, .mv 60 (.t 9), none, 0⟩,
 ⟨none, .len 61 false (.t 60), none, 0⟩,
 ⟨none, .bin 62 .lss (.t 59) (.t 61), none, 0⟩]
def c8r11 : List SI := [
 ⟨none, .mv 65 (.t 2), none, 0⟩,
 ⟨none, .mv 66 (.t 15), none, 0⟩,
 ⟨none, .bin 67 .rem (.t 66) (.i 16), none, 0⟩,
 ⟨none, .cvI 68 .u64 (.t 67), none, 0⟩,
 ⟨none, .bin 69 .shr (.t 65) (.t 68), none, 0⟩,
 ⟨none, .bin 70 .and (.t 69) (.i 1), none, 0⟩,
 ⟨none, .bin 71 .eql (.t 70) (.i 1), none, 0⟩]
def c8r12 : List SI := [
 ⟨none, .mv 72 (.t 13), none, 0⟩,
 ⟨none, .mv 73 (.t 9), none, 0⟩,
 ⟨none, .mv 74 (.t 15), none, 0⟩,
 ⟨none, .ixA 75 (.t 73) (.t 74) 10, none, 0⟩,
 ⟨none, .ld 76 (.t 75) (some 10), none, 0⟩,
 ⟨none, .bls 77 35 1 10 [(.int .i64 0), (.int .i64 0), (.int .i64 0), (.int .i64 0), (.int .i64 0), (.int .i64 0), (.int .i64 0), (.bool false), (.int .i64 0), (.slice none 0 0)] [(0, 10, (.t 76))], none, 0⟩,
 ⟨none, .app 78 (.t 72) (.t 77) 35 10 96, none, 0⟩,
 ⟨none, .mv 13 (.t 78), none, 0⟩]
def c8r13 : List SI := [
 ⟨none, .mv 63 (.t 15), none, 0⟩,
 ⟨none, .bin 64 .add (.t 63) (.i 1), none, 0⟩,
 ⟨none, .mv 15 (.t 64), none, 0⟩]
def c8r14 : List SI := [
 ⟨none, .ldR 80 3 0 (some 3), none, 0⟩,
 ⟨none, .mv 81 (.t 8), none, 0⟩,
 ⟨none, .mv 82 (.t 13), none, 0⟩,
 ⟨none, .call 83 28 [(.t 80), (.t 81), (.t 82)], none, 0⟩,
 ⟨none, .mv 79 (.t 83), none, 0⟩,
 ⟨none, .ext 84 (.t 79) 0, none, 0⟩,
 ⟨none, .ext 85 (.t 79) 1, none, 0⟩,
 ⟨none, .alR 16 [(.int .i64 0), (.int .i64 0), (.slice none 0 0)], none, 0⟩,
 ⟨none, .stR 16 0 3 (.t 84), none, 0⟩,
 ⟨none, .mv 17 (.t 85), none, 0⟩]
def c8r15 : List SI := [
 ⟨none, .ldR 86 3 0 (some 3), none, 0⟩,
 ⟨none, .call 87 16 [(.t 86)], none, 0⟩,
 ⟨none, .mv 18 (.t 87), none, 0⟩]
def c8r16 : List SI := [
 ⟨none, .mv 19 (.i 0), none, 0⟩]
def c8r17 : List SI := [
 ⟨none, .mv 88 (.t 19), none, 0⟩,
 ⟨none, .mv 89 (.t 18), none, 0⟩,
 ⟨none, .len 90 false (.t 89), none, 0⟩,
 ⟨none, .bin 91 .lss (.t 88) (.t 90), none, 0⟩]
def c8r18 : List SI := [
 ⟨none, .mv 94 (.t 9), none, 0⟩,
 ⟨none, .mv 95 (.t 18), none, 0⟩,
 ⟨none, .mv 96 (.t 19), none, 0⟩,
 ⟨none, .ixA 97 (.t 95) (.t 96) 10, none, 0⟩,
 ⟨none, .ld 98 (.t 97) (some 10), none, 0⟩,
 ⟨none, .call 99 29 [(.t 94), (.t 98)], none, 0⟩,
 ⟨none, .un 100 .not (.t 99), none, 0⟩,
 ⟨none, .mv 101 (.t 100), none, 0⟩,
 ⟨some (101, false), .mv 102 (.t 13), none, 102⟩,
 ⟨some (101, false), .mv 103 (.t 18), none, 103⟩,
 ⟨some (101, false), .mv 104 (.t 19), none, 104⟩,
 ⟨some (101, false), .ixA 105 (.t 103) (.t 104) 10, none, 105⟩,
 ⟨some (101, false), .ld 106 (.t 105) (some 10), none, 106⟩,
 ⟨some (101, false), .call 107 29 [(.t 102), (.t 106)], none, 107⟩,
 ⟨none, .pick 108 (.t 101) (.b true) (.t 107), none, 0⟩]
def c8r19 : List SI := [
 ⟨none, .mv 109 (.t 14), none, 0⟩,
 ⟨none, .mv 110 (.t 18), none, 0⟩,
 ⟨none, .mv 111 (.t 19), none, 0⟩,
 ⟨none, .ixA 112 (.t 110) (.t 111) 10, none, 0⟩,
 ⟨none, .ld 113 (.t 112) (some 10), none, 0⟩,
 ⟨none, .bls 114 35 1 10 [(.int .i64 0), (.int .i64 0), (.int .i64 0), (.int .i64 0), (.int .i64 0), (.int .i64 0), (.int .i64 0), (.bool false), (.int .i64 0), (.slice none 0 0)] [(0, 10, (.t 113))], none, 0⟩,
 ⟨none, .app 115 (.t 109) (.t 114) 35 10 96, none, 0⟩,
 ⟨none, .mv 14 (.t 115), none, 0⟩]
def c8r20 : List SI := [
 ⟨none, .mv 92 (.t 19), none, 0⟩,
 ⟨none, .bin 93 .add (.t 92) (.i 1), none, 0⟩,
 ⟨none, .mv 19 (.t 93), none, 0⟩]
def c8r21 : List (Bool × SI) := [
 (true, ⟨none, .mv 116 (.t 7), none, 0⟩),
 (true, ⟨none, .mv 117 (.t 116), none, 0⟩),
 (true, ⟨some (117, true), .mv 118 (.t 12), none, 118⟩),
 (true, ⟨some (117, true), .bin 119 .eql (.t 118) (.i 0), none, 119⟩),
 (true, ⟨none, .pick 120 (.t 117) (.t 119) (.b false), none, 0⟩),
 (true, ⟨none, .mv 121 (.t 120), none, 0⟩),
 (true, ⟨some (121, true), .ldR 122 11 0 (some 3), none, 122⟩),
 (true, ⟨some (121, true), .ldR 123 3 0 (some 3), none, 123⟩),
 (false, ⟨some (121, true), .call 124 26 [(.t 122), (.t 123)], none, 124⟩),
 (true, ⟨none, .pick 125 (.t 121) (.t 124) (.b false), none, 0⟩),
 (true, ⟨none, .mv 126 (.t 125), none, 0⟩),
 (true, ⟨some (126, true), .mv 127 (.t 17), none, 127⟩),
 (true, ⟨some (126, true), .bin 128 .eql (.t 127) (.i 0), none, 128⟩),
 (true, ⟨none, .pick 129 (.t 126) (.t 128) (.b false), none, 0⟩),
 (true, ⟨none, .mv 130 (.t 129), none, 0⟩),
 (true, ⟨some (130, true), .ldR 131 16 0 (some 3), none, 131⟩),
 (false, ⟨some (130, true), .call 132 13 [(.t 131)], none, 132⟩),
 (true, ⟨some (130, true), .bin 133 .eql (.t 132) (.i 0), none, 133⟩),
 (true, ⟨none, .pick 134 (.t 130) (.t 133) (.b false), none, 0⟩),
 (true, ⟨none, .mv 135 (.t 134), none, 0⟩),
 (true, ⟨some (135, true), .ldR 136 16 0 (some 3), none, 136⟩),
 (true, ⟨some (135, true), .ldR 138 3 0 (some 3), none, 138⟩),
 (false, ⟨some (135, true), .call 137 14 [(.t 136)], none, 137⟩),
 (false, ⟨some (135, true), .call 139 14 [(.t 138)], none, 139⟩),
 (true, ⟨some (135, true), .bin 140 .eql (.t 137) (.t 139), none, 140⟩),
 (true, ⟨none, .pick 141 (.t 135) (.t 140) (.b false), none, 0⟩),
 (true, ⟨none, .mv 142 (.t 141), none, 0⟩),
 (true, ⟨some (142, true), .ldR 143 16 0 (some 3), none, 143⟩),
 (true, ⟨some (142, true), .mv 145 (.t 14), none, 145⟩),
 (false, ⟨some (142, true), .call 144 16 [(.t 143)], none, 144⟩),
 (false, ⟨some (142, true), .call 146 15 [(.t 144), (.t 145)], none, 146⟩),
 (true, ⟨none, .pick 147 (.t 142) (.t 146) (.b false), none, 0⟩),
 (true, ⟨none, .mv 6 (.t 147), none, 0⟩)]
def c8 : SC :=
 (.seq (.reg false c8r0)
 (.seq (.reg false c8r1)
 (.seq (.seq (.reg false c8r2)
 (.cond (.t 34)
  (.seq (.reg false c8r3)
  .ret)
  .skip))
 (.seq (.reg false c8r4)
 (.seq (.reg false c8r5)
 (.seq (.reg false c8r6)
 (.seq (.reg false c8r7)
 (.seq (.reg false c8r8)
 (.seq (.seq (.reg false c8r9)
 (.blk 0 (.loop (.seq (.seq (.reg false c8r10)
   (.cond (.t 62)
    .skip
    (.exit 0)))
   (.seq (.blk 1 (.seq (.reg false c8r11)
    (.cond (.t 71)
     (.reg false c8r12)
     .skip)))
   (.reg false c8r13))))))
 (.seq (.reg false c8r14)
 (.seq (.reg false c8r15)
 (.seq (.seq (.reg false c8r16)
 (.blk 2 (.loop (.seq (.seq (.reg false c8r17)
   (.cond (.t 91)
    .skip
    (.exit 2)))
   (.seq (.blk 3 (.seq (.reg false c8r18)
    (.cond (.t 108)
     (.reg false c8r19)
     .skip)))
   (.reg false c8r20))))))
 (.seq (.rgX c8r21)
 .ret)))))))))))))
def v8 : List Nat × List Nat := ([3, 11, 16], [3, 11, 16, 30, 38, 44])
def o8 : List RS := [.t 6]
theorem q8 : slimR Try.prog Try.f8.ntmps v8.1 v8.2 Try.f8.results.toList = some o8 := by kernel_rfl
-- watermeet/watermeetlaw09.live N=162
def c9r0 : List SI := [
 ⟨none, .mv 0 (.b false), none, 0⟩]
def c9r1 : List SI := [
 ⟨none, .call 20 11 [(.i 256), (.i 10)], none, 0⟩,
 ⟨none, .mv 19 (.t 20), none, 0⟩,
 ⟨none, .ext 21 (.t 19) 0, none, 0⟩,
 ⟨none, .ext 22 (.t 19) 1, none, 0⟩,
 ⟨none, .alR 1 [(.int .i64 0), (.int .i64 0), (.slice none 0 0)], none, 0⟩,
 ⟨none, .stR 1 0 3 (.t 21), none, 0⟩,
 ⟨none, .mv 2 (.t 22), none, 0⟩]
def c9r2 : RX := .br [(true, ⟨none, .ldR 24 1 0 (some 3), none, 0⟩)]
 ⟨none, .call 25 30 [(.i 10)], none, 0⟩
 (.br []
 ⟨none, .call 26 21 [(.t 24), (.t 25)], none, 0⟩
 (.leaf [(true, ⟨none, .mv 23 (.t 26), none, 0⟩),
 (true, ⟨none, .ext 27 (.t 23) 0, none, 0⟩),
 (true, ⟨none, .ext 28 (.t 23) 1, none, 0⟩),
 (false, ⟨none, .al 3 [(.int .i64 0), (.int .i64 0), (.slice none 0 0)], none, 0⟩),
 (false, ⟨none, .st (.t 3) 3 (.t 27), none, 0⟩),
 (true, ⟨none, .mv 4 (.t 28), none, 0⟩)])
 ⟨none, .al 3 [(.int .i64 0), (.int .i64 0), (.slice none 0 0)], none, 0⟩
 (.leaf [(false, ⟨none, .call 26 21 [(.t 24), (.t 25)], none, 0⟩),
 (true, ⟨none, .mv 23 (.t 26), none, 0⟩),
 (true, ⟨none, .ext 27 (.t 23) 0, none, 0⟩),
 (true, ⟨none, .ext 28 (.t 23) 1, none, 0⟩),
 (false, ⟨none, .st (.t 3) 3 (.t 27), none, 0⟩),
 (true, ⟨none, .mv 4 (.t 28), none, 0⟩)]))
 ⟨none, .al 3 [(.int .i64 0), (.int .i64 0), (.slice none 0 0)], none, 0⟩
 (.leaf [(false, ⟨none, .call 25 30 [(.i 10)], none, 0⟩),
 (false, ⟨none, .call 26 21 [(.t 24), (.t 25)], none, 0⟩),
 (true, ⟨none, .mv 23 (.t 26), none, 0⟩),
 (true, ⟨none, .ext 27 (.t 23) 0, none, 0⟩),
 (true, ⟨none, .ext 28 (.t 23) 1, none, 0⟩),
 (false, ⟨none, .st (.t 3) 3 (.t 27), none, 0⟩),
 (true, ⟨none, .mv 4 (.t 28), none, 0⟩)])
def c9r3 : List SI := [
 ⟨none, .ld 30 (.t 3) (some 3), none, 0⟩,
 ⟨none, .call 31 31 [(.t 30), (.i 12)], none, 0⟩,
 ⟨none, .mv 29 (.t 31), none, 0⟩,
 ⟨none, .ext 32 (.t 29) 0, none, 0⟩,
 ⟨none, .ext 33 (.t 29) 1, none, 0⟩,
 ⟨none, .alR 5 [(.int .i64 0), (.int .i64 0), (.slice none 0 0)], none, 0⟩,
 ⟨none, .stR 5 0 3 (.t 32), none, 0⟩,
 ⟨none, .mv 6 (.t 33), none, 0⟩]
def c9r4 : List SI := [
 ⟨none, .ld 35 (.t 3) (some 3), none, 0⟩,
 ⟨none, .call 36 17 [(.t 35), (.i 11), (.i 0)], none, 0⟩,
 ⟨none, .mv 34 (.t 36), none, 0⟩,
 ⟨none, .ext 37 (.t 34) 0, none, 0⟩,
 ⟨none, .ext 38 (.t 34) 1, none, 0⟩,
 ⟨none, .mv 7 (.t 37), none, 0⟩,
 ⟨none, .mv 8 (.t 38), none, 0⟩]
def c9r5 : List SI := [
 ⟨none, .ld 40 (.t 3) (some 3), none, 0⟩,
 ⟨none, .call 41 17 [(.t 40), (.i 14), (.i 0)], none, 0⟩,
 ⟨none, .mv 39 (.t 41), none, 0⟩,
 ⟨none, .ext 42 (.t 39) 0, none, 0⟩,
 ⟨none, .ext 43 (.t 39) 1, none, 0⟩,
 ⟨none, .mv 9 (.t 42), none, 0⟩,
 ⟨none, .mv 10 (.t 43), none, 0⟩]
def c9r6 : RX := .br [(true, ⟨none, .ld 45 (.t 3) (some 3), none, 0⟩)]
 ⟨none, .call 46 30 [(.i 12)], none, 0⟩
 (.br []
 ⟨none, .call 47 21 [(.t 45), (.t 46)], none, 0⟩
 (.leaf [(true, ⟨none, .mv 44 (.t 47), none, 0⟩),
 (true, ⟨none, .ext 48 (.t 44) 0, none, 0⟩),
 (true, ⟨none, .ext 49 (.t 44) 1, none, 0⟩),
 (false, ⟨none, .al 11 [(.int .i64 0), (.int .i64 0), (.slice none 0 0)], none, 0⟩),
 (false, ⟨none, .st (.t 11) 3 (.t 48), none, 0⟩),
 (true, ⟨none, .mv 12 (.t 49), none, 0⟩)])
 ⟨none, .al 11 [(.int .i64 0), (.int .i64 0), (.slice none 0 0)], none, 0⟩
 (.leaf [(false, ⟨none, .call 47 21 [(.t 45), (.t 46)], none, 0⟩),
 (true, ⟨none, .mv 44 (.t 47), none, 0⟩),
 (true, ⟨none, .ext 48 (.t 44) 0, none, 0⟩),
 (true, ⟨none, .ext 49 (.t 44) 1, none, 0⟩),
 (false, ⟨none, .st (.t 11) 3 (.t 48), none, 0⟩),
 (true, ⟨none, .mv 12 (.t 49), none, 0⟩)]))
 ⟨none, .al 11 [(.int .i64 0), (.int .i64 0), (.slice none 0 0)], none, 0⟩
 (.leaf [(false, ⟨none, .call 46 30 [(.i 12)], none, 0⟩),
 (false, ⟨none, .call 47 21 [(.t 45), (.t 46)], none, 0⟩),
 (true, ⟨none, .mv 44 (.t 47), none, 0⟩),
 (true, ⟨none, .ext 48 (.t 44) 0, none, 0⟩),
 (true, ⟨none, .ext 49 (.t 44) 1, none, 0⟩),
 (false, ⟨none, .st (.t 11) 3 (.t 48), none, 0⟩),
 (true, ⟨none, .mv 12 (.t 49), none, 0⟩)])
def c9r7 : List SI := [
 ⟨none, .ld 51 (.t 3) (some 3), none, 0⟩,
 ⟨none, .call 52 32 [(.t 51), (.i 13)], none, 0⟩,
 ⟨none, .mv 50 (.t 52), none, 0⟩,
 ⟨none, .ext 53 (.t 50) 0, none, 0⟩,
 ⟨none, .ext 54 (.t 50) 1, none, 0⟩,
 ⟨none, .alR 13 [(.int .i64 0), (.int .i64 0), (.slice none 0 0)], none, 0⟩,
 ⟨none, .stR 13 0 3 (.t 53), none, 0⟩,
 ⟨none, .mv 14 (.t 54), none, 0⟩]
def c9r8 : List SI := [
 ⟨none, .ld 56 (.t 3) (some 3), none, 0⟩,
 ⟨none, .call 57 24 [(.t 56)], none, 0⟩,
 ⟨none, .mv 55 (.t 57), none, 0⟩,
 ⟨none, .ext 58 (.t 55) 0, none, 0⟩,
 ⟨none, .ext 59 (.t 55) 1, none, 0⟩,
 ⟨none, .alR 15 [(.int .i64 0), (.int .i64 0), (.slice none 0 0)], none, 0⟩,
 ⟨none, .stR 15 0 3 (.t 58), none, 0⟩,
 ⟨none, .mv 16 (.t 59), none, 0⟩]
def c9r9 : List SI := [
 ⟨none, .ld 61 (.t 3) (some 3), none, 0⟩,
 ⟨none, .call 62 28 [(.t 61), (.i 0), (.v (.slice none 0 0))], none, 0⟩,
 ⟨none, .mv 60 (.t 62), none, 0⟩,
 ⟨none, .ext 63 (.t 60) 0, none, 0⟩,
 ⟨none, .ext 64 (.t 60) 1, none, 0⟩,
 ⟨none, .alR 17 [(.int .i64 0), (.int .i64 0), (.slice none 0 0)], none, 0⟩,
 ⟨none, .stR 17 0 3 (.t 63), none, 0⟩,
 ⟨none, .mv 18 (.t 64), none, 0⟩]
def c9r10 : List SI := [
 ⟨none, .mv 65 (.t 2), none, 0⟩,
 ⟨none, .bin 66 .neq (.t 65) (.i 0), none, 0⟩,
 ⟨none, .mv 67 (.t 66), none, 0⟩,
 ⟨some (67, false), .mv 68 (.t 4), none, 68⟩,
 ⟨some (67, false), .bin 69 .neq (.t 68) (.i 0), none, 69⟩,
 ⟨none, .pick 70 (.t 67) (.b true) (.t 69), none, 0⟩,
 ⟨none, .mv 71 (.t 70), none, 0⟩,
 ⟨some (71, false), .mv 72 (.t 6), none, 72⟩,
 ⟨some (71, false), .bin 73 .neq (.t 72) (.i 0), none, 73⟩,
 ⟨none, .pick 74 (.t 71) (.b true) (.t 73), none, 0⟩,
 ⟨none, .mv 75 (.t 74), none, 0⟩,
 ⟨some (75, false), .mv 76 (.t 8), none, 76⟩,
 ⟨some (75, false), .bin 77 .neq (.t 76) (.i 0), none, 77⟩,
 ⟨none, .pick 78 (.t 75) (.b true) (.t 77), none, 0⟩,
 ⟨none, .mv 79 (.t 78), none, 0⟩,
 ⟨some (79, false), .mv 80 (.t 14), none, 80⟩,
 ⟨some (79, false), .bin 81 .neq (.t 80) (.i 0), none, 81⟩,
 ⟨none, .pick 82 (.t 79) (.b true) (.t 81), none, 0⟩,
 ⟨none, .mv 83 (.t 82), none, 0⟩,
 ⟨some (83, false), .mv 84 (.t 7), none, 84⟩,
 ⟨some (83, false), .len 85 false (.t 84), none, 85⟩,
 ⟨some (83, false), .bin 86 .neq (.t 85) (.i 1), none, 86⟩,
 ⟨none, .pick 87 (.t 83) (.b true) (.t 86), none, 0⟩]
def c9r11 : List SI := [
 ⟨none, .mv 0 (.b false), none, 0⟩]
def c9r12 : List SI := [
 ⟨none, .ldR 88 1 0 (some 3), none, 0⟩,
 ⟨none, .call 89 14 [(.t 88)], none, 0⟩,
 ⟨none, .bin 90 .eql (.t 89) (.i 10), none, 0⟩,
 ⟨none, .mv 91 (.t 90), none, 0⟩,
 ⟨some (91, true), .ld 92 (.t 3) (some 3), none, 92⟩,
 ⟨some (91, true), .call 93 14 [(.t 92)], none, 93⟩,
 ⟨some (91, true), .bin 94 .eql (.t 93) (.i 13), none, 94⟩,
 ⟨none, .pick 95 (.t 91) (.t 94) (.b false), none, 0⟩,
 ⟨none, .mv 96 (.t 95), none, 0⟩,
 ⟨some (96, true), .ldR 97 5 0 (some 3), none, 97⟩,
 ⟨some (96, true), .call 98 14 [(.t 97)], none, 98⟩,
 ⟨some (96, true), .bin 99 .eql (.t 98) (.i 10), none, 99⟩,
 ⟨none, .pick 100 (.t 96) (.t 99) (.b false), none, 0⟩,
 ⟨none, .mv 101 (.t 100), none, 0⟩,
 ⟨some (101, true), .ldR 102 5 0 (some 3), none, 102⟩,
 ⟨some (101, true), .call 103 16 [(.t 102)], none, 103⟩,
 ⟨some (101, true), .len 104 false (.t 103), none, 104⟩,
 ⟨some (101, true), .bin 105 .eql (.t 104) (.i 0), none, 105⟩,
 ⟨none, .pick 106 (.t 101) (.t 105) (.b false), none, 0⟩,
 ⟨none, .mv 107 (.t 106), none, 0⟩,
 ⟨some (107, true), .mv 108 (.t 7), none, 108⟩,
 ⟨some (107, true), .ixA 109 (.t 108) (.i 0) 10, none, 109⟩,
 ⟨some (107, true), .flA 110 (.t 109) 0, none, 110⟩,
 ⟨some (107, true), .ld 111 (.t 110) none, none, 111⟩,
 ⟨some (107, true), .bin 112 .eql (.t 111) (.i 10), none, 112⟩,
 ⟨none, .pick 113 (.t 107) (.t 112) (.b false), none, 0⟩,
 ⟨none, .mv 114 (.t 113), none, 0⟩,
 ⟨some (114, true), .mv 115 (.t 10), none, 115⟩,
 ⟨some (114, true), .bin 116 .eql (.t 115) (.i 90), none, 116⟩,
 ⟨none, .pick 117 (.t 114) (.t 116) (.b false), none, 0⟩,
 ⟨none, .mv 118 (.t 117), none, 0⟩,
 ⟨some (118, true), .mv 119 (.t 12), none, 119⟩,
 ⟨some (118, true), .bin 120 .eql (.t 119) (.i 71), none, 120⟩,
 ⟨none, .pick 121 (.t 118) (.t 120) (.b false), none, 0⟩,
 ⟨none, .mv 122 (.t 121), none, 0⟩,
 ⟨some (122, true), .ld 123 (.t 3) (some 3), none, 123⟩,
 ⟨some (122, true), .call 124 16 [(.t 123)], none, 124⟩,
 ⟨some (122, true), .len 125 false (.t 124), none, 125⟩,
 ⟨some (122, true), .bin 126 .eql (.t 125) (.i 1), none, 126⟩,
 ⟨none, .pick 127 (.t 122) (.t 126) (.b false), none, 0⟩,
 ⟨none, .mv 128 (.t 127), none, 0⟩,
 ⟨some (128, true), .ldR 129 13 0 (some 3), none, 129⟩,
 ⟨some (128, true), .call 130 16 [(.t 129)], none, 130⟩,
 ⟨some (128, true), .len 131 false (.t 130), none, 131⟩,
 ⟨some (128, true), .bin 132 .eql (.t 131) (.i 0), none, 132⟩,
 ⟨none, .pick 133 (.t 128) (.t 132) (.b false), none, 0⟩,
 ⟨none, .mv 134 (.t 133), none, 0⟩,
 ⟨some (134, true), .nop, (some 13), 99999⟩,
 ⟨some (134, true), .ldR 136 13 1 none, none, 136⟩,
 ⟨some (134, true), .bin 137 .eql (.t 136) (.i 13), none, 137⟩,
 ⟨none, .pick 138 (.t 134) (.t 137) (.b false), none, 0⟩,
 ⟨none, .mv 139 (.t 138), none, 0⟩,
 ⟨some (139, true), .ldR 140 15 0 (some 3), none, 140⟩,
 ⟨some (139, true), .ld 141 (.t 3) (some 3), none, 141⟩,
 ⟨some (139, true), .call 142 26 [(.t 140), (.t 141)], none, 142⟩,
 ⟨none, .pick 143 (.t 139) (.t 142) (.b false), none, 0⟩,
 ⟨none, .mv 144 (.t 143), none, 0⟩,
 ⟨some (144, true), .mv 145 (.t 16), none, 145⟩,
 ⟨some (144, true), .bin 146 .eql (.t 145) (.i 0), none, 146⟩,
 ⟨none, .pick 147 (.t 144) (.t 146) (.b false), none, 0⟩,
 ⟨none, .mv 148 (.t 147), none, 0⟩,
 ⟨some (148, true), .mv 149 (.t 18), none, 149⟩,
 ⟨some (148, true), .bin 150 .eql (.t 149) (.i 90), none, 150⟩,
 ⟨none, .pick 151 (.t 148) (.t 150) (.b false), none, 0⟩,
 ⟨none, .mv 152 (.t 151), none, 0⟩,
 ⟨some (152, true), .ld 153 (.t 3) (some 3), none, 153⟩,
 ⟨some (152, true), .call 154 13 [(.t 153)], none, 154⟩,
 ⟨some (152, true), .bin 155 .eql (.t 154) (.i 0), none, 155⟩,
 ⟨none, .pick 156 (.t 152) (.t 155) (.b false), none, 0⟩,
 ⟨none, .mv 157 (.t 156), none, 0⟩,
 ⟨some (157, true), .bld 158 [(.int .i64 0), (.int .i64 0), (.slice none 0 0)] [], none, 158⟩,
 ⟨some (157, true), .call 159 13 [(.t 158)], none, 159⟩,
 ⟨some (157, true), .bin 160 .eql (.t 159) (.i 1), none, 160⟩,
 ⟨none, .pick 161 (.t 157) (.t 160) (.b false), none, 0⟩,
 ⟨none, .mv 0 (.t 161), none, 0⟩]
def c9 : SC :=
 (.seq (.reg false c9r0)
 (.seq (.reg false c9r1)
 (.seq (.rgZ c9r2)
 (.seq (.reg false c9r3)
 (.seq (.reg false c9r4)
 (.seq (.reg false c9r5)
 (.seq (.rgZ c9r6)
 (.seq (.reg false c9r7)
 (.seq (.reg false c9r8)
 (.seq (.reg false c9r9)
 (.seq (.seq (.reg false c9r10)
 (.cond (.t 87)
  (.seq (.reg false c9r11)
  .ret)
  .skip))
 (.seq (.reg false c9r12)
 .ret))))))))))))
def v9 : List Nat × List Nat := ([1, 5, 13, 15, 17], [1, 5, 13, 15, 17, 135])
def o9 : List RS := [.t 0]
theorem s9 : slimC Try.prog Try.f9.ntmps v9.1 v9.2 ((Try.f9.body).getD .skip) = some c9 := by kernel_rfl
theorem q9 : slimR Try.prog Try.f9.ntmps v9.1 v9.2 Try.f9.results.toList = some o9 := by kernel_rfl
-- watermeet/watermeetref04.FewAll N=21
def c10r0 : List SI := [
 ⟨none, .mv 4 (.b false), none, 0⟩]
def c10r1 : List SI := [
 ⟨none, .mv 7 (.t 0), none, 0⟩,
 ⟨none, .len 8 false (.t 7), none, 0⟩,
 ⟨none, .mv 9 (.i 0), none, 0⟩]
def c10r2 : List SI := [
 ⟨none, .bin 10 .lss (.t 9) (.t 8), none, 0⟩]
def c10r3 : List SI := [
 ⟨none, .ixA 11 (.t 7) (.t 9) 10, none, 0⟩,
 ⟨none, .ld 12 (.t 11) (some 10), none, 0⟩,
 ⟨none, .alR 6 [(.int .i64 0), (.int .i64 0), (.int .i64 0), (.int .i64 0), (.int .i64 0), (.int .i64 0), (.int .i64 0), (.bool false), (.int .i64 0), (.slice none 0 0)], none, 0⟩,
 ⟨none, .stR 6 0 10 (.t 12), none, 0⟩]
def c10r4 : List SI := [
 ⟨none, .ldR 13 6 0 (some 10), none, 0⟩,
 ⟨none, .call 14 20 [(.t 13)], none, 0⟩,
 ⟨none, .un 15 .not (.t 14), none, 0⟩]
def c10r5 : List SI := [
 ⟨none, .mv 4 (.b false), none, 0⟩]
def c10r6 : List SI := [
 ⟨none, .bin 16 .add (.t 9) (.i 1), none, 0⟩,
 ⟨none, .mv 9 (.t 16), none, 0⟩]
def c10r7 : List SI := [
 ⟨none, .mv 17 (.t 0), none, 0⟩,
 ⟨none, .len 18 false (.t 17), none, 0⟩,
 ⟨none, .mv 19 (.t 1), none, 0⟩,
 ⟨none, .bin 20 .leq (.t 18) (.t 19), none, 0⟩,
 ⟨none, .mv 4 (.t 20), none, 0⟩]
def c10 : SC :=
 (.seq (.reg false c10r0)
 (.seq (.seq (.reg false c10r1)
 (.blk 0 (.loop (.seq (.reg false c10r2)
   (.seq (.cond (.t 10)
    .skip
    (.exit 0))
   (.seq (.blk 1 (.seq (.reg false c10r3)
    (.seq (.reg false c10r4)
    (.cond (.t 15)
     (.seq (.reg false c10r5)
     .ret)
     .skip))))
   (.reg false c10r6)))))))
 (.seq (.reg false c10r7)
 .ret)))
def v10 : List Nat × List Nat := ([6], [6])
def o10 : List RS := [.t 4]
theorem s10 : slimC Try.prog Try.f10.ntmps v10.1 v10.2 ((Try.f10.body).getD .skip) = some c10 := by kernel_rfl
theorem q10 : slimR Try.prog Try.f10.ntmps v10.1 v10.2 Try.f10.results.toList = some o10 := by kernel_rfl
-- watermeet/chain.New N=17
def c11r0 : List SI := [
 ⟨none, .alR 4 [(.int .i64 0), (.int .i64 0), (.slice none 0 0)], none, 0⟩,
 ⟨none, .mv 5 (.i 0), none, 0⟩]
def c11r1 : List SI := [
 ⟨none, .mv 6 (.t 0), none, 0⟩,
 ⟨none, .mv 7 (.t 1), none, 0⟩,
 ⟨none, .call 8 33 [(.t 6), (.t 7)], none, 0⟩,
 ⟨none, .un 9 .not (.t 8), none, 0⟩]
def c11r2 : List SI := [
 ⟨none, .bld 10 [(.int .i64 0), (.int .i64 0), (.slice none 0 0)] [], none, 0⟩,
 ⟨none, .stR 4 0 3 (.t 10), none, 0⟩,
 ⟨none, .mv 5 (.i 1), none, 0⟩]
def c11r3 : List SI := [
 ⟨none, .mv 11 (.t 0), none, 0⟩,
 ⟨none, .mv 12 (.t 1), none, 0⟩,
 ⟨none, .mv 13 (.t 1), none, 0⟩,
 ⟨none, .bld 14 [(.int .i64 0), (.slice none 0 0)] [(0, 1, (.t 13))], none, 0⟩,
 ⟨none, .bls 15 53 1 2 [(.int .i64 0), (.slice none 0 0)] [(0, 2, (.t 14))], none, 0⟩,
 ⟨none, .bld 16 [(.int .i64 0), (.int .i64 0), (.slice none 0 0)] [(0, 1, (.t 11)), (1, 1, (.t 12)), (2, 1, (.t 15))], none, 0⟩,
 ⟨none, .stR 4 0 3 (.t 16), none, 0⟩,
 ⟨none, .mv 5 (.i 0), none, 0⟩]
def c11 : SC :=
 (.seq (.reg false c11r0)
 (.seq (.seq (.reg false c11r1)
 (.cond (.t 9)
  (.seq (.reg false c11r2)
  .ret)
  .skip))
 (.seq (.reg false c11r3)
 .ret)))
def v11 : List Nat × List Nat := ([4], [4])
def o11 : List RS := [.r 4 (some 3), .t 5]
theorem s11 : slimC Try.prog Try.f11.ntmps v11.1 v11.2 ((Try.f11.body).getD .skip) = some c11 := by kernel_rfl
theorem q11 : slimR Try.prog Try.f11.ntmps v11.1 v11.2 Try.f11.results.toList = some o11 := by kernel_rfl
-- watermeet/watermeetlaw09.behind N=37
def c12r0 : List SI := [
 ⟨none, .bxR 2 (.t 0), none, 0⟩,
 ⟨none, .alR 4 [(.int .i64 0), (.int .i64 0), (.slice none 0 0)], none, 0⟩,
 ⟨none, .mv 5 (.v (.slice none 0 0)), none, 0⟩]
def c12r1 : List SI := [
 ⟨none, .mv 6 (.v (.slice none 0 0)), none, 0⟩]
def c12r2 : List SI := [
 ⟨none, .mv 7 (.i 0), none, 0⟩]
def c12r3 : List SI := [
 ⟨none, .mv 10 (.t 7), none, 0⟩,
 ⟨none, .mv 11 (.t 1), none, 0⟩,
 ⟨none, .len 12 false (.t 11), none, 0⟩,
 ⟨none, .bin 13 .lss (.t 10) (.t 12), none, 0⟩]
def c12r4 : RX := .br [(true, ⟨none, .ldR 17 2 0 (some 3), none, 0⟩),
 (true, ⟨none, .mv 18 (.t 1), none, 0⟩),
 (true, ⟨none, .mv 19 (.t 7), none, 0⟩),
 (true, ⟨none, .ixA 20 (.t 18) (.t 19) 10, none, 0⟩),
 (true, ⟨none, .ld 21 (.t 20) (some 10), none, 0⟩)]
 ⟨none, .call 22 21 [(.t 17), (.t 21)], none, 0⟩
 (.leaf [(true, ⟨none, .mv 16 (.t 22), none, 0⟩),
 (true, ⟨none, .ext 23 (.t 16) 0, none, 0⟩),
 (true, ⟨none, .ext 24 (.t 16) 1, none, 0⟩),
 (false, ⟨none, .al 8 [(.int .i64 0), (.int .i64 0), (.slice none 0 0)], none, 0⟩),
 (false, ⟨none, .st (.t 8) 3 (.t 23), none, 0⟩),
 (true, ⟨none, .mv 9 (.t 24), none, 0⟩)])
 ⟨none, .al 8 [(.int .i64 0), (.int .i64 0), (.slice none 0 0)], none, 0⟩
 (.leaf [(false, ⟨none, .call 22 21 [(.t 17), (.t 21)], none, 0⟩),
 (true, ⟨none, .mv 16 (.t 22), none, 0⟩),
 (true, ⟨none, .ext 23 (.t 16) 0, none, 0⟩),
 (true, ⟨none, .ext 24 (.t 16) 1, none, 0⟩),
 (false, ⟨none, .st (.t 8) 3 (.t 23), none, 0⟩),
 (true, ⟨none, .mv 9 (.t 24), none, 0⟩)])
def c12r5 : List SI := [
 ⟨none, .mv 25 (.t 9), none, 0⟩,
 ⟨none, .bin 26 .eql (.t 25) (.i 0), none, 0⟩]
def c12r6 : List SI := [
 ⟨none, .ld 27 (.t 8) (some 3), none, 0⟩,
 ⟨none, .stR 2 0 3 (.t 27), none, 0⟩]
def c12r7 : List SI := [
 ⟨none, .mv 28 (.t 6), none, 0⟩,
 ⟨none, .mv 29 (.t 1), none, 0⟩,
 ⟨none, .mv 30 (.t 7), none, 0⟩,
 ⟨none, .ixA 31 (.t 29) (.t 30) 10, none, 0⟩,
 ⟨none, .ld 32 (.t 31) (some 10), none, 0⟩,
 ⟨none, .bls 33 35 1 10 [(.int .i64 0), (.int .i64 0), (.int .i64 0), (.int .i64 0), (.int .i64 0), (.int .i64 0), (.int .i64 0), (.bool false), (.int .i64 0), (.slice none 0 0)] [(0, 10, (.t 32))], none, 0⟩,
 ⟨none, .app 34 (.t 28) (.t 33) 35 10 96, none, 0⟩,
 ⟨none, .mv 6 (.t 34), none, 0⟩]
def c12r8 : List SI := [
 ⟨none, .mv 14 (.t 7), none, 0⟩,
 ⟨none, .bin 15 .add (.t 14) (.i 1), none, 0⟩,
 ⟨none, .mv 7 (.t 15), none, 0⟩]
def c12r9 : List SI := [
 ⟨none, .ldR 35 2 0 (some 3), none, 0⟩,
 ⟨none, .mv 36 (.t 6), none, 0⟩,
 ⟨none, .stR 4 0 3 (.t 35), none, 0⟩,
 ⟨none, .mv 5 (.t 36), none, 0⟩]
def c12 : SC :=
 (.seq (.reg false c12r0)
 (.seq (.reg false c12r1)
 (.seq (.seq (.reg false c12r2)
 (.blk 0 (.loop (.seq (.seq (.reg false c12r3)
   (.cond (.t 13)
    .skip
    (.exit 0)))
   (.seq (.blk 1 (.seq (.rgZ c12r4)
    (.seq (.reg false c12r5)
    (.cond (.t 26)
     (.seq (.reg false c12r6)
     (.reg false c12r7))
     .skip))))
   (.reg false c12r8))))))
 (.seq (.reg false c12r9)
 .ret))))
def v12 : List Nat × List Nat := ([2, 4], [2, 4])
def o12 : List RS := [.r 4 (some 3), .t 5]
theorem s12 : slimC Try.prog Try.f12.ntmps v12.1 v12.2 ((Try.f12.body).getD .skip) = some c12 := by kernel_rfl
theorem q12 : slimR Try.prog Try.f12.ntmps v12.1 v12.2 Try.f12.results.toList = some o12 := by kernel_rfl
-- watermeet/chain.Check N=56
def c13r0 : List SI := [
 ⟨none, .bxR 1 (.t 0), none, 0⟩,
 ⟨none, .mv 2 (.i 0), none, 0⟩]
def c13r1 : List SI := [
 ⟨none, .nop, (some 1), 0⟩,
 ⟨none, .ldR 6 1 0 none, none, 0⟩,
 ⟨none, .nop, (some 1), 0⟩,
 ⟨none, .ldR 8 1 1 none, none, 0⟩,
 ⟨none, .call 9 33 [(.t 6), (.t 8)], none, 0⟩,
 ⟨none, .un 10 .not (.t 9), none, 0⟩,
 ⟨none, .mv 11 (.t 10), none, 0⟩,
 ⟨some (11, false), .nop, (some 1), 99999⟩,
 ⟨some (11, false), .ldR 13 1 2 none, none, 13⟩,
 ⟨some (11, false), .len 14 false (.t 13), none, 14⟩,
 ⟨some (11, false), .bin 15 .eql (.t 14) (.i 0), none, 15⟩,
 ⟨none, .pick 16 (.t 11) (.b true) (.t 15), none, 0⟩]
def c13r2 : List SI := [
 ⟨none, .mv 2 (.i 1), none, 0⟩]
def c13r3 : List SI := [
 ⟨none, .nop, (some 1), 0⟩,
 ⟨none, .ldR 18 1 2 none, none, 0⟩,
 ⟨none, .len 19 false (.t 18), none, 0⟩,
 ⟨none, .mv 20 (.i 0), none, 0⟩]
def c13r4 : List SI := [
 ⟨none, .bin 21 .lss (.t 20) (.t 19), none, 0⟩]
def c13r5 : List SI := [
 ⟨none, .mv 22 (.t 20), none, 0⟩,
 ⟨none, .ixA 23 (.t 18) (.t 20) 2, none, 0⟩,
 ⟨none, .ld 24 (.t 23) (some 2), none, 0⟩,
 ⟨none, .alR 4 [(.int .i64 0), (.slice none 0 0)], none, 0⟩,
 ⟨none, .mv 3 (.t 22), none, 0⟩,
 ⟨none, .stR 4 0 2 (.t 24), none, 0⟩]
def c13r6 : List (Bool × SI) := [
 (true, ⟨none, .nop, (some 4), 0⟩),
 (true, ⟨none, .ldR 26 4 1 none, none, 0⟩),
 (true, ⟨none, .len 27 false (.t 26), none, 0⟩),
 (true, ⟨none, .nop, (some 1), 0⟩),
 (true, ⟨none, .ldR 29 1 0 none, none, 0⟩),
 (true, ⟨none, .bin 30 .gtr (.t 27) (.t 29), none, 0⟩),
 (true, ⟨none, .mv 31 (.t 30), none, 0⟩),
 (true, ⟨some (31, false), .ldR 32 4 0 (some 2), none, 32⟩),
 (false, ⟨some (31, false), .call 33 34 [(.t 32)], none, 33⟩),
 (true, ⟨some (31, false), .un 34 .not (.t 33), none, 34⟩),
 (true, ⟨none, .pick 35 (.t 31) (.b true) (.t 34), none, 0⟩),
 (true, ⟨none, .mv 36 (.t 35), none, 0⟩),
 (true, ⟨some (36, false), .mv 37 (.t 3), none, 37⟩),
 (true, ⟨some (36, false), .bin 38 .gtr (.t 37) (.i 0), none, 38⟩),
 (true, ⟨some (36, false), .mv 39 (.t 38), none, 39⟩),
 (true, ⟨some (39, true), .nop, (some 1), 99999⟩),
 (true, ⟨some (39, true), .ldR 41 1 2 none, none, 41⟩),
 (true, ⟨some (39, true), .mv 42 (.t 3), none, 42⟩),
 (true, ⟨some (39, true), .bin 43 .sub (.t 42) (.i 1), none, 43⟩),
 (true, ⟨some (39, true), .ixA 44 (.t 41) (.t 43) 2, none, 44⟩),
 (true, ⟨some (39, true), .ld 45 (.t 44) (some 2), none, 45⟩),
 (true, ⟨some (39, true), .ldR 46 4 0 (some 2), none, 46⟩),
 (false, ⟨some (39, true), .call 47 35 [(.t 45), (.t 46)], none, 47⟩),
 (true, ⟨some (39, true), .un 48 .not (.t 47), none, 48⟩),
 (true, ⟨some (36, false), .pick 49 (.t 39) (.t 48) (.b false), none, 49⟩),
 (true, ⟨none, .pick 50 (.t 36) (.b true) (.t 49), none, 0⟩)]
def c13r7 : List SI := [
 ⟨none, .mv 2 (.i 1), none, 0⟩]
def c13r8 : List SI := [
 ⟨none, .bin 51 .add (.t 20) (.i 1), none, 0⟩,
 ⟨none, .mv 20 (.t 51), none, 0⟩]
def c13r9 : List SI := [
 ⟨none, .nop, (some 1), 0⟩,
 ⟨none, .ldR 53 1 2 none, none, 0⟩,
 ⟨none, .len 54 false (.t 53), none, 0⟩,
 ⟨none, .bin 55 .gtr (.t 54) (.i 256), none, 0⟩]
def c13r10 : List SI := [
 ⟨none, .mv 2 (.i 2), none, 0⟩]
def c13r11 : List SI := [
 ⟨none, .mv 2 (.i 0), none, 0⟩]
def c13 : SC :=
 (.seq (.reg false c13r0)
 (.seq (.seq (.reg false c13r1)
 (.cond (.t 16)
  (.seq (.reg false c13r2)
  .ret)
  .skip))
 (.seq (.seq (.reg false c13r3)
 (.blk 0 (.loop (.seq (.reg false c13r4)
   (.seq (.cond (.t 21)
    .skip
    (.exit 0))
   (.seq (.blk 1 (.seq (.reg false c13r5)
    (.seq (.rgX c13r6)
    (.cond (.t 50)
     (.seq (.reg false c13r7)
     .ret)
     .skip))))
   (.reg false c13r8)))))))
 (.seq (.seq (.reg false c13r9)
 (.cond (.t 55)
  (.seq (.reg false c13r10)
  .ret)
  .skip))
 (.seq (.reg false c13r11)
 .ret)))))
def v13 : List Nat × List Nat := ([1, 4], [1, 4, 5, 7, 12, 17, 25, 28, 40, 52])
def o13 : List RS := [.t 2]
theorem s13 : slimC Try.prog Try.f13.ntmps v13.1 v13.2 ((Try.f13.body).getD .skip) = some c13 := by kernel_rfl
theorem q13 : slimR Try.prog Try.f13.ntmps v13.1 v13.2 Try.f13.results.toList = some o13 := by kernel_rfl
-- watermeet/chain.End N=8
def c14r0 : List SI := [
 ⟨none, .bxR 1 (.t 0), none, 0⟩,
 ⟨none, .mv 2 (.i 0), none, 0⟩]
def c14r1 : List SI := [
 ⟨none, .ldR 3 1 0 (some 3), none, 0⟩,
 ⟨none, .call 4 13 [(.t 3)], none, 0⟩,
 ⟨none, .bin 5 .neq (.t 4) (.i 0), none, 0⟩]
def c14r2 : List SI := [
 ⟨none, .mv 2 (.i 0), none, 0⟩]
def c14r3 : List SI := [
 ⟨none, .ldR 6 1 0 (some 3), none, 0⟩,
 ⟨none, .call 7 36 [(.t 6)], none, 0⟩,
 ⟨none, .mv 2 (.t 7), none, 0⟩]
def c14 : SC :=
 (.seq (.reg false c14r0)
 (.seq (.seq (.reg false c14r1)
 (.cond (.t 5)
  (.seq (.reg false c14r2)
  .ret)
  .skip))
 (.seq (.reg false c14r3)
 .ret)))
def v14 : List Nat × List Nat := ([1], [1])
def o14 : List RS := [.t 2]
theorem s14 : slimC Try.prog Try.f14.ntmps v14.1 v14.2 ((Try.f14.body).getD .skip) = some c14 := by kernel_rfl
theorem q14 : slimR Try.prog Try.f14.ntmps v14.1 v14.2 Try.f14.results.toList = some o14 := by kernel_rfl
-- watermeet/watermeetref04.SameAll N=27
def c15r0 : List SI := [
 ⟨none, .mv 4 (.b false), none, 0⟩]
def c15r1 : List SI := [
 ⟨none, .mv 6 (.t 0), none, 0⟩,
 ⟨none, .len 7 false (.t 6), none, 0⟩,
 ⟨none, .mv 8 (.t 1), none, 0⟩,
 ⟨none, .len 9 false (.t 8), none, 0⟩,
 ⟨none, .bin 10 .neq (.t 7) (.t 9), none, 0⟩]
def c15r2 : List SI := [
 ⟨none, .mv 4 (.b false), none, 0⟩]
def c15r3 : List SI := [
 ⟨none, .mv 11 (.t 0), none, 0⟩,
 ⟨none, .len 12 false (.t 11), none, 0⟩,
 ⟨none, .mv 13 (.i 0), none, 0⟩]
def c15r4 : List SI := [
 ⟨none, .bin 14 .lss (.t 13) (.t 12), none, 0⟩]
def c15r5 : List SI := [
 ⟨none, .mv 15 (.t 13), none, 0⟩,
 ⟨none, .mv 5 (.t 15), none, 0⟩]
def c15r6 : List (Bool × SI) := [
 (true, ⟨none, .mv 16 (.t 0), none, 0⟩),
 (true, ⟨none, .mv 17 (.t 5), none, 0⟩),
 (true, ⟨none, .ixA 18 (.t 16) (.t 17) 10, none, 0⟩),
 (true, ⟨none, .ld 19 (.t 18) (some 10), none, 0⟩),
 (true, ⟨none, .mv 20 (.t 1), none, 0⟩),
 (true, ⟨none, .mv 21 (.t 5), none, 0⟩),
 (true, ⟨none, .ixA 22 (.t 20) (.t 21) 10, none, 0⟩),
 (true, ⟨none, .ld 23 (.t 22) (some 10), none, 0⟩),
 (false, ⟨none, .call 24 37 [(.t 19), (.t 23)], none, 0⟩),
 (true, ⟨none, .un 25 .not (.t 24), none, 0⟩)]
def c15r7 : List SI := [
 ⟨none, .mv 4 (.b false), none, 0⟩]
def c15r8 : List SI := [
 ⟨none, .bin 26 .add (.t 13) (.i 1), none, 0⟩,
 ⟨none, .mv 13 (.t 26), none, 0⟩]
def c15r9 : List SI := [
 ⟨none, .mv 4 (.b true), none, 0⟩]
def c15 : SC :=
 (.seq (.reg false c15r0)
 (.seq (.seq (.reg false c15r1)
 (.cond (.t 10)
  (.seq (.reg false c15r2)
  .ret)
  .skip))
 (.seq (.seq (.reg false c15r3)
 (.blk 0 (.loop (.seq (.reg false c15r4)
   (.seq (.cond (.t 14)
    .skip
    (.exit 0))
   (.seq (.blk 1 (.seq (.reg false c15r5)
    (.seq (.rgX c15r6)
    (.cond (.t 25)
     (.seq (.reg false c15r7)
     .ret)
     .skip))))
   (.reg false c15r8)))))))
 (.seq (.reg false c15r9)
 .ret))))
def v15 : List Nat × List Nat := ([], [])
def o15 : List RS := [.t 4]
theorem s15 : slimC Try.prog Try.f15.ntmps v15.1 v15.2 ((Try.f15.body).getD .skip) = some c15 := by kernel_rfl
theorem q15 : slimR Try.prog Try.f15.ntmps v15.1 v15.2 Try.f15.results.toList = some o15 := by kernel_rfl
-- watermeet/chain.All N=11
def c16r0 : List SI := [
 ⟨none, .bxR 1 (.t 0), none, 0⟩,
 ⟨none, .mv 2 (.v (.slice none 0 0)), none, 0⟩]
def c16r1 : List SI := [
 ⟨none, .ldR 3 1 0 (some 3), none, 0⟩,
 ⟨none, .call 4 13 [(.t 3)], none, 0⟩,
 ⟨none, .bin 5 .neq (.t 4) (.i 0), none, 0⟩]
def c16r2 : List SI := [
 ⟨none, .mv 2 (.v (.slice none 0 0)), none, 0⟩]
def c16r3 : List SI := [
 ⟨none, .ldR 6 1 0 (some 3), none, 0⟩,
 ⟨none, .nop, (some 1), 0⟩,
 ⟨none, .ldR 8 1 1 none, none, 0⟩,
 ⟨none, .call 9 39 [(.t 6), (.t 8)], none, 0⟩,
 ⟨none, .call 10 38 [(.t 9)], none, 0⟩,
 ⟨none, .mv 2 (.t 10), none, 0⟩]
def c16 : SC :=
 (.seq (.reg false c16r0)
 (.seq (.seq (.reg false c16r1)
 (.cond (.t 5)
  (.seq (.reg false c16r2)
  .ret)
  .skip))
 (.seq (.reg false c16r3)
 .ret)))
def v16 : List Nat × List Nat := ([1], [1, 7])
def o16 : List RS := [.t 2]
theorem s16 : slimC Try.prog Try.f16.ntmps v16.1 v16.2 ((Try.f16.body).getD .skip) = some c16 := by kernel_rfl
theorem q16 : slimR Try.prog Try.f16.ntmps v16.1 v16.2 Try.f16.results.toList = some o16 := by kernel_rfl
-- watermeet/chain.Read N=44
def c17r0 : List SI := [
 ⟨none, .bx 3 (.t 0), none, 0⟩,
 ⟨none, .bx 5 (.t 2), none, 0⟩,
 ⟨none, .mv 6 (.v (.slice none 0 0)), none, 0⟩,
 ⟨none, .mv 7 (.i 0), none, 0⟩]
def c17r1 : List SI := [
 ⟨none, .ld 11 (.t 3) (some 3), none, 0⟩,
 ⟨none, .call 12 13 [(.t 11)], none, 0⟩,
 ⟨none, .mv 8 (.t 12), none, 0⟩]
def c17r2 : List SI := [
 ⟨none, .mv 13 (.t 8), none, 0⟩,
 ⟨none, .bin 14 .neq (.t 13) (.i 0), none, 0⟩]
def c17r3 : List SI := [
 ⟨none, .mv 15 (.t 8), none, 0⟩,
 ⟨none, .mv 6 (.v (.slice none 0 0)), none, 0⟩,
 ⟨none, .mv 7 (.t 15), none, 0⟩]
def c17r4 : List SI := [
 ⟨none, .ld 17 (.t 5) none, none, 0⟩,
 ⟨none, .bin 18 .lss (.t 17) (.i 0), none, 0⟩,
 ⟨none, .mv 16 (.t 18), none, 0⟩]
def c17r5 : List SI := [
 ⟨none, .mv 6 (.v (.slice none 0 0)), none, 0⟩,
 ⟨none, .mv 7 (.i 1), none, 0⟩]
def c17r6 : List SI := [
 ⟨none, .ld 20 (.t 3) (some 3), none, 0⟩,
 ⟨none, .mv 21 (.t 1), none, 0⟩,
 ⟨none, .call 22 40 [(.t 20), (.t 21)], none, 0⟩,
 ⟨none, .un 23 .not (.t 22), none, 0⟩,
 ⟨none, .mv 19 (.t 23), none, 0⟩]
def c17r7 : List SI := [
 ⟨none, .mv 6 (.v (.slice none 0 0)), none, 0⟩,
 ⟨none, .mv 7 (.i 90), none, 0⟩]
def c17r8 : List SI := [
 ⟨none, .al 9 [(.slice none 0 0)], none, 0⟩]
def c17r9 : List SI := [
 ⟨none, .ld 24 (.t 3) (some 3), none, 0⟩,
 ⟨none, .mv 25 (.t 1), none, 0⟩,
 ⟨none, .call 26 39 [(.t 24), (.t 25)], none, 0⟩]
def c17r10 : List SI := [
 ⟨none, .alR 10 [(.int .i64 0), (.int .i64 0), (.int .i64 0), (.int .i64 0), (.int .i64 0), (.int .i64 0), (.int .i64 0), (.bool false), (.int .i64 0), (.slice none 0 0)], none, 0⟩,
 ⟨none, .stR 10 0 10 (.t 27), none, 0⟩]
def c17r11 : List (Bool × SI) := [
 (true, ⟨none, .ld 28 (.t 5) none, none, 0⟩),
 (true, ⟨none, .ldR 29 10 0 (some 10), none, 0⟩),
 (false, ⟨none, .call 30 23 [(.t 29)], none, 0⟩),
 (true, ⟨none, .bin 31 .sub (.t 28) (.t 30), none, 0⟩)]
def c17r12 : List SI := [
 ⟨none, .st (.t 5) 1 (.t 31), none, 0⟩]
def c17r13 : List SI := [
 ⟨none, .ld 32 (.t 9) none, none, 0⟩,
 ⟨none, .len 33 false (.t 32), none, 0⟩,
 ⟨none, .bin 34 .gtr (.t 33) (.i 0), none, 0⟩,
 ⟨none, .mv 35 (.t 34), none, 0⟩,
 ⟨some (35, true), .ld 36 (.t 5) none, none, 36⟩,
 ⟨some (35, true), .bin 37 .lss (.t 36) (.i 0), none, 37⟩,
 ⟨none, .pick 38 (.t 35) (.t 37) (.b false), none, 0⟩]
def c17r14 : List SI := [
 ⟨none, .ld 39 (.t 9) none, none, 0⟩,
 ⟨none, .ldR 40 10 0 (some 10), none, 0⟩,
 ⟨none, .bls 41 35 1 10 [(.int .i64 0), (.int .i64 0), (.int .i64 0), (.int .i64 0), (.int .i64 0), (.int .i64 0), (.int .i64 0), (.bool false), (.int .i64 0), (.slice none 0 0)] [(0, 10, (.t 40))], none, 0⟩,
 ⟨none, .app 42 (.t 39) (.t 41) 35 10 96, none, 0⟩,
 ⟨none, .st (.t 9) 1 (.t 42), none, 0⟩]
def c17r15 : List SI := [
 ⟨none, .ld 43 (.t 9) none, none, 0⟩,
 ⟨none, .mv 6 (.t 43), none, 0⟩,
 ⟨none, .mv 7 (.i 0), none, 0⟩]
def c17 : SC :=
 (.seq (.reg false c17r0)
 (.seq (.seq (.reg false c17r1)
 (.seq (.reg false c17r2)
 (.cond (.t 14)
  (.seq (.reg false c17r3)
  .ret)
  .skip)))
 (.seq (.blk 0 (.seq (.reg false c17r4)
  (.cond (.t 16)
   (.seq (.reg false c17r5)
   .ret)
   (.seq (.reg false c17r6)
   (.cond (.t 19)
    (.seq (.reg false c17r7)
    .ret)
    .skip)))))
 (.seq (.reg false c17r8)
 (.seq (.seq (.reg false c17r9)
 (.blk 1 (.rf (.t 26) [27] (.reg false c17r10)
   (.blk 2 (.seq (.rgY c17r11 c17r12)
    (.seq (.seq (.reg false c17r13)
    (.cond (.t 38)
     (.exit 1)
     .skip))
    (.reg false c17r14)))))))
 (.seq (.reg false c17r15)
 .ret))))))
def v17 : List Nat × List Nat := ([10], [10])
def o17 : List RS := [.t 6, .t 7]
theorem s17 : slimC Try.prog Try.f17.ntmps v17.1 v17.2 ((Try.f17.body).getD .skip) = some c17 := by kernel_rfl
theorem q17 : slimR Try.prog Try.f17.ntmps v17.1 v17.2 Try.f17.results.toList = some o17 := by kernel_rfl
-- watermeet/watermeetlaw09.from N=39
def c18r0 : List SI := [
 ⟨none, .mv 6 (.v (.slice none 0 0)), none, 0⟩]
def c18r1 : List SI := [
 ⟨none, .mv 7 (.v (.slice none 0 0)), none, 0⟩]
def c18r2 : List SI := [
 ⟨none, .mv 8 (.i 0), none, 0⟩]
def c18r3 : List SI := [
 ⟨none, .mv 9 (.t 8), none, 0⟩,
 ⟨none, .mv 10 (.t 0), none, 0⟩,
 ⟨none, .len 11 false (.t 10), none, 0⟩,
 ⟨none, .bin 12 .lss (.t 9) (.t 11), none, 0⟩]
def c18r4 : List SI := [
 ⟨none, .mv 15 (.t 0), none, 0⟩,
 ⟨none, .mv 16 (.t 8), none, 0⟩,
 ⟨none, .ixA 17 (.t 15) (.t 16) 10, none, 0⟩,
 ⟨none, .flA 18 (.t 17) 1, none, 0⟩,
 ⟨none, .ld 19 (.t 18) none, none, 0⟩,
 ⟨none, .mv 20 (.t 1), none, 0⟩,
 ⟨none, .bin 21 .geq (.t 19) (.t 20), none, 0⟩,
 ⟨none, .mv 22 (.t 21), none, 0⟩,
 ⟨some (22, true), .mv 23 (.t 0), none, 23⟩,
 ⟨some (22, true), .mv 24 (.t 8), none, 24⟩,
 ⟨some (22, true), .ixA 25 (.t 23) (.t 24) 10, none, 25⟩,
 ⟨some (22, true), .flA 26 (.t 25) 1, none, 26⟩,
 ⟨some (22, true), .ld 27 (.t 26) none, none, 27⟩,
 ⟨some (22, true), .mv 28 (.t 2), none, 28⟩,
 ⟨some (22, true), .bin 29 .lss (.t 27) (.t 28), none, 29⟩,
 ⟨none, .pick 30 (.t 22) (.t 29) (.b false), none, 0⟩]
def c18r5 : List SI := [
 ⟨none, .mv 31 (.t 7), none, 0⟩,
 ⟨none, .mv 32 (.t 0), none, 0⟩,
 ⟨none, .mv 33 (.t 8), none, 0⟩,
 ⟨none, .ixA 34 (.t 32) (.t 33) 10, none, 0⟩,
 ⟨none, .ld 35 (.t 34) (some 10), none, 0⟩,
 ⟨none, .bls 36 35 1 10 [(.int .i64 0), (.int .i64 0), (.int .i64 0), (.int .i64 0), (.int .i64 0), (.int .i64 0), (.int .i64 0), (.bool false), (.int .i64 0), (.slice none 0 0)] [(0, 10, (.t 35))], none, 0⟩,
 ⟨none, .app 37 (.t 31) (.t 36) 35 10 96, none, 0⟩,
 ⟨none, .mv 7 (.t 37), none, 0⟩]
def c18r6 : List SI := [
 ⟨none, .mv 13 (.t 8), none, 0⟩,
 ⟨none, .bin 14 .add (.t 13) (.i 1), none, 0⟩,
 ⟨none, .mv 8 (.t 14), none, 0⟩]
def c18r7 : List SI := [
 ⟨none, .mv 38 (.t 7), none, 0⟩,
 ⟨none, .mv 6 (.t 38), none, 0⟩]
def c18 : SC :=
 (.seq (.reg false c18r0)
 (.seq (.reg false c18r1)
 (.seq (.seq (.reg false c18r2)
 (.blk 0 (.loop (.seq (.seq (.reg false c18r3)
   (.cond (.t 12)
    .skip
    (.exit 0)))
   (.seq (.blk 1 (.seq (.reg false c18r4)
    (.cond (.t 30)
     (.reg false c18r5)
     .skip)))
   (.reg false c18r6))))))
 (.seq (.reg false c18r7)
 .ret))))
def v18 : List Nat × List Nat := ([], [])
def o18 : List RS := [.t 6]
theorem s18 : slimC Try.prog Try.f18.ntmps v18.1 v18.2 ((Try.f18.body).getD .skip) = some c18 := by kernel_rfl
theorem q18 : slimR Try.prog Try.f18.ntmps v18.1 v18.2 Try.f18.results.toList = some o18 := by kernel_rfl
-- watermeet/watermeetlaw09.few N=11
def c20r0 : List SI := [
 ⟨none, .bxR 1 (.t 0), none, 0⟩,
 ⟨none, .mv 2 (.b false), none, 0⟩]
def c20r1 : List SI := [
 ⟨none, .mv 3 (.i 0), none, 0⟩]
def c20r2 : List SI := [
 ⟨none, .nop, (some 1), 0⟩,
 ⟨none, .ldR 7 1 9 none, none, 0⟩,
 ⟨none, .len 8 false (.t 7), none, 0⟩,
 ⟨none, .mv 9 (.i 0), none, 0⟩]
def c20r3 : List SI := [
 ⟨none, .bin 10 .lss (.t 9) (.t 8), none, 0⟩]
def c20r4 : List SI := [
 ⟨none, .ixA 11 (.t 7) (.t 9) 5, none, 0⟩,
 ⟨none, .ld 12 (.t 11) (some 5), none, 0⟩,
 ⟨none, .alR 5 [(.int .i64 0), (.string ⟨#[]⟩), (.string ⟨#[]⟩), (.bool false), (.int .i64 0)], none, 0⟩,
 ⟨none, .stR 5 0 5 (.t 12), none, 0⟩]
def c20r5 : List SI := [
 ⟨none, .mv 13 (.t 3), none, 0⟩,
 ⟨none, .nop, (some 5), 0⟩,
 ⟨none, .ldR 15 5 1 none, none, 0⟩,
 ⟨none, .len 16 true (.t 15), none, 0⟩,
 ⟨none, .nop, (some 5), 0⟩,
 ⟨none, .ldR 18 5 2 none, none, 0⟩,
 ⟨none, .len 19 true (.t 18), none, 0⟩,
 ⟨none, .bin 20 .add (.t 16) (.t 19), none, 0⟩,
 ⟨none, .bin 21 .add (.t 13) (.t 20), none, 0⟩,
 ⟨none, .mv 3 (.t 21), none, 0⟩]
def c20r6 : List SI := [
 ⟨none, .mv 22 (.t 3), none, 0⟩,
 ⟨none, .bin 23 .gtr (.t 22) (.i 20000), none, 0⟩]
def c20r7 : List SI := [
 ⟨none, .mv 2 (.b false), none, 0⟩]
def c20r8 : List SI := [
 ⟨none, .bin 24 .add (.t 9) (.i 1), none, 0⟩,
 ⟨none, .mv 9 (.t 24), none, 0⟩]
def c20r9 : List SI := [
 ⟨none, .nop, (some 1), 0⟩,
 ⟨none, .ldR 26 1 9 none, none, 0⟩,
 ⟨none, .len 27 false (.t 26), none, 0⟩,
 ⟨none, .bin 28 .leq (.t 27) (.i 100), none, 0⟩,
 ⟨none, .mv 2 (.t 28), none, 0⟩]
def c20 : SC :=
 (.seq (.reg false c20r0)
 (.seq (.reg false c20r1)
 (.seq (.seq (.reg false c20r2)
 (.blk 0 (.loop (.seq (.reg false c20r3)
   (.seq (.cond (.t 10)
    .skip
    (.exit 0))
   (.seq (.blk 1 (.seq (.reg false c20r4)
    (.seq (.reg false c20r5)
    (.seq (.reg false c20r6)
    (.cond (.t 23)
     (.seq (.reg false c20r7)
     .ret)
     .skip)))))
   (.reg false c20r8)))))))
 (.seq (.reg false c20r9)
 .ret))))
def v20 : List Nat × List Nat := ([1, 5], [1, 5, 6, 14, 17, 25])
def o20 : List RS := [.t 2]
theorem s20 : slimC Try.prog Try.f20.ntmps v20.1 v20.2 ((Try.f20.body).getD .skip) = some c20 := by kernel_rfl
theorem q20 : slimR Try.prog Try.f20.ntmps v20.1 v20.2 Try.f20.results.toList = some o20 := by kernel_rfl
-- watermeet/chain.Append N=89
def c21r0 : List SI := [
 ⟨none, .bxR 2 (.t 0), none, 0⟩,
 ⟨none, .bxR 3 (.t 1), none, 0⟩,
 ⟨none, .alR 4 [(.int .i64 0), (.int .i64 0), (.slice none 0 0)], none, 0⟩,
 ⟨none, .mv 5 (.i 0), none, 0⟩]
def c21r1 : List SI := [
 ⟨none, .ldR 11 2 0 (some 3), none, 0⟩,
 ⟨none, .call 12 13 [(.t 11)], none, 0⟩,
 ⟨none, .mv 6 (.t 12), none, 0⟩]
def c21r2 : List SI := [
 ⟨none, .mv 13 (.t 6), none, 0⟩,
 ⟨none, .bin 14 .eql (.t 13) (.i 0), none, 0⟩]
def c21r3 : List SI := [
 ⟨none, .ldR 15 3 0 (some 10), none, 0⟩,
 ⟨none, .call 16 22 [(.t 15)], none, 0⟩,
 ⟨none, .mv 6 (.t 16), none, 0⟩]
def c21r4 : List SI := [
 ⟨none, .mv 18 (.t 6), none, 0⟩,
 ⟨none, .bin 19 .neq (.t 18) (.i 0), none, 0⟩,
 ⟨none, .mv 17 (.t 19), none, 0⟩]
def c21r5 : List SI := [
 ⟨none, .bld 20 [(.int .i64 0), (.int .i64 0), (.slice none 0 0)] [], none, 0⟩,
 ⟨none, .mv 21 (.t 6), none, 0⟩,
 ⟨none, .stR 4 0 3 (.t 20), none, 0⟩,
 ⟨none, .mv 5 (.t 21), none, 0⟩]
def c21r6 : List (Bool × SI) := [
 (true, ⟨none, .nop, (some 3), 0⟩),
 (true, ⟨none, .ldR 24 3 0 none, none, 0⟩),
 (true, ⟨none, .ldR 25 2 0 (some 3), none, 0⟩),
 (false, ⟨none, .call 26 36 [(.t 25)], none, 0⟩),
 (true, ⟨none, .bin 27 .lss (.t 24) (.t 26), none, 0⟩),
 (true, ⟨none, .mv 22 (.t 27), none, 0⟩)]
def c21r7 : List SI := [
 ⟨none, .bld 28 [(.int .i64 0), (.int .i64 0), (.slice none 0 0)] [], none, 0⟩,
 ⟨none, .stR 4 0 3 (.t 28), none, 0⟩,
 ⟨none, .mv 5 (.i 71), none, 0⟩]
def c21r8 : List (Bool × SI) := [
 (true, ⟨none, .ldR 30 3 0 (some 10), none, 0⟩),
 (true, ⟨none, .nop, (some 2), 0⟩),
 (true, ⟨none, .ldR 33 2 0 none, none, 0⟩),
 (false, ⟨none, .call 31 23 [(.t 30)], none, 0⟩),
 (true, ⟨none, .bin 34 .gtr (.t 31) (.t 33), none, 0⟩),
 (true, ⟨none, .mv 29 (.t 34), none, 0⟩)]
def c21r9 : List SI := [
 ⟨none, .bld 35 [(.int .i64 0), (.int .i64 0), (.slice none 0 0)] [], none, 0⟩,
 ⟨none, .stR 4 0 3 (.t 35), none, 0⟩,
 ⟨none, .mv 5 (.i 70), none, 0⟩]
def c21r10 : List SI := [
 ⟨none, .ldR 36 2 0 (some 3), none, 0⟩,
 ⟨none, .call 37 42 [(.t 36)], none, 0⟩,
 ⟨none, .mv 7 (.t 37), none, 0⟩]
def c21r11 : RX := .br [(true, ⟨none, .nop, (some 2), 0⟩),
 (true, ⟨none, .ldR 40 2 2 none, none, 0⟩),
 (true, ⟨none, .mv 41 (.t 7), none, 0⟩),
 (true, ⟨none, .ixA 42 (.t 40) (.t 41) 2, none, 0⟩),
 (true, ⟨none, .ld 43 (.t 42) (some 2), none, 0⟩),
 (true, ⟨none, .ldR 44 3 0 (some 10), none, 0⟩),
 (true, ⟨none, .nop, (some 2), 0⟩),
 (true, ⟨none, .ldR 46 2 0 none, none, 0⟩)]
 ⟨none, .call 47 43 [(.t 43), (.t 44), (.t 46)], none, 0⟩
 (.leaf [(true, ⟨none, .mv 38 (.t 47), none, 0⟩),
 (true, ⟨none, .ext 48 (.t 38) 0, none, 0⟩),
 (true, ⟨none, .ext 49 (.t 38) 1, none, 0⟩),
 (false, ⟨none, .al 8 [(.int .i64 0), (.slice none 0 0)], none, 0⟩),
 (false, ⟨none, .st (.t 8) 2 (.t 48), none, 0⟩),
 (true, ⟨none, .mv 9 (.t 49), none, 0⟩)])
 ⟨none, .al 8 [(.int .i64 0), (.slice none 0 0)], none, 0⟩
 (.leaf [(false, ⟨none, .call 47 43 [(.t 43), (.t 44), (.t 46)], none, 0⟩),
 (true, ⟨none, .mv 38 (.t 47), none, 0⟩),
 (true, ⟨none, .ext 48 (.t 38) 0, none, 0⟩),
 (true, ⟨none, .ext 49 (.t 38) 1, none, 0⟩),
 (false, ⟨none, .st (.t 8) 2 (.t 48), none, 0⟩),
 (true, ⟨none, .mv 9 (.t 49), none, 0⟩)])
def c21r12 : List SI := [
 ⟨none, .mv 50 (.t 9), none, 0⟩,
 ⟨none, .bin 51 .eql (.t 50) (.i 0), none, 0⟩]
def c21r13 : RX := .br [(true, ⟨none, .ldR 52 2 0 (some 3), none, 0⟩),
 (true, ⟨none, .nop, (some 2), 0⟩),
 (true, ⟨none, .ldR 54 2 2 none, none, 0⟩),
 (true, ⟨none, .mv 55 (.t 7), none, 0⟩),
 (true, ⟨none, .sl 56 (.t 54) none (some (.t 55)) none 2, none, 0⟩),
 (true, ⟨none, .ld 58 (.t 8) (some 2), none, 0⟩)]
 ⟨none, .call 57 45 [(.t 56)], none, 0⟩
 (.leaf [(false, ⟨none, .bls 59 53 1 2 [(.int .i64 0), (.slice none 0 0)] [(0, 2, (.t 58))], none, 0⟩),
 (false, ⟨none, .app 60 (.t 57) (.t 59) 53 2 32, none, 0⟩),
 (false, ⟨none, .call 61 44 [(.t 52), (.t 60)], none, 0⟩),
 (false, ⟨none, .stR 4 0 3 (.t 61), none, 0⟩),
 (true, ⟨none, .mv 5 (.i 0), none, 0⟩)])
 ⟨none, .bls 59 53 1 2 [(.int .i64 0), (.slice none 0 0)] [(0, 2, (.t 58))], none, 0⟩
 (.leaf [(false, ⟨none, .call 57 45 [(.t 56)], none, 0⟩),
 (false, ⟨none, .app 60 (.t 57) (.t 59) 53 2 32, none, 0⟩),
 (false, ⟨none, .call 61 44 [(.t 52), (.t 60)], none, 0⟩),
 (false, ⟨none, .stR 4 0 3 (.t 61), none, 0⟩),
 (true, ⟨none, .mv 5 (.i 0), none, 0⟩)])
def c21r14 : List SI := [
 ⟨none, .nop, (some 2), 0⟩,
 ⟨none, .ldR 63 2 2 none, none, 0⟩,
 ⟨none, .len 64 false (.t 63), none, 0⟩,
 ⟨none, .bin 65 .eql (.t 64) (.i 256), none, 0⟩]
def c21r15 : List SI := [
 ⟨none, .bld 66 [(.int .i64 0), (.int .i64 0), (.slice none 0 0)] [], none, 0⟩,
 ⟨none, .stR 4 0 3 (.t 66), none, 0⟩,
 ⟨none, .mv 5 (.i 2), none, 0⟩]
def c21r16 : List SI := [
 ⟨none, .nop, (some 3), 0⟩,
 ⟨none, .ldR 69 3 0 none, none, 0⟩,
 ⟨none, .ldR 70 3 0 (some 10), none, 0⟩,
 ⟨none, .bls 71 35 1 10 [(.int .i64 0), (.int .i64 0), (.int .i64 0), (.int .i64 0), (.int .i64 0), (.int .i64 0), (.int .i64 0), (.bool false), (.int .i64 0), (.slice none 0 0)] [(0, 10, (.t 70))], none, 0⟩,
 ⟨none, .nop, (some 2), 0⟩,
 ⟨none, .ldR 73 2 0 none, none, 0⟩,
 ⟨none, .call 74 46 [(.t 69), (.t 71), (.t 73)], none, 0⟩,
 ⟨none, .mv 67 (.t 74), none, 0⟩,
 ⟨none, .ext 75 (.t 67) 0, none, 0⟩,
 ⟨none, .ext 76 (.t 67) 1, none, 0⟩,
 ⟨none, .alR 10 [(.int .i64 0), (.slice none 0 0)], none, 0⟩,
 ⟨none, .stR 10 0 2 (.t 75), none, 0⟩,
 ⟨none, .mv 6 (.t 76), none, 0⟩]
def c21r17 : List SI := [
 ⟨none, .mv 77 (.t 6), none, 0⟩,
 ⟨none, .bin 78 .neq (.t 77) (.i 0), none, 0⟩]
def c21r18 : List SI := [
 ⟨none, .bld 79 [(.int .i64 0), (.int .i64 0), (.slice none 0 0)] [], none, 0⟩,
 ⟨none, .mv 80 (.t 6), none, 0⟩,
 ⟨none, .stR 4 0 3 (.t 79), none, 0⟩,
 ⟨none, .mv 5 (.t 80), none, 0⟩]
def c21r19 : RX := .br [(true, ⟨none, .ldR 81 2 0 (some 3), none, 0⟩),
 (true, ⟨none, .nop, (some 2), 0⟩),
 (true, ⟨none, .ldR 83 2 2 none, none, 0⟩),
 (true, ⟨none, .ldR 85 10 0 (some 2), none, 0⟩)]
 ⟨none, .call 84 45 [(.t 83)], none, 0⟩
 (.leaf [(false, ⟨none, .bls 86 53 1 2 [(.int .i64 0), (.slice none 0 0)] [(0, 2, (.t 85))], none, 0⟩),
 (false, ⟨none, .app 87 (.t 84) (.t 86) 53 2 32, none, 0⟩),
 (false, ⟨none, .call 88 44 [(.t 81), (.t 87)], none, 0⟩),
 (false, ⟨none, .stR 4 0 3 (.t 88), none, 0⟩),
 (true, ⟨none, .mv 5 (.i 0), none, 0⟩)])
 ⟨none, .bls 86 53 1 2 [(.int .i64 0), (.slice none 0 0)] [(0, 2, (.t 85))], none, 0⟩
 (.leaf [(false, ⟨none, .call 84 45 [(.t 83)], none, 0⟩),
 (false, ⟨none, .app 87 (.t 84) (.t 86) 53 2 32, none, 0⟩),
 (false, ⟨none, .call 88 44 [(.t 81), (.t 87)], none, 0⟩),
 (false, ⟨none, .stR 4 0 3 (.t 88), none, 0⟩),
 (true, ⟨none, .mv 5 (.i 0), none, 0⟩)])
def c21 : SC :=
 (.seq (.reg false c21r0)
 (.seq (.reg false c21r1)
 (.seq (.seq (.reg false c21r2)
 (.cond (.t 14)
  (.reg false c21r3)
  .skip))
 (.seq (.blk 0 (.seq (.reg false c21r4)
  (.cond (.t 17)
   (.seq (.reg false c21r5)
   .ret)
   (.seq (.rgX c21r6)
   (.cond (.t 22)
    (.seq (.reg false c21r7)
    .ret)
    (.seq (.rgX c21r8)
    (.cond (.t 29)
     (.seq (.reg false c21r9)
     .ret)
     .skip)))))))
 (.seq (.reg false c21r10)
 (.seq (.seq (.rgZ c21r11)
 (.seq (.reg false c21r12)
 (.cond (.t 51)
  (.seq (.rgZ c21r13)
  .ret)
  .skip)))
 (.seq (.seq (.reg false c21r14)
 (.cond (.t 65)
  (.seq (.reg false c21r15)
  .ret)
  .skip))
 (.seq (.reg false c21r16)
 (.seq (.seq (.reg false c21r17)
 (.cond (.t 78)
  (.seq (.reg false c21r18)
  .ret)
  .skip))
 (.seq (.rgZ c21r19)
 .ret))))))))))
def v21 : List Nat × List Nat := ([2, 3, 4, 10], [2, 3, 4, 10, 23, 32, 39, 45, 53, 62, 68, 72, 82])
def o21 : List RS := [.r 4 (some 3), .t 5]
theorem s21 : slimC Try.prog Try.f21.ntmps v21.1 v21.2 ((Try.f21.body).getD .skip) = some c21 := by kernel_rfl
theorem q21 : slimR Try.prog Try.f21.ntmps v21.1 v21.2 Try.f21.results.toList = some o21 := by kernel_rfl
-- watermeet/batch.Check N=11
def c22r0 : List SI := [
 ⟨none, .bxR 1 (.t 0), none, 0⟩,
 ⟨none, .mv 2 (.i 0), none, 0⟩]
def c22r1 : List SI := [
 ⟨none, .ldR 6 1 0 (some 10), none, 0⟩,
 ⟨none, .call 7 47 [(.t 6)], none, 0⟩,
 ⟨none, .mv 5 (.t 7), none, 0⟩,
 ⟨none, .ext 8 (.t 5) 0, none, 0⟩,
 ⟨none, .ext 9 (.t 5) 1, none, 0⟩,
 ⟨none, .mv 3 (.t 8), none, 0⟩,
 ⟨none, .mv 4 (.t 9), none, 0⟩]
def c22r2 : List SI := [
 ⟨none, .mv 10 (.t 4), none, 0⟩,
 ⟨none, .mv 2 (.t 10), none, 0⟩]
def c22 : SC :=
 (.seq (.reg false c22r0)
 (.seq (.reg false c22r1)
 (.seq (.reg false c22r2)
 .ret)))
def v22 : List Nat × List Nat := ([1], [1])
def o22 : List RS := [.t 2]
theorem s22 : slimC Try.prog Try.f22.ntmps v22.1 v22.2 ((Try.f22.body).getD .skip) = some c22 := by kernel_rfl
theorem q22 : slimR Try.prog Try.f22.ntmps v22.1 v22.2 Try.f22.results.toList = some o22 := by kernel_rfl
-- watermeet/batch.Size N=12
def c23r0 : List SI := [
 ⟨none, .bxR 1 (.t 0), none, 0⟩,
 ⟨none, .mv 2 (.i 0), none, 0⟩]
def c23r1 : List SI := [
 ⟨none, .ldR 6 1 0 (some 10), none, 0⟩,
 ⟨none, .call 7 47 [(.t 6)], none, 0⟩,
 ⟨none, .mv 5 (.t 7), none, 0⟩,
 ⟨none, .ext 8 (.t 5) 0, none, 0⟩,
 ⟨none, .ext 9 (.t 5) 1, none, 0⟩,
 ⟨none, .mv 3 (.t 8), none, 0⟩,
 ⟨none, .mv 4 (.t 9), none, 0⟩]
def c23r2 : List SI := [
 ⟨none, .mv 10 (.t 3), none, 0⟩,
 ⟨none, .len 11 false (.t 10), none, 0⟩,
 ⟨none, .mv 2 (.t 11), none, 0⟩]
def c23 : SC :=
 (.seq (.reg false c23r0)
 (.seq (.reg false c23r1)
 (.seq (.reg false c23r2)
 .ret)))
def v23 : List Nat × List Nat := ([1], [1])
def o23 : List RS := [.t 2]
theorem s23 : slimC Try.prog Try.f23.ntmps v23.1 v23.2 ((Try.f23.body).getD .skip) = some c23 := by kernel_rfl
theorem q23 : slimR Try.prog Try.f23.ntmps v23.1 v23.2 Try.f23.results.toList = some o23 := by kernel_rfl
-- watermeet/chain.Recover N=94
def c24r0 : List SI := [
 ⟨none, .bxR 1 (.t 0), none, 0⟩,
 ⟨none, .alR 2 [(.int .i64 0), (.int .i64 0), (.slice none 0 0)], none, 0⟩,
 ⟨none, .mv 3 (.i 0), none, 0⟩]
def c24r1 : List SI := [
 ⟨none, .nop, (some 1), 0⟩,
 ⟨none, .ldR 9 1 0 none, none, 0⟩,
 ⟨none, .nop, (some 1), 0⟩,
 ⟨none, .ldR 11 1 1 none, none, 0⟩,
 ⟨none, .call 12 33 [(.t 9), (.t 11)], none, 0⟩,
 ⟨none, .un 13 .not (.t 12), none, 0⟩,
 ⟨none, .mv 14 (.t 13), none, 0⟩,
 ⟨some (14, false), .nop, (some 1), 99999⟩,
 ⟨some (14, false), .ldR 16 1 2 none, none, 16⟩,
 ⟨some (14, false), .len 17 false (.t 16), none, 17⟩,
 ⟨some (14, false), .bin 18 .eql (.t 17) (.i 0), none, 18⟩,
 ⟨none, .pick 19 (.t 14) (.b true) (.t 18), none, 0⟩,
 ⟨none, .mv 20 (.t 19), none, 0⟩,
 ⟨some (20, false), .nop, (some 1), 99999⟩,
 ⟨some (20, false), .ldR 22 1 2 none, none, 22⟩,
 ⟨some (20, false), .ixA 23 (.t 22) (.i 0) 2, none, 23⟩,
 ⟨some (20, false), .flA 24 (.t 23) 0, none, 24⟩,
 ⟨some (20, false), .ld 25 (.t 24) none, none, 25⟩,
 ⟨some (20, false), .call 26 48 [(.t 25)], none, 26⟩,
 ⟨some (20, false), .un 27 .not (.t 26), none, 27⟩,
 ⟨none, .pick 28 (.t 20) (.b true) (.t 27), none, 0⟩]
def c24r2 : List SI := [
 ⟨none, .bld 29 [(.int .i64 0), (.int .i64 0), (.slice none 0 0)] [], none, 0⟩,
 ⟨none, .stR 2 0 3 (.t 29), none, 0⟩,
 ⟨none, .mv 3 (.i 0), none, 0⟩]
def c24r3 : List SI := [
 ⟨none, .ldR 30 1 0 (some 3), none, 0⟩,
 ⟨none, .call 31 44 [(.t 30), (.v (.slice none 0 0))], none, 0⟩,
 ⟨none, .stR 2 0 3 (.t 31), none, 0⟩]
def c24r4 : List SI := [
 ⟨none, .nop, (some 1), 0⟩,
 ⟨none, .ldR 33 1 2 none, none, 0⟩,
 ⟨none, .len 34 false (.t 33), none, 0⟩,
 ⟨none, .mv 35 (.i 0), none, 0⟩]
def c24r5 : List SI := [
 ⟨none, .bin 36 .lss (.t 35) (.t 34), none, 0⟩]
def c24r6 : List SI := [
 ⟨none, .mv 37 (.t 35), none, 0⟩,
 ⟨none, .ixA 38 (.t 33) (.t 35) 2, none, 0⟩,
 ⟨none, .ld 39 (.t 38) (some 2), none, 0⟩,
 ⟨none, .alR 5 [(.int .i64 0), (.slice none 0 0)], none, 0⟩,
 ⟨none, .mv 4 (.t 37), none, 0⟩,
 ⟨none, .stR 5 0 2 (.t 39), none, 0⟩]
def c24r7 : List SI := [
 ⟨none, .mv 40 (.t 3), none, 0⟩,
 ⟨none, .nop, (some 5), 0⟩,
 ⟨none, .ldR 42 5 1 none, none, 0⟩,
 ⟨none, .len 43 false (.t 42), none, 0⟩,
 ⟨none, .bin 44 .add (.t 40) (.t 43), none, 0⟩,
 ⟨none, .mv 3 (.t 44), none, 0⟩]
def c24r8 : List (Bool × SI) := [
 (true, ⟨none, .nop, (some 2), 0⟩),
 (true, ⟨none, .ldR 46 2 2 none, none, 0⟩),
 (true, ⟨none, .len 47 false (.t 46), none, 0⟩),
 (true, ⟨none, .mv 48 (.t 4), none, 0⟩),
 (true, ⟨none, .bin 49 .lss (.t 47) (.t 48), none, 0⟩),
 (true, ⟨none, .mv 50 (.t 49), none, 0⟩),
 (true, ⟨some (50, false), .mv 51 (.t 4), none, 51⟩),
 (true, ⟨some (50, false), .bin 52 .gtr (.t 51) (.i 0), none, 52⟩),
 (true, ⟨some (50, false), .mv 53 (.t 52), none, 53⟩),
 (true, ⟨some (53, true), .nop, (some 1), 99999⟩),
 (true, ⟨some (53, true), .ldR 55 1 2 none, none, 55⟩),
 (true, ⟨some (53, true), .mv 56 (.t 4), none, 56⟩),
 (true, ⟨some (53, true), .bin 57 .sub (.t 56) (.i 1), none, 57⟩),
 (true, ⟨some (53, true), .ixA 58 (.t 55) (.t 57) 2, none, 58⟩),
 (true, ⟨some (53, true), .ld 59 (.t 58) (some 2), none, 59⟩),
 (false, ⟨some (53, true), .call 60 34 [(.t 59)], none, 60⟩),
 (true, ⟨some (53, true), .un 61 .not (.t 60), none, 61⟩),
 (true, ⟨some (53, true), .mv 62 (.t 61), none, 62⟩),
 (true, ⟨some (62, false), .nop, (some 1), 99999⟩),
 (true, ⟨some (62, false), .ldR 64 1 2 none, none, 64⟩),
 (true, ⟨some (62, false), .mv 65 (.t 4), none, 65⟩),
 (true, ⟨some (62, false), .bin 66 .sub (.t 65) (.i 1), none, 66⟩),
 (true, ⟨some (62, false), .ixA 67 (.t 64) (.t 66) 2, none, 67⟩),
 (true, ⟨some (62, false), .ld 68 (.t 67) (some 2), none, 68⟩),
 (true, ⟨some (62, false), .ldR 69 5 0 (some 2), none, 69⟩),
 (false, ⟨some (62, false), .call 70 35 [(.t 68), (.t 69)], none, 70⟩),
 (true, ⟨some (62, false), .un 71 .not (.t 70), none, 71⟩),
 (true, ⟨some (53, true), .pick 72 (.t 62) (.b true) (.t 71), none, 72⟩),
 (true, ⟨some (50, false), .pick 73 (.t 53) (.t 72) (.b false), none, 73⟩),
 (true, ⟨none, .pick 74 (.t 50) (.b true) (.t 73), none, 0⟩)]
def c24r9 : List SI := [
 ⟨none, .ldR 76 5 0 (some 2), none, 0⟩,
 ⟨none, .call 77 49 [(.t 76)], none, 0⟩,
 ⟨none, .mv 75 (.t 77), none, 0⟩,
 ⟨none, .ext 78 (.t 75) 0, none, 0⟩,
 ⟨none, .ext 79 (.t 75) 1, none, 0⟩,
 ⟨none, .alR 6 [(.int .i64 0), (.slice none 0 0)], none, 0⟩,
 ⟨none, .stR 6 0 2 (.t 78), none, 0⟩,
 ⟨none, .mv 7 (.t 79), none, 0⟩]
def c24r10 : List SI := [
 ⟨none, .mv 80 (.t 3), none, 0⟩,
 ⟨none, .nop, (some 6), 0⟩,
 ⟨none, .ldR 82 6 1 none, none, 0⟩,
 ⟨none, .len 83 false (.t 82), none, 0⟩,
 ⟨none, .bin 84 .sub (.t 80) (.t 83), none, 0⟩,
 ⟨none, .mv 3 (.t 84), none, 0⟩]
def c24r11 : List SI := [
 ⟨none, .nop, (some 2), 0⟩,
 ⟨none, .ldR 86 2 2 none, none, 0⟩,
 ⟨none, .ldR 87 6 0 (some 2), none, 0⟩,
 ⟨none, .bls 88 53 1 2 [(.int .i64 0), (.slice none 0 0)] [(0, 2, (.t 87))], none, 0⟩,
 ⟨none, .app 89 (.t 86) (.t 88) 53 2 32, none, 0⟩,
 ⟨none, .nop, (some 2), 0⟩,
 ⟨none, .stR 2 2 1 (.t 89), none, 0⟩]
def c24r12 : List SI := [
 ⟨none, .bin 91 .add (.t 35) (.i 1), none, 0⟩,
 ⟨none, .mv 35 (.t 91), none, 0⟩]
def c24r13 : List SI := [
 ⟨none, .ldR 92 2 0 (some 3), none, 0⟩,
 ⟨none, .mv 93 (.t 3), none, 0⟩,
 ⟨none, .stR 2 0 3 (.t 92), none, 0⟩,
 ⟨none, .mv 3 (.t 93), none, 0⟩]
def c24 : SC :=
 (.seq (.reg false c24r0)
 (.seq (.seq (.reg false c24r1)
 (.cond (.t 28)
  (.seq (.reg false c24r2)
  .ret)
  .skip))
 (.seq (.reg false c24r3)
 (.seq (.seq (.reg false c24r4)
 (.blk 0 (.loop (.seq (.reg false c24r5)
   (.seq (.cond (.t 36)
    .skip
    (.exit 0))
   (.seq (.blk 1 (.seq (.reg false c24r6)
    (.seq (.reg false c24r7)
    (.seq (.seq (.rgX c24r8)
    (.cond (.t 74)
     (.exit 1)
     .skip))
    (.seq (.reg false c24r9)
    (.seq (.reg false c24r10)
    (.reg false c24r11)))))))
   (.reg false c24r12)))))))
 (.seq (.reg false c24r13)
 .ret)))))
def v24 : List Nat × List Nat := ([1, 2, 5, 6], [1, 2, 5, 6, 8, 10, 15, 21, 32, 41, 45, 54, 63, 81, 85, 90])
def o24 : List RS := [.r 2 (some 3), .t 3]
theorem s24 : slimC Try.prog Try.f24.ntmps v24.1 v24.2 ((Try.f24.body).getD .skip) = some c24 := by kernel_rfl
theorem q24 : slimR Try.prog Try.f24.ntmps v24.1 v24.2 Try.f24.results.toList = some o24 := by kernel_rfl
-- watermeet/watermeetlaw09.begins N=60
def c26r0 : List SI := [
 ⟨none, .bxR 2 (.t 0), none, 0⟩,
 ⟨none, .bxR 3 (.t 1), none, 0⟩,
 ⟨none, .mv 4 (.b false), none, 0⟩]
def c26r1 : List SI := [
 ⟨none, .nop, (some 2), 0⟩,
 ⟨none, .ldR 7 2 0 none, none, 0⟩,
 ⟨none, .nop, (some 3), 0⟩,
 ⟨none, .ldR 9 3 0 none, none, 0⟩,
 ⟨none, .bin 10 .neq (.t 7) (.t 9), none, 0⟩,
 ⟨none, .mv 11 (.t 10), none, 0⟩,
 ⟨some (11, false), .nop, (some 2), 99999⟩,
 ⟨some (11, false), .ldR 13 2 1 none, none, 13⟩,
 ⟨some (11, false), .nop, (some 3), 99999⟩,
 ⟨some (11, false), .ldR 15 3 1 none, none, 15⟩,
 ⟨some (11, false), .bin 16 .neq (.t 13) (.t 15), none, 16⟩,
 ⟨none, .pick 17 (.t 11) (.b true) (.t 16), none, 0⟩,
 ⟨none, .mv 18 (.t 17), none, 0⟩,
 ⟨some (18, false), .nop, (some 2), 99999⟩,
 ⟨some (18, false), .ldR 20 2 2 none, none, 20⟩,
 ⟨some (18, false), .len 21 false (.t 20), none, 21⟩,
 ⟨some (18, false), .nop, (some 3), 99999⟩,
 ⟨some (18, false), .ldR 23 3 2 none, none, 23⟩,
 ⟨some (18, false), .len 24 false (.t 23), none, 24⟩,
 ⟨some (18, false), .bin 25 .neq (.t 21) (.t 24), none, 25⟩,
 ⟨none, .pick 26 (.t 18) (.b true) (.t 25), none, 0⟩]
def c26r2 : List SI := [
 ⟨none, .mv 4 (.b false), none, 0⟩]
def c26r3 : List SI := [
 ⟨none, .mv 5 (.i 0), none, 0⟩]
def c26r4 : List SI := [
 ⟨none, .mv 27 (.t 5), none, 0⟩,
 ⟨none, .nop, (some 2), 0⟩,
 ⟨none, .ldR 29 2 2 none, none, 0⟩,
 ⟨none, .len 30 false (.t 29), none, 0⟩,
 ⟨none, .bin 31 .lss (.t 27) (.t 30), none, 0⟩]
def c26r5 : List (Bool × SI) := [
 (true, ⟨none, .nop, (some 2), 0⟩),
 (true, ⟨none, .ldR 35 2 2 none, none, 0⟩),
 (true, ⟨none, .mv 36 (.t 5), none, 0⟩),
 (true, ⟨none, .ixA 37 (.t 35) (.t 36) 2, none, 0⟩),
 (true, ⟨none, .ld 38 (.t 37) (some 2), none, 0⟩),
 (true, ⟨none, .nop, (some 3), 0⟩),
 (true, ⟨none, .ldR 40 3 2 none, none, 0⟩),
 (true, ⟨none, .mv 41 (.t 5), none, 0⟩),
 (true, ⟨none, .ixA 42 (.t 40) (.t 41) 2, none, 0⟩),
 (true, ⟨none, .ld 43 (.t 42) (some 2), none, 0⟩),
 (false, ⟨none, .call 44 51 [(.t 38), (.t 43)], none, 0⟩),
 (true, ⟨none, .un 45 .not (.t 44), none, 0⟩)]
def c26r6 : List SI := [
 ⟨none, .mv 4 (.b false), none, 0⟩]
def c26r7 : List SI := [
 ⟨none, .mv 32 (.t 5), none, 0⟩,
 ⟨none, .bin 33 .add (.t 32) (.i 1), none, 0⟩,
 ⟨none, .mv 5 (.t 33), none, 0⟩]
def c26r8 : List SI := [
 ⟨none, .mv 4 (.b true), none, 0⟩]
def c26 : SC :=
 (.seq (.reg false c26r0)
 (.seq (.seq (.reg false c26r1)
 (.cond (.t 26)
  (.seq (.reg false c26r2)
  .ret)
  .skip))
 (.seq (.seq (.reg false c26r3)
 (.blk 0 (.loop (.seq (.seq (.reg false c26r4)
   (.cond (.t 31)
    .skip
    (.exit 0)))
   (.seq (.blk 1 (.seq (.rgX c26r5)
    (.cond (.t 45)
     (.seq (.reg false c26r6)
     .ret)
     .skip)))
   (.reg false c26r7))))))
 (.seq (.reg false c26r8)
 .ret))))
def v26 : List Nat × List Nat := ([2, 3], [2, 3, 6, 8, 12, 14, 19, 22, 28, 34, 39])
def o26 : List RS := [.t 4]
theorem s26 : slimC Try.prog Try.f26.ntmps v26.1 v26.2 ((Try.f26.body).getD .skip) = some c26 := by kernel_rfl
theorem q26 : slimR Try.prog Try.f26.ntmps v26.1 v26.2 Try.f26.results.toList = some o26 := by kernel_rfl
-- watermeet/seg.Scan N=17
def c27r0 : List SI := [
 ⟨none, .bx 1 (.t 0), none, 0⟩,
 ⟨none, .al 2 [(.slice none 0 0)], none, 0⟩,
 ⟨none, .al 3 [(.int .i64 0)], none, 0⟩]
def c27r1 : List SI := [
 ⟨none, .ld 6 (.t 1) (some 2), none, 0⟩,
 ⟨none, .call 7 52 [(.t 6)], none, 0⟩]
def c27r2 : List SI := [
 ⟨none, .alR 4 [(.int .i64 0), (.int .i64 0), (.int .i64 0), (.int .i64 0), (.int .i64 0), (.int .i64 0), (.int .i64 0), (.bool false), (.int .i64 0), (.slice none 0 0)], none, 0⟩,
 ⟨none, .stR 4 0 10 (.t 8), none, 0⟩]
def c27r3 : List SI := [
 ⟨none, .mv 5 (.t 9), none, 0⟩]
def c27r4 : List SI := [
 ⟨none, .ld 10 (.t 2) none, none, 0⟩,
 ⟨none, .ldR 11 4 0 (some 10), none, 0⟩,
 ⟨none, .bls 12 35 1 10 [(.int .i64 0), (.int .i64 0), (.int .i64 0), (.int .i64 0), (.int .i64 0), (.int .i64 0), (.int .i64 0), (.bool false), (.int .i64 0), (.slice none 0 0)] [(0, 10, (.t 11))], none, 0⟩,
 ⟨none, .app 13 (.t 10) (.t 12) 35 10 96, none, 0⟩,
 ⟨none, .mv 14 (.t 5), none, 0⟩,
 ⟨none, .st (.t 2) 1 (.t 13), none, 0⟩,
 ⟨none, .st (.t 3) 1 (.t 14), none, 0⟩]
def c27r5 : List WI := [
 (true, false, ⟨none, .ld 15 (.t 2) none, none, 0⟩),
 (true, false, ⟨none, .ld 16 (.t 3) none, none, 0⟩),
 (false, false, ⟨none, .st (.t 2) 1 (.t 15), none, 0⟩),
 (false, true, ⟨none, .st (.t 3) 1 (.t 16), none, 0⟩)]
def c27 : SC :=
 (.seq (.reg false c27r0)
 (.seq (.seq (.reg false c27r1)
 (.blk 0 (.rf (.t 7) [8, 9] (.seq (.reg false c27r2)
   (.reg false c27r3))
   (.blk 1 (.reg false c27r4)))))
 (.seq (.rgW c27r5)
 .ret)))
def v27 : List Nat × List Nat := ([4], [4])
def o27 : List RS := [.c 2 none, .c 3 none]
theorem s27 : slimC Try.prog Try.f27.ntmps v27.1 v27.2 ((Try.f27.body).getD .skip) = some c27 := by kernel_rfl
theorem q27 : slimR Try.prog Try.f27.ntmps v27.1 v27.2 Try.f27.results.toList = some o27 := by kernel_rfl
-- watermeet/chain.Replace N=68
def c28r0 : List SI := [
 ⟨none, .bxR 3 (.t 0), none, 0⟩,
 ⟨none, .alR 6 [(.int .i64 0), (.int .i64 0), (.slice none 0 0)], none, 0⟩,
 ⟨none, .mv 7 (.i 0), none, 0⟩]
def c28r1 : List SI := [
 ⟨none, .ldR 12 3 0 (some 3), none, 0⟩,
 ⟨none, .call 13 13 [(.t 12)], none, 0⟩,
 ⟨none, .mv 8 (.t 13), none, 0⟩]
def c28r2 : List SI := [
 ⟨none, .mv 14 (.t 8), none, 0⟩,
 ⟨none, .bin 15 .neq (.t 14) (.i 0), none, 0⟩]
def c28r3 : List SI := [
 ⟨none, .bld 16 [(.int .i64 0), (.int .i64 0), (.slice none 0 0)] [], none, 0⟩,
 ⟨none, .mv 17 (.t 8), none, 0⟩,
 ⟨none, .stR 6 0 3 (.t 16), none, 0⟩,
 ⟨none, .mv 7 (.t 17), none, 0⟩]
def c28r4 : List SI := [
 ⟨none, .mv 18 (.t 1), none, 0⟩,
 ⟨none, .bin 19 .lss (.t 18) (.i 0), none, 0⟩,
 ⟨none, .mv 20 (.t 19), none, 0⟩,
 ⟨some (20, false), .mv 21 (.t 1), none, 21⟩,
 ⟨some (20, false), .ldR 22 3 0 (some 3), none, 22⟩,
 ⟨some (20, false), .call 23 42 [(.t 22)], none, 23⟩,
 ⟨some (20, false), .bin 24 .geq (.t 21) (.t 23), none, 24⟩,
 ⟨none, .pick 25 (.t 20) (.b true) (.t 24), none, 0⟩]
def c28r5 : List SI := [
 ⟨none, .bld 26 [(.int .i64 0), (.int .i64 0), (.slice none 0 0)] [], none, 0⟩,
 ⟨none, .stR 6 0 3 (.t 26), none, 0⟩,
 ⟨none, .mv 7 (.i 90), none, 0⟩]
def c28r6 : RX := .br [(true, ⟨none, .nop, (some 3), 0⟩),
 (true, ⟨none, .ldR 29 3 2 none, none, 0⟩),
 (true, ⟨none, .mv 30 (.t 1), none, 0⟩),
 (true, ⟨none, .ixA 31 (.t 29) (.t 30) 2, none, 0⟩),
 (true, ⟨none, .flA 32 (.t 31) 0, none, 0⟩),
 (true, ⟨none, .ld 33 (.t 32) none, none, 0⟩),
 (true, ⟨none, .mv 34 (.t 2), none, 0⟩),
 (true, ⟨none, .nop, (some 3), 0⟩),
 (true, ⟨none, .ldR 36 3 0 none, none, 0⟩)]
 ⟨none, .call 37 46 [(.t 33), (.t 34), (.t 36)], none, 0⟩
 (.leaf [(true, ⟨none, .mv 27 (.t 37), none, 0⟩),
 (true, ⟨none, .ext 38 (.t 27) 0, none, 0⟩),
 (true, ⟨none, .ext 39 (.t 27) 1, none, 0⟩),
 (false, ⟨none, .al 9 [(.int .i64 0), (.slice none 0 0)], none, 0⟩),
 (false, ⟨none, .st (.t 9) 2 (.t 38), none, 0⟩),
 (true, ⟨none, .mv 10 (.t 39), none, 0⟩)])
 ⟨none, .al 9 [(.int .i64 0), (.slice none 0 0)], none, 0⟩
 (.leaf [(false, ⟨none, .call 37 46 [(.t 33), (.t 34), (.t 36)], none, 0⟩),
 (true, ⟨none, .mv 27 (.t 37), none, 0⟩),
 (true, ⟨none, .ext 38 (.t 27) 0, none, 0⟩),
 (true, ⟨none, .ext 39 (.t 27) 1, none, 0⟩),
 (false, ⟨none, .st (.t 9) 2 (.t 38), none, 0⟩),
 (true, ⟨none, .mv 10 (.t 39), none, 0⟩)])
def c28r7 : List (Bool × SI) := [
 (true, ⟨none, .mv 40 (.t 10), none, 0⟩),
 (true, ⟨none, .bin 41 .eql (.t 40) (.i 0), none, 0⟩),
 (true, ⟨none, .mv 42 (.t 41), none, 0⟩),
 (true, ⟨some (42, true), .ld 43 (.t 9) (some 2), none, 43⟩),
 (true, ⟨some (42, true), .nop, (some 3), 99999⟩),
 (true, ⟨some (42, true), .ldR 46 3 2 none, none, 46⟩),
 (true, ⟨some (42, true), .mv 47 (.t 1), none, 47⟩),
 (true, ⟨some (42, true), .bin 48 .add (.t 47) (.i 1), none, 48⟩),
 (true, ⟨some (42, true), .ixA 49 (.t 46) (.t 48) 2, none, 49⟩),
 (true, ⟨some (42, true), .flA 50 (.t 49) 0, none, 50⟩),
 (true, ⟨some (42, true), .ld 51 (.t 50) none, none, 51⟩),
 (false, ⟨some (42, true), .call 44 53 [(.t 43)], none, 44⟩),
 (true, ⟨some (42, true), .bin 52 .gtr (.t 44) (.t 51), none, 52⟩),
 (true, ⟨none, .pick 53 (.t 42) (.t 52) (.b false), none, 0⟩)]
def c28r8 : List SI := [
 ⟨none, .mv 10 (.i 71), none, 0⟩]
def c28r9 : List SI := [
 ⟨none, .mv 54 (.t 10), none, 0⟩,
 ⟨none, .bin 55 .neq (.t 54) (.i 0), none, 0⟩]
def c28r10 : List SI := [
 ⟨none, .bld 56 [(.int .i64 0), (.int .i64 0), (.slice none 0 0)] [], none, 0⟩,
 ⟨none, .mv 57 (.t 10), none, 0⟩,
 ⟨none, .stR 6 0 3 (.t 56), none, 0⟩,
 ⟨none, .mv 7 (.t 57), none, 0⟩]
def c28r11 : List SI := [
 ⟨none, .nop, (some 3), 0⟩,
 ⟨none, .ldR 59 3 2 none, none, 0⟩,
 ⟨none, .call 60 45 [(.t 59)], none, 0⟩,
 ⟨none, .mv 11 (.t 60), none, 0⟩]
def c28r12 : List SI := [
 ⟨none, .mv 61 (.t 11), none, 0⟩,
 ⟨none, .mv 62 (.t 1), none, 0⟩,
 ⟨none, .ld 63 (.t 9) (some 2), none, 0⟩,
 ⟨none, .ixA 64 (.t 61) (.t 62) 2, none, 0⟩,
 ⟨none, .st (.t 64) 2 (.t 63), none, 0⟩]
def c28r13 : List SI := [
 ⟨none, .ldR 65 3 0 (some 3), none, 0⟩,
 ⟨none, .mv 66 (.t 11), none, 0⟩,
 ⟨none, .call 67 44 [(.t 65), (.t 66)], none, 0⟩,
 ⟨none, .stR 6 0 3 (.t 67), none, 0⟩,
 ⟨none, .mv 7 (.i 0), none, 0⟩]
def c28 : SC :=
 (.seq (.reg false c28r0)
 (.seq (.seq (.reg false c28r1)
 (.seq (.reg false c28r2)
 (.cond (.t 15)
  (.seq (.reg false c28r3)
  .ret)
  .skip)))
 (.seq (.seq (.reg false c28r4)
 (.cond (.t 25)
  (.seq (.reg false c28r5)
  .ret)
  .skip))
 (.seq (.rgZ c28r6)
 (.seq (.seq (.rgX c28r7)
 (.cond (.t 53)
  (.reg false c28r8)
  .skip))
 (.seq (.seq (.reg false c28r9)
 (.cond (.t 55)
  (.seq (.reg false c28r10)
  .ret)
  .skip))
 (.seq (.reg false c28r11)
 (.seq (.reg false c28r12)
 (.seq (.reg false c28r13)
 .ret)))))))))
def v28 : List Nat × List Nat := ([3, 6], [3, 6, 28, 35, 45, 58])
def o28 : List RS := [.r 6 (some 3), .t 7]
theorem s28 : slimC Try.prog Try.f28.ntmps v28.1 v28.2 ((Try.f28.body).getD .skip) = some c28 := by kernel_rfl
theorem q28 : slimR Try.prog Try.f28.ntmps v28.1 v28.2 Try.f28.results.toList = some o28 := by kernel_rfl
-- watermeet/watermeetlaw09.among N=20
def c29r0 : List SI := [
 ⟨none, .bxR 3 (.t 1), none, 0⟩,
 ⟨none, .mv 4 (.b false), none, 0⟩]
def c29r1 : List SI := [
 ⟨none, .mv 5 (.i 0), none, 0⟩]
def c29r2 : List SI := [
 ⟨none, .mv 6 (.t 5), none, 0⟩,
 ⟨none, .mv 7 (.t 0), none, 0⟩,
 ⟨none, .len 8 false (.t 7), none, 0⟩,
 ⟨none, .bin 9 .lss (.t 6) (.t 8), none, 0⟩]
def c29r3 : List SI := [
 ⟨none, .mv 12 (.t 0), none, 0⟩,
 ⟨none, .mv 13 (.t 5), none, 0⟩,
 ⟨none, .ixA 14 (.t 12) (.t 13) 10, none, 0⟩,
 ⟨none, .flA 15 (.t 14) 0, none, 0⟩,
 ⟨none, .ld 16 (.t 15) none, none, 0⟩,
 ⟨none, .nop, (some 3), 0⟩,
 ⟨none, .ldR 18 3 0 none, none, 0⟩,
 ⟨none, .bin 19 .eql (.t 16) (.t 18), none, 0⟩]
def c29r4 : List SI := [
 ⟨none, .mv 4 (.b true), none, 0⟩]
def c29r5 : List SI := [
 ⟨none, .mv 10 (.t 5), none, 0⟩,
 ⟨none, .bin 11 .add (.t 10) (.i 1), none, 0⟩,
 ⟨none, .mv 5 (.t 11), none, 0⟩]
def c29r6 : List SI := [
 ⟨none, .mv 4 (.b false), none, 0⟩]
def c29 : SC :=
 (.seq (.reg false c29r0)
 (.seq (.seq (.reg false c29r1)
 (.blk 0 (.loop (.seq (.seq (.reg false c29r2)
   (.cond (.t 9)
    .skip
    (.exit 0)))
   (.seq (.blk 1 (.seq (.reg true c29r3)
    (.cond (.t 19)
     (.seq (.reg false c29r4)
     .ret)
     .skip)))
   (.reg false c29r5))))))
 (.seq (.reg false c29r6)
 .ret)))
def v29 : List Nat × List Nat := ([3], [3, 17])
def o29 : List RS := [.t 4]
theorem s29 : slimC Try.prog Try.f29.ntmps v29.1 v29.2 ((Try.f29.body).getD .skip) = some c29 := by kernel_rfl
theorem q29 : slimR Try.prog Try.f29.ntmps v29.1 v29.2 Try.f29.results.toList = some o29 := by kernel_rfl
-- watermeet/watermeetlaw09.three N=14
def c30r0 : List SI := [
 ⟨none, .alR 2 [(.int .i64 0), (.int .i64 0), (.int .i64 0), (.int .i64 0), (.int .i64 0), (.int .i64 0), (.int .i64 0), (.bool false), (.int .i64 0), (.slice none 0 0)], none, 0⟩]
def c30r1 : List SI := [
 ⟨none, .mv 3 (.t 0), none, 0⟩,
 ⟨none, .mv 4 (.t 0), none, 0⟩,
 ⟨none, .bin 5 .add (.t 4) (.i 2), none, 0⟩,
 ⟨none, .mv 6 (.t 0), none, 0⟩,
 ⟨none, .mv 7 (.t 0), none, 0⟩,
 ⟨none, .bld 8 [(.int .i64 0), (.string ⟨#[]⟩), (.string ⟨#[]⟩), (.bool false), (.int .i64 0)] [(0, 1, (.t 7)), (2, 1, (.v (.string ⟨#[118]⟩)))], none, 0⟩,
 ⟨none, .mv 9 (.t 0), none, 0⟩,
 ⟨none, .bin 10 .add (.t 9) (.i 2), none, 0⟩,
 ⟨none, .bld 11 [(.int .i64 0), (.string ⟨#[]⟩), (.string ⟨#[]⟩), (.bool false), (.int .i64 0)] [(0, 1, (.t 10)), (2, 1, (.v (.string ⟨#[119]⟩)))], none, 0⟩,
 ⟨none, .bls 12 76 2 5 [(.int .i64 0), (.string ⟨#[]⟩), (.string ⟨#[]⟩), (.bool false), (.int .i64 0), (.int .i64 0), (.string ⟨#[]⟩), (.string ⟨#[]⟩), (.bool false), (.int .i64 0)] [(0, 5, (.t 8)), (5, 5, (.t 11))], none, 0⟩,
 ⟨none, .bld 13 [(.int .i64 0), (.int .i64 0), (.int .i64 0), (.int .i64 0), (.int .i64 0), (.int .i64 0), (.int .i64 0), (.bool false), (.int .i64 0), (.slice none 0 0)] [(0, 1, (.t 3)), (1, 1, (.t 5)), (2, 1, (.t 6)), (4, 1, (.i (-1))), (9, 1, (.t 12))], none, 0⟩,
 ⟨none, .stR 2 0 10 (.t 13), none, 0⟩]
def c30 : SC :=
 (.seq (.reg false c30r0)
 (.seq (.reg false c30r1)
 .ret))
def v30 : List Nat × List Nat := ([2], [2])
def o30 : List RS := [.r 2 (some 10)]
theorem s30 : slimC Try.prog Try.f30.ntmps v30.1 v30.2 ((Try.f30.body).getD .skip) = some c30 := by kernel_rfl
theorem q30 : slimR Try.prog Try.f30.ntmps v30.1 v30.2 Try.f30.results.toList = some o30 := by kernel_rfl
-- watermeet/chain.Truncate N=12
def c31r0 : List SI := [
 ⟨none, .bx 2 (.t 0), none, 0⟩,
 ⟨none, .bx 3 (.t 1), none, 0⟩,
 ⟨none, .alR 4 [(.int .i64 0), (.int .i64 0), (.slice none 0 0)], none, 0⟩,
 ⟨none, .mv 5 (.i 0), none, 0⟩]
def c31r1 : List SI := [
 ⟨none, .ld 6 (.t 2) (some 3), none, 0⟩,
 ⟨none, .ld 7 (.t 3) none, none, 0⟩,
 ⟨none, .mkf 8 (.func 55) [(.t 2), (.t 3)], none, 0⟩,
 ⟨none, .call 9 54 [(.t 6), (.t 7), (.t 8)], none, 0⟩,
 ⟨none, .ext 10 (.t 9) 0, none, 0⟩,
 ⟨none, .ext 11 (.t 9) 1, none, 0⟩,
 ⟨none, .stR 4 0 3 (.t 10), none, 0⟩,
 ⟨none, .mv 5 (.t 11), none, 0⟩]
def c31 : SC :=
 (.seq (.reg false c31r0)
 (.seq (.reg false c31r1)
 .ret))
def v31 : List Nat × List Nat := ([4], [4])
def o31 : List RS := [.r 4 (some 3), .t 5]
theorem s31 : slimC Try.prog Try.f31.ntmps v31.1 v31.2 ((Try.f31.body).getD .skip) = some c31 := by kernel_rfl
theorem q31 : slimR Try.prog Try.f31.ntmps v31.1 v31.2 Try.f31.results.toList = some o31 := by kernel_rfl
-- watermeet/chain.Trim N=21
def c32r0 : List SI := [
 ⟨none, .bx 2 (.t 0), none, 0⟩,
 ⟨none, .bx 3 (.t 1), none, 0⟩,
 ⟨none, .alR 4 [(.int .i64 0), (.int .i64 0), (.slice none 0 0)], none, 0⟩,
 ⟨none, .mv 5 (.i 0), none, 0⟩]
def c32r1 : List SI := [
 ⟨none, .ld 6 (.t 3) none, none, 0⟩,
 ⟨none, .call 7 48 [(.t 6)], none, 0⟩,
 ⟨none, .un 8 .not (.t 7), none, 0⟩,
 ⟨none, .mv 9 (.t 8), none, 0⟩,
 ⟨some (9, true), .ld 10 (.t 2) (some 3), none, 10⟩,
 ⟨some (9, true), .call 11 13 [(.t 10)], none, 11⟩,
 ⟨some (9, true), .bin 12 .eql (.t 11) (.i 0), none, 12⟩,
 ⟨none, .pick 13 (.t 9) (.t 12) (.b false), none, 0⟩]
def c32r2 : List SI := [
 ⟨none, .bld 14 [(.int .i64 0), (.int .i64 0), (.slice none 0 0)] [], none, 0⟩,
 ⟨none, .stR 4 0 3 (.t 14), none, 0⟩,
 ⟨none, .mv 5 (.i 90), none, 0⟩]
def c32r3 : List SI := [
 ⟨none, .ld 15 (.t 2) (some 3), none, 0⟩,
 ⟨none, .ld 16 (.t 3) none, none, 0⟩,
 ⟨none, .mkf 17 (.func 57) [(.t 2), (.t 3)], none, 0⟩,
 ⟨none, .call 18 54 [(.t 15), (.t 16), (.t 17)], none, 0⟩,
 ⟨none, .ext 19 (.t 18) 0, none, 0⟩,
 ⟨none, .ext 20 (.t 18) 1, none, 0⟩,
 ⟨none, .stR 4 0 3 (.t 19), none, 0⟩,
 ⟨none, .mv 5 (.t 20), none, 0⟩]
def c32 : SC :=
 (.seq (.reg false c32r0)
 (.seq (.seq (.reg false c32r1)
 (.cond (.t 13)
  (.seq (.reg false c32r2)
  .ret)
  .skip))
 (.seq (.reg false c32r3)
 .ret)))
def v32 : List Nat × List Nat := ([4], [4])
def o32 : List RS := [.r 4 (some 3), .t 5]
theorem s32 : slimC Try.prog Try.f32.ntmps v32.1 v32.2 ((Try.f32.body).getD .skip) = some c32 := by kernel_rfl
theorem q32 : slimR Try.prog Try.f32.ntmps v32.1 v32.2 Try.f32.results.toList = some o32 := by kernel_rfl
-- watermeet/chain.may N=15
def c33r0 : List SI := [
 ⟨none, .mv 4 (.b false), none, 0⟩]
def c33r1 : List SI := [
 ⟨none, .mv 5 (.t 0), none, 0⟩,
 ⟨none, .bin 6 .geq (.t 5) (.i 256), none, 0⟩,
 ⟨none, .mv 7 (.t 6), none, 0⟩,
 ⟨some (7, true), .mv 8 (.t 0), none, 8⟩,
 ⟨some (7, true), .bin 9 .leq (.t 8) (.i 4096), none, 9⟩,
 ⟨none, .pick 10 (.t 7) (.t 9) (.b false), none, 0⟩,
 ⟨none, .mv 11 (.t 10), none, 0⟩,
 ⟨some (11, true), .mv 12 (.t 1), none, 12⟩,
 ⟨some (11, true), .call 13 48 [(.t 12)], none, 13⟩,
 ⟨none, .pick 14 (.t 11) (.t 13) (.b false), none, 0⟩,
 ⟨none, .mv 4 (.t 14), none, 0⟩]
def c33 : SC :=
 (.seq (.reg false c33r0)
 (.seq (.reg false c33r1)
 .ret))
def v33 : List Nat × List Nat := ([], [])
def o33 : List RS := [.t 4]
theorem s33 : slimC Try.prog Try.f33.ntmps v33.1 v33.2 ((Try.f33.body).getD .skip) = some c33 := by kernel_rfl
theorem q33 : slimR Try.prog Try.f33.ntmps v33.1 v33.2 Try.f33.results.toList = some o33 := by kernel_rfl
-- watermeet/chain.whole N=20
def c34r0 : List SI := [
 ⟨none, .bxR 1 (.t 0), none, 0⟩,
 ⟨none, .mv 2 (.b false), none, 0⟩]
def c34r1 : List SI := [
 ⟨none, .ldR 6 1 0 (some 2), none, 0⟩,
 ⟨none, .call 7 27 [(.t 6)], none, 0⟩,
 ⟨none, .mv 5 (.t 7), none, 0⟩,
 ⟨none, .ext 8 (.t 5) 0, none, 0⟩,
 ⟨none, .ext 9 (.t 5) 1, none, 0⟩,
 ⟨none, .mv 3 (.t 8), none, 0⟩,
 ⟨none, .mv 4 (.t 9), none, 0⟩]
def c34r2 : List SI := [
 ⟨none, .nop, (some 1), 0⟩,
 ⟨none, .ldR 11 1 0 none, none, 0⟩,
 ⟨none, .call 12 48 [(.t 11)], none, 0⟩,
 ⟨none, .mv 13 (.t 12), none, 0⟩,
 ⟨some (13, true), .mv 14 (.t 4), none, 14⟩,
 ⟨some (13, true), .nop, (some 1), 99999⟩,
 ⟨some (13, true), .ldR 16 1 1 none, none, 16⟩,
 ⟨some (13, true), .len 17 false (.t 16), none, 17⟩,
 ⟨some (13, true), .bin 18 .eql (.t 14) (.t 17), none, 18⟩,
 ⟨none, .pick 19 (.t 13) (.t 18) (.b false), none, 0⟩,
 ⟨none, .mv 2 (.t 19), none, 0⟩]
def c34 : SC :=
 (.seq (.reg false c34r0)
 (.seq (.reg false c34r1)
 (.seq (.reg false c34r2)
 .ret)))
def v34 : List Nat × List Nat := ([1], [1, 10, 15])
def o34 : List RS := [.t 2]
theorem s34 : slimC Try.prog Try.f34.ntmps v34.1 v34.2 ((Try.f34.body).getD .skip) = some c34 := by kernel_rfl
theorem q34 : slimR Try.prog Try.f34.ntmps v34.1 v34.2 Try.f34.results.toList = some o34 := by kernel_rfl
-- watermeet/chain.follows N=17
def c35r0 : List SI := [
 ⟨none, .bxR 2 (.t 0), none, 0⟩,
 ⟨none, .bxR 3 (.t 1), none, 0⟩,
 ⟨none, .mv 4 (.b false), none, 0⟩]
def c35r1 : List (Bool × SI) := [
 (true, ⟨none, .nop, (some 3), 0⟩),
 (true, ⟨none, .ldR 6 3 0 none, none, 0⟩),
 (true, ⟨none, .nop, (some 2), 0⟩),
 (true, ⟨none, .ldR 8 2 0 none, none, 0⟩),
 (true, ⟨none, .bin 9 .gtr (.t 6) (.t 8), none, 0⟩),
 (true, ⟨none, .mv 10 (.t 9), none, 0⟩),
 (true, ⟨some (10, true), .nop, (some 3), 99999⟩),
 (true, ⟨some (10, true), .ldR 12 3 0 none, none, 12⟩),
 (true, ⟨some (10, true), .ldR 13 2 0 (some 2), none, 13⟩),
 (false, ⟨some (10, true), .call 14 53 [(.t 13)], none, 14⟩),
 (true, ⟨some (10, true), .bin 15 .geq (.t 12) (.t 14), none, 15⟩),
 (true, ⟨none, .pick 16 (.t 10) (.t 15) (.b false), none, 0⟩),
 (true, ⟨none, .mv 4 (.t 16), none, 0⟩)]
def c35 : SC :=
 (.seq (.reg false c35r0)
 (.seq (.rgX c35r1)
 .ret))
def v35 : List Nat × List Nat := ([2, 3], [2, 3, 5, 7, 11])
def o35 : List RS := [.t 4]
theorem s35 : slimC Try.prog Try.f35.ntmps v35.1 v35.2 ((Try.f35.body).getD .skip) = some c35 := by kernel_rfl
theorem q35 : slimR Try.prog Try.f35.ntmps v35.1 v35.2 Try.f35.results.toList = some o35 := by kernel_rfl
-- watermeet/chain.end N=13
def c36r0 : List SI := [
 ⟨none, .bxR 1 (.t 0), none, 0⟩,
 ⟨none, .mv 2 (.i 0), none, 0⟩]
def c36r1 : List (Bool × SI) := [
 (true, ⟨none, .nop, (some 1), 0⟩),
 (true, ⟨none, .ldR 4 1 1 none, none, 0⟩),
 (true, ⟨none, .nop, (some 1), 0⟩),
 (true, ⟨none, .ldR 6 1 2 none, none, 0⟩),
 (true, ⟨none, .ldR 7 1 0 (some 3), none, 0⟩),
 (false, ⟨none, .call 8 42 [(.t 7)], none, 0⟩),
 (true, ⟨none, .ixA 9 (.t 6) (.t 8) 2, none, 0⟩),
 (true, ⟨none, .ld 10 (.t 9) (some 2), none, 0⟩),
 (false, ⟨none, .call 11 53 [(.t 10)], none, 0⟩),
 (true, ⟨none, .mm 12 true (.t 4) (.t 11), none, 0⟩),
 (true, ⟨none, .mv 2 (.t 12), none, 0⟩)]
def c36 : SC :=
 (.seq (.reg false c36r0)
 (.seq (.rgX c36r1)
 .ret))
def v36 : List Nat × List Nat := ([1], [1, 3, 5])
def o36 : List RS := [.t 2]
theorem s36 : slimC Try.prog Try.f36.ntmps v36.1 v36.2 ((Try.f36.body).getD .skip) = some c36 := by kernel_rfl
theorem q36 : slimR Try.prog Try.f36.ntmps v36.1 v36.2 Try.f36.results.toList = some o36 := by kernel_rfl
-- watermeet/watermeetref04.Same N=73
def c37r0 : List SI := [
 ⟨none, .bxR 2 (.t 0), none, 0⟩,
 ⟨none, .bxR 3 (.t 1), none, 0⟩,
 ⟨none, .mv 4 (.b false), none, 0⟩]
def c37r1 : List SI := [
 ⟨none, .nop, (some 2), 0⟩,
 ⟨none, .ldR 6 2 0 none, none, 0⟩,
 ⟨none, .nop, (some 3), 0⟩,
 ⟨none, .ldR 8 3 0 none, none, 0⟩,
 ⟨none, .bin 9 .eql (.t 6) (.t 8), none, 0⟩,
 ⟨none, .mv 10 (.t 9), none, 0⟩,
 ⟨some (10, true), .nop, (some 2), 99999⟩,
 ⟨some (10, true), .ldR 12 2 1 none, none, 12⟩,
 ⟨some (10, true), .nop, (some 3), 99999⟩,
 ⟨some (10, true), .ldR 14 3 1 none, none, 14⟩,
 ⟨some (10, true), .bin 15 .eql (.t 12) (.t 14), none, 15⟩,
 ⟨none, .pick 16 (.t 10) (.t 15) (.b false), none, 0⟩,
 ⟨none, .mv 17 (.t 16), none, 0⟩,
 ⟨some (17, true), .nop, (some 2), 99999⟩,
 ⟨some (17, true), .ldR 19 2 2 none, none, 19⟩,
 ⟨some (17, true), .nop, (some 3), 99999⟩,
 ⟨some (17, true), .ldR 21 3 2 none, none, 21⟩,
 ⟨some (17, true), .bin 22 .eql (.t 19) (.t 21), none, 22⟩,
 ⟨none, .pick 23 (.t 17) (.t 22) (.b false), none, 0⟩,
 ⟨none, .mv 24 (.t 23), none, 0⟩,
 ⟨some (24, true), .nop, (some 2), 99999⟩,
 ⟨some (24, true), .ldR 26 2 3 none, none, 26⟩,
 ⟨some (24, true), .nop, (some 3), 99999⟩,
 ⟨some (24, true), .ldR 28 3 3 none, none, 28⟩,
 ⟨some (24, true), .bin 29 .eql (.t 26) (.t 28), none, 29⟩,
 ⟨none, .pick 30 (.t 24) (.t 29) (.b false), none, 0⟩,
 ⟨none, .mv 31 (.t 30), none, 0⟩,
 ⟨some (31, true), .nop, (some 2), 99999⟩,
 ⟨some (31, true), .ldR 33 2 4 none, none, 33⟩,
 ⟨some (31, true), .nop, (some 3), 99999⟩,
 ⟨some (31, true), .ldR 35 3 4 none, none, 35⟩,
 ⟨some (31, true), .bin 36 .eql (.t 33) (.t 35), none, 36⟩,
 ⟨none, .pick 37 (.t 31) (.t 36) (.b false), none, 0⟩,
 ⟨none, .mv 38 (.t 37), none, 0⟩,
 ⟨some (38, true), .nop, (some 2), 99999⟩,
 ⟨some (38, true), .ldR 40 2 5 none, none, 40⟩,
 ⟨some (38, true), .nop, (some 3), 99999⟩,
 ⟨some (38, true), .ldR 42 3 5 none, none, 42⟩,
 ⟨some (38, true), .bin 43 .eql (.t 40) (.t 42), none, 43⟩,
 ⟨none, .pick 44 (.t 38) (.t 43) (.b false), none, 0⟩,
 ⟨none, .mv 45 (.t 44), none, 0⟩,
 ⟨some (45, true), .nop, (some 2), 99999⟩,
 ⟨some (45, true), .ldR 47 2 6 none, none, 47⟩,
 ⟨some (45, true), .nop, (some 3), 99999⟩,
 ⟨some (45, true), .ldR 49 3 6 none, none, 49⟩,
 ⟨some (45, true), .bin 50 .eql (.t 47) (.t 49), none, 50⟩,
 ⟨none, .pick 51 (.t 45) (.t 50) (.b false), none, 0⟩,
 ⟨none, .mv 52 (.t 51), none, 0⟩,
 ⟨some (52, true), .nop, (some 2), 99999⟩,
 ⟨some (52, true), .ldR 54 2 7 none, none, 54⟩,
 ⟨some (52, true), .nop, (some 3), 99999⟩,
 ⟨some (52, true), .ldR 56 3 7 none, none, 56⟩,
 ⟨some (52, true), .eqb 57 false (.t 54) (.t 56), none, 57⟩,
 ⟨none, .pick 58 (.t 52) (.t 57) (.b false), none, 0⟩,
 ⟨none, .mv 59 (.t 58), none, 0⟩,
 ⟨some (59, true), .nop, (some 2), 99999⟩,
 ⟨some (59, true), .ldR 61 2 8 none, none, 61⟩,
 ⟨some (59, true), .nop, (some 3), 99999⟩,
 ⟨some (59, true), .ldR 63 3 8 none, none, 63⟩,
 ⟨some (59, true), .bin 64 .eql (.t 61) (.t 63), none, 64⟩,
 ⟨none, .pick 65 (.t 59) (.t 64) (.b false), none, 0⟩,
 ⟨none, .mv 66 (.t 65), none, 0⟩,
 ⟨some (66, true), .nop, (some 2), 99999⟩,
 ⟨some (66, true), .ldR 68 2 9 none, none, 68⟩,
 ⟨some (66, true), .nop, (some 3), 99999⟩,
 ⟨some (66, true), .ldR 70 3 9 none, none, 70⟩,
 ⟨some (66, true), .call 71 60 [(.t 68), (.t 70)], none, 71⟩,
 ⟨none, .pick 72 (.t 66) (.t 71) (.b false), none, 0⟩,
 ⟨none, .mv 4 (.t 72), none, 0⟩]
def c37 : SC :=
 (.seq (.reg false c37r0)
 (.seq (.reg false c37r1)
 .ret))
def v37 : List Nat × List Nat := ([2, 3], [2, 3, 5, 7, 11, 13, 18, 20, 25, 27, 32, 34, 39, 41, 46, 48, 53, 55, 60, 62, 67, 69])
def o37 : List RS := [.t 4]
theorem s37 : slimC Try.prog Try.f37.ntmps v37.1 v37.2 ((Try.f37.body).getD .skip) = some c37 := by kernel_rfl
theorem q37 : slimR Try.prog Try.f37.ntmps v37.1 v37.2 Try.f37.results.toList = some o37 := by kernel_rfl
-- slices.Collect[watermeet/api.Batch] N=5
def c38r0 : List SI := [
 ⟨none, .mv 2 (.v (.slice none 0 0)), none, 0⟩]
def c38r1 : List SI := [
 ⟨none, .mv 3 (.t 0), none, 0⟩,
 ⟨none, .call 4 61 [(.v (.slice none 0 0)), (.t 3)], none, 0⟩,
 ⟨none, .mv 2 (.t 4), none, 0⟩]
def c38 : SC :=
 (.seq (.reg false c38r0)
 (.seq (.reg false c38r1)
 .ret))
def v38 : List Nat × List Nat := ([], [])
def o38 : List RS := [.t 2]
theorem s38 : slimC Try.prog Try.f38.ntmps v38.1 v38.2 ((Try.f38.body).getD .skip) = some c38 := by kernel_rfl
theorem q38 : slimR Try.prog Try.f38.ntmps v38.1 v38.2 Try.f38.results.toList = some o38 := by kernel_rfl
-- watermeet/chain.batches N=6
def c39r0 : List SI := [
 ⟨none, .bx 2 (.t 0), none, 0⟩,
 ⟨none, .bx 3 (.t 1), none, 0⟩,
 ⟨none, .mv 4 (.v .nilFunc), none, 0⟩]
def c39r1 : List SI := [
 ⟨none, .mkf 5 (.func 62) [(.t 2), (.t 3)], none, 0⟩,
 ⟨none, .mv 4 (.t 5), none, 0⟩]
def c39 : SC :=
 (.seq (.reg false c39r0)
 (.seq (.reg false c39r1)
 .ret))
def v39 : List Nat × List Nat := ([], [])
def o39 : List RS := [.t 4]
theorem s39 : slimC Try.prog Try.f39.ntmps v39.1 v39.2 ((Try.f39.body).getD .skip) = some c39 := by kernel_rfl
theorem q39 : slimR Try.prog Try.f39.ntmps v39.1 v39.2 Try.f39.results.toList = some o39 := by kernel_rfl
-- watermeet/chain.between N=15
def c40r0 : List SI := [
 ⟨none, .bxR 2 (.t 0), none, 0⟩,
 ⟨none, .mv 4 (.b false), none, 0⟩]
def c40r1 : List SI := [
 ⟨none, .nop, (some 2), 0⟩,
 ⟨none, .ldR 6 2 1 none, none, 0⟩,
 ⟨none, .mv 7 (.t 1), none, 0⟩,
 ⟨none, .bin 8 .leq (.t 6) (.t 7), none, 0⟩,
 ⟨none, .mv 9 (.t 8), none, 0⟩,
 ⟨some (9, true), .mv 10 (.t 1), none, 10⟩,
 ⟨some (9, true), .ldR 11 2 0 (some 3), none, 11⟩,
 ⟨some (9, true), .call 12 36 [(.t 11)], none, 12⟩,
 ⟨some (9, true), .bin 13 .leq (.t 10) (.t 12), none, 13⟩,
 ⟨none, .pick 14 (.t 9) (.t 13) (.b false), none, 0⟩,
 ⟨none, .mv 4 (.t 14), none, 0⟩]
def c40 : SC :=
 (.seq (.reg false c40r0)
 (.seq (.reg false c40r1)
 .ret))
def v40 : List Nat × List Nat := ([2], [2, 5])
def o40 : List RS := [.t 4]
theorem s40 : slimC Try.prog Try.f40.ntmps v40.1 v40.2 ((Try.f40.body).getD .skip) = some c40 := by kernel_rfl
theorem q40 : slimR Try.prog Try.f40.ntmps v40.1 v40.2 Try.f40.results.toList = some o40 := by kernel_rfl
-- watermeet/watermeetref09.Few N=27
def c42r0 : List SI := [
 ⟨none, .bxR 1 (.t 0), none, 0⟩,
 ⟨none, .mv 2 (.i 0), none, 0⟩]
def c42r1 : List SI := [
 ⟨none, .nop, (some 1), 0⟩,
 ⟨none, .ldR 4 1 2 none, none, 0⟩,
 ⟨none, .len 5 false (.t 4), none, 0⟩,
 ⟨none, .bin 6 .sub (.t 5) (.i 1), none, 0⟩,
 ⟨none, .mv 2 (.t 6), none, 0⟩]
def c42 : SC :=
 (.seq (.reg false c42r0)
 (.seq (.reg false c42r1)
 .ret))
def v42 : List Nat × List Nat := ([1], [1, 3])
def o42 : List RS := [.t 2]
theorem s42 : slimC Try.prog Try.f42.ntmps v42.1 v42.2 ((Try.f42.body).getD .skip) = some c42 := by kernel_rfl
theorem q42 : slimR Try.prog Try.f42.ntmps v42.1 v42.2 Try.f42.results.toList = some o42 := by kernel_rfl
-- watermeet/seg.Append N=69
def c43r0 : List SI := [
 ⟨none, .bxR 3 (.t 0), none, 0⟩,
 ⟨none, .bxR 4 (.t 1), none, 0⟩,
 ⟨none, .alR 6 [(.int .i64 0), (.slice none 0 0)], none, 0⟩,
 ⟨none, .mv 7 (.i 0), none, 0⟩]
def c43r1 : List SI := [
 ⟨none, .ldR 13 3 0 (some 2), none, 0⟩,
 ⟨none, .call 14 27 [(.t 13)], none, 0⟩,
 ⟨none, .mv 12 (.t 14), none, 0⟩,
 ⟨none, .ext 15 (.t 12) 0, none, 0⟩,
 ⟨none, .ext 16 (.t 12) 1, none, 0⟩,
 ⟨none, .mv 8 (.t 15), none, 0⟩,
 ⟨none, .mv 9 (.t 16), none, 0⟩]
def c43r2 : List SI := [
 ⟨none, .mv 17 (.t 9), none, 0⟩,
 ⟨none, .nop, (some 3), 0⟩,
 ⟨none, .ldR 19 3 1 none, none, 0⟩,
 ⟨none, .len 20 false (.t 19), none, 0⟩,
 ⟨none, .bin 21 .neq (.t 17) (.t 20), none, 0⟩,
 ⟨none, .mv 22 (.t 21), none, 0⟩,
 ⟨some (22, false), .nop, (some 3), 99999⟩,
 ⟨some (22, false), .ldR 24 3 0 none, none, 24⟩,
 ⟨some (22, false), .call 25 63 [(.t 24)], none, 25⟩,
 ⟨some (22, false), .un 26 .not (.t 25), none, 26⟩,
 ⟨none, .pick 27 (.t 22) (.b true) (.t 26), none, 0⟩,
 ⟨none, .mv 28 (.t 27), none, 0⟩,
 ⟨some (28, false), .mv 29 (.t 2), none, 29⟩,
 ⟨some (28, false), .call 30 64 [(.t 29)], none, 30⟩,
 ⟨some (28, false), .un 31 .not (.t 30), none, 31⟩,
 ⟨none, .pick 32 (.t 28) (.b true) (.t 31), none, 0⟩]
def c43r3 : List SI := [
 ⟨none, .bld 33 [(.int .i64 0), (.slice none 0 0)] [], none, 0⟩,
 ⟨none, .stR 6 0 2 (.t 33), none, 0⟩,
 ⟨none, .mv 7 (.i 1), none, 0⟩]
def c43r4 : List SI := [
 ⟨none, .ldR 35 4 0 (some 10), none, 0⟩,
 ⟨none, .call 36 47 [(.t 35)], none, 0⟩,
 ⟨none, .mv 34 (.t 36), none, 0⟩,
 ⟨none, .ext 37 (.t 34) 0, none, 0⟩,
 ⟨none, .ext 38 (.t 34) 1, none, 0⟩,
 ⟨none, .mv 10 (.t 37), none, 0⟩,
 ⟨none, .mv 11 (.t 38), none, 0⟩]
def c43r5 : List SI := [
 ⟨none, .mv 40 (.t 11), none, 0⟩,
 ⟨none, .bin 41 .neq (.t 40) (.i 0), none, 0⟩,
 ⟨none, .mv 39 (.t 41), none, 0⟩]
def c43r6 : List SI := [
 ⟨none, .bld 42 [(.int .i64 0), (.slice none 0 0)] [], none, 0⟩,
 ⟨none, .mv 43 (.t 11), none, 0⟩,
 ⟨none, .stR 6 0 2 (.t 42), none, 0⟩,
 ⟨none, .mv 7 (.t 43), none, 0⟩]
def c43r7 : List (Bool × SI) := [
 (true, ⟨none, .nop, (some 4), 0⟩),
 (true, ⟨none, .ldR 46 4 0 none, none, 0⟩),
 (true, ⟨none, .ldR 47 3 0 (some 2), none, 0⟩),
 (false, ⟨none, .call 48 53 [(.t 47)], none, 0⟩),
 (true, ⟨none, .bin 49 .lss (.t 46) (.t 48), none, 0⟩),
 (true, ⟨none, .mv 44 (.t 49), none, 0⟩)]
def c43r8 : List SI := [
 ⟨none, .bld 50 [(.int .i64 0), (.slice none 0 0)] [], none, 0⟩,
 ⟨none, .stR 6 0 2 (.t 50), none, 0⟩,
 ⟨none, .mv 7 (.i 71), none, 0⟩]
def c43r9 : List SI := [
 ⟨none, .nop, (some 3), 0⟩,
 ⟨none, .ldR 53 3 1 none, none, 0⟩,
 ⟨none, .len 54 false (.t 53), none, 0⟩,
 ⟨none, .mv 55 (.t 10), none, 0⟩,
 ⟨none, .len 56 false (.t 55), none, 0⟩,
 ⟨none, .bin 57 .add (.t 54) (.t 56), none, 0⟩,
 ⟨none, .mv 58 (.t 2), none, 0⟩,
 ⟨none, .bin 59 .gtr (.t 57) (.t 58), none, 0⟩,
 ⟨none, .mv 51 (.t 59), none, 0⟩]
def c43r10 : List SI := [
 ⟨none, .bld 60 [(.int .i64 0), (.slice none 0 0)] [], none, 0⟩,
 ⟨none, .stR 6 0 2 (.t 60), none, 0⟩,
 ⟨none, .mv 7 (.i 70), none, 0⟩]
def c43r11 : List (Bool × SI) := [
 (true, ⟨none, .nop, (some 3), 0⟩),
 (true, ⟨none, .ldR 62 3 0 none, none, 0⟩),
 (true, ⟨none, .nop, (some 3), 0⟩),
 (true, ⟨none, .ldR 64 3 1 none, none, 0⟩),
 (true, ⟨none, .mv 65 (.t 10), none, 0⟩),
 (false, ⟨none, .bls 66 51 2 1 [(.slice none 0 0), (.slice none 0 0)] [(0, 1, (.t 64)), (1, 1, (.t 65))], none, 0⟩),
 (false, ⟨none, .call 67 65 [(.t 66)], none, 0⟩),
 (true, ⟨none, .bld 68 [(.int .i64 0), (.slice none 0 0)] [(0, 1, (.t 62)), (1, 1, (.t 67))], none, 0⟩)]
def c43r12 : List SI := [
 ⟨none, .stR 6 0 2 (.t 68), none, 0⟩,
 ⟨none, .mv 7 (.i 0), none, 0⟩]
def c43 : SC :=
 (.seq (.reg false c43r0)
 (.seq (.seq (.reg false c43r1)
 (.seq (.reg false c43r2)
 (.cond (.t 32)
  (.seq (.reg false c43r3)
  .ret)
  .skip)))
 (.seq (.reg false c43r4)
 (.seq (.blk 0 (.seq (.reg false c43r5)
  (.cond (.t 39)
   (.seq (.reg false c43r6)
   .ret)
   (.seq (.rgX c43r7)
   (.cond (.t 44)
    (.seq (.reg false c43r8)
    .ret)
    (.seq (.reg false c43r9)
    (.cond (.t 51)
     (.seq (.reg false c43r10)
     .ret)
     .skip)))))))
 (.seq (.rgY c43r11 c43r12)
 .ret)))))
def v43 : List Nat × List Nat := ([3, 4, 6], [3, 4, 6, 18, 23, 45, 52, 61, 63])
def o43 : List RS := [.r 6 (some 2), .t 7]
theorem s43 : slimC Try.prog Try.f43.ntmps v43.1 v43.2 ((Try.f43.body).getD .skip) = some c43 := by kernel_rfl
theorem q43 : slimR Try.prog Try.f43.ntmps v43.1 v43.2 Try.f43.results.toList = some o43 := by kernel_rfl
-- watermeet/chain.with N=11
def c44r0 : List SI := [
 ⟨none, .bxR 2 (.t 0), none, 0⟩,
 ⟨none, .alR 4 [(.int .i64 0), (.int .i64 0), (.slice none 0 0)], none, 0⟩]
def c44r1 : List SI := [
 ⟨none, .nop, (some 2), 0⟩,
 ⟨none, .ldR 6 2 0 none, none, 0⟩,
 ⟨none, .nop, (some 2), 0⟩,
 ⟨none, .ldR 8 2 1 none, none, 0⟩,
 ⟨none, .mv 9 (.t 1), none, 0⟩,
 ⟨none, .bld 10 [(.int .i64 0), (.int .i64 0), (.slice none 0 0)] [(0, 1, (.t 6)), (1, 1, (.t 8)), (2, 1, (.t 9))], none, 0⟩,
 ⟨none, .stR 4 0 3 (.t 10), none, 0⟩]
def c44 : SC :=
 (.seq (.reg false c44r0)
 (.seq (.reg false c44r1)
 .ret))
def v44 : List Nat × List Nat := ([2, 4], [2, 4, 5, 7])
def o44 : List RS := [.r 4 (some 3)]
theorem s44 : slimC Try.prog Try.f44.ntmps v44.1 v44.2 ((Try.f44.body).getD .skip) = some c44 := by kernel_rfl
theorem q44 : slimR Try.prog Try.f44.ntmps v44.1 v44.2 Try.f44.results.toList = some o44 := by kernel_rfl
-- slices.Clone[[]watermeet/api.Seg,watermeet/api.Seg] N=8
def c45r0 : List SI := [
 ⟨none, .mv 2 (.v (.slice none 0 0)), none, 0⟩]
def c45r1 : List SI := [
 ⟨none, .mv 3 (.t 0), none, 0⟩,
 ⟨none, .isn 4 false (.t 3), none, 0⟩]
def c45r2 : List SI := [
 ⟨none, .mv 2 (.v (.slice none 0 0)), none, 0⟩]
def c45r3 : List SI := [
 ⟨none, .bl0 5, none, 0⟩,
 ⟨none, .mv 6 (.t 0), none, 0⟩,
 ⟨none, .app 7 (.t 5) (.t 6) 53 2 32, none, 0⟩,
 ⟨none, .mv 2 (.t 7), none, 0⟩]
def c45 : SC :=
 (.seq (.reg false c45r0)
 (.seq (.seq (.reg false c45r1)
 (.cond (.t 4)
  (.seq (.reg false c45r2)
  .ret)
  .skip))
 (.seq (.reg false c45r3)
 .ret)))
def v45 : List Nat × List Nat := ([], [])
def o45 : List RS := [.t 2]
theorem s45 : slimC Try.prog Try.f45.ntmps v45.1 v45.2 ((Try.f45.body).getD .skip) = some c45 := by kernel_rfl
theorem q45 : slimR Try.prog Try.f45.ntmps v45.1 v45.2 Try.f45.results.toList = some o45 := by kernel_rfl
-- watermeet/seg.Of N=44
def c46r0 : List SI := [
 ⟨none, .alR 6 [(.int .i64 0), (.slice none 0 0)], none, 0⟩,
 ⟨none, .mv 7 (.i 0), none, 0⟩]
def c46r1 : List SI := [
 ⟨none, .mv 13 (.t 0), none, 0⟩,
 ⟨none, .call 14 66 [(.t 13)], none, 0⟩,
 ⟨none, .mv 12 (.t 14), none, 0⟩,
 ⟨none, .ext 15 (.t 12) 0, none, 0⟩,
 ⟨none, .ext 16 (.t 12) 1, none, 0⟩,
 ⟨none, .alR 8 [(.int .i64 0), (.slice none 0 0)], none, 0⟩,
 ⟨none, .stR 8 0 2 (.t 15), none, 0⟩,
 ⟨none, .mv 9 (.t 16), none, 0⟩]
def c46r2 : List SI := [
 ⟨none, .mv 17 (.t 9), none, 0⟩,
 ⟨none, .bin 18 .neq (.t 17) (.i 0), none, 0⟩,
 ⟨none, .mv 19 (.t 18), none, 0⟩,
 ⟨some (19, false), .mv 20 (.t 2), none, 20⟩,
 ⟨some (19, false), .call 21 64 [(.t 20)], none, 21⟩,
 ⟨some (19, false), .un 22 .not (.t 21), none, 22⟩,
 ⟨none, .pick 23 (.t 19) (.b true) (.t 22), none, 0⟩]
def c46r3 : List SI := [
 ⟨none, .bld 24 [(.int .i64 0), (.slice none 0 0)] [], none, 0⟩,
 ⟨none, .stR 6 0 2 (.t 24), none, 0⟩,
 ⟨none, .mv 7 (.i 1), none, 0⟩]
def c46r4 : List SI := [
 ⟨none, .mv 25 (.t 1), none, 0⟩,
 ⟨none, .len 26 false (.t 25), none, 0⟩,
 ⟨none, .mv 27 (.i 0), none, 0⟩]
def c46r5 : List SI := [
 ⟨none, .bin 28 .lss (.t 27) (.t 26), none, 0⟩]
def c46r6 : List SI := [
 ⟨none, .ixA 29 (.t 25) (.t 27) 10, none, 0⟩,
 ⟨none, .ld 30 (.t 29) (some 10), none, 0⟩,
 ⟨none, .alR 11 [(.int .i64 0), (.int .i64 0), (.int .i64 0), (.int .i64 0), (.int .i64 0), (.int .i64 0), (.int .i64 0), (.bool false), (.int .i64 0), (.slice none 0 0)], none, 0⟩,
 ⟨none, .stR 11 0 10 (.t 30), none, 0⟩]
def c46r7 : List SI := [
 ⟨none, .ldR 32 8 0 (some 2), none, 0⟩,
 ⟨none, .ldR 33 11 0 (some 10), none, 0⟩,
 ⟨none, .mv 34 (.t 2), none, 0⟩,
 ⟨none, .call 35 43 [(.t 32), (.t 33), (.t 34)], none, 0⟩,
 ⟨none, .mv 31 (.t 35), none, 0⟩,
 ⟨none, .ext 36 (.t 31) 0, none, 0⟩,
 ⟨none, .ext 37 (.t 31) 1, none, 0⟩,
 ⟨none, .stR 8 0 2 (.t 36), none, 0⟩,
 ⟨none, .mv 9 (.t 37), none, 0⟩]
def c46r8 : List SI := [
 ⟨none, .mv 38 (.t 9), none, 0⟩,
 ⟨none, .bin 39 .neq (.t 38) (.i 0), none, 0⟩]
def c46r9 : List SI := [
 ⟨none, .bld 40 [(.int .i64 0), (.slice none 0 0)] [], none, 0⟩,
 ⟨none, .mv 41 (.t 9), none, 0⟩,
 ⟨none, .stR 6 0 2 (.t 40), none, 0⟩,
 ⟨none, .mv 7 (.t 41), none, 0⟩]
def c46r10 : List SI := [
 ⟨none, .bin 42 .add (.t 27) (.i 1), none, 0⟩,
 ⟨none, .mv 27 (.t 42), none, 0⟩]
def c46r11 : List SI := [
 ⟨none, .ldR 43 8 0 (some 2), none, 0⟩,
 ⟨none, .stR 6 0 2 (.t 43), none, 0⟩,
 ⟨none, .mv 7 (.i 0), none, 0⟩]
def c46 : SC :=
 (.seq (.reg false c46r0)
 (.seq (.reg false c46r1)
 (.seq (.seq (.reg false c46r2)
 (.cond (.t 23)
  (.seq (.reg false c46r3)
  .ret)
  .skip))
 (.seq (.seq (.reg false c46r4)
 (.blk 0 (.loop (.seq (.reg false c46r5)
   (.seq (.cond (.t 28)
    .skip
    (.exit 0))
   (.seq (.blk 1 (.seq (.reg false c46r6)
    (.seq (.reg false c46r7)
    (.seq (.reg false c46r8)
    (.cond (.t 39)
     (.seq (.reg false c46r9)
     .ret)
     .skip)))))
   (.reg false c46r10)))))))
 (.seq (.reg false c46r11)
 .ret)))))
def v46 : List Nat × List Nat := ([6, 8, 11], [6, 8, 11])
def o46 : List RS := [.r 6 (some 2), .t 7]
theorem s46 : slimC Try.prog Try.f46.ntmps v46.1 v46.2 ((Try.f46.body).getD .skip) = some c46 := by kernel_rfl
theorem q46 : slimR Try.prog Try.f46.ntmps v46.1 v46.2 Try.f46.results.toList = some o46 := by kernel_rfl
-- watermeet/batch.Put N=14
def c47r0 : List SI := [
 ⟨none, .bxR 1 (.t 0), none, 0⟩,
 ⟨none, .mv 2 (.v (.slice none 0 0)), none, 0⟩,
 ⟨none, .mv 3 (.i 0), none, 0⟩]
def c47r1 : List SI := [
 ⟨none, .ldR 5 1 0 (some 10), none, 0⟩,
 ⟨none, .call 6 67 [(.t 5)], none, 0⟩,
 ⟨none, .un 7 .not (.t 6), none, 0⟩]
def c47r2 : List SI := [
 ⟨none, .mv 2 (.v (.slice none 0 0)), none, 0⟩,
 ⟨none, .mv 3 (.i 1), none, 0⟩]
def c47r3 : List SI := [
 ⟨none, .ldR 8 1 0 (some 10), none, 0⟩,
 ⟨none, .call 9 68 [(.t 8)], none, 0⟩,
 ⟨none, .mv 4 (.t 9), none, 0⟩]
def c47r4 : List SI := [
 ⟨none, .mv 10 (.t 4), none, 0⟩,
 ⟨none, .len 11 false (.t 10), none, 0⟩,
 ⟨none, .bin 12 .gtr (.t 11) (.i 2048), none, 0⟩]
def c47r5 : List SI := [
 ⟨none, .mv 2 (.v (.slice none 0 0)), none, 0⟩,
 ⟨none, .mv 3 (.i 2), none, 0⟩]
def c47r6 : List SI := [
 ⟨none, .mv 13 (.t 4), none, 0⟩,
 ⟨none, .mv 2 (.t 13), none, 0⟩,
 ⟨none, .mv 3 (.i 0), none, 0⟩]
def c47 : SC :=
 (.seq (.reg false c47r0)
 (.seq (.seq (.reg false c47r1)
 (.cond (.t 7)
  (.seq (.reg false c47r2)
  .ret)
  .skip))
 (.seq (.reg false c47r3)
 (.seq (.seq (.reg false c47r4)
 (.cond (.t 12)
  (.seq (.reg false c47r5)
  .ret)
  .skip))
 (.seq (.reg false c47r6)
 .ret)))))
def v47 : List Nat × List Nat := ([1], [1])
def o47 : List RS := [.t 2, .t 3]
theorem s47 : slimC Try.prog Try.f47.ntmps v47.1 v47.2 ((Try.f47.body).getD .skip) = some c47 := by kernel_rfl
theorem q47 : slimR Try.prog Try.f47.ntmps v47.1 v47.2 Try.f47.results.toList = some o47 := by kernel_rfl
-- watermeet/chain.offset N=9
def c48r0 : List SI := [
 ⟨none, .mv 2 (.b false), none, 0⟩]
def c48r1 : List SI := [
 ⟨none, .mv 3 (.t 0), none, 0⟩,
 ⟨none, .bin 4 .geq (.t 3) (.i 0), none, 0⟩,
 ⟨none, .mv 5 (.t 4), none, 0⟩,
 ⟨some (5, true), .mv 6 (.t 0), none, 6⟩,
 ⟨some (5, true), .bin 7 .leq (.t 6) (.i 1099511627776), none, 7⟩,
 ⟨none, .pick 8 (.t 5) (.t 7) (.b false), none, 0⟩,
 ⟨none, .mv 2 (.t 8), none, 0⟩]
def c48 : SC :=
 (.seq (.reg false c48r0)
 (.seq (.reg false c48r1)
 .ret))
def v48 : List Nat × List Nat := ([], [])
def o48 : List RS := [.t 2]
theorem s48 : slimC Try.prog Try.f48.ntmps v48.1 v48.2 ((Try.f48.body).getD .skip) = some c48 := by kernel_rfl
theorem q48 : slimR Try.prog Try.f48.ntmps v48.1 v48.2 Try.f48.results.toList = some o48 := by kernel_rfl
-- watermeet/seg.Fix N=19
def c49r0 : List SI := [
 ⟨none, .bxR 1 (.t 0), none, 0⟩,
 ⟨none, .alR 2 [(.int .i64 0), (.slice none 0 0)], none, 0⟩,
 ⟨none, .mv 3 (.i 0), none, 0⟩]
def c49r1 : List SI := [
 ⟨none, .ldR 7 1 0 (some 2), none, 0⟩,
 ⟨none, .call 8 27 [(.t 7)], none, 0⟩,
 ⟨none, .mv 6 (.t 8), none, 0⟩,
 ⟨none, .ext 9 (.t 6) 0, none, 0⟩,
 ⟨none, .ext 10 (.t 6) 1, none, 0⟩,
 ⟨none, .mv 4 (.t 9), none, 0⟩,
 ⟨none, .mv 5 (.t 10), none, 0⟩]
def c49r2 : List WI := [
 (true, false, ⟨none, .ldR 11 1 0 (some 2), none, 0⟩),
 (true, false, ⟨none, .mv 12 (.t 5), none, 0⟩),
 (true, false, ⟨none, .nop, (some 1), 0⟩),
 (true, false, ⟨none, .ldR 15 1 1 none, none, 0⟩),
 (true, false, ⟨none, .len 16 false (.t 15), none, 0⟩),
 (true, false, ⟨none, .mv 17 (.t 5), none, 0⟩),
 (true, false, ⟨none, .bin 18 .sub (.t 16) (.t 17), none, 0⟩),
 (false, false, ⟨none, .call 13 69 [(.t 11), (.t 12)], none, 0⟩),
 (false, false, ⟨none, .stR 2 0 2 (.t 13), none, 0⟩),
 (true, false, ⟨none, .mv 3 (.t 18), none, 0⟩)]
def c49 : SC :=
 (.seq (.reg false c49r0)
 (.seq (.reg false c49r1)
 (.seq (.rgW c49r2)
 .ret)))
def v49 : List Nat × List Nat := ([1, 2], [1, 2, 14])
def o49 : List RS := [.r 2 (some 2), .t 3]
theorem s49 : slimC Try.prog Try.f49.ntmps v49.1 v49.2 ((Try.f49.body).getD .skip) = some c49 := by kernel_rfl
theorem q49 : slimR Try.prog Try.f49.ntmps v49.1 v49.2 Try.f49.results.toList = some o49 := by kernel_rfl
-- watermeet/watermeetlaw09.bytes N=22
def c51r0 : List SI := [
 ⟨none, .bxR 2 (.t 0), none, 0⟩,
 ⟨none, .bxR 3 (.t 1), none, 0⟩,
 ⟨none, .mv 4 (.b false), none, 0⟩]
def c51r1 : List SI := [
 ⟨none, .nop, (some 2), 0⟩,
 ⟨none, .ldR 6 2 0 none, none, 0⟩,
 ⟨none, .nop, (some 3), 0⟩,
 ⟨none, .ldR 8 3 0 none, none, 0⟩,
 ⟨none, .bin 9 .eql (.t 6) (.t 8), none, 0⟩,
 ⟨none, .mv 10 (.t 9), none, 0⟩,
 ⟨some (10, true), .nop, (some 2), 99999⟩,
 ⟨some (10, true), .ldR 12 2 1 none, none, 12⟩,
 ⟨some (10, true), .nop, (some 3), 99999⟩,
 ⟨some (10, true), .ldR 14 3 1 none, none, 14⟩,
 ⟨some (10, true), .call 15 70 [(.t 12), (.t 14)], none, 15⟩,
 ⟨none, .pick 16 (.t 10) (.t 15) (.b false), none, 0⟩,
 ⟨none, .mv 4 (.t 16), none, 0⟩]
def c51 : SC :=
 (.seq (.reg false c51r0)
 (.seq (.reg false c51r1)
 .ret))
def v51 : List Nat × List Nat := ([2, 3], [2, 3, 5, 7, 11, 13])
def o51 : List RS := [.t 4]
theorem s51 : slimC Try.prog Try.f51.ntmps v51.1 v51.2 ((Try.f51.body).getD .skip) = some c51 := by kernel_rfl
theorem q51 : slimR Try.prog Try.f51.ntmps v51.1 v51.2 Try.f51.results.toList = some o51 := by kernel_rfl
-- watermeet/seg.each N=4
def c52r0 : List SI := [
 ⟨none, .bx 1 (.t 0), none, 0⟩,
 ⟨none, .mv 2 (.v .nilFunc), none, 0⟩]
def c52r1 : List SI := [
 ⟨none, .mkf 3 (.func 71) [(.t 1)], none, 0⟩,
 ⟨none, .mv 2 (.t 3), none, 0⟩]
def c52 : SC :=
 (.seq (.reg false c52r0)
 (.seq (.reg false c52r1)
 .ret))
def v52 : List Nat × List Nat := ([], [])
def o52 : List RS := [.t 2]
theorem s52 : slimC Try.prog Try.f52.ntmps v52.1 v52.2 ((Try.f52.body).getD .skip) = some c52 := by kernel_rfl
theorem q52 : slimR Try.prog Try.f52.ntmps v52.1 v52.2 Try.f52.results.toList = some o52 := by kernel_rfl
-- watermeet/seg.End N=15
def c53r0 : List SI := [
 ⟨none, .bx 1 (.t 0), none, 0⟩,
 ⟨none, .mv 2 (.i 0), none, 0⟩]
def c53r1 : List SI := [
 ⟨none, .flA 5 (.t 1) 0, none, 0⟩,
 ⟨none, .ld 6 (.t 5) none, none, 0⟩,
 ⟨none, .al 3 [(.int .i64 0)], none, 0⟩,
 ⟨none, .st (.t 3) 1 (.t 6), none, 0⟩]
def c53r2 : List SI := [
 ⟨none, .ld 7 (.t 1) (some 2), none, 0⟩,
 ⟨none, .call 8 52 [(.t 7)], none, 0⟩]
def c53r3 : List SI := [
 ⟨none, .alR 4 [(.int .i64 0), (.int .i64 0), (.int .i64 0), (.int .i64 0), (.int .i64 0), (.int .i64 0), (.int .i64 0), (.bool false), (.int .i64 0), (.slice none 0 0)], none, 0⟩,
 ⟨none, .stR 4 0 10 (.t 9), none, 0⟩]
def c53r4 : List SI := [
 ⟨none, .nop, (some 4), 0⟩,
 ⟨none, .ldR 12 4 1 none, none, 0⟩,
 ⟨none, .bin 13 .add (.t 12) (.i 1), none, 0⟩,
 ⟨none, .st (.t 3) 1 (.t 13), none, 0⟩]
def c53r5 : List SI := [
 ⟨none, .ld 14 (.t 3) none, none, 0⟩,
 ⟨none, .mv 2 (.t 14), none, 0⟩]
def c53 : SC :=
 (.seq (.reg false c53r0)
 (.seq (.reg false c53r1)
 (.seq (.seq (.reg false c53r2)
 (.blk 0 (.rf (.t 8) [9, 10] (.reg false c53r3)
   (.blk 1 (.reg false c53r4)))))
 (.seq (.reg false c53r5)
 .ret))))
def v53 : List Nat × List Nat := ([4], [4, 11])
def o53 : List RS := [.t 2]
theorem s53 : slimC Try.prog Try.f53.ntmps v53.1 v53.2 ((Try.f53.body).getD .skip) = some c53 := by kernel_rfl
theorem q53 : slimR Try.prog Try.f53.ntmps v53.1 v53.2 Try.f53.results.toList = some o53 := by kernel_rfl
-- watermeet/chain.cut N=22
def c54r0 : List SI := [
 ⟨none, .bxR 3 (.t 0), none, 0⟩,
 ⟨none, .alR 6 [(.int .i64 0), (.int .i64 0), (.slice none 0 0)], none, 0⟩,
 ⟨none, .mv 7 (.i 0), none, 0⟩]
def c54r1 : List SI := [
 ⟨none, .ldR 9 3 0 (some 3), none, 0⟩,
 ⟨none, .call 10 13 [(.t 9)], none, 0⟩,
 ⟨none, .mv 8 (.t 10), none, 0⟩]
def c54r2 : List SI := [
 ⟨none, .mv 11 (.t 8), none, 0⟩,
 ⟨none, .bin 12 .neq (.t 11) (.i 0), none, 0⟩]
def c54r3 : List SI := [
 ⟨none, .bld 13 [(.int .i64 0), (.int .i64 0), (.slice none 0 0)] [], none, 0⟩,
 ⟨none, .mv 14 (.t 8), none, 0⟩,
 ⟨none, .stR 6 0 3 (.t 13), none, 0⟩,
 ⟨none, .mv 7 (.t 14), none, 0⟩]
def c54r4 : List SI := [
 ⟨none, .ldR 15 3 0 (some 3), none, 0⟩,
 ⟨none, .mv 16 (.t 1), none, 0⟩,
 ⟨none, .call 17 40 [(.t 15), (.t 16)], none, 0⟩,
 ⟨none, .un 18 .not (.t 17), none, 0⟩]
def c54r5 : List SI := [
 ⟨none, .bld 19 [(.int .i64 0), (.int .i64 0), (.slice none 0 0)] [], none, 0⟩,
 ⟨none, .stR 6 0 3 (.t 19), none, 0⟩,
 ⟨none, .mv 7 (.i 90), none, 0⟩]
def c54r6 : List SI := [
 ⟨none, .mv 20 (.t 2), none, 0⟩,
 ⟨none, .cav 21 (.t 20) [], none, 0⟩,
 ⟨none, .stR 6 0 3 (.t 21), none, 0⟩,
 ⟨none, .mv 7 (.i 0), none, 0⟩]
def c54 : SC :=
 (.seq (.reg false c54r0)
 (.seq (.seq (.reg false c54r1)
 (.seq (.reg false c54r2)
 (.cond (.t 12)
  (.seq (.reg false c54r3)
  .ret)
  .skip)))
 (.seq (.seq (.reg false c54r4)
 (.cond (.t 18)
  (.seq (.reg false c54r5)
  .ret)
  .skip))
 (.seq (.reg false c54r6)
 .ret))))
def v54 : List Nat × List Nat := ([3, 6], [3, 6])
def o54 : List RS := [.r 6 (some 3), .t 7]
theorem s54 : slimC Try.prog Try.f54.ntmps v54.1 v54.2 ((Try.f54.body).getD .skip) = some c54 := by kernel_rfl
theorem q54 : slimR Try.prog Try.f54.ntmps v54.1 v54.2 Try.f54.results.toList = some o54 := by kernel_rfl
-- watermeet/chain.Truncate$1 N=33
def c55r0 : List SI := [
 ⟨none, .alR 2 [(.int .i64 0), (.int .i64 0), (.slice none 0 0)], none, 0⟩]
def c55r1 : List SI := [
 ⟨none, .mv 3 (.v (.slice none 0 0)), none, 0⟩]
def c55r2 : List SI := [
 ⟨none, .flA 6 (.t 0) 2, none, 0⟩,
 ⟨none, .ld 7 (.t 6) none, none, 0⟩,
 ⟨none, .len 8 false (.t 7), none, 0⟩,
 ⟨none, .mv 9 (.i 0), none, 0⟩]
def c55r3 : List SI := [
 ⟨none, .bin 10 .lss (.t 9) (.t 8), none, 0⟩]
def c55r4 : List SI := [
 ⟨none, .ixA 11 (.t 7) (.t 9) 2, none, 0⟩,
 ⟨none, .ld 12 (.t 11) (some 2), none, 0⟩,
 ⟨none, .alR 5 [(.int .i64 0), (.slice none 0 0)], none, 0⟩,
 ⟨none, .stR 5 0 2 (.t 12), none, 0⟩]
def c55r5 : List SI := [
 ⟨none, .nop, (some 5), 0⟩,
 ⟨none, .ldR 14 5 0 none, none, 0⟩,
 ⟨none, .ld 15 (.t 1) none, none, 0⟩,
 ⟨none, .bin 16 .lss (.t 14) (.t 15), none, 0⟩]
def c55r6 : List SI := [
 ⟨none, .mv 17 (.t 3), none, 0⟩,
 ⟨none, .ldR 18 5 0 (some 2), none, 0⟩,
 ⟨none, .ld 19 (.t 1) none, none, 0⟩,
 ⟨none, .call 20 56 [(.t 18), (.t 19)], none, 0⟩,
 ⟨none, .bls 21 53 1 2 [(.int .i64 0), (.slice none 0 0)] [(0, 2, (.t 20))], none, 0⟩,
 ⟨none, .app 22 (.t 17) (.t 21) 53 2 32, none, 0⟩,
 ⟨none, .mv 3 (.t 22), none, 0⟩]
def c55r7 : List SI := [
 ⟨none, .bin 23 .add (.t 9) (.i 1), none, 0⟩,
 ⟨none, .mv 9 (.t 23), none, 0⟩]
def c55r8 : List SI := [
 ⟨none, .mv 24 (.t 3), none, 0⟩,
 ⟨none, .len 25 false (.t 24), none, 0⟩,
 ⟨none, .bin 26 .eql (.t 25) (.i 0), none, 0⟩]
def c55r9 : List SI := [
 ⟨none, .ld 27 (.t 1) none, none, 0⟩,
 ⟨none, .bld 28 [(.int .i64 0), (.slice none 0 0)] [(0, 1, (.t 27))], none, 0⟩,
 ⟨none, .bls 29 53 1 2 [(.int .i64 0), (.slice none 0 0)] [(0, 2, (.t 28))], none, 0⟩,
 ⟨none, .mv 3 (.t 29), none, 0⟩]
def c55r10 : List SI := [
 ⟨none, .ld 30 (.t 0) (some 3), none, 0⟩,
 ⟨none, .mv 31 (.t 3), none, 0⟩,
 ⟨none, .call 32 44 [(.t 30), (.t 31)], none, 0⟩,
 ⟨none, .stR 2 0 3 (.t 32), none, 0⟩]
def c55 : SC :=
 (.seq (.reg false c55r0)
 (.seq (.reg false c55r1)
 (.seq (.seq (.reg false c55r2)
 (.blk 0 (.loop (.seq (.reg false c55r3)
   (.seq (.cond (.t 10)
    .skip
    (.exit 0))
   (.seq (.blk 1 (.seq (.reg false c55r4)
    (.seq (.reg false c55r5)
    (.cond (.t 16)
     (.reg false c55r6)
     .skip))))
   (.reg false c55r7)))))))
 (.seq (.seq (.reg false c55r8)
 (.cond (.t 26)
  (.reg false c55r9)
  .skip))
 (.seq (.reg false c55r10)
 .ret)))))
def v55 : List Nat × List Nat := ([2, 5], [2, 5, 13])
def o55 : List RS := [.r 2 (some 3)]
theorem s55 : slimC Try.prog Try.f55.ntmps v55.1 v55.2 ((Try.f55.body).getD .skip) = some c55 := by kernel_rfl
theorem q55 : slimR Try.prog Try.f55.ntmps v55.1 v55.2 Try.f55.results.toList = some o55 := by kernel_rfl
-- watermeet/seg.Cut N=20
def c56r0 : List SI := [
 ⟨none, .bx 2 (.t 0), none, 0⟩,
 ⟨none, .bx 3 (.t 1), none, 0⟩,
 ⟨none, .al 4 [(.int .i64 0), (.slice none 0 0)], none, 0⟩]
def c56r1 : List SI := [
 ⟨none, .al 5 [(.int .i64 0)], none, 0⟩,
 ⟨none, .st (.t 5) 1 (.i 0), none, 0⟩]
def c56r2 : List SI := [
 ⟨none, .ld 8 (.t 2) (some 2), none, 0⟩,
 ⟨none, .call 9 52 [(.t 8)], none, 0⟩]
def c56r3 : List SI := [
 ⟨none, .alR 6 [(.int .i64 0), (.int .i64 0), (.int .i64 0), (.int .i64 0), (.int .i64 0), (.int .i64 0), (.int .i64 0), (.bool false), (.int .i64 0), (.slice none 0 0)], none, 0⟩,
 ⟨none, .stR 6 0 10 (.t 10), none, 0⟩]
def c56r4 : List SI := [
 ⟨none, .mv 7 (.t 11), none, 0⟩]
def c56r5 : List SI := [
 ⟨none, .nop, (some 6), 0⟩,
 ⟨none, .ldR 13 6 1 none, none, 0⟩,
 ⟨none, .ld 14 (.t 3) none, none, 0⟩,
 ⟨none, .bin 15 .geq (.t 13) (.t 14), none, 0⟩]
def c56r6 : List SI := [
 ⟨none, .mv 16 (.t 7), none, 0⟩,
 ⟨none, .st (.t 5) 1 (.t 16), none, 0⟩]
def c56r7 : List SI := [
 ⟨none, .ld 17 (.t 2) (some 2), none, 0⟩,
 ⟨none, .ld 18 (.t 5) none, none, 0⟩,
 ⟨none, .call 19 69 [(.t 17), (.t 18)], none, 0⟩,
 ⟨none, .st (.t 4) 2 (.t 19), none, 0⟩]
def c56 : SC :=
 (.seq (.reg false c56r0)
 (.seq (.reg false c56r1)
 (.seq (.seq (.reg false c56r2)
 (.blk 0 (.rf (.t 9) [10, 11] (.seq (.reg false c56r3)
   (.reg false c56r4))
   (.blk 1 (.seq (.seq (.reg false c56r5)
    (.cond (.t 15)
     (.exit 0)
     .skip))
    (.reg false c56r6))))))
 (.seq (.reg false c56r7)
 .ret))))
def v56 : List Nat × List Nat := ([6], [6, 12])
def o56 : List RS := [.c 4 (some 2)]
theorem s56 : slimC Try.prog Try.f56.ntmps v56.1 v56.2 ((Try.f56.body).getD .skip) = some c56 := by kernel_rfl
theorem q56 : slimR Try.prog Try.f56.ntmps v56.1 v56.2 Try.f56.results.toList = some o56 := by kernel_rfl
-- watermeet/chain.Trim$1 N=24
def c57r0 : List SI := [
 ⟨none, .alR 2 [(.int .i64 0), (.int .i64 0), (.slice none 0 0)], none, 0⟩]
def c57r1 : List (Bool × SI) := [
 (true, ⟨none, .flA 4 (.t 0) 2, none, 0⟩),
 (true, ⟨none, .ld 5 (.t 4) none, none, 0⟩),
 (true, ⟨none, .ld 6 (.t 0) (some 3), none, 0⟩),
 (true, ⟨none, .mkf 9 (.func 59) [(.t 1)], none, 0⟩),
 (false, ⟨none, .call 7 42 [(.t 6)], none, 0⟩),
 (true, ⟨none, .sl 8 (.t 5) none (some (.t 7)) none 2, none, 0⟩),
 (false, ⟨none, .call 10 58 [(.t 8), (.t 9)], none, 0⟩),
 (true, ⟨none, .mv 3 (.t 10), none, 0⟩)]
def c57r2 : List SI := [
 ⟨none, .mv 11 (.t 3), none, 0⟩,
 ⟨none, .bin 12 .lss (.t 11) (.i 0), none, 0⟩]
def c57r3 : List SI := [
 ⟨none, .ld 13 (.t 0) (some 3), none, 0⟩,
 ⟨none, .call 14 42 [(.t 13)], none, 0⟩,
 ⟨none, .mv 3 (.t 14), none, 0⟩]
def c57r4 : List (Bool × SI) := [
 (true, ⟨none, .flA 15 (.t 0) 0, none, 0⟩),
 (true, ⟨none, .ld 16 (.t 15) none, none, 0⟩),
 (true, ⟨none, .ld 17 (.t 1) none, none, 0⟩),
 (true, ⟨none, .flA 18 (.t 0) 2, none, 0⟩),
 (true, ⟨none, .ld 19 (.t 18) none, none, 0⟩),
 (true, ⟨none, .mv 20 (.t 3), none, 0⟩),
 (true, ⟨none, .sl 21 (.t 19) (some (.t 20)) none none 2, none, 0⟩),
 (false, ⟨none, .call 22 45 [(.t 21)], none, 0⟩),
 (true, ⟨none, .bld 23 [(.int .i64 0), (.int .i64 0), (.slice none 0 0)] [(0, 1, (.t 16)), (1, 1, (.t 17)), (2, 1, (.t 22))], none, 0⟩)]
def c57r5 : List SI := [
 ⟨none, .stR 2 0 3 (.t 23), none, 0⟩]
def c57 : SC :=
 (.seq (.reg false c57r0)
 (.seq (.rgX c57r1)
 (.seq (.seq (.reg false c57r2)
 (.cond (.t 12)
  (.reg false c57r3)
  .skip))
 (.seq (.rgY c57r4 c57r5)
 .ret))))
def v57 : List Nat × List Nat := ([2], [2])
def o57 : List RS := [.r 2 (some 3)]
theorem s57 : slimC Try.prog Try.f57.ntmps v57.1 v57.2 ((Try.f57.body).getD .skip) = some c57 := by kernel_rfl
theorem q57 : slimR Try.prog Try.f57.ntmps v57.1 v57.2 Try.f57.results.toList = some o57 := by kernel_rfl
-- slices.IndexFunc[[]watermeet/api.Seg,watermeet/api.Seg] N=19
def c58r0 : List SI := [
 ⟨none, .mv 4 (.i 0), none, 0⟩]
def c58r1 : List SI := [
 ⟨none, .mv 6 (.t 0), none, 0⟩,
 ⟨none, .len 7 false (.t 6), none, 0⟩,
 ⟨none, .mv 8 (.i 0), none, 0⟩]
def c58r2 : List SI := [
 ⟨none, .bin 9 .lss (.t 8) (.t 7), none, 0⟩]
def c58r3 : List SI := [
 ⟨none, .mv 10 (.t 8), none, 0⟩,
 ⟨none, .mv 5 (.t 10), none, 0⟩]
def c58r4 : List SI := [
 ⟨none, .mv 11 (.t 1), none, 0⟩,
 ⟨none, .mv 12 (.t 0), none, 0⟩,
 ⟨none, .mv 13 (.t 5), none, 0⟩,
 ⟨none, .ixA 14 (.t 12) (.t 13) 2, none, 0⟩,
 ⟨none, .ld 15 (.t 14) (some 2), none, 0⟩,
 ⟨none, .cav 16 (.t 11) [(.t 15)], none, 0⟩]
def c58r5 : List SI := [
 ⟨none, .mv 17 (.t 5), none, 0⟩,
 ⟨none, .mv 4 (.t 17), none, 0⟩]
def c58r6 : List SI := [
 ⟨none, .bin 18 .add (.t 8) (.i 1), none, 0⟩,
 ⟨none, .mv 8 (.t 18), none, 0⟩]
def c58r7 : List SI := [
 ⟨none, .mv 4 (.i (-1)), none, 0⟩]
def c58 : SC :=
 (.seq (.reg false c58r0)
 (.seq (.seq (.reg false c58r1)
 (.blk 0 (.loop (.seq (.reg false c58r2)
   (.seq (.cond (.t 9)
    .skip
    (.exit 0))
   (.seq (.blk 1 (.seq (.reg false c58r3)
    (.seq (.reg false c58r4)
    (.cond (.t 16)
     (.seq (.reg false c58r5)
     .ret)
     .skip))))
   (.reg false c58r6)))))))
 (.seq (.reg false c58r7)
 .ret)))
def v58 : List Nat × List Nat := ([], [])
def o58 : List RS := [.t 4]
theorem s58 : slimC Try.prog Try.f58.ntmps v58.1 v58.2 ((Try.f58.body).getD .skip) = some c58 := by kernel_rfl
theorem q58 : slimR Try.prog Try.f58.ntmps v58.1 v58.2 Try.f58.results.toList = some o58 := by kernel_rfl
-- watermeet/chain.Trim$1$1 N=8
def c59r0 : List SI := [
 ⟨none, .bxR 2 (.t 0), none, 0⟩,
 ⟨none, .mv 3 (.b false), none, 0⟩]
def c59r1 : List (Bool × SI) := [
 (true, ⟨none, .ldR 4 2 0 (some 2), none, 0⟩),
 (true, ⟨none, .ld 6 (.t 1) none, none, 0⟩),
 (false, ⟨none, .call 5 53 [(.t 4)], none, 0⟩),
 (true, ⟨none, .bin 7 .gtr (.t 5) (.t 6), none, 0⟩),
 (true, ⟨none, .mv 3 (.t 7), none, 0⟩)]
def c59 : SC :=
 (.seq (.reg false c59r0)
 (.seq (.rgX c59r1)
 .ret))
def v59 : List Nat × List Nat := ([2], [2])
def o59 : List RS := [.t 3]
theorem s59 : slimC Try.prog Try.f59.ntmps v59.1 v59.2 ((Try.f59.body).getD .skip) = some c59 := by kernel_rfl
theorem q59 : slimR Try.prog Try.f59.ntmps v59.1 v59.2 Try.f59.results.toList = some o59 := by kernel_rfl
-- watermeet/watermeetref04.SameRecs N=26
def c60r0 : List SI := [
 ⟨none, .mv 4 (.b false), none, 0⟩]
def c60r1 : List SI := [
 ⟨none, .mv 6 (.t 0), none, 0⟩,
 ⟨none, .len 7 false (.t 6), none, 0⟩,
 ⟨none, .mv 8 (.t 1), none, 0⟩,
 ⟨none, .len 9 false (.t 8), none, 0⟩,
 ⟨none, .bin 10 .neq (.t 7) (.t 9), none, 0⟩]
def c60r2 : List SI := [
 ⟨none, .mv 4 (.b false), none, 0⟩]
def c60r3 : List SI := [
 ⟨none, .mv 11 (.t 0), none, 0⟩,
 ⟨none, .len 12 false (.t 11), none, 0⟩,
 ⟨none, .mv 13 (.i 0), none, 0⟩]
def c60r4 : List SI := [
 ⟨none, .bin 14 .lss (.t 13) (.t 12), none, 0⟩]
def c60r5 : List SI := [
 ⟨none, .mv 15 (.t 13), none, 0⟩,
 ⟨none, .mv 5 (.t 15), none, 0⟩]
def c60r6 : List SI := [
 ⟨none, .mv 16 (.t 0), none, 0⟩,
 ⟨none, .mv 17 (.t 5), none, 0⟩,
 ⟨none, .ixA 18 (.t 16) (.t 17) 5, none, 0⟩,
 ⟨none, .ld 19 (.t 18) (some 5), none, 0⟩,
 ⟨none, .mv 20 (.t 1), none, 0⟩,
 ⟨none, .mv 21 (.t 5), none, 0⟩,
 ⟨none, .ixA 22 (.t 20) (.t 21) 5, none, 0⟩,
 ⟨none, .ld 23 (.t 22) (some 5), none, 0⟩,
 ⟨none, .eqf 24 true [0, 2, 2, 1, 0] (.t 19) (.t 23), none, 0⟩]
def c60r7 : List SI := [
 ⟨none, .mv 4 (.b false), none, 0⟩]
def c60r8 : List SI := [
 ⟨none, .bin 25 .add (.t 13) (.i 1), none, 0⟩,
 ⟨none, .mv 13 (.t 25), none, 0⟩]
def c60r9 : List SI := [
 ⟨none, .mv 4 (.b true), none, 0⟩]
def c60 : SC :=
 (.seq (.reg false c60r0)
 (.seq (.seq (.reg false c60r1)
 (.cond (.t 10)
  (.seq (.reg false c60r2)
  .ret)
  .skip))
 (.seq (.seq (.reg false c60r3)
 (.blk 0 (.loop (.seq (.reg false c60r4)
   (.seq (.cond (.t 14)
    .skip
    (.exit 0))
   (.seq (.blk 1 (.seq (.reg false c60r5)
    (.seq (.reg true c60r6)
    (.cond (.t 24)
     (.seq (.reg false c60r7)
     .ret)
     .skip))))
   (.reg false c60r8)))))))
 (.seq (.reg false c60r9)
 .ret))))
def v60 : List Nat × List Nat := ([], [])
def o60 : List RS := [.t 4]
theorem s60 : slimC Try.prog Try.f60.ntmps v60.1 v60.2 ((Try.f60.body).getD .skip) = some c60 := by kernel_rfl
theorem q60 : slimR Try.prog Try.f60.ntmps v60.1 v60.2 Try.f60.results.toList = some o60 := by kernel_rfl
-- slices.AppendSeq[[]watermeet/api.Batch,watermeet/api.Batch] N=13
def c61r0 : List SI := [
 ⟨none, .bx 2 (.t 0), none, 0⟩,
 ⟨none, .mv 4 (.v (.slice none 0 0)), none, 0⟩]
def c61r1 : List SI := [
 ⟨none, .mv 6 (.t 1), none, 0⟩]
def c61r2 : List SI := [
 ⟨none, .alR 5 [(.int .i64 0), (.int .i64 0), (.int .i64 0), (.int .i64 0), (.int .i64 0), (.int .i64 0), (.int .i64 0), (.bool false), (.int .i64 0), (.slice none 0 0)], none, 0⟩,
 ⟨none, .stR 5 0 10 (.t 7), none, 0⟩]
def c61r3 : List SI := [
 ⟨none, .ld 8 (.t 2) none, none, 0⟩,
 ⟨none, .ldR 9 5 0 (some 10), none, 0⟩,
 ⟨none, .bls 10 35 1 10 [(.int .i64 0), (.int .i64 0), (.int .i64 0), (.int .i64 0), (.int .i64 0), (.int .i64 0), (.int .i64 0), (.bool false), (.int .i64 0), (.slice none 0 0)] [(0, 10, (.t 9))], none, 0⟩,
 ⟨none, .app 11 (.t 8) (.t 10) 35 10 96, none, 0⟩,
 ⟨none, .st (.t 2) 1 (.t 11), none, 0⟩]
def c61r4 : List SI := [
 ⟨none, .ld 12 (.t 2) none, none, 0⟩,
 ⟨none, .mv 4 (.t 12), none, 0⟩]
def c61 : SC :=
 (.seq (.reg false c61r0)
 (.seq (.seq (.reg false c61r1)
 (.blk 0 (.rf (.t 6) [7] (.reg false c61r2)
   (.blk 1 (.reg false c61r3)))))
 (.seq (.reg false c61r4)
 .ret)))
def v61 : List Nat × List Nat := ([5], [5])
def o61 : List RS := [.t 4]
theorem s61 : slimC Try.prog Try.f61.ntmps v61.1 v61.2 ((Try.f61.body).getD .skip) = some c61 := by kernel_rfl
theorem q61 : slimR Try.prog Try.f61.ntmps v61.1 v61.2 Try.f61.results.toList = some o61 := by kernel_rfl
-- watermeet/chain.batches$1 N=40
def c62r0 : List SI := [
 ⟨none, .flA 10 (.t 1) 2, none, 0⟩,
 ⟨none, .ld 11 (.t 10) none, none, 0⟩,
 ⟨none, .len 12 false (.t 11), none, 0⟩,
 ⟨none, .mv 13 (.i 0), none, 0⟩]
def c62r1 : List SI := [
 ⟨none, .bin 14 .lss (.t 13) (.t 12), none, 0⟩]
def c62r2 : List SI := [
 ⟨none, .ixA 15 (.t 11) (.t 13) 2, none, 0⟩,
 ⟨none, .ld 16 (.t 15) (some 2), none, 0⟩,
 ⟨none, .alR 5 [(.int .i64 0), (.slice none 0 0)], none, 0⟩,
 ⟨none, .stR 5 0 2 (.t 16), none, 0⟩]
def c62r3 : List SI := [
 ⟨none, .ldR 18 5 0 (some 2), none, 0⟩,
 ⟨none, .call 19 27 [(.t 18)], none, 0⟩,
 ⟨none, .mv 17 (.t 19), none, 0⟩,
 ⟨none, .ext 20 (.t 17) 0, none, 0⟩,
 ⟨none, .ext 21 (.t 17) 1, none, 0⟩,
 ⟨none, .mv 6 (.t 20), none, 0⟩,
 ⟨none, .mv 7 (.t 21), none, 0⟩]
def c62r4 : List SI := [
 ⟨none, .mv 22 (.t 6), none, 0⟩,
 ⟨none, .len 23 false (.t 22), none, 0⟩,
 ⟨none, .mv 24 (.i 0), none, 0⟩]
def c62r5 : List SI := [
 ⟨none, .bin 25 .lss (.t 24) (.t 23), none, 0⟩]
def c62r6 : List SI := [
 ⟨none, .ixA 26 (.t 22) (.t 24) 10, none, 0⟩,
 ⟨none, .ld 27 (.t 26) (some 10), none, 0⟩,
 ⟨none, .alR 9 [(.int .i64 0), (.int .i64 0), (.int .i64 0), (.int .i64 0), (.int .i64 0), (.int .i64 0), (.int .i64 0), (.bool false), (.int .i64 0), (.slice none 0 0)], none, 0⟩,
 ⟨none, .stR 9 0 10 (.t 27), none, 0⟩]
def c62r7 : List SI := [
 ⟨none, .nop, (some 9), 0⟩,
 ⟨none, .ldR 29 9 1 none, none, 0⟩,
 ⟨none, .ld 30 (.t 2) none, none, 0⟩,
 ⟨none, .bin 31 .geq (.t 29) (.t 30), none, 0⟩,
 ⟨none, .mv 32 (.t 31), none, 0⟩,
 ⟨some (32, true), .mv 33 (.t 0), none, 33⟩,
 ⟨some (32, true), .ldR 34 9 0 (some 10), none, 34⟩,
 ⟨some (32, true), .cav 35 (.t 33) [(.t 34)], none, 35⟩,
 ⟨some (32, true), .un 36 .not (.t 35), none, 36⟩,
 ⟨none, .pick 37 (.t 32) (.t 36) (.b false), none, 0⟩]
def c62r8 : List SI := [
 ⟨none, .bin 38 .add (.t 24) (.i 1), none, 0⟩,
 ⟨none, .mv 24 (.t 38), none, 0⟩]
def c62r9 : List SI := [
 ⟨none, .bin 39 .add (.t 13) (.i 1), none, 0⟩,
 ⟨none, .mv 13 (.t 39), none, 0⟩]
def c62 : SC :=
 (.seq (.reg false c62r0)
 (.blk 0 (.loop (.seq (.reg false c62r1)
   (.seq (.cond (.t 14)
    .skip
    (.exit 0))
   (.seq (.blk 1 (.seq (.reg false c62r2)
    (.seq (.reg false c62r3)
    (.seq (.reg false c62r4)
    (.blk 2 (.loop (.seq (.reg false c62r5)
      (.seq (.cond (.t 25)
       .skip
       (.exit 2))
      (.seq (.blk 3 (.seq (.reg false c62r6)
       (.seq (.reg false c62r7)
       (.cond (.t 37)
        .ret
        .skip))))
      (.reg false c62r8))))))))))
   (.reg false c62r9)))))))
def v62 : List Nat × List Nat := ([5, 9], [5, 9, 28])
def o62 : List RS := []
theorem s62 : slimC Try.prog Try.f62.ntmps v62.1 v62.2 ((Try.f62.body).getD .skip) = some c62 := by kernel_rfl
theorem q62 : slimR Try.prog Try.f62.ntmps v62.1 v62.2 Try.f62.results.toList = some o62 := by kernel_rfl
-- watermeet/seg.based N=9
def c63r0 : List SI := [
 ⟨none, .mv 2 (.b false), none, 0⟩]
def c63r1 : List SI := [
 ⟨none, .mv 3 (.t 0), none, 0⟩,
 ⟨none, .bin 4 .geq (.t 3) (.i 0), none, 0⟩,
 ⟨none, .mv 5 (.t 4), none, 0⟩,
 ⟨some (5, true), .mv 6 (.t 0), none, 6⟩,
 ⟨some (5, true), .bin 7 .leq (.t 6) (.i 1099511627776), none, 7⟩,
 ⟨none, .pick 8 (.t 5) (.t 7) (.b false), none, 0⟩,
 ⟨none, .mv 2 (.t 8), none, 0⟩]
def c63 : SC :=
 (.seq (.reg false c63r0)
 (.seq (.reg false c63r1)
 .ret))
def v63 : List Nat × List Nat := ([], [])
def o63 : List RS := [.t 2]
theorem s63 : slimC Try.prog Try.f63.ntmps v63.1 v63.2 ((Try.f63.body).getD .skip) = some c63 := by kernel_rfl
theorem q63 : slimR Try.prog Try.f63.ntmps v63.1 v63.2 Try.f63.results.toList = some o63 := by kernel_rfl
-- watermeet/seg.limited N=9
def c64r0 : List SI := [
 ⟨none, .mv 2 (.b false), none, 0⟩]
def c64r1 : List SI := [
 ⟨none, .mv 3 (.t 0), none, 0⟩,
 ⟨none, .bin 4 .geq (.t 3) (.i 1), none, 0⟩,
 ⟨none, .mv 5 (.t 4), none, 0⟩,
 ⟨some (5, true), .mv 6 (.t 0), none, 6⟩,
 ⟨some (5, true), .bin 7 .leq (.t 6) (.i 4096), none, 7⟩,
 ⟨none, .pick 8 (.t 5) (.t 7) (.b false), none, 0⟩,
 ⟨none, .mv 2 (.t 8), none, 0⟩]
def c64 : SC :=
 (.seq (.reg false c64r0)
 (.seq (.reg false c64r1)
 .ret))
def v64 : List Nat × List Nat := ([], [])
def o64 : List RS := [.t 2]
theorem s64 : slimC Try.prog Try.f64.ntmps v64.1 v64.2 ((Try.f64.body).getD .skip) = some c64 := by kernel_rfl
theorem q64 : slimR Try.prog Try.f64.ntmps v64.1 v64.2 Try.f64.results.toList = some o64 := by kernel_rfl
-- slices.Concat[[]byte,byte] N=36
def c65r0 : List SI := [
 ⟨none, .mv 2 (.v (.slice none 0 0)), none, 0⟩]
def c65r1 : List SI := [
 ⟨none, .mv 3 (.i 0), none, 0⟩]
def c65r2 : List SI := [
 ⟨none, .mv 9 (.t 0), none, 0⟩,
 ⟨none, .len 10 false (.t 9), none, 0⟩,
 ⟨none, .mv 11 (.i 0), none, 0⟩]
def c65r3 : List SI := [
 ⟨none, .bin 12 .lss (.t 11) (.t 10), none, 0⟩]
def c65r4 : List SI := [
 ⟨none, .ixA 13 (.t 9) (.t 11) 1, none, 0⟩,
 ⟨none, .ld 14 (.t 13) none, none, 0⟩,
 ⟨none, .mv 5 (.t 14), none, 0⟩]
def c65r5 : List SI := [
 ⟨none, .mv 15 (.t 3), none, 0⟩,
 ⟨none, .mv 16 (.t 5), none, 0⟩,
 ⟨none, .len 17 false (.t 16), none, 0⟩,
 ⟨none, .bin 18 .add (.t 15) (.t 17), none, 0⟩,
 ⟨none, .mv 3 (.t 18), none, 0⟩]
def c65r6 : List SI := [
 ⟨none, .mv 19 (.t 3), none, 0⟩,
 ⟨none, .bin 20 .lss (.t 19) (.i 0), none, 0⟩]
def c65r7 : List SI := [
 ⟨none, .bin 22 .add (.t 11) (.i 1), none, 0⟩,
 ⟨none, .mv 11 (.t 22), none, 0⟩]
def c65r8 : List SI := [
 ⟨none, .mv 23 (.t 3), none, 0⟩,
 ⟨none, .call 24 73 [(.v (.slice none 0 0)), (.t 23)], none, 0⟩,
 ⟨none, .mv 6 (.t 24), none, 0⟩]
def c65r9 : List SI := [
 ⟨none, .mv 25 (.t 0), none, 0⟩,
 ⟨none, .len 26 false (.t 25), none, 0⟩,
 ⟨none, .mv 27 (.i 0), none, 0⟩]
def c65r10 : List SI := [
 ⟨none, .bin 28 .lss (.t 27) (.t 26), none, 0⟩]
def c65r11 : List SI := [
 ⟨none, .ixA 29 (.t 25) (.t 27) 1, none, 0⟩,
 ⟨none, .ld 30 (.t 29) none, none, 0⟩,
 ⟨none, .mv 8 (.t 30), none, 0⟩]
def c65r12 : List SI := [
 ⟨none, .mv 31 (.t 6), none, 0⟩,
 ⟨none, .mv 32 (.t 8), none, 0⟩,
 ⟨none, .app 33 (.t 31) (.t 32) 5 1 1, none, 0⟩,
 ⟨none, .mv 6 (.t 33), none, 0⟩]
def c65r13 : List SI := [
 ⟨none, .bin 34 .add (.t 27) (.i 1), none, 0⟩,
 ⟨none, .mv 27 (.t 34), none, 0⟩]
def c65r14 : List SI := [
 ⟨none, .mv 35 (.t 6), none, 0⟩,
 ⟨none, .mv 2 (.t 35), none, 0⟩]
def c65 : SC :=
 (.seq (.reg false c65r0)
 (.seq (.reg false c65r1)
 (.seq (.seq (.reg false c65r2)
 (.blk 0 (.loop (.seq (.reg false c65r3)
   (.seq (.cond (.t 12)
    .skip
    (.exit 0))
   (.seq (.blk 1 (.seq (.reg false c65r4)
    (.seq (.reg false c65r5)
    (.seq (.reg false c65r6)
    (.cond (.t 20)
     .dead
     .skip)))))
   (.reg false c65r7)))))))
 (.seq (.reg false c65r8)
 (.seq (.seq (.reg false c65r9)
 (.blk 2 (.loop (.seq (.reg false c65r10)
   (.seq (.cond (.t 28)
    .skip
    (.exit 2))
   (.seq (.blk 3 (.seq (.reg false c65r11)
    (.reg false c65r12)))
   (.reg false c65r13)))))))
 (.seq (.reg false c65r14)
 .ret))))))
def v65 : List Nat × List Nat := ([], [])
def o65 : List RS := [.t 2]
theorem s65 : slimC Try.prog Try.f65.ntmps v65.1 v65.2 ((Try.f65.body).getD .skip) = some c65 := by kernel_rfl
theorem q65 : slimR Try.prog Try.f65.ntmps v65.1 v65.2 Try.f65.results.toList = some o65 := by kernel_rfl
-- watermeet/seg.New N=10
def c66r0 : List SI := [
 ⟨none, .alR 2 [(.int .i64 0), (.slice none 0 0)], none, 0⟩,
 ⟨none, .mv 3 (.i 0), none, 0⟩]
def c66r1 : List SI := [
 ⟨none, .mv 4 (.t 0), none, 0⟩,
 ⟨none, .call 5 63 [(.t 4)], none, 0⟩,
 ⟨none, .un 6 .not (.t 5), none, 0⟩]
def c66r2 : List SI := [
 ⟨none, .bld 7 [(.int .i64 0), (.slice none 0 0)] [], none, 0⟩,
 ⟨none, .stR 2 0 2 (.t 7), none, 0⟩,
 ⟨none, .mv 3 (.i 1), none, 0⟩]
def c66r3 : List SI := [
 ⟨none, .mv 8 (.t 0), none, 0⟩,
 ⟨none, .bld 9 [(.int .i64 0), (.slice none 0 0)] [(0, 1, (.t 8))], none, 0⟩,
 ⟨none, .stR 2 0 2 (.t 9), none, 0⟩,
 ⟨none, .mv 3 (.i 0), none, 0⟩]
def c66 : SC :=
 (.seq (.reg false c66r0)
 (.seq (.seq (.reg false c66r1)
 (.cond (.t 6)
  (.seq (.reg false c66r2)
  .ret)
  .skip))
 (.seq (.reg false c66r3)
 .ret)))
def v66 : List Nat × List Nat := ([2], [2])
def o66 : List RS := [.r 2 (some 2), .t 3]
theorem s66 : slimC Try.prog Try.f66.ntmps v66.1 v66.2 ((Try.f66.body).getD .skip) = some c66 := by kernel_rfl
theorem q66 : slimR Try.prog Try.f66.ntmps v66.1 v66.2 Try.f66.results.toList = some o66 := by kernel_rfl
-- watermeet/batch.formed N=131
def c67r0 : List SI := [
 ⟨none, .bxR 1 (.t 0), none, 0⟩,
 ⟨none, .mv 2 (.b false), none, 0⟩]
def c67r1 : List SI := [
 ⟨none, .nop, (some 1), 0⟩,
 ⟨none, .ldR 8 1 0 none, none, 0⟩,
 ⟨none, .nop, (some 1), 0⟩,
 ⟨none, .ldR 10 1 1 none, none, 0⟩,
 ⟨none, .nop, (some 1), 0⟩,
 ⟨none, .ldR 12 1 2 none, none, 0⟩,
 ⟨none, .bls 13 3 3 1 [(.int .i64 0), (.int .i64 0), (.int .i64 0)] [(0, 1, (.t 8)), (1, 1, (.t 10)), (2, 1, (.t 12))], none, 0⟩,
 ⟨none, .call 14 74 [(.i 1099511627776), (.t 13)], none, 0⟩,
 ⟨none, .un 15 .not (.t 14), none, 0⟩,
 ⟨none, .mv 16 (.t 15), none, 0⟩,
 ⟨some (16, false), .nop, (some 1), 99999⟩,
 ⟨some (16, false), .ldR 18 1 3 none, none, 18⟩,
 ⟨some (16, false), .nop, (some 1), 99999⟩,
 ⟨some (16, false), .ldR 20 1 5 none, none, 20⟩,
 ⟨some (16, false), .nop, (some 1), 99999⟩,
 ⟨some (16, false), .ldR 22 1 6 none, none, 22⟩,
 ⟨some (16, false), .bls 23 3 3 1 [(.int .i64 0), (.int .i64 0), (.int .i64 0)] [(0, 1, (.t 18)), (1, 1, (.t 20)), (2, 1, (.t 22))], none, 23⟩,
 ⟨some (16, false), .call 24 74 [(.i 1048576), (.t 23)], none, 24⟩,
 ⟨some (16, false), .un 25 .not (.t 24), none, 25⟩,
 ⟨none, .pick 26 (.t 16) (.b true) (.t 25), none, 0⟩]
def c67r2 : List SI := [
 ⟨none, .mv 2 (.b false), none, 0⟩]
def c67r3 : List SI := [
 ⟨none, .nop, (some 1), 0⟩,
 ⟨none, .ldR 28 1 1 none, none, 0⟩,
 ⟨none, .nop, (some 1), 0⟩,
 ⟨none, .ldR 30 1 0 none, none, 0⟩,
 ⟨none, .bin 31 .sub (.t 28) (.t 30), none, 0⟩,
 ⟨none, .mv 3 (.t 31), none, 0⟩]
def c67r4 : List SI := [
 ⟨none, .mv 33 (.t 3), none, 0⟩,
 ⟨none, .bin 34 .lss (.t 33) (.i 0), none, 0⟩,
 ⟨none, .mv 35 (.t 34), none, 0⟩,
 ⟨some (35, false), .mv 36 (.t 3), none, 36⟩,
 ⟨some (35, false), .bin 37 .geq (.t 36) (.i 16), none, 37⟩,
 ⟨none, .pick 38 (.t 35) (.b true) (.t 37), none, 0⟩,
 ⟨none, .mv 39 (.t 38), none, 0⟩,
 ⟨some (39, false), .nop, (some 1), 99999⟩,
 ⟨some (39, false), .ldR 41 1 2 none, none, 41⟩,
 ⟨some (39, false), .mv 42 (.t 3), none, 42⟩,
 ⟨some (39, false), .bin 43 .add (.t 41) (.t 42), none, 43⟩,
 ⟨some (39, false), .bin 44 .gtr (.t 43) (.i 1099511627776), none, 44⟩,
 ⟨none, .pick 45 (.t 39) (.b true) (.t 44), none, 0⟩,
 ⟨none, .mv 46 (.t 45), none, 0⟩,
 ⟨some (46, false), .nop, (some 1), 99999⟩,
 ⟨some (46, false), .ldR 48 1 6 none, none, 48⟩,
 ⟨some (46, false), .mv 49 (.t 3), none, 49⟩,
 ⟨some (46, false), .bin 50 .add (.t 48) (.t 49), none, 50⟩,
 ⟨some (46, false), .bin 51 .gtr (.t 50) (.i 1048576), none, 51⟩,
 ⟨none, .pick 52 (.t 46) (.b true) (.t 51), none, 0⟩,
 ⟨none, .mv 32 (.t 52), none, 0⟩]
def c67r5 : List SI := [
 ⟨none, .mv 2 (.b false), none, 0⟩]
def c67r6 : List SI := [
 ⟨none, .nop, (some 1), 0⟩,
 ⟨none, .ldR 55 1 4 none, none, 0⟩,
 ⟨none, .bin 56 .lss (.t 55) (.i (-1)), none, 0⟩,
 ⟨none, .mv 57 (.t 56), none, 0⟩,
 ⟨some (57, false), .nop, (some 1), 99999⟩,
 ⟨some (57, false), .ldR 59 1 4 none, none, 59⟩,
 ⟨some (57, false), .bin 60 .gtr (.t 59) (.i 1099511627776), none, 60⟩,
 ⟨none, .pick 61 (.t 57) (.b true) (.t 60), none, 0⟩,
 ⟨none, .mv 53 (.t 61), none, 0⟩]
def c67r7 : List SI := [
 ⟨none, .mv 2 (.b false), none, 0⟩]
def c67r8 : List SI := [
 ⟨none, .nop, (some 1), 0⟩,
 ⟨none, .ldR 64 1 4 none, none, 0⟩,
 ⟨none, .bin 65 .eql (.t 64) (.i (-1)), none, 0⟩,
 ⟨none, .mv 66 (.t 65), none, 0⟩,
 ⟨some (66, true), .nop, (some 1), 99999⟩,
 ⟨some (66, true), .ldR 68 1 5 none, none, 68⟩,
 ⟨some (66, true), .nop, (some 1), 99999⟩,
 ⟨some (66, true), .ldR 70 1 6 none, none, 70⟩,
 ⟨some (66, true), .bin 71 .add (.t 68) (.t 70), none, 71⟩,
 ⟨some (66, true), .bin 72 .neq (.t 71) (.i 0), none, 72⟩,
 ⟨some (66, true), .mv 73 (.t 72), none, 73⟩,
 ⟨some (73, false), .nop, (some 1), 99999⟩,
 ⟨some (73, false), .ldR 75 1 7 none, none, 75⟩,
 ⟨some (66, true), .pick 76 (.t 73) (.b true) (.t 75), none, 76⟩,
 ⟨some (66, true), .mv 77 (.t 76), none, 77⟩,
 ⟨some (77, false), .nop, (some 1), 99999⟩,
 ⟨some (77, false), .ldR 79 1 8 none, none, 79⟩,
 ⟨some (77, false), .bin 80 .neq (.t 79) (.i 0), none, 80⟩,
 ⟨some (66, true), .pick 81 (.t 77) (.b true) (.t 80), none, 81⟩,
 ⟨none, .pick 82 (.t 66) (.t 81) (.b false), none, 0⟩,
 ⟨none, .mv 62 (.t 82), none, 0⟩]
def c67r9 : List SI := [
 ⟨none, .mv 2 (.b false), none, 0⟩]
def c67r10 : List SI := [
 ⟨none, .nop, (some 1), 0⟩,
 ⟨none, .ldR 84 1 8 none, none, 0⟩]
def c67r11 : List SI := [
 ⟨none, .bin 86 .eql (.t 84) (.i 0), none, 0⟩,
 ⟨none, .mv 85 (.t 86), none, 0⟩]
def c67r12 : List SI := [
 ⟨none, .nop, (some 1), 0⟩,
 ⟨none, .ldR 88 1 0 none, none, 0⟩,
 ⟨none, .mv 4 (.t 88), none, 0⟩]
def c67r13 : List SI := [
 ⟨none, .nop, (some 1), 0⟩,
 ⟨none, .ldR 90 1 9 none, none, 0⟩,
 ⟨none, .len 91 false (.t 90), none, 0⟩,
 ⟨none, .mv 92 (.i 0), none, 0⟩]
def c67r14 : List SI := [
 ⟨none, .bin 93 .lss (.t 92) (.t 91), none, 0⟩]
def c67r15 : List SI := [
 ⟨none, .ixA 94 (.t 90) (.t 92) 5, none, 0⟩,
 ⟨none, .ld 95 (.t 94) (some 5), none, 0⟩,
 ⟨none, .alR 6 [(.int .i64 0), (.string ⟨#[]⟩), (.string ⟨#[]⟩), (.bool false), (.int .i64 0)], none, 0⟩,
 ⟨none, .stR 6 0 5 (.t 95), none, 0⟩]
def c67r16 : List SI := [
 ⟨none, .ldR 96 6 0 (some 5), none, 0⟩,
 ⟨none, .call 97 75 [(.t 96)], none, 0⟩,
 ⟨none, .bin 98 .neq (.t 97) (.i 0), none, 0⟩,
 ⟨none, .mv 99 (.t 98), none, 0⟩,
 ⟨some (99, false), .nop, (some 6), 99999⟩,
 ⟨some (99, false), .ldR 101 6 0 none, none, 101⟩,
 ⟨some (99, false), .mv 102 (.t 4), none, 102⟩,
 ⟨some (99, false), .bin 103 .lss (.t 101) (.t 102), none, 103⟩,
 ⟨none, .pick 104 (.t 99) (.b true) (.t 103), none, 0⟩,
 ⟨none, .mv 105 (.t 104), none, 0⟩,
 ⟨some (105, false), .nop, (some 6), 99999⟩,
 ⟨some (105, false), .ldR 107 6 0 none, none, 107⟩,
 ⟨some (105, false), .nop, (some 1), 99999⟩,
 ⟨some (105, false), .ldR 109 1 1 none, none, 109⟩,
 ⟨some (105, false), .bin 110 .gtr (.t 107) (.t 109), none, 110⟩,
 ⟨none, .pick 111 (.t 105) (.b true) (.t 110), none, 0⟩]
def c67r17 : List SI := [
 ⟨none, .mv 2 (.b false), none, 0⟩]
def c67r18 : List SI := [
 ⟨none, .nop, (some 6), 0⟩,
 ⟨none, .ldR 113 6 0 none, none, 0⟩,
 ⟨none, .bin 114 .add (.t 113) (.i 1), none, 0⟩,
 ⟨none, .mv 4 (.t 114), none, 0⟩]
def c67r19 : List SI := [
 ⟨none, .bin 115 .add (.t 92) (.i 1), none, 0⟩,
 ⟨none, .mv 92 (.t 115), none, 0⟩]
def c67r20 : List SI := [
 ⟨none, .mv 2 (.b true), none, 0⟩]
def c67r21 : List SI := [
 ⟨none, .bin 117 .eql (.t 84) (.i 1), none, 0⟩,
 ⟨none, .mv 116 (.t 117), none, 0⟩]
def c67r22 : List SI := [
 ⟨none, .bin 118 .eql (.t 84) (.i 2), none, 0⟩,
 ⟨none, .mv 116 (.t 118), none, 0⟩]
def c67r23 : List SI := [
 ⟨none, .mv 119 (.t 3), none, 0⟩,
 ⟨none, .bin 120 .eql (.t 119) (.i 0), none, 0⟩,
 ⟨none, .mv 121 (.t 120), none, 0⟩,
 ⟨some (121, true), .nop, (some 1), 99999⟩,
 ⟨some (121, true), .ldR 123 1 9 none, none, 123⟩,
 ⟨some (121, true), .len 124 false (.t 123), none, 124⟩,
 ⟨some (121, true), .bin 125 .eql (.t 124) (.i 0), none, 125⟩,
 ⟨none, .pick 126 (.t 121) (.t 125) (.b false), none, 0⟩,
 ⟨none, .mv 127 (.t 126), none, 0⟩,
 ⟨some (127, true), .nop, (some 1), 99999⟩,
 ⟨some (127, true), .ldR 129 1 7 none, none, 129⟩,
 ⟨none, .pick 130 (.t 127) (.t 129) (.b false), none, 0⟩,
 ⟨none, .mv 2 (.t 130), none, 0⟩]
def c67r24 : List SI := [
 ⟨none, .mv 2 (.b false), none, 0⟩]
def c67 : SC :=
 (.seq (.reg false c67r0)
 (.seq (.seq (.reg false c67r1)
 (.cond (.t 26)
  (.seq (.reg false c67r2)
  .ret)
  .skip))
 (.seq (.reg false c67r3)
 (.seq (.blk 0 (.seq (.reg false c67r4)
  (.cond (.t 32)
   (.seq (.reg false c67r5)
   .ret)
   (.seq (.reg false c67r6)
   (.cond (.t 53)
    (.seq (.reg false c67r7)
    .ret)
    (.seq (.reg false c67r8)
    (.cond (.t 62)
     (.seq (.reg false c67r9)
     .ret)
     .skip)))))))
 (.seq (.seq (.reg false c67r10)
 (.blk 1 (.seq (.reg false c67r11)
  (.cond (.t 85)
   (.seq (.reg false c67r12)
   (.seq (.seq (.reg false c67r13)
   (.blk 2 (.loop (.seq (.reg false c67r14)
     (.seq (.cond (.t 93)
      .skip
      (.exit 2))
     (.seq (.blk 3 (.seq (.reg false c67r15)
      (.seq (.seq (.reg false c67r16)
      (.cond (.t 111)
       (.seq (.reg false c67r17)
       .ret)
       .skip))
      (.reg false c67r18))))
     (.reg false c67r19)))))))
   (.seq (.reg false c67r20)
   .ret)))
   (.seq (.seq (.reg false c67r21)
   (.cond (.t 116)
    .skip
    (.reg false c67r22)))
   (.cond (.t 116)
    (.seq (.reg false c67r23)
    .ret)
    .skip))))))
 (.seq (.reg false c67r24)
 .ret))))))
def v67 : List Nat × List Nat := ([1, 6], [1, 6, 7, 9, 11, 17, 19, 21, 27, 29, 40, 47, 54, 58, 63, 67, 69, 74, 78, 83, 87, 89, 100, 106, 108, 112, 122, 128])
def o67 : List RS := [.t 2]
theorem s67 : slimC Try.prog Try.f67.ntmps v67.1 v67.2 ((Try.f67.body).getD .skip) = some c67 := by kernel_rfl
theorem q67 : slimR Try.prog Try.f67.ntmps v67.1 v67.2 Try.f67.results.toList = some o67 := by kernel_rfl
-- watermeet/batch.write N=91
def c68r0 : List SI := [
 ⟨none, .bxR 1 (.t 0), none, 0⟩,
 ⟨none, .mv 2 (.v (.slice none 0 0)), none, 0⟩]
def c68r1 : List SI := [
 ⟨none, .mv 3 (.v (.slice none 0 0)), none, 0⟩]
def c68r2 : List SI := [
 ⟨none, .nop, (some 1), 0⟩,
 ⟨none, .ldR 13 1 0 none, none, 0⟩,
 ⟨none, .nop, (some 1), 0⟩,
 ⟨none, .ldR 15 1 1 none, none, 0⟩,
 ⟨none, .nop, (some 1), 0⟩,
 ⟨none, .ldR 17 1 0 none, none, 0⟩,
 ⟨none, .bin 18 .sub (.t 15) (.t 17), none, 0⟩,
 ⟨none, .nop, (some 1), 0⟩,
 ⟨none, .ldR 20 1 2 none, none, 0⟩,
 ⟨none, .nop, (some 1), 0⟩,
 ⟨none, .ldR 22 1 3 none, none, 0⟩,
 ⟨none, .nop, (some 1), 0⟩,
 ⟨none, .ldR 24 1 4 none, none, 0⟩,
 ⟨none, .nop, (some 1), 0⟩,
 ⟨none, .ldR 26 1 5 none, none, 0⟩,
 ⟨none, .nop, (some 1), 0⟩,
 ⟨none, .ldR 28 1 6 none, none, 0⟩,
 ⟨none, .bld 29 [(.int .i64 0), (.int .i64 0), (.int .i64 0), (.int .i64 0), (.int .i64 0), (.int .i64 0), (.int .i64 0)] [(0, 1, (.t 13)), (1, 1, (.t 18)), (2, 1, (.t 20)), (3, 1, (.t 22)), (4, 1, (.t 24)), (5, 1, (.t 26)), (6, 1, (.t 28))], none, 0⟩,
 ⟨none, .mv 30 (.i 0), none, 0⟩]
def c68r3 : List SI := [
 ⟨none, .bin 31 .lss (.t 30) (.i 7), none, 0⟩]
def c68r4 : List SI := [
 ⟨none, .ixV 32 (.t 29) (.t 30) 7 1 none, none, 0⟩,
 ⟨none, .mv 5 (.t 32), none, 0⟩]
def c68r5 : List SI := [
 ⟨none, .mv 33 (.t 3), none, 0⟩,
 ⟨none, .mv 34 (.t 5), none, 0⟩,
 ⟨none, .call 35 76 [(.t 33), (.t 34)], none, 0⟩,
 ⟨none, .mv 3 (.t 35), none, 0⟩]
def c68r6 : List SI := [
 ⟨none, .bin 36 .add (.t 30) (.i 1), none, 0⟩,
 ⟨none, .mv 30 (.t 36), none, 0⟩]
def c68r7 : List SI := [
 ⟨none, .nop, (some 1), 0⟩,
 ⟨none, .ldR 38 1 8 none, none, 0⟩,
 ⟨none, .cvI 39 .u8 (.t 38), none, 0⟩,
 ⟨none, .mv 6 (.t 39), none, 0⟩]
def c68r8 : List SI := [
 ⟨none, .nop, (some 1), 0⟩,
 ⟨none, .ldR 41 1 7 none, none, 0⟩]
def c68r9 : List SI := [
 ⟨none, .mv 42 (.t 6), none, 0⟩,
 ⟨none, .bin 43 .or (.t 42) (.v (.int .u8 4)), none, 0⟩,
 ⟨none, .mv 6 (.t 43), none, 0⟩]
def c68r10 : List (Bool × SI) := [
 (true, ⟨none, .mv 44 (.t 3), none, 0⟩),
 (true, ⟨none, .mv 45 (.t 6), none, 0⟩),
 (true, ⟨none, .nop, (some 1), 0⟩),
 (true, ⟨none, .ldR 49 1 9 none, none, 0⟩),
 (true, ⟨none, .len 50 false (.t 49), none, 0⟩),
 (false, ⟨none, .bls 46 5 1 1 [(.int .u8 0)] [(0, 1, (.t 45))], none, 0⟩),
 (false, ⟨none, .app 47 (.t 44) (.t 46) 5 1 1, none, 0⟩),
 (false, ⟨none, .call 51 76 [(.t 47), (.t 50)], none, 0⟩),
 (true, ⟨none, .mv 3 (.t 51), none, 0⟩)]
def c68r11 : List SI := [
 ⟨none, .nop, (some 1), 0⟩,
 ⟨none, .ldR 53 1 9 none, none, 0⟩,
 ⟨none, .len 54 false (.t 53), none, 0⟩,
 ⟨none, .bin 55 .gtr (.t 54) (.i 0), none, 0⟩]
def c68r12 : List SI := [
 ⟨none, .nop, (some 1), 0⟩,
 ⟨none, .ldR 57 1 9 none, none, 0⟩,
 ⟨none, .ixA 58 (.t 57) (.i 0) 5, none, 0⟩,
 ⟨none, .flA 59 (.t 58) 4, none, 0⟩,
 ⟨none, .ld 60 (.t 59) none, none, 0⟩,
 ⟨none, .mv 7 (.t 60), none, 0⟩]
def c68r13 : List SI := [
 ⟨none, .mv 61 (.t 3), none, 0⟩,
 ⟨none, .mv 62 (.t 7), none, 0⟩,
 ⟨none, .call 63 76 [(.t 61), (.t 62)], none, 0⟩,
 ⟨none, .mv 3 (.t 63), none, 0⟩]
def c68r14 : List SI := [
 ⟨none, .nop, (some 1), 0⟩,
 ⟨none, .ldR 65 1 9 none, none, 0⟩,
 ⟨none, .len 66 false (.t 65), none, 0⟩,
 ⟨none, .mv 67 (.i 0), none, 0⟩]
def c68r15 : List SI := [
 ⟨none, .bin 68 .lss (.t 67) (.t 66), none, 0⟩]
def c68r16 : List SI := [
 ⟨none, .ixA 69 (.t 65) (.t 67) 5, none, 0⟩,
 ⟨none, .ld 70 (.t 69) (some 5), none, 0⟩,
 ⟨none, .alR 9 [(.int .i64 0), (.string ⟨#[]⟩), (.string ⟨#[]⟩), (.bool false), (.int .i64 0)], none, 0⟩,
 ⟨none, .stR 9 0 5 (.t 70), none, 0⟩]
def c68r17 : List SI := [
 ⟨none, .ldR 72 9 0 (some 5), none, 0⟩,
 ⟨none, .nop, (some 1), 0⟩,
 ⟨none, .ldR 74 1 0 none, none, 0⟩,
 ⟨none, .mv 75 (.t 7), none, 0⟩,
 ⟨none, .call 76 77 [(.t 72), (.t 74), (.t 75)], none, 0⟩,
 ⟨none, .mv 71 (.t 76), none, 0⟩,
 ⟨none, .ext 77 (.t 71) 0, none, 0⟩,
 ⟨none, .ext 78 (.t 71) 1, none, 0⟩,
 ⟨none, .mv 10 (.t 77), none, 0⟩,
 ⟨none, .mv 11 (.t 78), none, 0⟩]
def c68r18 : List SI := [
 ⟨none, .mv 79 (.t 3), none, 0⟩,
 ⟨none, .mv 80 (.t 10), none, 0⟩,
 ⟨none, .app 81 (.t 79) (.t 80) 5 1 1, none, 0⟩,
 ⟨none, .mv 3 (.t 81), none, 0⟩]
def c68r19 : List SI := [
 ⟨none, .bin 82 .add (.t 67) (.i 1), none, 0⟩,
 ⟨none, .mv 67 (.t 82), none, 0⟩]
def c68r20 : List SI := [
 ⟨none, .mv 83 (.t 3), none, 0⟩,
 ⟨none, .call 84 78 [(.t 83)], none, 0⟩,
 ⟨none, .mv 3 (.t 84), none, 0⟩]
def c68r21 : List SI := [
 ⟨none, .mv 85 (.t 3), none, 0⟩,
 ⟨none, .len 86 false (.t 85), none, 0⟩,
 ⟨none, .cvI 87 .u64 (.t 86), none, 0⟩,
 ⟨none, .call 88 79 [(.v (.slice none 0 0)), (.t 87), (.i 4)], none, 0⟩,
 ⟨none, .mv 89 (.t 3), none, 0⟩,
 ⟨none, .app 90 (.t 88) (.t 89) 5 1 1, none, 0⟩,
 ⟨none, .mv 2 (.t 90), none, 0⟩]
def c68 : SC :=
 (.seq (.reg false c68r0)
 (.seq (.reg false c68r1)
 (.seq (.seq (.reg false c68r2)
 (.blk 0 (.loop (.seq (.reg false c68r3)
   (.seq (.cond (.t 31)
    .skip
    (.exit 0))
   (.seq (.blk 1 (.seq (.reg false c68r4)
    (.reg false c68r5)))
   (.reg false c68r6)))))))
 (.seq (.reg false c68r7)
 (.seq (.seq (.reg false c68r8)
 (.cond (.t 41)
  (.reg false c68r9)
  .skip))
 (.seq (.rgX c68r10)
 (.seq (.seq (.reg false c68r11)
 (.cond (.t 55)
  (.seq (.reg false c68r12)
  (.seq (.reg false c68r13)
  (.seq (.reg false c68r14)
  (.blk 2 (.loop (.seq (.reg false c68r15)
    (.seq (.cond (.t 68)
     .skip
     (.exit 2))
    (.seq (.blk 3 (.seq (.reg false c68r16)
     (.seq (.reg false c68r17)
     (.reg false c68r18))))
    (.reg false c68r19)))))))))
  .skip))
 (.seq (.reg false c68r20)
 (.seq (.reg false c68r21)
 .ret)))))))))
def v68 : List Nat × List Nat := ([1, 9], [1, 9, 12, 14, 16, 19, 21, 23, 25, 27, 37, 40, 48, 52, 56, 64, 73])
def o68 : List RS := [.t 2]
theorem s68 : slimC Try.prog Try.f68.ntmps v68.1 v68.2 ((Try.f68.body).getD .skip) = some c68 := by kernel_rfl
theorem q68 : slimR Try.prog Try.f68.ntmps v68.1 v68.2 Try.f68.results.toList = some o68 := by kernel_rfl
-- watermeet/seg.ahead N=13
def c69r0 : List SI := [
 ⟨none, .bxR 2 (.t 0), none, 0⟩,
 ⟨none, .alR 4 [(.int .i64 0), (.slice none 0 0)], none, 0⟩]
def c69r1 : List (Bool × SI) := [
 (true, ⟨none, .nop, (some 2), 0⟩),
 (true, ⟨none, .ldR 6 2 0 none, none, 0⟩),
 (true, ⟨none, .nop, (some 2), 0⟩),
 (true, ⟨none, .ldR 8 2 1 none, none, 0⟩),
 (true, ⟨none, .mv 9 (.t 1), none, 0⟩),
 (true, ⟨none, .sl 10 (.t 8) none (some (.t 9)) none 1, none, 0⟩),
 (false, ⟨none, .call 11 80 [(.t 10)], none, 0⟩),
 (true, ⟨none, .bld 12 [(.int .i64 0), (.slice none 0 0)] [(0, 1, (.t 6)), (1, 1, (.t 11))], none, 0⟩)]
def c69r2 : List SI := [
 ⟨none, .stR 4 0 2 (.t 12), none, 0⟩]
def c69 : SC :=
 (.seq (.reg false c69r0)
 (.seq (.rgY c69r1 c69r2)
 .ret))
def v69 : List Nat × List Nat := ([2, 4], [2, 4, 5, 7])
def o69 : List RS := [.r 4 (some 2)]
theorem s69 : slimC Try.prog Try.f69.ntmps v69.1 v69.2 ((Try.f69.body).getD .skip) = some c69 := by kernel_rfl
theorem q69 : slimR Try.prog Try.f69.ntmps v69.1 v69.2 Try.f69.results.toList = some o69 := by kernel_rfl
-- watermeet/watermeetref01.Same N=10
def c70r0 : List SI := [
 ⟨none, .mv 4 (.b false), none, 0⟩]
def c70r1 : List SI := [
 ⟨none, .mv 5 (.t 0), none, 0⟩,
 ⟨none, .cvS 6 (.t 5), none, 0⟩,
 ⟨none, .mv 7 (.t 1), none, 0⟩,
 ⟨none, .cvS 8 (.t 7), none, 0⟩,
 ⟨none, .bin 9 .eql (.t 6) (.t 8), none, 0⟩,
 ⟨none, .mv 4 (.t 9), none, 0⟩]
def c70 : SC :=
 (.seq (.reg false c70r0)
 (.seq (.reg false c70r1)
 .ret))
def v70 : List Nat × List Nat := ([], [])
def o70 : List RS := [.t 4]
theorem s70 : slimC Try.prog Try.f70.ntmps v70.1 v70.2 ((Try.f70.body).getD .skip) = some c70 := by kernel_rfl
theorem q70 : slimR Try.prog Try.f70.ntmps v70.1 v70.2 Try.f70.results.toList = some o70 := by kernel_rfl
-- watermeet/seg.each$1 N=37
def c71r0 : List SI := [
 ⟨none, .flA 8 (.t 1) 0, none, 0⟩,
 ⟨none, .ld 9 (.t 8) none, none, 0⟩,
 ⟨none, .mv 3 (.i 0), none, 0⟩,
 ⟨none, .mv 4 (.t 9), none, 0⟩]
def c71r1 : List SI := [
 ⟨none, .flA 11 (.t 1) 1, none, 0⟩,
 ⟨none, .ld 12 (.t 11) none, none, 0⟩,
 ⟨none, .mv 13 (.t 3), none, 0⟩,
 ⟨none, .call 14 72 [(.t 12), (.t 13)], none, 0⟩,
 ⟨none, .mv 10 (.t 14), none, 0⟩,
 ⟨none, .ext 15 (.t 10) 0, none, 0⟩,
 ⟨none, .ext 16 (.t 10) 1, none, 0⟩,
 ⟨none, .ext 17 (.t 10) 2, none, 0⟩,
 ⟨none, .alR 5 [(.int .i64 0), (.int .i64 0), (.int .i64 0), (.int .i64 0), (.int .i64 0), (.int .i64 0), (.int .i64 0), (.bool false), (.int .i64 0), (.slice none 0 0)], none, 0⟩,
 ⟨none, .stR 5 0 10 (.t 15), none, 0⟩,
 ⟨none, .mv 6 (.t 16), none, 0⟩,
 ⟨none, .mv 7 (.t 17), none, 0⟩]
def c71r2 : List SI := [
 ⟨none, .mv 18 (.t 7), none, 0⟩,
 ⟨none, .bin 19 .neq (.t 18) (.i 0), none, 0⟩,
 ⟨none, .mv 20 (.t 19), none, 0⟩,
 ⟨some (20, false), .nop, (some 5), 99999⟩,
 ⟨some (20, false), .ldR 22 5 0 none, none, 22⟩,
 ⟨some (20, false), .mv 23 (.t 4), none, 23⟩,
 ⟨some (20, false), .bin 24 .lss (.t 22) (.t 23), none, 24⟩,
 ⟨none, .pick 25 (.t 20) (.b true) (.t 24), none, 0⟩,
 ⟨none, .mv 26 (.t 25), none, 0⟩,
 ⟨some (26, false), .mv 27 (.t 0), none, 27⟩,
 ⟨some (26, false), .ldR 28 5 0 (some 10), none, 28⟩,
 ⟨some (26, false), .mv 29 (.t 6), none, 29⟩,
 ⟨some (26, false), .cav 30 (.t 27) [(.t 28), (.t 29)], none, 30⟩,
 ⟨some (26, false), .un 31 .not (.t 30), none, 31⟩,
 ⟨none, .pick 32 (.t 26) (.b true) (.t 31), none, 0⟩]
def c71r3 : List SI := [
 ⟨none, .mv 33 (.t 6), none, 0⟩,
 ⟨none, .nop, (some 5), 0⟩,
 ⟨none, .ldR 35 5 1 none, none, 0⟩,
 ⟨none, .bin 36 .add (.t 35) (.i 1), none, 0⟩,
 ⟨none, .mv 3 (.t 33), none, 0⟩,
 ⟨none, .mv 4 (.t 36), none, 0⟩]
def c71 : SC :=
 (.seq (.reg true c71r0)
 (.blk 0 (.loop (.blk 1 (.seq (.reg false c71r1)
    (.seq (.seq (.reg false c71r2)
    (.cond (.t 32)
     .ret
     .skip))
    (.reg true c71r3)))))))
def v71 : List Nat × List Nat := ([5], [5, 21, 34])
def o71 : List RS := []
theorem s71 : slimC Try.prog Try.f71.ntmps v71.1 v71.2 ((Try.f71.body).getD .skip) = some c71 := by kernel_rfl
theorem q71 : slimR Try.prog Try.f71.ntmps v71.1 v71.2 Try.f71.results.toList = some o71 := by kernel_rfl
-- watermeet/batch.Get N=68
def c72r0 : List SI := [
 ⟨none, .alR 4 [(.int .i64 0), (.int .i64 0), (.int .i64 0), (.int .i64 0), (.int .i64 0), (.int .i64 0), (.int .i64 0), (.bool false), (.int .i64 0), (.slice none 0 0)], none, 0⟩,
 ⟨none, .mv 5 (.i 0), none, 0⟩,
 ⟨none, .mv 6 (.i 0), none, 0⟩]
def c72r1 : List SI := [
 ⟨none, .mv 12 (.t 0), none, 0⟩,
 ⟨none, .mv 13 (.t 1), none, 0⟩,
 ⟨none, .call 14 81 [(.t 12), (.t 13), (.i 4)], none, 0⟩,
 ⟨none, .mv 11 (.t 14), none, 0⟩,
 ⟨none, .ext 15 (.t 11) 0, none, 0⟩,
 ⟨none, .ext 16 (.t 11) 1, none, 0⟩,
 ⟨none, .mv 7 (.t 15), none, 0⟩,
 ⟨none, .mv 6 (.t 16), none, 0⟩]
def c72r2 : List SI := [
 ⟨none, .mv 17 (.t 6), none, 0⟩,
 ⟨none, .bin 18 .neq (.t 17) (.i 0), none, 0⟩]
def c72r3 : List SI := [
 ⟨none, .bld 19 [(.int .i64 0), (.int .i64 0), (.int .i64 0), (.int .i64 0), (.int .i64 0), (.int .i64 0), (.int .i64 0), (.bool false), (.int .i64 0), (.slice none 0 0)] [], none, 0⟩,
 ⟨none, .mv 20 (.t 6), none, 0⟩,
 ⟨none, .stR 4 0 10 (.t 19), none, 0⟩,
 ⟨none, .mv 5 (.i 0), none, 0⟩,
 ⟨none, .mv 6 (.t 20), none, 0⟩]
def c72r4 : List SI := [
 ⟨none, .mv 21 (.t 7), none, 0⟩,
 ⟨none, .bin 22 .lss (.t 21) (.v (.int .u64 5)), none, 0⟩,
 ⟨none, .mv 23 (.t 22), none, 0⟩,
 ⟨some (23, false), .mv 24 (.t 7), none, 24⟩,
 ⟨some (23, false), .bin 25 .gtr (.t 24) (.v (.int .u64 2044)), none, 25⟩,
 ⟨none, .pick 26 (.t 23) (.b true) (.t 25), none, 0⟩]
def c72r5 : List SI := [
 ⟨none, .bld 27 [(.int .i64 0), (.int .i64 0), (.int .i64 0), (.int .i64 0), (.int .i64 0), (.int .i64 0), (.int .i64 0), (.bool false), (.int .i64 0), (.slice none 0 0)] [], none, 0⟩,
 ⟨none, .stR 4 0 10 (.t 27), none, 0⟩,
 ⟨none, .mv 5 (.i 0), none, 0⟩,
 ⟨none, .mv 6 (.i 11), none, 0⟩]
def c72r6 : List SI := [
 ⟨none, .mv 28 (.t 0), none, 0⟩,
 ⟨none, .mv 29 (.t 1), none, 0⟩,
 ⟨none, .bin 30 .add (.t 29) (.i 4), none, 0⟩,
 ⟨none, .sl 31 (.t 28) (some (.t 30)) none none 1, none, 0⟩,
 ⟨none, .mv 8 (.t 31), none, 0⟩]
def c72r7 : List SI := [
 ⟨none, .mv 32 (.t 8), none, 0⟩,
 ⟨none, .len 33 false (.t 32), none, 0⟩,
 ⟨none, .cvI 34 .u64 (.t 33), none, 0⟩,
 ⟨none, .mv 35 (.t 7), none, 0⟩,
 ⟨none, .bin 36 .lss (.t 34) (.t 35), none, 0⟩]
def c72r8 : List SI := [
 ⟨none, .bld 37 [(.int .i64 0), (.int .i64 0), (.int .i64 0), (.int .i64 0), (.int .i64 0), (.int .i64 0), (.int .i64 0), (.bool false), (.int .i64 0), (.slice none 0 0)] [], none, 0⟩,
 ⟨none, .stR 4 0 10 (.t 37), none, 0⟩,
 ⟨none, .mv 5 (.i 0), none, 0⟩,
 ⟨none, .mv 6 (.i 10), none, 0⟩]
def c72r9 : List SI := [
 ⟨none, .mv 39 (.t 8), none, 0⟩,
 ⟨none, .mv 40 (.t 7), none, 0⟩,
 ⟨none, .sl 41 (.t 39) none (some (.t 40)) none 1, none, 0⟩,
 ⟨none, .call 42 82 [(.t 41)], none, 0⟩,
 ⟨none, .mv 38 (.t 42), none, 0⟩,
 ⟨none, .ext 43 (.t 38) 0, none, 0⟩,
 ⟨none, .ext 44 (.t 38) 1, none, 0⟩,
 ⟨none, .mv 9 (.t 43), none, 0⟩,
 ⟨none, .mv 6 (.t 44), none, 0⟩]
def c72r10 : List SI := [
 ⟨none, .mv 45 (.t 6), none, 0⟩,
 ⟨none, .bin 46 .neq (.t 45) (.i 0), none, 0⟩]
def c72r11 : List SI := [
 ⟨none, .bld 47 [(.int .i64 0), (.int .i64 0), (.int .i64 0), (.int .i64 0), (.int .i64 0), (.int .i64 0), (.int .i64 0), (.bool false), (.int .i64 0), (.slice none 0 0)] [], none, 0⟩,
 ⟨none, .mv 48 (.t 6), none, 0⟩,
 ⟨none, .stR 4 0 10 (.t 47), none, 0⟩,
 ⟨none, .mv 5 (.i 0), none, 0⟩,
 ⟨none, .mv 6 (.t 48), none, 0⟩]
def c72r12 : List SI := [
 ⟨none, .mv 50 (.t 9), none, 0⟩,
 ⟨none, .call 51 83 [(.t 50)], none, 0⟩,
 ⟨none, .mv 49 (.t 51), none, 0⟩,
 ⟨none, .ext 52 (.t 49) 0, none, 0⟩,
 ⟨none, .ext 53 (.t 49) 1, none, 0⟩,
 ⟨none, .stR 4 0 10 (.t 52), none, 0⟩,
 ⟨none, .mv 10 (.t 53), none, 0⟩]
def c72r13 : List SI := [
 ⟨none, .mv 54 (.t 10), none, 0⟩,
 ⟨none, .un 55 .not (.t 54), none, 0⟩,
 ⟨none, .mv 56 (.t 55), none, 0⟩,
 ⟨some (56, false), .ldR 57 4 0 (some 10), none, 57⟩,
 ⟨some (56, false), .call 58 22 [(.t 57)], none, 58⟩,
 ⟨some (56, false), .bin 59 .neq (.t 58) (.i 0), none, 59⟩,
 ⟨none, .pick 60 (.t 56) (.b true) (.t 59), none, 0⟩]
def c72r14 : List SI := [
 ⟨none, .bld 61 [(.int .i64 0), (.int .i64 0), (.int .i64 0), (.int .i64 0), (.int .i64 0), (.int .i64 0), (.int .i64 0), (.bool false), (.int .i64 0), (.slice none 0 0)] [], none, 0⟩,
 ⟨none, .stR 4 0 10 (.t 61), none, 0⟩,
 ⟨none, .mv 5 (.i 0), none, 0⟩,
 ⟨none, .mv 6 (.i 11), none, 0⟩]
def c72r15 : List SI := [
 ⟨none, .ldR 62 4 0 (some 10), none, 0⟩,
 ⟨none, .mv 63 (.t 1), none, 0⟩,
 ⟨none, .bin 64 .add (.t 63) (.i 4), none, 0⟩,
 ⟨none, .mv 65 (.t 7), none, 0⟩,
 ⟨none, .cvI 66 .i64 (.t 65), none, 0⟩,
 ⟨none, .bin 67 .add (.t 64) (.t 66), none, 0⟩,
 ⟨none, .stR 4 0 10 (.t 62), none, 0⟩,
 ⟨none, .mv 5 (.t 67), none, 0⟩,
 ⟨none, .mv 6 (.i 0), none, 0⟩]
def c72 : SC :=
 (.seq (.reg false c72r0)
 (.seq (.reg false c72r1)
 (.seq (.seq (.reg false c72r2)
 (.cond (.t 18)
  (.seq (.reg false c72r3)
  .ret)
  .skip))
 (.seq (.seq (.reg false c72r4)
 (.cond (.t 26)
  (.seq (.reg false c72r5)
  .ret)
  .skip))
 (.seq (.reg false c72r6)
 (.seq (.seq (.reg false c72r7)
 (.cond (.t 36)
  (.seq (.reg false c72r8)
  .ret)
  .skip))
 (.seq (.reg false c72r9)
 (.seq (.seq (.reg false c72r10)
 (.cond (.t 46)
  (.seq (.reg false c72r11)
  .ret)
  .skip))
 (.seq (.reg false c72r12)
 (.seq (.seq (.reg false c72r13)
 (.cond (.t 60)
  (.seq (.reg false c72r14)
  .ret)
  .skip))
 (.seq (.reg false c72r15)
 .ret)))))))))))
def v72 : List Nat × List Nat := ([4], [4])
def o72 : List RS := [.r 4 (some 10), .t 5, .t 6]
theorem s72 : slimC Try.prog Try.f72.ntmps v72.1 v72.2 ((Try.f72.body).getD .skip) = some c72 := by kernel_rfl
theorem q72 : slimR Try.prog Try.f72.ntmps v72.1 v72.2 Try.f72.results.toList = some o72 := by kernel_rfl
-- slices.Grow[[]byte,byte] N=27
def c73r0 : List SI := [
 ⟨none, .mv 4 (.v (.slice none 0 0)), none, 0⟩]
def c73r1 : List SI := [
 ⟨none, .mv 5 (.t 1), none, 0⟩,
 ⟨none, .bin 6 .lss (.t 5) (.i 0), none, 0⟩]
def c73r2 : List SI := [
 ⟨none, .mv 8 (.t 1), none, 0⟩,
 ⟨none, .mv 9 (.t 0), none, 0⟩,
 ⟨none, .cpc 10 (.t 9), none, 0⟩,
 ⟨none, .mv 11 (.t 0), none, 0⟩,
 ⟨none, .len 12 false (.t 11), none, 0⟩,
 ⟨none, .bin 13 .sub (.t 10) (.t 12), none, 0⟩,
 ⟨none, .bin 14 .sub (.t 8) (.t 13), none, 0⟩,
 ⟨none, .mv 1 (.t 14), none, 0⟩]
def c73r3 : List SI := [
 ⟨none, .mv 15 (.t 1), none, 0⟩,
 ⟨none, .bin 16 .gtr (.t 15) (.i 0), none, 0⟩]
def c73r4 : List SI := [
 ⟨none, .mv 17 (.t 0), none, 0⟩,
 ⟨none, .mv 18 (.t 0), none, 0⟩,
 ⟨none, .cpc 19 (.t 18), none, 0⟩,
 ⟨none, .sl 20 (.t 17) none (some (.t 19)) none 1, none, 0⟩,
 ⟨none, .mv 21 (.t 1), none, 0⟩,
 ⟨none, .apz 22 5 1 1 (.t 20) (.t 21), none, 0⟩,
 ⟨none, .mv 23 (.t 0), none, 0⟩,
 ⟨none, .len 24 false (.t 23), none, 0⟩,
 ⟨none, .sl 25 (.t 22) none (some (.t 24)) none 1, none, 0⟩,
 ⟨none, .mv 0 (.t 25), none, 0⟩]
def c73r5 : List SI := [
 ⟨none, .mv 26 (.t 0), none, 0⟩,
 ⟨none, .mv 4 (.t 26), none, 0⟩]
def c73 : SC :=
 (.seq (.reg false c73r0)
 (.seq (.seq (.reg false c73r1)
 (.cond (.t 6)
  .dead
  .skip))
 (.seq (.seq (.reg false c73r2)
 (.seq (.reg false c73r3)
 (.cond (.t 16)
  (.reg false c73r4)
  .skip)))
 (.seq (.reg false c73r5)
 .ret))))
def v73 : List Nat × List Nat := ([], [])
def o73 : List RS := [.t 4]
theorem s73 : slimC Try.prog Try.f73.ntmps v73.1 v73.2 ((Try.f73.body).getD .skip) = some c73 := by kernel_rfl
theorem q73 : slimR Try.prog Try.f73.ntmps v73.1 v73.2 Try.f73.results.toList = some o73 := by kernel_rfl
-- watermeet/batch.within N=14
def c74r0 : List SI := [
 ⟨none, .mv 4 (.b false), none, 0⟩]
def c74r1 : List SI := [
 ⟨none, .mv 5 (.t 1), none, 0⟩,
 ⟨none, .call 6 84 [(.t 5)], none, 0⟩,
 ⟨none, .bin 7 .geq (.t 6) (.i 0), none, 0⟩,
 ⟨none, .mv 8 (.t 7), none, 0⟩,
 ⟨some (8, true), .mv 9 (.t 1), none, 9⟩,
 ⟨some (8, true), .call 10 85 [(.t 9)], none, 10⟩,
 ⟨some (8, true), .mv 11 (.t 0), none, 11⟩,
 ⟨some (8, true), .bin 12 .leq (.t 10) (.t 11), none, 12⟩,
 ⟨none, .pick 13 (.t 8) (.t 12) (.b false), none, 0⟩,
 ⟨none, .mv 4 (.t 13), none, 0⟩]
def c74 : SC :=
 (.seq (.reg false c74r0)
 (.seq (.reg false c74r1)
 .ret))
def v74 : List Nat × List Nat := ([], [])
def o74 : List RS := [.t 4]
theorem s74 : slimC Try.prog Try.f74.ntmps v74.1 v74.2 ((Try.f74.body).getD .skip) = some c74 := by kernel_rfl
theorem q74 : slimR Try.prog Try.f74.ntmps v74.1 v74.2 Try.f74.results.toList = some o74 := by kernel_rfl
-- watermeet/rec.Check N=33
def c75r0 : List SI := [
 ⟨none, .bxR 1 (.t 0), none, 0⟩,
 ⟨none, .mv 2 (.i 0), none, 0⟩]
def c75r1 : List SI := [
 ⟨none, .nop, (some 1), 0⟩,
 ⟨none, .ldR 5 1 0 none, none, 0⟩,
 ⟨none, .call 6 86 [(.t 5)], none, 0⟩,
 ⟨none, .un 7 .not (.t 6), none, 0⟩,
 ⟨none, .mv 3 (.t 7), none, 0⟩]
def c75r2 : List SI := [
 ⟨none, .nop, (some 1), 0⟩,
 ⟨none, .ldR 9 1 4 none, none, 0⟩,
 ⟨none, .call 10 86 [(.t 9)], none, 0⟩,
 ⟨none, .un 11 .not (.t 10), none, 0⟩,
 ⟨none, .mv 3 (.t 11), none, 0⟩]
def c75r3 : List SI := [
 ⟨none, .nop, (some 1), 0⟩,
 ⟨none, .ldR 13 1 1 none, none, 0⟩,
 ⟨none, .len 14 true (.t 13), none, 0⟩,
 ⟨none, .nop, (some 1), 0⟩,
 ⟨none, .ldR 16 1 2 none, none, 0⟩,
 ⟨none, .len 17 true (.t 16), none, 0⟩,
 ⟨none, .mm 18 true (.t 14) (.t 17), none, 0⟩,
 ⟨none, .bin 19 .gtr (.t 18) (.i 64), none, 0⟩,
 ⟨none, .mv 3 (.t 19), none, 0⟩]
def c75r4 : List SI := [
 ⟨none, .mv 2 (.i 1), none, 0⟩]
def c75r5 : List SI := [
 ⟨none, .nop, (some 1), 0⟩,
 ⟨none, .ldR 22 1 3 none, none, 0⟩,
 ⟨none, .mv 23 (.t 22), none, 0⟩,
 ⟨some (23, true), .nop, (some 1), 99999⟩,
 ⟨some (23, true), .ldR 25 1 1 none, none, 25⟩,
 ⟨some (23, true), .bin 26 .eql (.t 25) (.v (.string ⟨#[]⟩)), none, 26⟩,
 ⟨some (23, true), .mv 27 (.t 26), none, 27⟩,
 ⟨some (27, false), .nop, (some 1), 99999⟩,
 ⟨some (27, false), .ldR 29 1 2 none, none, 29⟩,
 ⟨some (27, false), .bin 30 .neq (.t 29) (.v (.string ⟨#[]⟩)), none, 30⟩,
 ⟨some (23, true), .pick 31 (.t 27) (.b true) (.t 30), none, 31⟩,
 ⟨none, .pick 32 (.t 23) (.t 31) (.b false), none, 0⟩,
 ⟨none, .mv 20 (.t 32), none, 0⟩]
def c75r6 : List SI := [
 ⟨none, .mv 2 (.i 1), none, 0⟩]
def c75r7 : List SI := [
 ⟨none, .mv 2 (.i 0), none, 0⟩]
def c75 : SC :=
 (.seq (.reg false c75r0)
 (.seq (.blk 0 (.seq (.seq (.reg false c75r1)
  (.cond (.t 3)
   .skip
   (.seq (.reg false c75r2)
   (.cond (.t 3)
    .skip
    (.reg false c75r3)))))
  (.cond (.t 3)
   (.seq (.reg false c75r4)
   .ret)
   (.seq (.reg false c75r5)
   (.cond (.t 20)
    (.seq (.reg false c75r6)
    .ret)
    .skip)))))
 (.seq (.reg false c75r7)
 .ret)))
def v75 : List Nat × List Nat := ([1], [1, 4, 8, 12, 15, 21, 24, 28])
def o75 : List RS := [.t 2]
theorem s75 : slimC Try.prog Try.f75.ntmps v75.1 v75.2 ((Try.f75.body).getD .skip) = some c75 := by kernel_rfl
theorem q75 : slimR Try.prog Try.f75.ntmps v75.1 v75.2 Try.f75.results.toList = some o75 := by kernel_rfl
-- watermeet/octet.PutVar N=31
def c76r0 : List SI := [
 ⟨none, .mv 4 (.v (.slice none 0 0)), none, 0⟩]
def c76r1 : List SI := [
 ⟨none, .mv 7 (.t 1), none, 0⟩,
 ⟨none, .cvI 8 .u64 (.t 7), none, 0⟩,
 ⟨none, .bin 9 .shl (.t 8) (.v (.int .u64 1)), none, 0⟩,
 ⟨none, .mv 10 (.t 1), none, 0⟩,
 ⟨none, .bin 11 .shr (.t 10) (.v (.int .u64 63)), none, 0⟩,
 ⟨none, .cvI 12 .u64 (.t 11), none, 0⟩,
 ⟨none, .bin 13 .xor (.t 9) (.t 12), none, 0⟩,
 ⟨none, .mv 5 (.t 13), none, 0⟩]
def c76r2 : List SI := [
 ⟨none, .mv 14 (.t 0), none, 0⟩,
 ⟨none, .call 15 80 [(.t 14)], none, 0⟩,
 ⟨none, .mv 6 (.t 15), none, 0⟩]
def c76r3 : List SI := [
 ⟨none, .mv 16 (.t 5), none, 0⟩,
 ⟨none, .bin 17 .geq (.t 16) (.v (.int .u64 128)), none, 0⟩]
def c76r4 : List SI := [
 ⟨none, .mv 20 (.t 6), none, 0⟩,
 ⟨none, .mv 21 (.t 5), none, 0⟩,
 ⟨none, .cvI 22 .u8 (.t 21), none, 0⟩,
 ⟨none, .bin 23 .or (.t 22) (.v (.int .u8 128)), none, 0⟩,
 ⟨none, .bls 24 5 1 1 [(.int .u8 0)] [(0, 1, (.t 23))], none, 0⟩,
 ⟨none, .app 25 (.t 20) (.t 24) 5 1 1, none, 0⟩,
 ⟨none, .mv 6 (.t 25), none, 0⟩]
def c76r5 : List SI := [
 ⟨none, .mv 18 (.t 5), none, 0⟩,
 ⟨none, .bin 19 .shr (.t 18) (.v (.int .u64 7)), none, 0⟩,
 ⟨none, .mv 5 (.t 19), none, 0⟩]
def c76r6 : List SI := [
 ⟨none, .mv 26 (.t 6), none, 0⟩,
 ⟨none, .mv 27 (.t 5), none, 0⟩,
 ⟨none, .cvI 28 .u8 (.t 27), none, 0⟩,
 ⟨none, .bls 29 5 1 1 [(.int .u8 0)] [(0, 1, (.t 28))], none, 0⟩,
 ⟨none, .app 30 (.t 26) (.t 29) 5 1 1, none, 0⟩,
 ⟨none, .mv 4 (.t 30), none, 0⟩]
def c76 : SC :=
 (.seq (.reg false c76r0)
 (.seq (.reg false c76r1)
 (.seq (.reg false c76r2)
 (.seq (.blk 0 (.loop (.seq (.seq (.reg false c76r3)
   (.cond (.t 17)
    .skip
    (.exit 0)))
   (.seq (.blk 1 (.reg false c76r4))
   (.reg false c76r5)))))
 (.seq (.reg false c76r6)
 .ret)))))
def v76 : List Nat × List Nat := ([], [])
def o76 : List RS := [.t 4]
theorem s76 : slimC Try.prog Try.f76.ntmps v76.1 v76.2 ((Try.f76.body).getD .skip) = some c76 := by kernel_rfl
theorem q76 : slimR Try.prog Try.f76.ntmps v76.1 v76.2 Try.f76.results.toList = some o76 := by kernel_rfl
-- watermeet/rec.Put N=46
def c77r0 : List SI := [
 ⟨none, .bxR 3 (.t 0), none, 0⟩,
 ⟨none, .mv 6 (.v (.slice none 0 0)), none, 0⟩,
 ⟨none, .mv 7 (.i 0), none, 0⟩]
def c77r1 : List SI := [
 ⟨none, .ldR 11 3 0 (some 5), none, 0⟩,
 ⟨none, .call 12 75 [(.t 11)], none, 0⟩,
 ⟨none, .mv 8 (.t 12), none, 0⟩]
def c77r2 : List SI := [
 ⟨none, .mv 13 (.t 8), none, 0⟩,
 ⟨none, .bin 14 .neq (.t 13) (.i 0), none, 0⟩]
def c77r3 : List SI := [
 ⟨none, .mv 15 (.t 8), none, 0⟩,
 ⟨none, .mv 6 (.v (.slice none 0 0)), none, 0⟩,
 ⟨none, .mv 7 (.t 15), none, 0⟩]
def c77r4 : List SI := [
 ⟨none, .mv 16 (.t 1), none, 0⟩,
 ⟨none, .call 17 86 [(.t 16)], none, 0⟩,
 ⟨none, .un 18 .not (.t 17), none, 0⟩,
 ⟨none, .mv 19 (.t 18), none, 0⟩,
 ⟨some (19, false), .mv 20 (.t 2), none, 20⟩,
 ⟨some (19, false), .call 21 86 [(.t 20)], none, 21⟩,
 ⟨some (19, false), .un 22 .not (.t 21), none, 22⟩,
 ⟨none, .pick 23 (.t 19) (.b true) (.t 22), none, 0⟩]
def c77r5 : List SI := [
 ⟨none, .mv 6 (.v (.slice none 0 0)), none, 0⟩,
 ⟨none, .mv 7 (.i 1), none, 0⟩]
def c77r6 : List SI := [
 ⟨none, .mv 9 (.v (.int .u8 0)), none, 0⟩]
def c77r7 : List SI := [
 ⟨none, .nop, (some 3), 0⟩,
 ⟨none, .ldR 25 3 3 none, none, 0⟩]
def c77r8 : List SI := [
 ⟨none, .mv 9 (.v (.int .u8 1)), none, 0⟩]
def c77r9 : List (Bool × SI) := [
 (true, ⟨none, .nop, (some 3), 0⟩),
 (true, ⟨none, .ldR 27 3 0 none, none, 0⟩),
 (true, ⟨none, .mv 28 (.t 1), none, 0⟩),
 (true, ⟨none, .bin 29 .sub (.t 27) (.t 28), none, 0⟩),
 (true, ⟨none, .nop, (some 3), 0⟩),
 (true, ⟨none, .ldR 32 3 4 none, none, 0⟩),
 (true, ⟨none, .mv 33 (.t 2), none, 0⟩),
 (true, ⟨none, .bin 34 .sub (.t 32) (.t 33), none, 0⟩),
 (false, ⟨none, .call 30 76 [(.v (.slice none 0 0)), (.t 29)], none, 0⟩),
 (false, ⟨none, .call 35 76 [(.t 30), (.t 34)], none, 0⟩),
 (true, ⟨none, .mv 10 (.t 35), none, 0⟩)]
def c77r10 : List (Bool × SI) := [
 (true, ⟨none, .mv 36 (.t 10), none, 0⟩),
 (true, ⟨none, .mv 37 (.t 9), none, 0⟩),
 (true, ⟨none, .nop, (some 3), 0⟩),
 (true, ⟨none, .ldR 41 3 1 none, none, 0⟩),
 (true, ⟨none, .nop, (some 3), 0⟩),
 (true, ⟨none, .ldR 44 3 2 none, none, 0⟩),
 (false, ⟨none, .bls 38 5 1 1 [(.int .u8 0)] [(0, 1, (.t 37))], none, 0⟩),
 (false, ⟨none, .app 39 (.t 36) (.t 38) 5 1 1, none, 0⟩),
 (false, ⟨none, .call 42 87 [(.t 39), (.t 41)], none, 0⟩),
 (false, ⟨none, .call 45 87 [(.t 42), (.t 44)], none, 0⟩),
 (true, ⟨none, .mv 6 (.t 45), none, 0⟩),
 (true, ⟨none, .mv 7 (.i 0), none, 0⟩)]
def c77 : SC :=
 (.seq (.reg false c77r0)
 (.seq (.seq (.reg false c77r1)
 (.seq (.reg false c77r2)
 (.cond (.t 14)
  (.seq (.reg false c77r3)
  .ret)
  .skip)))
 (.seq (.seq (.reg false c77r4)
 (.cond (.t 23)
  (.seq (.reg false c77r5)
  .ret)
  .skip))
 (.seq (.reg false c77r6)
 (.seq (.seq (.reg false c77r7)
 (.cond (.t 25)
  (.reg false c77r8)
  .skip))
 (.seq (.rgX c77r9)
 (.seq (.rgX c77r10)
 .ret)))))))
def v77 : List Nat × List Nat := ([3], [3, 24, 26, 31, 40, 43])
def o77 : List RS := [.t 6, .t 7]
theorem s77 : slimC Try.prog Try.f77.ntmps v77.1 v77.2 ((Try.f77.body).getD .skip) = some c77 := by kernel_rfl
theorem q77 : slimR Try.prog Try.f77.ntmps v77.1 v77.2 Try.f77.results.toList = some o77 := by kernel_rfl
-- watermeet/crc.Seal N=9
def c78r0 : List SI := [
 ⟨none, .mv 2 (.v (.slice none 0 0)), none, 0⟩]
def c78r1 : List SI := [
 ⟨none, .mv 3 (.t 0), none, 0⟩,
 ⟨none, .app 4 (.v (.slice none 0 0)) (.t 3) 5 1 1, none, 0⟩,
 ⟨none, .mv 5 (.t 0), none, 0⟩,
 ⟨none, .call 6 88 [(.t 5)], none, 0⟩,
 ⟨none, .cvI 7 .u64 (.t 6), none, 0⟩,
 ⟨none, .call 8 79 [(.t 4), (.t 7), (.i 4)], none, 0⟩,
 ⟨none, .mv 2 (.t 8), none, 0⟩]
def c78 : SC :=
 (.seq (.reg false c78r0)
 (.seq (.reg false c78r1)
 .ret))
def v78 : List Nat × List Nat := ([], [])
def o78 : List RS := [.t 2]
theorem s78 : slimC Try.prog Try.f78.ntmps v78.1 v78.2 ((Try.f78.body).getD .skip) = some c78 := by kernel_rfl
theorem q78 : slimR Try.prog Try.f78.ntmps v78.1 v78.2 Try.f78.results.toList = some o78 := by kernel_rfl
-- watermeet/octet.Put N=33
def c79r0 : List SI := [
 ⟨none, .mv 6 (.v (.slice none 0 0)), none, 0⟩]
def c79r1 : List SI := [
 ⟨none, .mv 9 (.t 0), none, 0⟩,
 ⟨none, .call 10 80 [(.t 9)], none, 0⟩,
 ⟨none, .mv 7 (.t 10), none, 0⟩]
def c79r2 : List SI := [
 ⟨none, .mv 11 (.t 2), none, 0⟩,
 ⟨none, .bin 12 .lss (.t 11) (.i 1), none, 0⟩,
 ⟨none, .mv 13 (.t 12), none, 0⟩,
 ⟨some (13, false), .mv 14 (.t 2), none, 14⟩,
 ⟨some (13, false), .bin 15 .gtr (.t 14) (.i 8), none, 15⟩,
 ⟨none, .pick 16 (.t 13) (.b true) (.t 15), none, 0⟩]
def c79r3 : List SI := [
 ⟨none, .mv 17 (.t 7), none, 0⟩,
 ⟨none, .mv 6 (.t 17), none, 0⟩]
def c79r4 : List SI := [
 ⟨none, .mv 18 (.t 2), none, 0⟩,
 ⟨none, .bin 19 .sub (.t 18) (.i 1), none, 0⟩,
 ⟨none, .bin 20 .mul (.i 8) (.t 19), none, 0⟩,
 ⟨none, .mv 8 (.t 20), none, 0⟩]
def c79r5 : List SI := [
 ⟨none, .mv 21 (.t 8), none, 0⟩,
 ⟨none, .bin 22 .geq (.t 21) (.i 0), none, 0⟩]
def c79r6 : List SI := [
 ⟨none, .mv 25 (.t 7), none, 0⟩,
 ⟨none, .mv 26 (.t 1), none, 0⟩,
 ⟨none, .mv 27 (.t 8), none, 0⟩,
 ⟨none, .bin 28 .shr (.t 26) (.t 27), none, 0⟩,
 ⟨none, .cvI 29 .u8 (.t 28), none, 0⟩,
 ⟨none, .bls 30 5 1 1 [(.int .u8 0)] [(0, 1, (.t 29))], none, 0⟩,
 ⟨none, .app 31 (.t 25) (.t 30) 5 1 1, none, 0⟩,
 ⟨none, .mv 7 (.t 31), none, 0⟩]
def c79r7 : List SI := [
 ⟨none, .mv 23 (.t 8), none, 0⟩,
 ⟨none, .bin 24 .sub (.t 23) (.i 8), none, 0⟩,
 ⟨none, .mv 8 (.t 24), none, 0⟩]
def c79r8 : List SI := [
 ⟨none, .mv 32 (.t 7), none, 0⟩,
 ⟨none, .mv 6 (.t 32), none, 0⟩]
def c79 : SC :=
 (.seq (.reg false c79r0)
 (.seq (.reg false c79r1)
 (.seq (.seq (.reg false c79r2)
 (.cond (.t 16)
  (.seq (.reg false c79r3)
  .ret)
  .skip))
 (.seq (.seq (.reg false c79r4)
 (.blk 0 (.loop (.seq (.seq (.reg false c79r5)
   (.cond (.t 22)
    .skip
    (.exit 0)))
   (.seq (.blk 1 (.reg false c79r6))
   (.reg false c79r7))))))
 (.seq (.reg false c79r8)
 .ret)))))
def v79 : List Nat × List Nat := ([], [])
def o79 : List RS := [.t 6]
theorem s79 : slimC Try.prog Try.f79.ntmps v79.1 v79.2 ((Try.f79.body).getD .skip) = some c79 := by kernel_rfl
theorem q79 : slimR Try.prog Try.f79.ntmps v79.1 v79.2 Try.f79.results.toList = some o79 := by kernel_rfl
-- slices.Clone[[]byte,byte] N=8
def c80r0 : List SI := [
 ⟨none, .mv 2 (.v (.slice none 0 0)), none, 0⟩]
def c80r1 : List SI := [
 ⟨none, .mv 3 (.t 0), none, 0⟩,
 ⟨none, .isn 4 false (.t 3), none, 0⟩]
def c80r2 : List SI := [
 ⟨none, .mv 2 (.v (.slice none 0 0)), none, 0⟩]
def c80r3 : List SI := [
 ⟨none, .bl0 5, none, 0⟩,
 ⟨none, .mv 6 (.t 0), none, 0⟩,
 ⟨none, .app 7 (.t 5) (.t 6) 5 1 1, none, 0⟩,
 ⟨none, .mv 2 (.t 7), none, 0⟩]
def c80 : SC :=
 (.seq (.reg false c80r0)
 (.seq (.seq (.reg false c80r1)
 (.cond (.t 4)
  (.seq (.reg false c80r2)
  .ret)
  .skip))
 (.seq (.reg false c80r3)
 .ret)))
def v80 : List Nat × List Nat := ([], [])
def o80 : List RS := [.t 2]
theorem s80 : slimC Try.prog Try.f80.ntmps v80.1 v80.2 ((Try.f80.body).getD .skip) = some c80 := by kernel_rfl
theorem q80 : slimR Try.prog Try.f80.ntmps v80.1 v80.2 Try.f80.results.toList = some o80 := by kernel_rfl
-- watermeet/octet.Get N=44
def c81r0 : List SI := [
 ⟨none, .mv 6 (.v (.int .u64 0)), none, 0⟩,
 ⟨none, .mv 7 (.i 0), none, 0⟩]
def c81r1 : List SI := [
 ⟨none, .mv 12 (.t 2), none, 0⟩,
 ⟨none, .bin 13 .lss (.t 12) (.i 1), none, 0⟩,
 ⟨none, .mv 14 (.t 13), none, 0⟩,
 ⟨some (14, false), .mv 15 (.t 2), none, 15⟩,
 ⟨some (14, false), .bin 16 .gtr (.t 15) (.i 8), none, 16⟩,
 ⟨none, .pick 17 (.t 14) (.b true) (.t 16), none, 0⟩,
 ⟨none, .mv 18 (.t 17), none, 0⟩,
 ⟨some (18, false), .mv 19 (.t 1), none, 19⟩,
 ⟨some (18, false), .bin 20 .lss (.t 19) (.i 0), none, 20⟩,
 ⟨none, .pick 21 (.t 18) (.b true) (.t 20), none, 0⟩]
def c81r2 : List SI := [
 ⟨none, .mv 6 (.v (.int .u64 0)), none, 0⟩,
 ⟨none, .mv 7 (.i 1), none, 0⟩]
def c81r3 : List SI := [
 ⟨none, .mv 22 (.t 0), none, 0⟩,
 ⟨none, .mv 23 (.t 1), none, 0⟩,
 ⟨none, .call 24 89 [(.t 22), (.t 23)], none, 0⟩,
 ⟨none, .mv 8 (.t 24), none, 0⟩]
def c81r4 : List SI := [
 ⟨none, .mv 25 (.t 8), none, 0⟩,
 ⟨none, .len 26 false (.t 25), none, 0⟩,
 ⟨none, .mv 27 (.t 2), none, 0⟩,
 ⟨none, .bin 28 .lss (.t 26) (.t 27), none, 0⟩]
def c81r5 : List SI := [
 ⟨none, .mv 6 (.v (.int .u64 0)), none, 0⟩,
 ⟨none, .mv 7 (.i 10), none, 0⟩]
def c81r6 : List SI := [
 ⟨none, .mv 9 (.v (.int .u64 0)), none, 0⟩]
def c81r7 : List SI := [
 ⟨none, .mv 29 (.t 8), none, 0⟩,
 ⟨none, .mv 30 (.t 2), none, 0⟩,
 ⟨none, .sl 31 (.t 29) none (some (.t 30)) none 1, none, 0⟩,
 ⟨none, .len 32 false (.t 31), none, 0⟩,
 ⟨none, .mv 33 (.i 0), none, 0⟩]
def c81r8 : List SI := [
 ⟨none, .bin 34 .lss (.t 33) (.t 32), none, 0⟩]
def c81r9 : List SI := [
 ⟨none, .ixA 35 (.t 31) (.t 33) 1, none, 0⟩,
 ⟨none, .ld 36 (.t 35) none, none, 0⟩,
 ⟨none, .mv 11 (.t 36), none, 0⟩]
def c81r10 : List SI := [
 ⟨none, .mv 37 (.t 9), none, 0⟩,
 ⟨none, .bin 38 .shl (.t 37) (.v (.int .u64 8)), none, 0⟩,
 ⟨none, .mv 39 (.t 11), none, 0⟩,
 ⟨none, .cvI 40 .u64 (.t 39), none, 0⟩,
 ⟨none, .bin 41 .or (.t 38) (.t 40), none, 0⟩,
 ⟨none, .mv 9 (.t 41), none, 0⟩]
def c81r11 : List SI := [
 ⟨none, .bin 42 .add (.t 33) (.i 1), none, 0⟩,
 ⟨none, .mv 33 (.t 42), none, 0⟩]
def c81r12 : List SI := [
 ⟨none, .mv 43 (.t 9), none, 0⟩,
 ⟨none, .mv 6 (.t 43), none, 0⟩,
 ⟨none, .mv 7 (.i 0), none, 0⟩]
def c81 : SC :=
 (.seq (.reg false c81r0)
 (.seq (.seq (.reg false c81r1)
 (.cond (.t 21)
  (.seq (.reg false c81r2)
  .ret)
  .skip))
 (.seq (.reg false c81r3)
 (.seq (.seq (.reg false c81r4)
 (.cond (.t 28)
  (.seq (.reg false c81r5)
  .ret)
  .skip))
 (.seq (.reg false c81r6)
 (.seq (.seq (.reg false c81r7)
 (.blk 0 (.loop (.seq (.reg false c81r8)
   (.seq (.cond (.t 34)
    .skip
    (.exit 0))
   (.seq (.blk 1 (.seq (.reg false c81r9)
    (.reg false c81r10)))
   (.reg false c81r11)))))))
 (.seq (.reg false c81r12)
 .ret)))))))
def v81 : List Nat × List Nat := ([], [])
def o81 : List RS := [.t 6, .t 7]
theorem s81 : slimC Try.prog Try.f81.ntmps v81.1 v81.2 ((Try.f81.body).getD .skip) = some c81 := by kernel_rfl
theorem q81 : slimR Try.prog Try.f81.ntmps v81.1 v81.2 Try.f81.results.toList = some o81 := by kernel_rfl
-- watermeet/crc.Open N=33
def c82r0 : List SI := [
 ⟨none, .mv 2 (.v (.slice none 0 0)), none, 0⟩,
 ⟨none, .mv 3 (.i 0), none, 0⟩]
def c82r1 : List SI := [
 ⟨none, .mv 7 (.t 0), none, 0⟩,
 ⟨none, .len 8 false (.t 7), none, 0⟩,
 ⟨none, .bin 9 .sub (.t 8) (.i 4), none, 0⟩,
 ⟨none, .mv 4 (.t 9), none, 0⟩]
def c82r2 : List SI := [
 ⟨none, .mv 10 (.t 4), none, 0⟩,
 ⟨none, .bin 11 .lss (.t 10) (.i 0), none, 0⟩]
def c82r3 : List SI := [
 ⟨none, .mv 2 (.v (.slice none 0 0)), none, 0⟩,
 ⟨none, .mv 3 (.i 10), none, 0⟩]
def c82r4 : List SI := [
 ⟨none, .mv 13 (.t 0), none, 0⟩,
 ⟨none, .mv 14 (.t 4), none, 0⟩,
 ⟨none, .call 15 81 [(.t 13), (.t 14), (.i 4)], none, 0⟩,
 ⟨none, .mv 12 (.t 15), none, 0⟩,
 ⟨none, .ext 16 (.t 12) 0, none, 0⟩,
 ⟨none, .ext 17 (.t 12) 1, none, 0⟩,
 ⟨none, .mv 5 (.t 16), none, 0⟩,
 ⟨none, .mv 6 (.t 17), none, 0⟩]
def c82r5 : List SI := [
 ⟨none, .mv 18 (.t 6), none, 0⟩,
 ⟨none, .bin 19 .neq (.t 18) (.i 0), none, 0⟩,
 ⟨none, .mv 20 (.t 19), none, 0⟩,
 ⟨some (20, false), .mv 21 (.t 5), none, 21⟩,
 ⟨some (20, false), .mv 22 (.t 0), none, 22⟩,
 ⟨some (20, false), .mv 23 (.t 4), none, 23⟩,
 ⟨some (20, false), .sl 24 (.t 22) none (some (.t 23)) none 1, none, 24⟩,
 ⟨some (20, false), .call 25 88 [(.t 24)], none, 25⟩,
 ⟨some (20, false), .cvI 26 .u64 (.t 25), none, 26⟩,
 ⟨some (20, false), .bin 27 .neq (.t 21) (.t 26), none, 27⟩,
 ⟨none, .pick 28 (.t 20) (.b true) (.t 27), none, 0⟩]
def c82r6 : List SI := [
 ⟨none, .mv 2 (.v (.slice none 0 0)), none, 0⟩,
 ⟨none, .mv 3 (.i 20), none, 0⟩]
def c82r7 : List SI := [
 ⟨none, .mv 29 (.t 0), none, 0⟩,
 ⟨none, .mv 30 (.t 4), none, 0⟩,
 ⟨none, .sl 31 (.t 29) none (some (.t 30)) none 1, none, 0⟩,
 ⟨none, .app 32 (.v (.slice none 0 0)) (.t 31) 5 1 1, none, 0⟩,
 ⟨none, .mv 2 (.t 32), none, 0⟩,
 ⟨none, .mv 3 (.i 0), none, 0⟩]
def c82 : SC :=
 (.seq (.reg false c82r0)
 (.seq (.reg false c82r1)
 (.seq (.seq (.reg false c82r2)
 (.cond (.t 11)
  (.seq (.reg false c82r3)
  .ret)
  .skip))
 (.seq (.seq (.reg false c82r4)
 (.seq (.reg false c82r5)
 (.cond (.t 28)
  (.seq (.reg false c82r6)
  .ret)
  .skip)))
 (.seq (.reg false c82r7)
 .ret)))))
def v82 : List Nat × List Nat := ([], [])
def o82 : List RS := [.t 2, .t 3]
theorem s82 : slimC Try.prog Try.f82.ntmps v82.1 v82.2 ((Try.f82.body).getD .skip) = some c82 := by kernel_rfl
theorem q82 : slimR Try.prog Try.f82.ntmps v82.1 v82.2 Try.f82.results.toList = some o82 := by kernel_rfl
-- watermeet/batch.parse N=155
def c83r0 : List SI := [
 ⟨none, .bx 1 (.t 0), none, 0⟩,
 ⟨none, .alR 2 [(.int .i64 0), (.int .i64 0), (.int .i64 0), (.int .i64 0), (.int .i64 0), (.int .i64 0), (.int .i64 0), (.bool false), (.int .i64 0), (.slice none 0 0)], none, 0⟩,
 ⟨none, .al 3 [(.bool false)], none, 0⟩]
def c83r1 : List SI := [
 ⟨none, .al 4 [(.int .i64 0)], none, 0⟩,
 ⟨none, .st (.t 4) 1 (.i 0), none, 0⟩]
def c83r2 : List SI := [
 ⟨none, .st (.t 3) 1 (.b true), none, 0⟩]
def c83r3 : List SI := [
 ⟨none, .mkf 15 (.func 90) [(.t 1), (.t 4), (.t 3)], none, 0⟩,
 ⟨none, .mv 5 (.t 15), none, 0⟩]
def c83r4 : List SI := [
 ⟨none, .al 6 [(.int .i64 0), (.int .i64 0), (.int .i64 0), (.int .i64 0), (.int .i64 0), (.int .i64 0), (.int .i64 0)], none, 0⟩]
def c83r5 : List SI := [
 ⟨none, .mv 16 (.i 0), none, 0⟩]
def c83r6 : List SI := [
 ⟨none, .bin 17 .lss (.t 16) (.i 7), none, 0⟩]
def c83r7 : List SI := [
 ⟨none, .mv 18 (.t 16), none, 0⟩,
 ⟨none, .mv 7 (.t 18), none, 0⟩]
def c83r8 : List SI := [
 ⟨none, .mv 19 (.t 7), none, 0⟩,
 ⟨none, .mv 20 (.t 5), none, 0⟩,
 ⟨none, .cav 21 (.t 20) [], none, 0⟩,
 ⟨none, .ixP 22 (.t 6) (.t 19) 7 1, none, 0⟩,
 ⟨none, .st (.t 22) 1 (.t 21), none, 0⟩]
def c83r9 : List SI := [
 ⟨none, .bin 23 .add (.t 16) (.i 1), none, 0⟩,
 ⟨none, .mv 16 (.t 23), none, 0⟩]
def c83r10 : List SI := [
 ⟨none, .ld 24 (.t 3) none, none, 0⟩,
 ⟨none, .un 25 .not (.t 24), none, 0⟩,
 ⟨none, .mv 26 (.t 25), none, 0⟩,
 ⟨some (26, false), .ld 27 (.t 4) none, none, 27⟩,
 ⟨some (26, false), .ld 28 (.t 1) none, none, 28⟩,
 ⟨some (26, false), .len 29 false (.t 28), none, 29⟩,
 ⟨some (26, false), .bin 30 .geq (.t 27) (.t 29), none, 30⟩,
 ⟨none, .pick 31 (.t 26) (.b true) (.t 30), none, 0⟩,
 ⟨none, .mv 32 (.t 31), none, 0⟩,
 ⟨some (32, false), .ld 33 (.t 1) none, none, 33⟩,
 ⟨some (32, false), .ld 34 (.t 4) none, none, 34⟩,
 ⟨some (32, false), .ixA 35 (.t 33) (.t 34) 1, none, 35⟩,
 ⟨some (32, false), .ld 36 (.t 35) none, none, 36⟩,
 ⟨some (32, false), .bin 37 .geq (.t 36) (.v (.int .u8 8)), none, 37⟩,
 ⟨none, .pick 38 (.t 32) (.b true) (.t 37), none, 0⟩,
 ⟨none, .mv 39 (.t 38), none, 0⟩,
 ⟨some (39, false), .ixP 40 (.t 6) (.i 0) 7 1, none, 40⟩,
 ⟨some (39, false), .ld 41 (.t 40) none, none, 41⟩,
 ⟨some (39, false), .bin 42 .lss (.t 41) (.i 0), none, 42⟩,
 ⟨none, .pick 43 (.t 39) (.b true) (.t 42), none, 0⟩,
 ⟨none, .mv 44 (.t 43), none, 0⟩,
 ⟨some (44, false), .ixP 45 (.t 6) (.i 0) 7 1, none, 45⟩,
 ⟨some (44, false), .ld 46 (.t 45) none, none, 46⟩,
 ⟨some (44, false), .bin 47 .gtr (.t 46) (.i 1099511627776), none, 47⟩,
 ⟨none, .pick 48 (.t 44) (.b true) (.t 47), none, 0⟩,
 ⟨none, .mv 49 (.t 48), none, 0⟩,
 ⟨some (49, false), .ixP 50 (.t 6) (.i 1) 7 1, none, 50⟩,
 ⟨some (49, false), .ld 51 (.t 50) none, none, 51⟩,
 ⟨some (49, false), .bin 52 .lss (.t 51) (.i 0), none, 52⟩,
 ⟨none, .pick 53 (.t 49) (.b true) (.t 52), none, 0⟩,
 ⟨none, .mv 54 (.t 53), none, 0⟩,
 ⟨some (54, false), .ixP 55 (.t 6) (.i 1) 7 1, none, 55⟩,
 ⟨some (54, false), .ld 56 (.t 55) none, none, 56⟩,
 ⟨some (54, false), .bin 57 .geq (.t 56) (.i 16), none, 57⟩,
 ⟨none, .pick 58 (.t 54) (.b true) (.t 57), none, 0⟩]
def c83r11 : List SI := [
 ⟨none, .bld 59 [(.int .i64 0), (.int .i64 0), (.int .i64 0), (.int .i64 0), (.int .i64 0), (.int .i64 0), (.int .i64 0), (.bool false), (.int .i64 0), (.slice none 0 0)] [], none, 0⟩,
 ⟨none, .stR 2 0 10 (.t 59), none, 0⟩,
 ⟨none, .st (.t 3) 1 (.b false), none, 0⟩]
def c83r12 : List SI := [
 ⟨none, .ld 60 (.t 1) none, none, 0⟩,
 ⟨none, .ld 61 (.t 4) none, none, 0⟩,
 ⟨none, .ixA 62 (.t 60) (.t 61) 1, none, 0⟩,
 ⟨none, .ld 63 (.t 62) none, none, 0⟩,
 ⟨none, .mv 8 (.t 63), none, 0⟩]
def c83r13 : List SI := [
 ⟨none, .ld 64 (.t 4) none, none, 0⟩,
 ⟨none, .bin 65 .add (.t 64) (.i 1), none, 0⟩,
 ⟨none, .st (.t 4) 1 (.t 65), none, 0⟩]
def c83r14 : List SI := [
 ⟨none, .ixP 66 (.t 6) (.i 0) 7 1, none, 0⟩,
 ⟨none, .ld 67 (.t 66) none, none, 0⟩,
 ⟨none, .ixP 68 (.t 6) (.i 0) 7 1, none, 0⟩,
 ⟨none, .ld 69 (.t 68) none, none, 0⟩,
 ⟨none, .ixP 70 (.t 6) (.i 1) 7 1, none, 0⟩,
 ⟨none, .ld 71 (.t 70) none, none, 0⟩,
 ⟨none, .bin 72 .add (.t 69) (.t 71), none, 0⟩,
 ⟨none, .ixP 73 (.t 6) (.i 2) 7 1, none, 0⟩,
 ⟨none, .ld 74 (.t 73) none, none, 0⟩,
 ⟨none, .ixP 75 (.t 6) (.i 3) 7 1, none, 0⟩,
 ⟨none, .ld 76 (.t 75) none, none, 0⟩,
 ⟨none, .ixP 77 (.t 6) (.i 4) 7 1, none, 0⟩,
 ⟨none, .ld 78 (.t 77) none, none, 0⟩,
 ⟨none, .ixP 79 (.t 6) (.i 5) 7 1, none, 0⟩,
 ⟨none, .ld 80 (.t 79) none, none, 0⟩,
 ⟨none, .ixP 81 (.t 6) (.i 6) 7 1, none, 0⟩,
 ⟨none, .ld 82 (.t 81) none, none, 0⟩,
 ⟨none, .mv 83 (.t 8), none, 0⟩,
 ⟨none, .bin 84 .and (.t 83) (.v (.int .u8 4)), none, 0⟩,
 ⟨none, .bin 85 .neq (.t 84) (.v (.int .u8 0)), none, 0⟩,
 ⟨none, .mv 86 (.t 8), none, 0⟩,
 ⟨none, .bin 87 .andNot (.t 86) (.v (.int .u8 4)), none, 0⟩,
 ⟨none, .cvI 88 .i64 (.t 87), none, 0⟩,
 ⟨none, .bld 89 [(.int .i64 0), (.int .i64 0), (.int .i64 0), (.int .i64 0), (.int .i64 0), (.int .i64 0), (.int .i64 0), (.bool false), (.int .i64 0), (.slice none 0 0)] [(0, 1, (.t 67)), (1, 1, (.t 72)), (2, 1, (.t 74)), (3, 1, (.t 76)), (4, 1, (.t 78)), (5, 1, (.t 80)), (6, 1, (.t 82)), (7, 1, (.t 85)), (8, 1, (.t 88))], none, 0⟩,
 ⟨none, .stR 2 0 10 (.t 89), none, 0⟩]
def c83r15 : List SI := [
 ⟨none, .mv 90 (.t 5), none, 0⟩,
 ⟨none, .cav 91 (.t 90) [], none, 0⟩,
 ⟨none, .mv 9 (.t 91), none, 0⟩]
def c83r16 : List SI := [
 ⟨none, .ld 92 (.t 3) none, none, 0⟩,
 ⟨none, .un 93 .not (.t 92), none, 0⟩,
 ⟨none, .mv 94 (.t 93), none, 0⟩,
 ⟨some (94, false), .mv 95 (.t 9), none, 95⟩,
 ⟨some (94, false), .bin 96 .lss (.t 95) (.i 0), none, 96⟩,
 ⟨none, .pick 97 (.t 94) (.b true) (.t 96), none, 0⟩,
 ⟨none, .mv 98 (.t 97), none, 0⟩,
 ⟨some (98, false), .mv 99 (.t 9), none, 99⟩,
 ⟨some (98, false), .bin 100 .gtr (.t 99) (.i 16), none, 100⟩,
 ⟨none, .pick 101 (.t 98) (.b true) (.t 100), none, 0⟩]
def c83r17 : List SI := [
 ⟨none, .bld 102 [(.int .i64 0), (.int .i64 0), (.int .i64 0), (.int .i64 0), (.int .i64 0), (.int .i64 0), (.int .i64 0), (.bool false), (.int .i64 0), (.slice none 0 0)] [], none, 0⟩,
 ⟨none, .stR 2 0 10 (.t 102), none, 0⟩,
 ⟨none, .st (.t 3) 1 (.b false), none, 0⟩]
def c83r18 : List SI := [
 ⟨none, .mv 10 (.i 0), none, 0⟩]
def c83r19 : List SI := [
 ⟨none, .mv 103 (.t 9), none, 0⟩,
 ⟨none, .bin 104 .gtr (.t 103) (.i 0), none, 0⟩]
def c83r20 : List SI := [
 ⟨none, .mv 105 (.t 5), none, 0⟩,
 ⟨none, .cav 106 (.t 105) [], none, 0⟩,
 ⟨none, .mv 10 (.t 106), none, 0⟩]
def c83r21 : List SI := [
 ⟨none, .mv 11 (.i 0), none, 0⟩]
def c83r22 : List SI := [
 ⟨none, .mv 107 (.t 11), none, 0⟩,
 ⟨none, .mv 108 (.t 9), none, 0⟩,
 ⟨none, .bin 109 .lss (.t 107) (.t 108), none, 0⟩,
 ⟨none, .mv 110 (.t 109), none, 0⟩,
 ⟨some (110, true), .ld 111 (.t 3) none, none, 111⟩,
 ⟨none, .pick 112 (.t 110) (.t 111) (.b false), none, 0⟩]
def c83r23 : List SI := [
 ⟨none, .ld 116 (.t 1) none, none, 0⟩,
 ⟨none, .ld 117 (.t 4) none, none, 0⟩,
 ⟨none, .nop, (some 2), 0⟩,
 ⟨none, .ldR 119 2 0 none, none, 0⟩,
 ⟨none, .mv 120 (.t 10), none, 0⟩,
 ⟨none, .call 121 92 [(.t 116), (.t 117), (.t 119), (.t 120)], none, 0⟩,
 ⟨none, .mv 115 (.t 121), none, 0⟩,
 ⟨none, .ext 122 (.t 115) 0, none, 0⟩,
 ⟨none, .ext 123 (.t 115) 1, none, 0⟩,
 ⟨none, .ext 124 (.t 115) 2, none, 0⟩,
 ⟨none, .alR 12 [(.int .i64 0), (.string ⟨#[]⟩), (.string ⟨#[]⟩), (.bool false), (.int .i64 0)], none, 0⟩,
 ⟨none, .stR 12 0 5 (.t 122), none, 0⟩,
 ⟨none, .mv 13 (.t 123), none, 0⟩,
 ⟨none, .mv 14 (.t 124), none, 0⟩]
def c83r24 : List SI := [
 ⟨none, .ld 125 (.t 3) none, none, 0⟩,
 ⟨none, .mv 126 (.t 125), none, 0⟩,
 ⟨some (126, true), .mv 127 (.t 14), none, 127⟩,
 ⟨some (126, true), .bin 128 .eql (.t 127) (.i 0), none, 128⟩,
 ⟨none, .pick 129 (.t 126) (.t 128) (.b false), none, 0⟩,
 ⟨none, .mv 130 (.t 129), none, 0⟩,
 ⟨some (130, true), .mv 131 (.t 11), none, 131⟩,
 ⟨some (130, true), .bin 132 .gtr (.t 131) (.i 0), none, 132⟩,
 ⟨some (130, true), .mv 133 (.t 132), none, 133⟩,
 ⟨some (133, false), .nop, (some 12), 99999⟩,
 ⟨some (133, false), .ldR 135 12 4 none, none, 135⟩,
 ⟨some (133, false), .mv 136 (.t 10), none, 136⟩,
 ⟨some (133, false), .bin 137 .eql (.t 135) (.t 136), none, 137⟩,
 ⟨some (130, true), .pick 138 (.t 133) (.b true) (.t 137), none, 138⟩,
 ⟨none, .pick 139 (.t 130) (.t 138) (.b false), none, 0⟩,
 ⟨none, .st (.t 3) 1 (.t 139), none, 0⟩]
def c83r25 : List SI := [
 ⟨none, .mv 140 (.t 13), none, 0⟩,
 ⟨none, .st (.t 4) 1 (.t 140), none, 0⟩]
def c83r26 : List SI := [
 ⟨none, .nop, (some 2), 0⟩,
 ⟨none, .ldR 142 2 9 none, none, 0⟩,
 ⟨none, .ldR 143 12 0 (some 5), none, 0⟩,
 ⟨none, .bls 144 76 1 5 [(.int .i64 0), (.string ⟨#[]⟩), (.string ⟨#[]⟩), (.bool false), (.int .i64 0)] [(0, 5, (.t 143))], none, 0⟩,
 ⟨none, .app 145 (.t 142) (.t 144) 76 5 56, none, 0⟩,
 ⟨none, .nop, (some 2), 0⟩,
 ⟨none, .stR 2 9 1 (.t 145), none, 0⟩]
def c83r27 : List SI := [
 ⟨none, .mv 113 (.t 11), none, 0⟩,
 ⟨none, .bin 114 .add (.t 113) (.i 1), none, 0⟩,
 ⟨none, .mv 11 (.t 114), none, 0⟩]
def c83r28 : List WI := [
 (true, false, ⟨none, .ldR 147 2 0 (some 10), none, 0⟩),
 (true, false, ⟨none, .ld 148 (.t 3) none, none, 0⟩),
 (true, false, ⟨none, .mv 149 (.t 148), none, 0⟩),
 (true, false, ⟨some (149, true), .ld 150 (.t 4) none, none, 150⟩),
 (true, false, ⟨some (149, true), .ld 151 (.t 1) none, none, 151⟩),
 (true, false, ⟨some (149, true), .len 152 false (.t 151), none, 152⟩),
 (true, false, ⟨some (149, true), .bin 153 .eql (.t 150) (.t 152), none, 153⟩),
 (true, false, ⟨none, .pick 154 (.t 149) (.t 153) (.b false), none, 0⟩),
 (false, false, ⟨none, .stR 2 0 10 (.t 147), none, 0⟩),
 (false, true, ⟨none, .st (.t 3) 1 (.t 154), none, 0⟩)]
def c83 : SC :=
 (.seq (.reg false c83r0)
 (.seq (.reg false c83r1)
 (.seq (.reg false c83r2)
 (.seq (.reg false c83r3)
 (.seq (.reg false c83r4)
 (.seq (.seq (.reg false c83r5)
 (.blk 0 (.loop (.seq (.reg false c83r6)
   (.seq (.cond (.t 17)
    .skip
    (.exit 0))
   (.seq (.blk 1 (.seq (.reg false c83r7)
    (.reg false c83r8)))
   (.reg false c83r9)))))))
 (.seq (.seq (.reg false c83r10)
 (.cond (.t 58)
  (.seq (.reg false c83r11)
  .ret)
  .skip))
 (.seq (.reg false c83r12)
 (.seq (.reg false c83r13)
 (.seq (.reg false c83r14)
 (.seq (.reg false c83r15)
 (.seq (.seq (.reg false c83r16)
 (.cond (.t 101)
  (.seq (.reg false c83r17)
  .ret)
  .skip))
 (.seq (.reg false c83r18)
 (.seq (.seq (.reg false c83r19)
 (.cond (.t 104)
  (.reg false c83r20)
  .skip))
 (.seq (.seq (.reg false c83r21)
 (.blk 2 (.loop (.seq (.seq (.reg false c83r22)
   (.cond (.t 112)
    .skip
    (.exit 2)))
   (.seq (.blk 3 (.seq (.reg false c83r23)
    (.seq (.reg false c83r24)
    (.seq (.reg false c83r25)
    (.reg false c83r26)))))
   (.reg false c83r27))))))
 (.seq (.rgW c83r28)
 .ret))))))))))))))))
def v83 : List Nat × List Nat := ([2, 12], [2, 12, 118, 134, 141, 146])
def o83 : List RS := [.r 2 (some 10), .c 3 none]
theorem s83 : slimC Try.prog Try.f83.ntmps v83.1 v83.2 ((Try.f83.body).getD .skip) = some c83 := by kernel_rfl
theorem q83 : slimR Try.prog Try.f83.ntmps v83.1 v83.2 Try.f83.results.toList = some o83 := by kernel_rfl
-- slices.Min[[]int,int] N=25
def c84r0 : List SI := [
 ⟨none, .mv 2 (.i 0), none, 0⟩]
def c84r1 : List SI := [
 ⟨none, .mv 5 (.t 0), none, 0⟩,
 ⟨none, .len 6 false (.t 5), none, 0⟩,
 ⟨none, .bin 7 .lss (.t 6) (.i 1), none, 0⟩]
def c84r2 : List SI := [
 ⟨none, .mv 9 (.t 0), none, 0⟩,
 ⟨none, .ixA 10 (.t 9) (.i 0) 1, none, 0⟩,
 ⟨none, .ld 11 (.t 10) none, none, 0⟩,
 ⟨none, .mv 3 (.t 11), none, 0⟩]
def c84r3 : List SI := [
 ⟨none, .mv 4 (.i 1), none, 0⟩]
def c84r4 : List SI := [
 ⟨none, .mv 12 (.t 4), none, 0⟩,
 ⟨none, .mv 13 (.t 0), none, 0⟩,
 ⟨none, .len 14 false (.t 13), none, 0⟩,
 ⟨none, .bin 15 .lss (.t 12) (.t 14), none, 0⟩]
def c84r5 : List SI := [
 ⟨none, .mv 18 (.t 3), none, 0⟩,
 ⟨none, .mv 19 (.t 0), none, 0⟩,
 ⟨none, .mv 20 (.t 4), none, 0⟩,
 ⟨none, .ixA 21 (.t 19) (.t 20) 1, none, 0⟩,
 ⟨none, .ld 22 (.t 21) none, none, 0⟩,
 ⟨none, .mm 23 false (.t 18) (.t 22), none, 0⟩,
 ⟨none, .mv 3 (.t 23), none, 0⟩]
def c84r6 : List SI := [
 ⟨none, .mv 16 (.t 4), none, 0⟩,
 ⟨none, .bin 17 .add (.t 16) (.i 1), none, 0⟩,
 ⟨none, .mv 4 (.t 17), none, 0⟩]
def c84r7 : List SI := [
 ⟨none, .mv 24 (.t 3), none, 0⟩,
 ⟨none, .mv 2 (.t 24), none, 0⟩]
def c84 : SC :=
 (.seq (.reg false c84r0)
 (.seq (.seq (.reg false c84r1)
 (.cond (.t 7)
  .dead
  .skip))
 (.seq (.reg false c84r2)
 (.seq (.seq (.reg false c84r3)
 (.blk 0 (.loop (.seq (.seq (.reg false c84r4)
   (.cond (.t 15)
    .skip
    (.exit 0)))
   (.seq (.blk 1 (.reg false c84r5))
   (.reg false c84r6))))))
 (.seq (.reg false c84r7)
 .ret)))))
def v84 : List Nat × List Nat := ([], [])
def o84 : List RS := [.t 2]
theorem s84 : slimC Try.prog Try.f84.ntmps v84.1 v84.2 ((Try.f84.body).getD .skip) = some c84 := by kernel_rfl
theorem q84 : slimR Try.prog Try.f84.ntmps v84.1 v84.2 Try.f84.results.toList = some o84 := by kernel_rfl
-- slices.Max[[]int,int] N=25
def c85r0 : List SI := [
 ⟨none, .mv 2 (.i 0), none, 0⟩]
def c85r1 : List SI := [
 ⟨none, .mv 5 (.t 0), none, 0⟩,
 ⟨none, .len 6 false (.t 5), none, 0⟩,
 ⟨none, .bin 7 .lss (.t 6) (.i 1), none, 0⟩]
def c85r2 : List SI := [
 ⟨none, .mv 9 (.t 0), none, 0⟩,
 ⟨none, .ixA 10 (.t 9) (.i 0) 1, none, 0⟩,
 ⟨none, .ld 11 (.t 10) none, none, 0⟩,
 ⟨none, .mv 3 (.t 11), none, 0⟩]
def c85r3 : List SI := [
 ⟨none, .mv 4 (.i 1), none, 0⟩]
def c85r4 : List SI := [
 ⟨none, .mv 12 (.t 4), none, 0⟩,
 ⟨none, .mv 13 (.t 0), none, 0⟩,
 ⟨none, .len 14 false (.t 13), none, 0⟩,
 ⟨none, .bin 15 .lss (.t 12) (.t 14), none, 0⟩]
def c85r5 : List SI := [
 ⟨none, .mv 18 (.t 3), none, 0⟩,
 ⟨none, .mv 19 (.t 0), none, 0⟩,
 ⟨none, .mv 20 (.t 4), none, 0⟩,
 ⟨none, .ixA 21 (.t 19) (.t 20) 1, none, 0⟩,
 ⟨none, .ld 22 (.t 21) none, none, 0⟩,
 ⟨none, .mm 23 true (.t 18) (.t 22), none, 0⟩,
 ⟨none, .mv 3 (.t 23), none, 0⟩]
def c85r6 : List SI := [
 ⟨none, .mv 16 (.t 4), none, 0⟩,
 ⟨none, .bin 17 .add (.t 16) (.i 1), none, 0⟩,
 ⟨none, .mv 4 (.t 17), none, 0⟩]
def c85r7 : List SI := [
 ⟨none, .mv 24 (.t 3), none, 0⟩,
 ⟨none, .mv 2 (.t 24), none, 0⟩]
def c85 : SC :=
 (.seq (.reg false c85r0)
 (.seq (.seq (.reg false c85r1)
 (.cond (.t 7)
  .dead
  .skip))
 (.seq (.reg false c85r2)
 (.seq (.seq (.reg false c85r3)
 (.blk 0 (.loop (.seq (.seq (.reg false c85r4)
   (.cond (.t 15)
    .skip
    (.exit 0)))
   (.seq (.blk 1 (.reg false c85r5))
   (.reg false c85r6))))))
 (.seq (.reg false c85r7)
 .ret)))))
def v85 : List Nat × List Nat := ([], [])
def o85 : List RS := [.t 2]
theorem s85 : slimC Try.prog Try.f85.ntmps v85.1 v85.2 ((Try.f85.body).getD .skip) = some c85 := by kernel_rfl
theorem q85 : slimR Try.prog Try.f85.ntmps v85.1 v85.2 Try.f85.results.toList = some o85 := by kernel_rfl
-- watermeet/rec.in N=9
def c86r0 : List SI := [
 ⟨none, .mv 2 (.b false), none, 0⟩]
def c86r1 : List SI := [
 ⟨none, .mv 3 (.t 0), none, 0⟩,
 ⟨none, .bin 4 .geq (.t 3) (.i 0), none, 0⟩,
 ⟨none, .mv 5 (.t 4), none, 0⟩,
 ⟨some (5, true), .mv 6 (.t 0), none, 6⟩,
 ⟨some (5, true), .bin 7 .leq (.t 6) (.i 1099511627776), none, 7⟩,
 ⟨none, .pick 8 (.t 5) (.t 7) (.b false), none, 0⟩,
 ⟨none, .mv 2 (.t 8), none, 0⟩]
def c86 : SC :=
 (.seq (.reg false c86r0)
 (.seq (.reg false c86r1)
 .ret))
def v86 : List Nat × List Nat := ([], [])
def o86 : List RS := [.t 2]
theorem s86 : slimC Try.prog Try.f86.ntmps v86.1 v86.2 ((Try.f86.body).getD .skip) = some c86 := by kernel_rfl
theorem q86 : slimR Try.prog Try.f86.ntmps v86.1 v86.2 Try.f86.results.toList = some o86 := by kernel_rfl
-- watermeet/octet.PutText N=11
def c87r0 : List SI := [
 ⟨none, .mv 4 (.v (.slice none 0 0)), none, 0⟩]
def c87r1 : List SI := [
 ⟨none, .mv 5 (.t 0), none, 0⟩,
 ⟨none, .mv 6 (.t 1), none, 0⟩,
 ⟨none, .len 7 true (.t 6), none, 0⟩,
 ⟨none, .call 8 76 [(.t 5), (.t 7)], none, 0⟩,
 ⟨none, .mv 9 (.t 1), none, 0⟩,
 ⟨none, .app 10 (.t 8) (.t 9) 5 1 1, none, 0⟩,
 ⟨none, .mv 4 (.t 10), none, 0⟩]
def c87 : SC :=
 (.seq (.reg false c87r0)
 (.seq (.reg false c87r1)
 .ret))
def v87 : List Nat × List Nat := ([], [])
def o87 : List RS := [.t 4]
theorem s87 : slimC Try.prog Try.f87.ntmps v87.1 v87.2 ((Try.f87.body).getD .skip) = some c87 := by kernel_rfl
theorem q87 : slimR Try.prog Try.f87.ntmps v87.1 v87.2 Try.f87.results.toList = some o87 := by kernel_rfl
-- watermeet/crc.Sum N=21
def c88r0 : List SI := [
 ⟨none, .mv 2 (.v (.int .u32 0)), none, 0⟩]
def c88r1 : List SI := [
 ⟨none, .call 7 93 [], none, 0⟩,
 ⟨none, .mv 3 (.t 7), none, 0⟩]
def c88r2 : List SI := [
 ⟨none, .mv 4 (.v (.int .u32 4294967295)), none, 0⟩]
def c88r3 : List SI := [
 ⟨none, .mv 8 (.t 0), none, 0⟩,
 ⟨none, .len 9 false (.t 8), none, 0⟩,
 ⟨none, .mv 10 (.i 0), none, 0⟩]
def c88r4 : List SI := [
 ⟨none, .bin 11 .lss (.t 10) (.t 9), none, 0⟩]
def c88r5 : List SI := [
 ⟨none, .ixA 12 (.t 8) (.t 10) 1, none, 0⟩,
 ⟨none, .ld 13 (.t 12) none, none, 0⟩,
 ⟨none, .mv 6 (.t 13), none, 0⟩]
def c88r6 : List SI := [
 ⟨none, .mv 14 (.t 3), none, 0⟩,
 ⟨none, .mv 15 (.t 4), none, 0⟩,
 ⟨none, .mv 16 (.t 6), none, 0⟩,
 ⟨none, .cav 17 (.t 14) [(.t 15), (.t 16)], none, 0⟩,
 ⟨none, .mv 4 (.t 17), none, 0⟩]
def c88r7 : List SI := [
 ⟨none, .bin 18 .add (.t 10) (.i 1), none, 0⟩,
 ⟨none, .mv 10 (.t 18), none, 0⟩]
def c88r8 : List SI := [
 ⟨none, .mv 19 (.t 4), none, 0⟩,
 ⟨none, .un 20 .xor (.t 19), none, 0⟩,
 ⟨none, .mv 2 (.t 20), none, 0⟩]
def c88 : SC :=
 (.seq (.reg false c88r0)
 (.seq (.reg false c88r1)
 (.seq (.reg false c88r2)
 (.seq (.seq (.reg false c88r3)
 (.blk 0 (.loop (.seq (.reg false c88r4)
   (.seq (.cond (.t 11)
    .skip
    (.exit 0))
   (.seq (.blk 1 (.seq (.reg false c88r5)
    (.reg false c88r6)))
   (.reg false c88r7)))))))
 (.seq (.reg false c88r8)
 .ret)))))
def v88 : List Nat × List Nat := ([], [])
def o88 : List RS := [.t 2]
theorem s88 : slimC Try.prog Try.f88.ntmps v88.1 v88.2 ((Try.f88.body).getD .skip) = some c88 := by kernel_rfl
theorem q88 : slimR Try.prog Try.f88.ntmps v88.1 v88.2 Try.f88.results.toList = some o88 := by kernel_rfl
-- watermeet/octet.from N=11
def c89r0 : List SI := [
 ⟨none, .mv 4 (.v (.slice none 0 0)), none, 0⟩]
def c89r1 : List SI := [
 ⟨none, .mv 5 (.t 0), none, 0⟩,
 ⟨none, .mv 6 (.t 1), none, 0⟩,
 ⟨none, .mv 7 (.t 0), none, 0⟩,
 ⟨none, .len 8 false (.t 7), none, 0⟩,
 ⟨none, .mm 9 false (.t 6) (.t 8), none, 0⟩,
 ⟨none, .sl 10 (.t 5) (some (.t 9)) none none 1, none, 0⟩,
 ⟨none, .mv 4 (.t 10), none, 0⟩]
def c89 : SC :=
 (.seq (.reg false c89r0)
 (.seq (.reg false c89r1)
 .ret))
def v89 : List Nat × List Nat := ([], [])
def o89 : List RS := [.t 4]
theorem s89 : slimC Try.prog Try.f89.ntmps v89.1 v89.2 ((Try.f89.body).getD .skip) = some c89 := by kernel_rfl
theorem q89 : slimR Try.prog Try.f89.ntmps v89.1 v89.2 Try.f89.results.toList = some o89 := by kernel_rfl
-- watermeet/batch.parse$1 N=18
def c90r0 : List SI := [
 ⟨none, .mv 3 (.i 0), none, 0⟩]
def c90r1 : List SI := [
 ⟨none, .ld 8 (.t 0) none, none, 0⟩,
 ⟨none, .ld 9 (.t 1) none, none, 0⟩,
 ⟨none, .call 10 91 [(.t 8), (.t 9)], none, 0⟩,
 ⟨none, .mv 7 (.t 10), none, 0⟩,
 ⟨none, .ext 11 (.t 7) 0, none, 0⟩,
 ⟨none, .ext 12 (.t 7) 1, none, 0⟩,
 ⟨none, .ext 13 (.t 7) 2, none, 0⟩,
 ⟨none, .mv 4 (.t 11), none, 0⟩,
 ⟨none, .mv 5 (.t 12), none, 0⟩,
 ⟨none, .mv 6 (.t 13), none, 0⟩]
def c90r2 : List SI := [
 ⟨none, .mv 14 (.t 6), none, 0⟩,
 ⟨none, .bin 15 .neq (.t 14) (.i 0), none, 0⟩]
def c90r3 : List SI := [
 ⟨none, .st (.t 2) 1 (.b false), none, 0⟩]
def c90r4 : List SI := [
 ⟨none, .mv 3 (.i 0), none, 0⟩]
def c90r5 : List SI := [
 ⟨none, .mv 16 (.t 5), none, 0⟩,
 ⟨none, .st (.t 1) 1 (.t 16), none, 0⟩]
def c90r6 : List SI := [
 ⟨none, .mv 17 (.t 4), none, 0⟩,
 ⟨none, .mv 3 (.t 17), none, 0⟩]
def c90 : SC :=
 (.seq (.reg false c90r0)
 (.seq (.reg false c90r1)
 (.seq (.seq (.reg false c90r2)
 (.cond (.t 15)
  (.seq (.reg false c90r3)
  (.seq (.reg false c90r4)
  .ret))
  .skip))
 (.seq (.reg false c90r5)
 (.seq (.reg false c90r6)
 .ret)))))
def v90 : List Nat × List Nat := ([], [])
def o90 : List RS := [.t 3]
theorem s90 : slimC Try.prog Try.f90.ntmps v90.1 v90.2 ((Try.f90.body).getD .skip) = some c90 := by kernel_rfl
theorem q90 : slimR Try.prog Try.f90.ntmps v90.1 v90.2 Try.f90.results.toList = some o90 := by kernel_rfl
-- watermeet/octet.GetVar N=58
def c91r0 : List SI := [
 ⟨none, .mv 4 (.i 0), none, 0⟩,
 ⟨none, .mv 5 (.i 0), none, 0⟩,
 ⟨none, .mv 6 (.i 0), none, 0⟩]
def c91r1 : List SI := [
 ⟨none, .mv 10 (.t 1), none, 0⟩,
 ⟨none, .bin 11 .lss (.t 10) (.i 0), none, 0⟩]
def c91r2 : List SI := [
 ⟨none, .mv 4 (.i 0), none, 0⟩,
 ⟨none, .mv 5 (.i 0), none, 0⟩,
 ⟨none, .mv 6 (.i 1), none, 0⟩]
def c91r3 : List SI := [
 ⟨none, .mv 7 (.v (.int .u64 0)), none, 0⟩]
def c91r4 : List SI := [
 ⟨none, .mv 12 (.t 0), none, 0⟩,
 ⟨none, .mv 13 (.t 1), none, 0⟩,
 ⟨none, .call 14 89 [(.t 12), (.t 13)], none, 0⟩,
 ⟨none, .len 15 false (.t 14), none, 0⟩,
 ⟨none, .mv 16 (.i 0), none, 0⟩]
def c91r5 : List SI := [
 ⟨none, .bin 17 .lss (.t 16) (.t 15), none, 0⟩]
def c91r6 : List SI := [
 ⟨none, .mv 18 (.t 16), none, 0⟩,
 ⟨none, .ixA 19 (.t 14) (.t 16) 1, none, 0⟩,
 ⟨none, .ld 20 (.t 19) none, none, 0⟩,
 ⟨none, .mv 8 (.t 18), none, 0⟩,
 ⟨none, .mv 9 (.t 20), none, 0⟩]
def c91r7 : List SI := [
 ⟨none, .mv 21 (.t 8), none, 0⟩,
 ⟨none, .bin 22 .eql (.t 21) (.i 9), none, 0⟩,
 ⟨none, .mv 23 (.t 22), none, 0⟩,
 ⟨some (23, true), .mv 24 (.t 9), none, 24⟩,
 ⟨some (23, true), .bin 25 .gtr (.t 24) (.v (.int .u8 1)), none, 25⟩,
 ⟨none, .pick 26 (.t 23) (.t 25) (.b false), none, 0⟩,
 ⟨none, .mv 27 (.t 26), none, 0⟩,
 ⟨some (27, false), .mv 28 (.t 8), none, 28⟩,
 ⟨some (27, false), .bin 29 .gtr (.t 28) (.i 0), none, 29⟩,
 ⟨some (27, false), .mv 30 (.t 29), none, 30⟩,
 ⟨some (30, true), .mv 31 (.t 9), none, 31⟩,
 ⟨some (30, true), .bin 32 .eql (.t 31) (.v (.int .u8 0)), none, 32⟩,
 ⟨some (27, false), .pick 33 (.t 30) (.t 32) (.b false), none, 33⟩,
 ⟨none, .pick 34 (.t 27) (.b true) (.t 33), none, 0⟩]
def c91r8 : List SI := [
 ⟨none, .mv 4 (.i 0), none, 0⟩,
 ⟨none, .mv 5 (.i 0), none, 0⟩,
 ⟨none, .mv 6 (.i 11), none, 0⟩]
def c91r9 : List SI := [
 ⟨none, .mv 35 (.t 7), none, 0⟩,
 ⟨none, .mv 36 (.t 9), none, 0⟩,
 ⟨none, .bin 37 .and (.t 36) (.v (.int .u8 127)), none, 0⟩,
 ⟨none, .cvI 38 .u64 (.t 37), none, 0⟩,
 ⟨none, .mv 39 (.t 8), none, 0⟩,
 ⟨none, .bin 40 .mul (.i 7) (.t 39), none, 0⟩,
 ⟨none, .bin 41 .shl (.t 38) (.t 40), none, 0⟩,
 ⟨none, .bin 42 .or (.t 35) (.t 41), none, 0⟩,
 ⟨none, .mv 7 (.t 42), none, 0⟩]
def c91r10 : List SI := [
 ⟨none, .mv 43 (.t 9), none, 0⟩,
 ⟨none, .bin 44 .lss (.t 43) (.v (.int .u8 128)), none, 0⟩]
def c91r11 : List SI := [
 ⟨none, .mv 45 (.t 7), none, 0⟩,
 ⟨none, .bin 46 .shr (.t 45) (.v (.int .u64 1)), none, 0⟩,
 ⟨none, .cvI 47 .i64 (.t 46), none, 0⟩,
 ⟨none, .mv 48 (.t 7), none, 0⟩,
 ⟨none, .bin 49 .and (.t 48) (.v (.int .u64 1)), none, 0⟩,
 ⟨none, .cvI 50 .i64 (.t 49), none, 0⟩,
 ⟨none, .un 51 .neg (.t 50), none, 0⟩,
 ⟨none, .bin 52 .xor (.t 47) (.t 51), none, 0⟩,
 ⟨none, .mv 53 (.t 1), none, 0⟩,
 ⟨none, .mv 54 (.t 8), none, 0⟩,
 ⟨none, .bin 55 .add (.t 53) (.t 54), none, 0⟩,
 ⟨none, .bin 56 .add (.t 55) (.i 1), none, 0⟩,
 ⟨none, .mv 4 (.t 52), none, 0⟩,
 ⟨none, .mv 5 (.t 56), none, 0⟩,
 ⟨none, .mv 6 (.i 0), none, 0⟩]
def c91r12 : List SI := [
 ⟨none, .bin 57 .add (.t 16) (.i 1), none, 0⟩,
 ⟨none, .mv 16 (.t 57), none, 0⟩]
def c91r13 : List SI := [
 ⟨none, .mv 4 (.i 0), none, 0⟩,
 ⟨none, .mv 5 (.i 0), none, 0⟩,
 ⟨none, .mv 6 (.i 10), none, 0⟩]
def c91 : SC :=
 (.seq (.reg false c91r0)
 (.seq (.seq (.reg false c91r1)
 (.cond (.t 11)
  (.seq (.reg false c91r2)
  .ret)
  .skip))
 (.seq (.reg false c91r3)
 (.seq (.seq (.reg false c91r4)
 (.blk 0 (.loop (.seq (.reg false c91r5)
   (.seq (.cond (.t 17)
    .skip
    (.exit 0))
   (.seq (.blk 1 (.seq (.reg false c91r6)
    (.seq (.seq (.reg false c91r7)
    (.cond (.t 34)
     (.seq (.reg false c91r8)
     .ret)
     .skip))
    (.seq (.reg false c91r9)
    (.seq (.reg false c91r10)
    (.cond (.t 44)
     (.seq (.reg false c91r11)
     .ret)
     .skip))))))
   (.reg false c91r12)))))))
 (.seq (.reg false c91r13)
 .ret)))))
def v91 : List Nat × List Nat := ([], [])
def o91 : List RS := [.t 4, .t 5, .t 6]
theorem s91 : slimC Try.prog Try.f91.ntmps v91.1 v91.2 ((Try.f91.body).getD .skip) = some c91 := by kernel_rfl
theorem q91 : slimR Try.prog Try.f91.ntmps v91.1 v91.2 Try.f91.results.toList = some o91 := by kernel_rfl
-- watermeet/rec.Get N=82
def c92r0 : List SI := [
 ⟨none, .alR 8 [(.int .i64 0), (.string ⟨#[]⟩), (.string ⟨#[]⟩), (.bool false), (.int .i64 0)], none, 0⟩,
 ⟨none, .mv 9 (.i 0), none, 0⟩,
 ⟨none, .mv 10 (.i 0), none, 0⟩]
def c92r1 : List SI := [
 ⟨none, .mv 13 (.t 2), none, 0⟩,
 ⟨none, .call 14 86 [(.t 13)], none, 0⟩,
 ⟨none, .un 15 .not (.t 14), none, 0⟩,
 ⟨none, .mv 16 (.t 15), none, 0⟩,
 ⟨some (16, false), .mv 17 (.t 3), none, 17⟩,
 ⟨some (16, false), .call 18 86 [(.t 17)], none, 18⟩,
 ⟨some (16, false), .un 19 .not (.t 18), none, 19⟩,
 ⟨none, .pick 20 (.t 16) (.b true) (.t 19), none, 0⟩,
 ⟨none, .mv 21 (.t 20), none, 0⟩,
 ⟨some (21, false), .mv 22 (.t 1), none, 22⟩,
 ⟨some (21, false), .bin 23 .lss (.t 22) (.i 0), none, 23⟩,
 ⟨none, .pick 24 (.t 21) (.b true) (.t 23), none, 0⟩,
 ⟨none, .mv 25 (.t 24), none, 0⟩,
 ⟨some (25, false), .mv 26 (.t 1), none, 26⟩,
 ⟨some (25, false), .mv 27 (.t 0), none, 27⟩,
 ⟨some (25, false), .len 28 false (.t 27), none, 28⟩,
 ⟨some (25, false), .bin 29 .gtr (.t 26) (.t 28), none, 29⟩,
 ⟨none, .pick 30 (.t 25) (.b true) (.t 29), none, 0⟩]
def c92r2 : List SI := [
 ⟨none, .bld 31 [(.int .i64 0), (.string ⟨#[]⟩), (.string ⟨#[]⟩), (.bool false), (.int .i64 0)] [], none, 0⟩,
 ⟨none, .stR 8 0 5 (.t 31), none, 0⟩,
 ⟨none, .mv 9 (.i 0), none, 0⟩,
 ⟨none, .mv 10 (.i 1), none, 0⟩]
def c92r3 : List SI := [
 ⟨none, .mv 32 (.t 0), none, 0⟩,
 ⟨none, .mv 33 (.t 1), none, 0⟩,
 ⟨none, .bld 34 [(.slice none 0 0), (.int .i64 0), (.int .i64 0)] [(0, 1, (.t 32)), (1, 1, (.t 33))], none, 0⟩,
 ⟨none, .bx 35 (.t 34), none, 0⟩,
 ⟨none, .mv 11 (.t 35), none, 0⟩]
def c92r4 : List SI := [
 ⟨none, .mv 12 (.v (.func (.func 94) #[] #[])), none, 0⟩]
def c92r5 : List SI := [
 ⟨none, .mv 36 (.t 2), none, 0⟩,
 ⟨none, .mv 37 (.t 11), none, 0⟩,
 ⟨none, .call 38 97 [(.t 37), (.v (.func (.func 91) #[] #[]))], none, 0⟩,
 ⟨none, .call 39 96 [(.t 36), (.t 38)], none, 0⟩,
 ⟨none, .nop, (some 8), 0⟩,
 ⟨none, .stR 8 0 1 (.t 39), none, 0⟩]
def c92r6 : List SI := [
 ⟨none, .mv 41 (.t 3), none, 0⟩,
 ⟨none, .mv 42 (.t 11), none, 0⟩,
 ⟨none, .call 43 97 [(.t 42), (.v (.func (.func 91) #[] #[]))], none, 0⟩,
 ⟨none, .call 44 96 [(.t 41), (.t 43)], none, 0⟩,
 ⟨none, .nop, (some 8), 0⟩,
 ⟨none, .stR 8 4 1 (.t 44), none, 0⟩]
def c92r7 : List SI := [
 ⟨none, .mv 46 (.t 11), none, 0⟩,
 ⟨none, .call 47 98 [(.t 46), (.v (.func (.func 99) #[] #[]))], none, 0⟩,
 ⟨none, .nop, (some 8), 0⟩,
 ⟨none, .stR 8 3 1 (.t 47), none, 0⟩]
def c92r8 : List SI := [
 ⟨none, .mv 49 (.t 11), none, 0⟩,
 ⟨none, .mv 50 (.t 12), none, 0⟩,
 ⟨none, .call 51 100 [(.t 49), (.t 50)], none, 0⟩,
 ⟨none, .mv 52 (.t 11), none, 0⟩,
 ⟨none, .mv 53 (.t 12), none, 0⟩,
 ⟨none, .call 54 100 [(.t 52), (.t 53)], none, 0⟩,
 ⟨none, .nop, (some 8), 0⟩,
 ⟨none, .stR 8 1 1 (.t 51), none, 0⟩,
 ⟨none, .nop, (some 8), 0⟩,
 ⟨none, .stR 8 2 1 (.t 54), none, 0⟩]
def c92r9 : List SI := [
 ⟨none, .mv 57 (.t 11), none, 0⟩,
 ⟨none, .nck 58 (.t 57), none, 0⟩,
 ⟨none, .flA 59 (.t 58) 2, none, 0⟩,
 ⟨none, .ld 60 (.t 59) none, none, 0⟩,
 ⟨none, .bin 61 .eql (.t 60) (.i 0), none, 0⟩]
def c92r10 : List SI := [
 ⟨none, .mv 62 (.t 11), none, 0⟩,
 ⟨none, .ldR 63 8 0 (some 5), none, 0⟩,
 ⟨none, .call 64 75 [(.t 63)], none, 0⟩,
 ⟨none, .nck 65 (.t 62), none, 0⟩,
 ⟨none, .flA 66 (.t 65) 2, none, 0⟩,
 ⟨none, .st (.t 66) 1 (.t 64), none, 0⟩]
def c92r11 : List SI := [
 ⟨none, .mv 67 (.t 11), none, 0⟩,
 ⟨none, .nck 68 (.t 67), none, 0⟩,
 ⟨none, .flA 69 (.t 68) 2, none, 0⟩,
 ⟨none, .ld 70 (.t 69) none, none, 0⟩,
 ⟨none, .bin 71 .neq (.t 70) (.i 0), none, 0⟩]
def c92r12 : List WI := [
 (true, false, ⟨none, .bld 72 [(.int .i64 0), (.string ⟨#[]⟩), (.string ⟨#[]⟩), (.bool false), (.int .i64 0)] [], none, 0⟩),
 (true, false, ⟨none, .mv 73 (.t 11), none, 0⟩),
 (true, false, ⟨none, .nck 74 (.t 73), none, 0⟩),
 (true, false, ⟨none, .flA 75 (.t 74) 2, none, 0⟩),
 (true, false, ⟨none, .ld 76 (.t 75) none, none, 0⟩),
 (false, false, ⟨none, .stR 8 0 5 (.t 72), none, 0⟩),
 (true, false, ⟨none, .mv 9 (.i 0), none, 0⟩),
 (true, false, ⟨none, .mv 10 (.t 76), none, 0⟩)]
def c92r13 : List WI := [
 (true, false, ⟨none, .ldR 77 8 0 (some 5), none, 0⟩),
 (true, false, ⟨none, .mv 78 (.t 11), none, 0⟩),
 (true, false, ⟨none, .nck 79 (.t 78), none, 0⟩),
 (true, false, ⟨none, .flA 80 (.t 79) 1, none, 0⟩),
 (true, false, ⟨none, .ld 81 (.t 80) none, none, 0⟩),
 (false, false, ⟨none, .stR 8 0 5 (.t 77), none, 0⟩),
 (true, false, ⟨none, .mv 9 (.t 81), none, 0⟩),
 (true, false, ⟨none, .mv 10 (.i 0), none, 0⟩)]
def c92 : SC :=
 (.seq (.reg false c92r0)
 (.seq (.seq (.reg false c92r1)
 (.cond (.t 30)
  (.seq (.reg false c92r2)
  .ret)
  .skip))
 (.seq (.reg false c92r3)
 (.seq (.reg false c92r4)
 (.seq (.reg false c92r5)
 (.seq (.reg false c92r6)
 (.seq (.reg false c92r7)
 (.seq (.reg false c92r8)
 (.seq (.seq (.reg false c92r9)
 (.cond (.t 61)
  (.reg false c92r10)
  .skip))
 (.seq (.seq (.reg false c92r11)
 (.cond (.t 71)
  (.seq (.rgW c92r12)
  .ret)
  .skip))
 (.seq (.rgW c92r13)
 .ret)))))))))))
def v92 : List Nat × List Nat := ([8], [8, 40, 45, 48, 55, 56])
def o92 : List RS := [.r 8 (some 5), .t 9, .t 10]
theorem s92 : slimC Try.prog Try.f92.ntmps v92.1 v92.2 ((Try.f92.body).getD .skip) = some c92 := by kernel_rfl
theorem q92 : slimR Try.prog Try.f92.ntmps v92.1 v92.2 Try.f92.results.toList = some o92 := by kernel_rfl
-- watermeet/crc.adder N=13
def c93r0 : List SI := [
 ⟨none, .mv 0 (.v .nilFunc), none, 0⟩]
def c93r1 : List SI := [
 ⟨none, .al 1 [(.int .u32 0), (.int .u32 0), (.int .u32 0), (.int .u32 0), (.int .u32 0), (.int .u32 0), (.int .u32 0), (.int .u32 0), (.int .u32 0), (.int .u32 0), (.int .u32 0), (.int .u32 0), (.int .u32 0), (.int .u32 0), (.int .u32 0), (.int .u32 0)], none, 0⟩]
def c93r2 : List SI := [
 ⟨none, .mv 3 (.i 0), none, 0⟩]
def c93r3 : List SI := [
 ⟨none, .bin 4 .lss (.t 3) (.i 16), none, 0⟩]
def c93r4 : List SI := [
 ⟨none, .mv 5 (.t 3), none, 0⟩,
 ⟨none, .mv 2 (.t 5), none, 0⟩]
def c93r5 : List SI := [
 ⟨none, .mv 6 (.t 2), none, 0⟩,
 ⟨none, .mv 7 (.t 2), none, 0⟩,
 ⟨none, .cvI 8 .u32 (.t 7), none, 0⟩,
 ⟨none, .call 9 101 [(.t 8)], none, 0⟩,
 ⟨none, .ixP 10 (.t 1) (.t 6) 16 1, none, 0⟩,
 ⟨none, .st (.t 10) 1 (.t 9), none, 0⟩]
def c93r6 : List SI := [
 ⟨none, .bin 11 .add (.t 3) (.i 1), none, 0⟩,
 ⟨none, .mv 3 (.t 11), none, 0⟩]
def c93r7 : List SI := [
 ⟨none, .mkf 12 (.func 102) [(.t 1)], none, 0⟩,
 ⟨none, .mv 0 (.t 12), none, 0⟩]
def c93 : SC :=
 (.seq (.reg false c93r0)
 (.seq (.reg false c93r1)
 (.seq (.seq (.reg false c93r2)
 (.blk 0 (.loop (.seq (.reg false c93r3)
   (.seq (.cond (.t 4)
    .skip
    (.exit 0))
   (.seq (.blk 1 (.seq (.reg false c93r4)
    (.reg false c93r5)))
   (.reg false c93r6)))))))
 (.seq (.reg false c93r7)
 .ret))))
def v93 : List Nat × List Nat := ([], [])
def o93 : List RS := [.t 0]
theorem s93 : slimC Try.prog Try.f93.ntmps v93.1 v93.2 ((Try.f93.body).getD .skip) = some c93 := by kernel_rfl
theorem q93 : slimR Try.prog Try.f93.ntmps v93.1 v93.2 Try.f93.results.toList = some o93 := by kernel_rfl
-- watermeet/rec.Get$1 N=13
def c94r0 : List SI := [
 ⟨none, .mv 4 (.v (.string ⟨#[]⟩)), none, 0⟩,
 ⟨none, .mv 5 (.i 0), none, 0⟩,
 ⟨none, .mv 6 (.i 0), none, 0⟩]
def c94r1 : List SI := [
 ⟨none, .mv 7 (.t 0), none, 0⟩,
 ⟨none, .mv 8 (.t 1), none, 0⟩,
 ⟨none, .call 9 95 [(.t 7), (.t 8), (.i 64)], none, 0⟩,
 ⟨none, .ext 10 (.t 9) 0, none, 0⟩,
 ⟨none, .ext 11 (.t 9) 1, none, 0⟩,
 ⟨none, .ext 12 (.t 9) 2, none, 0⟩,
 ⟨none, .mv 4 (.t 10), none, 0⟩,
 ⟨none, .mv 5 (.t 11), none, 0⟩,
 ⟨none, .mv 6 (.t 12), none, 0⟩]
def c94 : SC :=
 (.seq (.reg false c94r0)
 (.seq (.reg false c94r1)
 .ret))
def v94 : List Nat × List Nat := ([], [])
def o94 : List RS := [.t 4, .t 5, .t 6]
theorem s94 : slimC Try.prog Try.f94.ntmps v94.1 v94.2 ((Try.f94.body).getD .skip) = some c94 := by kernel_rfl
theorem q94 : slimR Try.prog Try.f94.ntmps v94.1 v94.2 Try.f94.results.toList = some o94 := by kernel_rfl
-- watermeet/octet.GetText N=45
def c95r0 : List SI := [
 ⟨none, .mv 6 (.v (.string ⟨#[]⟩)), none, 0⟩,
 ⟨none, .mv 7 (.i 0), none, 0⟩,
 ⟨none, .mv 8 (.i 0), none, 0⟩]
def c95r1 : List SI := [
 ⟨none, .mv 11 (.t 0), none, 0⟩,
 ⟨none, .mv 12 (.t 1), none, 0⟩,
 ⟨none, .call 13 91 [(.t 11), (.t 12)], none, 0⟩,
 ⟨none, .mv 10 (.t 13), none, 0⟩,
 ⟨none, .ext 14 (.t 10) 0, none, 0⟩,
 ⟨none, .ext 15 (.t 10) 1, none, 0⟩,
 ⟨none, .ext 16 (.t 10) 2, none, 0⟩,
 ⟨none, .mv 9 (.t 14), none, 0⟩,
 ⟨none, .mv 7 (.t 15), none, 0⟩,
 ⟨none, .mv 8 (.t 16), none, 0⟩]
def c95r2 : List SI := [
 ⟨none, .mv 18 (.t 8), none, 0⟩,
 ⟨none, .bin 19 .neq (.t 18) (.i 0), none, 0⟩,
 ⟨none, .mv 17 (.t 19), none, 0⟩]
def c95r3 : List SI := [
 ⟨none, .mv 20 (.t 8), none, 0⟩,
 ⟨none, .mv 6 (.v (.string ⟨#[]⟩)), none, 0⟩,
 ⟨none, .mv 7 (.i 0), none, 0⟩,
 ⟨none, .mv 8 (.t 20), none, 0⟩]
def c95r4 : List SI := [
 ⟨none, .mv 22 (.t 9), none, 0⟩,
 ⟨none, .bin 23 .lss (.t 22) (.i 0), none, 0⟩,
 ⟨none, .mv 21 (.t 23), none, 0⟩]
def c95r5 : List SI := [
 ⟨none, .mv 6 (.v (.string ⟨#[]⟩)), none, 0⟩,
 ⟨none, .mv 7 (.i 0), none, 0⟩,
 ⟨none, .mv 8 (.i 11), none, 0⟩]
def c95r6 : List SI := [
 ⟨none, .mv 25 (.t 9), none, 0⟩,
 ⟨none, .mv 26 (.t 2), none, 0⟩,
 ⟨none, .bin 27 .gtr (.t 25) (.t 26), none, 0⟩,
 ⟨none, .mv 24 (.t 27), none, 0⟩]
def c95r7 : List SI := [
 ⟨none, .mv 6 (.v (.string ⟨#[]⟩)), none, 0⟩,
 ⟨none, .mv 7 (.i 0), none, 0⟩,
 ⟨none, .mv 8 (.i 2), none, 0⟩]
def c95r8 : List SI := [
 ⟨none, .mv 29 (.t 9), none, 0⟩,
 ⟨none, .mv 30 (.t 0), none, 0⟩,
 ⟨none, .len 31 false (.t 30), none, 0⟩,
 ⟨none, .mv 32 (.t 7), none, 0⟩,
 ⟨none, .bin 33 .sub (.t 31) (.t 32), none, 0⟩,
 ⟨none, .bin 34 .gtr (.t 29) (.t 33), none, 0⟩,
 ⟨none, .mv 28 (.t 34), none, 0⟩]
def c95r9 : List SI := [
 ⟨none, .mv 6 (.v (.string ⟨#[]⟩)), none, 0⟩,
 ⟨none, .mv 7 (.i 0), none, 0⟩,
 ⟨none, .mv 8 (.i 10), none, 0⟩]
def c95r10 : List SI := [
 ⟨none, .mv 35 (.t 0), none, 0⟩,
 ⟨none, .mv 36 (.t 7), none, 0⟩,
 ⟨none, .mv 37 (.t 7), none, 0⟩,
 ⟨none, .mv 38 (.t 9), none, 0⟩,
 ⟨none, .bin 39 .add (.t 37) (.t 38), none, 0⟩,
 ⟨none, .sl 40 (.t 35) (some (.t 36)) (some (.t 39)) none 1, none, 0⟩,
 ⟨none, .cvS 41 (.t 40), none, 0⟩,
 ⟨none, .mv 42 (.t 7), none, 0⟩,
 ⟨none, .mv 43 (.t 9), none, 0⟩,
 ⟨none, .bin 44 .add (.t 42) (.t 43), none, 0⟩,
 ⟨none, .mv 6 (.t 41), none, 0⟩,
 ⟨none, .mv 7 (.t 44), none, 0⟩,
 ⟨none, .mv 8 (.i 0), none, 0⟩]
def c95 : SC :=
 (.seq (.reg false c95r0)
 (.seq (.reg false c95r1)
 (.seq (.blk 0 (.seq (.reg false c95r2)
  (.cond (.t 17)
   (.seq (.reg false c95r3)
   .ret)
   (.seq (.reg false c95r4)
   (.cond (.t 21)
    (.seq (.reg false c95r5)
    .ret)
    (.seq (.reg false c95r6)
    (.cond (.t 24)
     (.seq (.reg false c95r7)
     .ret)
     (.seq (.reg false c95r8)
     (.cond (.t 28)
      (.seq (.reg false c95r9)
      .ret)
      .skip)))))))))
 (.seq (.reg false c95r10)
 .ret))))
def v95 : List Nat × List Nat := ([], [])
def o95 : List RS := [.t 6, .t 7, .t 8]
theorem s95 : slimC Try.prog Try.f95.ntmps v95.1 v95.2 ((Try.f95.body).getD .skip) = some c95 := by kernel_rfl
theorem q95 : slimR Try.prog Try.f95.ntmps v95.1 v95.2 Try.f95.results.toList = some o95 := by kernel_rfl
-- watermeet/rec.beside N=14
def c96r0 : List SI := [
 ⟨none, .mv 4 (.i 0), none, 0⟩]
def c96r1 : List SI := [
 ⟨none, .mv 5 (.t 1), none, 0⟩,
 ⟨none, .bin 6 .lss (.t 5) (.i (-1099511627776)), none, 0⟩,
 ⟨none, .mv 7 (.t 6), none, 0⟩,
 ⟨some (7, false), .mv 8 (.t 1), none, 8⟩,
 ⟨some (7, false), .bin 9 .gtr (.t 8) (.i 1099511627776), none, 9⟩,
 ⟨none, .pick 10 (.t 7) (.b true) (.t 9), none, 0⟩]
def c96r2 : List SI := [
 ⟨none, .mv 4 (.i (-1)), none, 0⟩]
def c96r3 : List SI := [
 ⟨none, .mv 11 (.t 0), none, 0⟩,
 ⟨none, .mv 12 (.t 1), none, 0⟩,
 ⟨none, .bin 13 .add (.t 11) (.t 12), none, 0⟩,
 ⟨none, .mv 4 (.t 13), none, 0⟩]
def c96 : SC :=
 (.seq (.reg false c96r0)
 (.seq (.seq (.reg false c96r1)
 (.cond (.t 10)
  (.seq (.reg false c96r2)
  .ret)
  .skip))
 (.seq (.reg false c96r3)
 .ret)))
def v96 : List Nat × List Nat := ([], [])
def o96 : List RS := [.t 4]
theorem s96 : slimC Try.prog Try.f96.ntmps v96.1 v96.2 ((Try.f96.body).getD .skip) = some c96 := by kernel_rfl
theorem q96 : slimR Try.prog Try.f96.ntmps v96.1 v96.2 Try.f96.results.toList = some o96 := by kernel_rfl
-- watermeet/rec.field[int] N=32
def c97r0 : List SI := [
 ⟨none, .mv 4 (.i 0), none, 0⟩]
def c97r1 : List SI := [
 ⟨none, .mv 5 (.i 0), none, 0⟩]
def c97r2 : List SI := [
 ⟨none, .mv 6 (.t 0), none, 0⟩,
 ⟨none, .nck 7 (.t 6), none, 0⟩,
 ⟨none, .flA 8 (.t 7) 2, none, 0⟩,
 ⟨none, .ld 9 (.t 8) none, none, 0⟩,
 ⟨none, .bin 10 .eql (.t 9) (.i 0), none, 0⟩]
def c97r3 : List WI := [
 (true, false, ⟨none, .mv 12 (.t 0), none, 0⟩),
 (true, false, ⟨none, .mv 13 (.t 0), none, 0⟩),
 (true, false, ⟨none, .mv 14 (.t 1), none, 0⟩),
 (true, false, ⟨none, .mv 15 (.t 0), none, 0⟩),
 (true, false, ⟨none, .nck 16 (.t 15), none, 0⟩),
 (true, false, ⟨none, .flA 17 (.t 16) 0, none, 0⟩),
 (true, false, ⟨none, .ld 18 (.t 17) none, none, 0⟩),
 (true, false, ⟨none, .mv 19 (.t 0), none, 0⟩),
 (true, false, ⟨none, .nck 20 (.t 19), none, 0⟩),
 (true, false, ⟨none, .flA 21 (.t 20) 1, none, 0⟩),
 (true, false, ⟨none, .ld 22 (.t 21) none, none, 0⟩),
 (false, true, ⟨none, .cav 23 (.t 14) [(.t 18), (.t 22)], none, 0⟩),
 (true, false, ⟨none, .mv 11 (.t 23), none, 0⟩),
 (true, false, ⟨none, .ext 24 (.t 11) 0, none, 0⟩),
 (true, false, ⟨none, .ext 25 (.t 11) 1, none, 0⟩),
 (true, false, ⟨none, .ext 26 (.t 11) 2, none, 0⟩),
 (true, false, ⟨none, .mv 5 (.t 24), none, 0⟩),
 (true, false, ⟨none, .nck 27 (.t 12), none, 0⟩),
 (true, false, ⟨none, .flA 28 (.t 27) 1, none, 0⟩),
 (false, true, ⟨none, .st (.t 28) 1 (.t 25), none, 0⟩),
 (true, false, ⟨none, .nck 29 (.t 13), none, 0⟩),
 (true, false, ⟨none, .flA 30 (.t 29) 2, none, 0⟩),
 (false, true, ⟨none, .st (.t 30) 1 (.t 26), none, 0⟩)]
def c97r4 : List SI := [
 ⟨none, .mv 31 (.t 5), none, 0⟩,
 ⟨none, .mv 4 (.t 31), none, 0⟩]
def c97 : SC :=
 (.seq (.reg false c97r0)
 (.seq (.reg false c97r1)
 (.seq (.seq (.reg false c97r2)
 (.cond (.t 10)
  (.rgW c97r3)
  .skip))
 (.seq (.reg false c97r4)
 .ret))))
def v97 : List Nat × List Nat := ([], [])
def o97 : List RS := [.t 4]
theorem s97 : slimC Try.prog Try.f97.ntmps v97.1 v97.2 ((Try.f97.body).getD .skip) = some c97 := by kernel_rfl
theorem q97 : slimR Try.prog Try.f97.ntmps v97.1 v97.2 Try.f97.results.toList = some o97 := by kernel_rfl
-- watermeet/rec.field[bool] N=32
def c98r0 : List SI := [
 ⟨none, .mv 4 (.b false), none, 0⟩]
def c98r1 : List SI := [
 ⟨none, .mv 5 (.b false), none, 0⟩]
def c98r2 : List SI := [
 ⟨none, .mv 6 (.t 0), none, 0⟩,
 ⟨none, .nck 7 (.t 6), none, 0⟩,
 ⟨none, .flA 8 (.t 7) 2, none, 0⟩,
 ⟨none, .ld 9 (.t 8) none, none, 0⟩,
 ⟨none, .bin 10 .eql (.t 9) (.i 0), none, 0⟩]
def c98r3 : List WI := [
 (true, false, ⟨none, .mv 12 (.t 0), none, 0⟩),
 (true, false, ⟨none, .mv 13 (.t 0), none, 0⟩),
 (true, false, ⟨none, .mv 14 (.t 1), none, 0⟩),
 (true, false, ⟨none, .mv 15 (.t 0), none, 0⟩),
 (true, false, ⟨none, .nck 16 (.t 15), none, 0⟩),
 (true, false, ⟨none, .flA 17 (.t 16) 0, none, 0⟩),
 (true, false, ⟨none, .ld 18 (.t 17) none, none, 0⟩),
 (true, false, ⟨none, .mv 19 (.t 0), none, 0⟩),
 (true, false, ⟨none, .nck 20 (.t 19), none, 0⟩),
 (true, false, ⟨none, .flA 21 (.t 20) 1, none, 0⟩),
 (true, false, ⟨none, .ld 22 (.t 21) none, none, 0⟩),
 (false, true, ⟨none, .cav 23 (.t 14) [(.t 18), (.t 22)], none, 0⟩),
 (true, false, ⟨none, .mv 11 (.t 23), none, 0⟩),
 (true, false, ⟨none, .ext 24 (.t 11) 0, none, 0⟩),
 (true, false, ⟨none, .ext 25 (.t 11) 1, none, 0⟩),
 (true, false, ⟨none, .ext 26 (.t 11) 2, none, 0⟩),
 (true, false, ⟨none, .mv 5 (.t 24), none, 0⟩),
 (true, false, ⟨none, .nck 27 (.t 12), none, 0⟩),
 (true, false, ⟨none, .flA 28 (.t 27) 1, none, 0⟩),
 (false, true, ⟨none, .st (.t 28) 1 (.t 25), none, 0⟩),
 (true, false, ⟨none, .nck 29 (.t 13), none, 0⟩),
 (true, false, ⟨none, .flA 30 (.t 29) 2, none, 0⟩),
 (false, true, ⟨none, .st (.t 30) 1 (.t 26), none, 0⟩)]
def c98r4 : List SI := [
 ⟨none, .mv 31 (.t 5), none, 0⟩,
 ⟨none, .mv 4 (.t 31), none, 0⟩]
def c98 : SC :=
 (.seq (.reg false c98r0)
 (.seq (.reg false c98r1)
 (.seq (.seq (.reg false c98r2)
 (.cond (.t 10)
  (.rgW c98r3)
  .skip))
 (.seq (.reg false c98r4)
 .ret))))
def v98 : List Nat × List Nat := ([], [])
def o98 : List RS := [.t 4]
theorem s98 : slimC Try.prog Try.f98.ntmps v98.1 v98.2 ((Try.f98.body).getD .skip) = some c98 := by kernel_rfl
theorem q98 : slimR Try.prog Try.f98.ntmps v98.1 v98.2 Try.f98.results.toList = some o98 := by kernel_rfl
-- watermeet/rec.flag N=25
def c99r0 : List SI := [
 ⟨none, .mv 4 (.b false), none, 0⟩,
 ⟨none, .mv 5 (.i 0), none, 0⟩,
 ⟨none, .mv 6 (.i 0), none, 0⟩]
def c99r1 : List SI := [
 ⟨none, .mv 8 (.t 1), none, 0⟩,
 ⟨none, .mv 9 (.t 0), none, 0⟩,
 ⟨none, .len 10 false (.t 9), none, 0⟩,
 ⟨none, .bin 11 .geq (.t 8) (.t 10), none, 0⟩,
 ⟨none, .mv 7 (.t 11), none, 0⟩]
def c99r2 : List SI := [
 ⟨none, .mv 4 (.b false), none, 0⟩,
 ⟨none, .mv 5 (.i 0), none, 0⟩,
 ⟨none, .mv 6 (.i 10), none, 0⟩]
def c99r3 : List SI := [
 ⟨none, .mv 13 (.t 0), none, 0⟩,
 ⟨none, .mv 14 (.t 1), none, 0⟩,
 ⟨none, .ixA 15 (.t 13) (.t 14) 1, none, 0⟩,
 ⟨none, .ld 16 (.t 15) none, none, 0⟩,
 ⟨none, .bin 17 .gtr (.t 16) (.v (.int .u8 1)), none, 0⟩,
 ⟨none, .mv 12 (.t 17), none, 0⟩]
def c99r4 : List SI := [
 ⟨none, .mv 4 (.b false), none, 0⟩,
 ⟨none, .mv 5 (.i 0), none, 0⟩,
 ⟨none, .mv 6 (.i 11), none, 0⟩]
def c99r5 : List SI := [
 ⟨none, .mv 18 (.t 0), none, 0⟩,
 ⟨none, .mv 19 (.t 1), none, 0⟩,
 ⟨none, .ixA 20 (.t 18) (.t 19) 1, none, 0⟩,
 ⟨none, .ld 21 (.t 20) none, none, 0⟩,
 ⟨none, .bin 22 .eql (.t 21) (.v (.int .u8 1)), none, 0⟩,
 ⟨none, .mv 23 (.t 1), none, 0⟩,
 ⟨none, .bin 24 .add (.t 23) (.i 1), none, 0⟩,
 ⟨none, .mv 4 (.t 22), none, 0⟩,
 ⟨none, .mv 5 (.t 24), none, 0⟩,
 ⟨none, .mv 6 (.i 0), none, 0⟩]
def c99 : SC :=
 (.seq (.reg false c99r0)
 (.seq (.blk 0 (.seq (.reg false c99r1)
  (.cond (.t 7)
   (.seq (.reg false c99r2)
   .ret)
   (.seq (.reg false c99r3)
   (.cond (.t 12)
    (.seq (.reg false c99r4)
    .ret)
    .skip)))))
 (.seq (.reg false c99r5)
 .ret)))
def v99 : List Nat × List Nat := ([], [])
def o99 : List RS := [.t 4, .t 5, .t 6]
theorem s99 : slimC Try.prog Try.f99.ntmps v99.1 v99.2 ((Try.f99.body).getD .skip) = some c99 := by kernel_rfl
theorem q99 : slimR Try.prog Try.f99.ntmps v99.1 v99.2 Try.f99.results.toList = some o99 := by kernel_rfl
-- watermeet/rec.field[string] N=32
def c100r0 : List SI := [
 ⟨none, .mv 4 (.v (.string ⟨#[]⟩)), none, 0⟩]
def c100r1 : List SI := [
 ⟨none, .mv 5 (.v (.string ⟨#[]⟩)), none, 0⟩]
def c100r2 : List SI := [
 ⟨none, .mv 6 (.t 0), none, 0⟩,
 ⟨none, .nck 7 (.t 6), none, 0⟩,
 ⟨none, .flA 8 (.t 7) 2, none, 0⟩,
 ⟨none, .ld 9 (.t 8) none, none, 0⟩,
 ⟨none, .bin 10 .eql (.t 9) (.i 0), none, 0⟩]
def c100r3 : List WI := [
 (true, false, ⟨none, .mv 12 (.t 0), none, 0⟩),
 (true, false, ⟨none, .mv 13 (.t 0), none, 0⟩),
 (true, false, ⟨none, .mv 14 (.t 1), none, 0⟩),
 (true, false, ⟨none, .mv 15 (.t 0), none, 0⟩),
 (true, false, ⟨none, .nck 16 (.t 15), none, 0⟩),
 (true, false, ⟨none, .flA 17 (.t 16) 0, none, 0⟩),
 (true, false, ⟨none, .ld 18 (.t 17) none, none, 0⟩),
 (true, false, ⟨none, .mv 19 (.t 0), none, 0⟩),
 (true, false, ⟨none, .nck 20 (.t 19), none, 0⟩),
 (true, false, ⟨none, .flA 21 (.t 20) 1, none, 0⟩),
 (true, false, ⟨none, .ld 22 (.t 21) none, none, 0⟩),
 (false, true, ⟨none, .cav 23 (.t 14) [(.t 18), (.t 22)], none, 0⟩),
 (true, false, ⟨none, .mv 11 (.t 23), none, 0⟩),
 (true, false, ⟨none, .ext 24 (.t 11) 0, none, 0⟩),
 (true, false, ⟨none, .ext 25 (.t 11) 1, none, 0⟩),
 (true, false, ⟨none, .ext 26 (.t 11) 2, none, 0⟩),
 (true, false, ⟨none, .mv 5 (.t 24), none, 0⟩),
 (true, false, ⟨none, .nck 27 (.t 12), none, 0⟩),
 (true, false, ⟨none, .flA 28 (.t 27) 1, none, 0⟩),
 (false, true, ⟨none, .st (.t 28) 1 (.t 25), none, 0⟩),
 (true, false, ⟨none, .nck 29 (.t 13), none, 0⟩),
 (true, false, ⟨none, .flA 30 (.t 29) 2, none, 0⟩),
 (false, true, ⟨none, .st (.t 30) 1 (.t 26), none, 0⟩)]
def c100r4 : List SI := [
 ⟨none, .mv 31 (.t 5), none, 0⟩,
 ⟨none, .mv 4 (.t 31), none, 0⟩]
def c100 : SC :=
 (.seq (.reg false c100r0)
 (.seq (.reg false c100r1)
 (.seq (.seq (.reg false c100r2)
 (.cond (.t 10)
  (.rgW c100r3)
  .skip))
 (.seq (.reg false c100r4)
 .ret))))
def v100 : List Nat × List Nat := ([], [])
def o100 : List RS := [.t 4]
theorem s100 : slimC Try.prog Try.f100.ntmps v100.1 v100.2 ((Try.f100.body).getD .skip) = some c100 := by kernel_rfl
theorem q100 : slimR Try.prog Try.f100.ntmps v100.1 v100.2 Try.f100.results.toList = some o100 := by kernel_rfl
-- watermeet/crc.half N=14
def c101r0 : List SI := [
 ⟨none, .mv 2 (.v (.int .u32 0)), none, 0⟩]
def c101r1 : List SI := [
 ⟨none, .mv 3 (.i 0), none, 0⟩]
def c101r2 : List SI := [
 ⟨none, .bin 4 .lss (.t 3) (.i 4), none, 0⟩]
def c101r3 : List SI := [
 ⟨none, .mv 5 (.t 0), none, 0⟩,
 ⟨none, .bin 6 .shr (.t 5) (.v (.int .u64 1)), none, 0⟩,
 ⟨none, .mv 7 (.t 0), none, 0⟩,
 ⟨none, .bin 8 .and (.t 7) (.v (.int .u32 1)), none, 0⟩,
 ⟨none, .un 9 .neg (.t 8), none, 0⟩,
 ⟨none, .bin 10 .and (.v (.int .u32 3988292384)) (.t 9), none, 0⟩,
 ⟨none, .bin 11 .xor (.t 6) (.t 10), none, 0⟩,
 ⟨none, .mv 0 (.t 11), none, 0⟩]
def c101r4 : List SI := [
 ⟨none, .bin 12 .add (.t 3) (.i 1), none, 0⟩,
 ⟨none, .mv 3 (.t 12), none, 0⟩]
def c101r5 : List SI := [
 ⟨none, .mv 13 (.t 0), none, 0⟩,
 ⟨none, .mv 2 (.t 13), none, 0⟩]
def c101 : SC :=
 (.seq (.reg false c101r0)
 (.seq (.seq (.reg false c101r1)
 (.blk 0 (.loop (.seq (.reg false c101r2)
   (.seq (.cond (.t 4)
    .skip
    (.exit 0))
   (.seq (.blk 1 (.reg false c101r3))
   (.reg false c101r4)))))))
 (.seq (.reg false c101r5)
 .ret)))
def v101 : List Nat × List Nat := ([], [])
def o101 : List RS := [.t 2]
theorem s101 : slimC Try.prog Try.f101.ntmps v101.1 v101.2 ((Try.f101.body).getD .skip) = some c101 := by kernel_rfl
theorem q101 : slimR Try.prog Try.f101.ntmps v101.1 v101.2 Try.f101.results.toList = some o101 := by kernel_rfl
-- watermeet/crc.adder$1 N=24
def c102r0 : List SI := [
 ⟨none, .mv 5 (.v (.int .u32 0)), none, 0⟩]
def c102r1 : List SI := [
 ⟨none, .mv 6 (.t 0), none, 0⟩,
 ⟨none, .mv 7 (.t 1), none, 0⟩,
 ⟨none, .cvI 8 .u32 (.t 7), none, 0⟩,
 ⟨none, .bin 9 .xor (.t 6) (.t 8), none, 0⟩,
 ⟨none, .mv 0 (.t 9), none, 0⟩]
def c102r2 : List SI := [
 ⟨none, .mv 10 (.t 0), none, 0⟩,
 ⟨none, .bin 11 .and (.t 10) (.v (.int .u32 15)), none, 0⟩,
 ⟨none, .ixP 12 (.t 2) (.t 11) 16 1, none, 0⟩,
 ⟨none, .ld 13 (.t 12) none, none, 0⟩,
 ⟨none, .mv 14 (.t 0), none, 0⟩,
 ⟨none, .bin 15 .shr (.t 14) (.v (.int .u64 4)), none, 0⟩,
 ⟨none, .bin 16 .xor (.t 13) (.t 15), none, 0⟩,
 ⟨none, .mv 0 (.t 16), none, 0⟩]
def c102r3 : List SI := [
 ⟨none, .mv 17 (.t 0), none, 0⟩,
 ⟨none, .bin 18 .and (.t 17) (.v (.int .u32 15)), none, 0⟩,
 ⟨none, .ixP 19 (.t 2) (.t 18) 16 1, none, 0⟩,
 ⟨none, .ld 20 (.t 19) none, none, 0⟩,
 ⟨none, .mv 21 (.t 0), none, 0⟩,
 ⟨none, .bin 22 .shr (.t 21) (.v (.int .u64 4)), none, 0⟩,
 ⟨none, .bin 23 .xor (.t 20) (.t 22), none, 0⟩,
 ⟨none, .mv 5 (.t 23), none, 0⟩]
def c102 : SC :=
 (.seq (.reg false c102r0)
 (.seq (.reg false c102r1)
 (.seq (.reg false c102r2)
 (.seq (.reg false c102r3)
 .ret))))
def v102 : List Nat × List Nat := ([], [])
def o102 : List RS := [.t 5]
theorem s102 : slimC Try.prog Try.f102.ntmps v102.1 v102.2 ((Try.f102.body).getD .skip) = some c102 := by kernel_rfl
theorem q102 : slimR Try.prog Try.f102.ntmps v102.1 v102.2 Try.f102.results.toList = some o102 := by kernel_rfl
theorem F80 : Fun Try.prog 80 8 v80 c80 o80 := Fun.mk' Try.func80 Try.ntmps80 (by kernel_rfl) (by kernel_rfl) s80 q80
def UE (x : UInt8) (cs : List Value) : Prop := cs = [.int .u8 (x.toNat : Int)]
theorem UE1 : ∀ (x : UInt8) cs, UE x cs → ∀ u ∈ cs, u.oneCell' = true := fun x cs h u hu => by
 rw [h] at hu
 simp at hu
 subst hu
 rfl
abbrev SB (G : Nat → Option Obj) (v : Value) (l : List UInt8) : Prop := SlV G UE 1 v l
abbrev OwnB (zs : List UInt8) (L' : List Kx.Item) (r : Value) : Prop := OwnL UE 5 1 zs L' r
theorem SB.le {G G' : Nat → Option Obj} {v : Value} {l : List UInt8} (h : SB G v l) (hg : Gle G G') : SB G' v l := SlV.le h hg fun _ _ h => h
def cellB (l : List UInt8) : List Value := l.map fun b => .int .u8 (b.toNat : Int)
theorem cells_b : ∀ (l : List UInt8), Cells UE 1 l (cellB l)
 | [] => .nil
 | b :: l => .cons (cs := [.int .u8 (b.toNat : Int)]) rfl rfl (cells_b l)
theorem byteCells_b (s : ByteArray) : byteCells s = cellB s.data.toList := rfl
theorem app8 {P : Program} {h : H} {d : Nat} {l : List SI} {e : Env} {K : Env → H → Prop} {u : Value} {b : Nat} {zs : List UInt8} {zc : List Value} {L1 L2 : List Kx.Item} {x : UInt8} {y : Int} (hL : h.L = .row (.slice (some ⟨b, 0, none⟩) 1 1) 5 1 1 [.int .u8 y] :: L1 ++ .row u 5 1 zs.length zc :: L2) (hy : y = (x.toNat : Int))
   (hc : Cells UE 1 zs zc) (hz : zs.length ≤ 10000000)
   (hk : ∀ A' c' zc', Cells UE 1 (zs ++ [x]) zc' → kR P l d e K (.slice A' (zs ++ [x]).length c') ⟨h.G, .row (.slice (some ⟨b, 0, none⟩) 1 1) 5 1 1 [.int .u8 y] :: L1 ++ .row (.slice A' (zs ++ [x]).length c') 5 1 (zs ++ [x]).length zc' :: L2, h.D⟩) :
   apX P u (.slice (some ⟨b, 0, none⟩) 1 1) 5 1 1 d l e h K := by
 subst hy
 refine ⟨.row (.slice (some ⟨b, 0, none⟩) 1 1) 5 1 1 [.int .u8 (x.toNat : Int)] :: L1, zs.length, zc, L2, 1, [.int .u8 (x.toNat : Int)], .inl hL, srcH_row (h := h) (by rw [hL]; exact .head _) (UE1 x _ rfl) rfl, by unfold maxLen; omega, fun A' c' => ?_⟩
 have := hk A' c' (zc ++ [.int .u8 (x.toNat : Int)]) (hc.app (.one (show UE x [.int .u8 (x.toNat : Int)] from rfl) rfl))
 simp only [List.length_append, List.length_cons, List.length_nil, Nat.zero_add] at this
 exact this
theorem apX_s {P : Program} {h : H} {d : Nat} {l : List SI} {e : Env} {K : Env → H → Prop} {u : Value} {s : ByteArray} {zs : List UInt8} {zc : List Value} {L1 L2 : List Kx.Item} (hr : RowAt h.L u 5 1 L1 zs.length zc L2) (hc : Cells UE 1 zs zc) (hz : zs.length + s.size ≤ 10000000)
   (hk : ∀ A' c' zc', Cells UE 1 (zs ++ s.data.toList) zc' → kR P l d e K (.slice A' (zs ++ s.data.toList).length c') { h with L := L1 ++ .row (.slice A' (zs ++ s.data.toList).length c') 5 1 (zs ++ s.data.toList).length zc' :: L2 }) :
   apX P u (.string s) 5 1 1 d l e h K := by
 refine ⟨L1, zs.length, zc, L2, s.size, cellB s.data.toList, hr, ⟨fun u hu => ?_, ?_, .inr (.inr ⟨s, rfl, rfl, byteCells_b s, rfl⟩)⟩, by unfold maxLen; omega, fun A' c' => ?_⟩
 · simp [cellB] at hu; obtain ⟨_, _, rfl⟩ := hu; rfl
 · simp [cellB]
 · have := hk A' c' (zc ++ cellB s.data.toList) (hc.app (cells_b _))
   rw [List.length_append] at this
   exact this
theorem callsH_gx {P : Program} {f : FuncId} {args : Array Value} {h : H} {M : H → Prop} {R : Value → H → Prop} (hE : Enters P f) (hg : GhostX h M) (hc : ∀ h', M h' → CallsH P f args h' R) : CallsH P f args h R :=
 ⟨hE, fun β w hs => by
   obtain ⟨h1, m, s1, t1, d1, r1⟩ := hg β w hs
   exact ((hc h1 m).2 β w s1).mono fun _ _ ⟨v, h2, a, ⟨b1, b2⟩, c, d, r⟩ => ⟨v, h2, a, ⟨b1.trans d1, r1.trans b2⟩, c, t1.trans d, r⟩⟩
theorem SB.nil {G : Nat → Option Obj} : SB G (.slice none 0 0) [] := ⟨none, 0, rfl, Nat.le_refl _, Nat.zero_le _, fun i x hx => by simp at hx⟩
theorem Clone_ok (l : List UInt8) (v : Value) (G : Nat → Option Obj) (hl : SB G v l) (hb : l.length ≤ 1000000) :
   FnO Try.prog 80 #[v] G [] (fun _ L' r => OwnB l L' r) := by
 refine F80.fnO (by simp) noRegs_nil (go_of ?_)
 have hl0 := hl
 obtain ⟨A, c, rfl, hc, hm, hA⟩ := hl
 unfold c80
 (intros; try refine go_st ?_); refine go_r 0 0 (by decide) ?_; (refine sJ c80r0.eq_1 ?_; try with_reducible exact True.intro)
 (intros; try refine go_st ?_); refine go_r 3 4 (by decide) ?_; (refine sJ c80r1.eq_1 ?_; try with_reducible exact True.intro)
 (intros; try refine go_st ?_); refine go_c ?_; (refine sI ?_; try with_reducible exact True.intro)
 refine gb (fun ht => ?_) (fun ht => ?_)
 · (intros; try refine go_st ?_); refine go_r 0 0 (by decide) ?_; (refine sJ c80r2.eq_1 ?_; try with_reducible exact True.intro)
   (intros; try refine go_st ?_)
   have hA0 : l = [] := by
     match l, hA with
     | [], _ => rfl
     | x :: xs, hA => obtain ⟨a, _, ha, _⟩ := hA 0 x rfl; subst ha; cases ht
   subst hA0
   refine go_ghost (ghost_nil none 5 1) ?_
   refine go_ret (retQ_o _ rfl (List.Sublist.refl _) (noRegs_row noRegs_nil) ?_)
   exact ⟨[], .nil, rfl⟩
 · (intros; try refine go_st ?_); refine go_r 5 8 (by decide) ?_; (refine sJ c80r3.eq_1 ?_; try with_reducible exact True.intro)
   intro b hb'
   refine apX_v (.inr ⟨⟨_, rfl⟩, rfl, rfl, rfl, rfl⟩) hl0 rfl UE1 (by unfold maxLen; omega) fun ys A c hc => ?_
   simp only [Nat.zero_add]
   (refine sI ?_; try with_reducible exact True.intro)
   (intros; try refine go_st ?_)
   refine go_ret (retQ_o _ rfl (List.Sublist.refl _) (noRegs_row noRegs_nil) ?_)
   exact ⟨ys, hc, rfl⟩
theorem F76 : Fun Try.prog 76 31 v76 c76 o76 := Fun.mk' Try.func76 Try.ntmps76 (by kernel_rfl) (by kernel_rfl) s76 q76
def zig (n : Int) : Nat := if 0 ≤ n then (2 * n).toNat else (-2 * n - 1).toNat
def vnat : Nat → Nat → List UInt8
 | 0, z => [UInt8.ofNat z]
 | f + 1, z => if z < 128 then [UInt8.ofNat z] else UInt8.ofNat (128 + z % 128) :: vnat f (z / 128)
def pvB (n : Int) : List UInt8 := vnat 9 (zig n)
theorem vnat_len : ∀ f z, (vnat f z).length ≤ f + 1 ∧ 1 ≤ (vnat f z).length
 | 0, z => by simp [vnat]
 | f + 1, z => by
   unfold vnat
   split
   · simp
   · have := vnat_len f (z / 128)
     simp
     omega
theorem pvB_len (n : Int) : (pvB n).length ≤ 10 := (vnat_len 9 _).1
theorem zig_lt {n : Int} (h : I64 n) : zig n < 18446744073709551616 := by
 unfold zig I64 at *
 split <;> omega
theorem vnat_lt {f z : Nat} (h : z < 128) : vnat f z = [UInt8.ofNat z] := by
 cases f with
 | zero => rfl
 | succ f => exact if_pos h
def Puts (p : List UInt8) (z0 : Nat) (zs : List UInt8) (z : Nat) : Prop := ∃ f, f ≤ 9 ∧ zs.length + f = p.length + 9 ∧ z < 2 * 128 ^ f ∧ zs ++ vnat f z = p ++ vnat 9 z0
theorem puts_zero (p : List UInt8) {z0 : Nat} (h : z0 < 18446744073709551616) : Puts p z0 p z0 := ⟨9, Nat.le_refl _, rfl, by omega, rfl⟩
theorem puts_end {p zs : List UInt8} {z0 z : Nat} (h : Puts p z0 zs z) (hz : z < 128) : zs ++ [UInt8.ofNat z] = p ++ vnat 9 z0 := by
 obtain ⟨f, _, _, _, h⟩ := h
 rw [← h, vnat_lt hz]
theorem puts_more {p zs : List UInt8} {z0 z : Nat} (h : Puts p z0 zs z) (hz : ¬ z < 128) : Puts p z0 (zs ++ [UInt8.ofNat (128 + z % 128)]) (z / 128) := by
 obtain ⟨f, h1, h2, h3, h4⟩ := h
 cases f with
 | zero => simp at h3; omega
 | succ f =>
   refine ⟨f, by omega, by simp; omega, by rw [Nat.pow_succ] at h3; omega, ?_⟩
   rw [← h4, vnat, if_neg hz]
   simp
theorem puts_len {p zs : List UInt8} {z0 z : Nat} (h : Puts p z0 zs z) : zs.length ≤ p.length + 9 := by
 obtain ⟨f, h1, h2, _⟩ := h
 omega
theorem or_128 (z : Nat) : binV .or (.int .u8 (IntKind.u8.wrap (z : Int))) (.int .u8 128) = some (.int .u8 ((UInt8.ofNat (128 + z % 128)).toNat : Int)) := by
 have key : ∀ b : Fin 256, (BitVec.ofInt 8 ((b.val : Nat) : Int) ||| BitVec.ofInt 8 128).toNat = 128 + b.val % 128 := by decide +kernel
 have h1 : IntKind.u8.wrap (z : Int) = ((z % 256 : Nat) : Int) := by rw [IntKind.wrap_u8]; omega
 have h2 := key ⟨z % 256, Nat.mod_lt _ (by omega)⟩
 rw [h1]
 simp only [binV]
 rw [if_pos trivial]
 have h3 : (BitVec.ofInt IntKind.u8.bits ((z % 256 : Nat) : Int) ||| BitVec.ofInt IntKind.u8.bits 128).toNat = 128 + z % 128 := by
   refine h2.trans ?_
   dsimp only
   omega
 rw [h3]
 simp [IntKind.wrap_u8]
theorem u8_nat (z : Nat) : IntKind.u8.wrap (z : Int) = ((UInt8.ofNat z).toNat : Int) := by
 rw [IntKind.wrap_u8]
 simp
theorem shr_7 (z : Nat) : binV .shr (.int .u64 (z : Int)) (.int .u64 7) = some (.int .u64 ((z / 128 : Nat) : Int)) := by
 simp [binV, IntKind.bits]
 rw [Int.fdiv_eq_ediv_of_nonneg _ (by omega)]
theorem shl_1 (n : Int) : binV .shl (.int .u64 (IntKind.u64.wrap n)) (.int .u64 1) = some (.int .u64 (IntKind.u64.wrap (IntKind.u64.wrap n * 2))) := by
 simp [binV, IntKind.bits]
def sgn (n : Int) : Int := if 0 ≤ n then 0 else -1
theorem shr_63 {n : Int} (h : I64 n) : binV .shr (.int .i64 n) (.int .u64 63) = some (.int .i64 (sgn n)) := by
 have h1 : n.fdiv 9223372036854775808 = sgn n := by
   rw [Int.fdiv_eq_ediv_of_nonneg _ (by omega)]
   unfold sgn I64 at *
   split <;> omega
 simp [binV, IntKind.bits, h1]
theorem xor_zig {n : Int} (h : I64 n) : binV .xor (.int .u64 (IntKind.u64.wrap (IntKind.u64.wrap n * 2))) (.int .u64 (IntKind.u64.wrap (sgn n))) = some (.int .u64 (zig n : Int)) := by
 have hz := zig_lt h
 have key : (BitVec.ofInt 64 (IntKind.u64.wrap (IntKind.u64.wrap n * 2)) ^^^ BitVec.ofInt 64 (IntKind.u64.wrap (sgn n))).toNat = zig n := by
   unfold I64 at h
   by_cases h0 : 0 ≤ n
   · have e1 : IntKind.u64.wrap (IntKind.u64.wrap n * 2) = 2 * n := by rw [IntKind.wrap_u64, IntKind.wrap_u64]; omega
     have e2 : IntKind.u64.wrap (sgn n) = 0 := by rw [sgn, if_pos h0]; rfl
     rw [e1, e2]
     have : BitVec.ofInt 64 0 = 0#64 := rfl
     rw [this, BitVec.xor_zero, BitVec.toNat_ofInt]
     simp [zig, h0]
     omega
   · have e1 : IntKind.u64.wrap (IntKind.u64.wrap n * 2) = (2 * n) % 18446744073709551616 := by rw [IntKind.wrap_u64, IntKind.wrap_u64]; omega
     have e2 : IntKind.u64.wrap (sgn n) = 18446744073709551615 := by rw [sgn, if_neg h0]; rfl
     rw [e1, e2]
     have : BitVec.ofInt 64 18446744073709551615 = BitVec.allOnes 64 := by decide
     rw [this, BitVec.xor_allOnes, BitVec.toNat_not, BitVec.toNat_ofInt]
     simp [zig, h0]
     omega
 simp only [binV]
 rw [if_pos trivial]
 have e3 : (BitVec.ofInt IntKind.u64.bits (IntKind.u64.wrap (IntKind.u64.wrap n * 2)) ^^^ BitVec.ofInt IntKind.u64.bits (IntKind.u64.wrap (sgn n))).toNat = zig n := key
 rw [e3, IntKind.wrap_u64]
 congr 2
 omega
theorem PutVar_ok (l : List UInt8) (n : Int) (hn : I64 n) (v : Value) (G : Nat → Option Obj) (hl : SB G v l) (hb : l.length ≤ 100000) :
   FnO Try.prog 76 #[v, .int .i64 n] G [] (fun _ L' r => OwnB (l ++ pvB n) L' r) := by
 refine F76.fnO (by simp) noRegs_nil (go_of ?_)
 have hl0 := hl
 obtain ⟨A, c, rfl, hc, hm, hA⟩ := hl
 unfold c76
 (intros; try refine go_st ?_); refine go_r 0 0 (by decide) ?_; (refine sJ c76r0.eq_1 ?_; try with_reducible exact True.intro)
 (intros; try refine go_st ?_); refine go_r 7 14 (by decide) ?_; (refine sJ4 c76r1.eq_1 @shl_1 (shr_63 hn) (xor_zig hn) ?_; try with_reducible exact True.intro)
 (intros; try refine go_st ?_); refine go_r 14 16 (by decide) ?_; (refine sJ c76r2.eq_1 ?_; try with_reducible exact True.intro)
 refine (Clone_ok l _ G hl0 (by omega) _ []).mono ?_
 rintro r h' ⟨G1, L', rfl, hg1, ys, hys, rfl⟩
 (refine sI ?_; try with_reducible exact True.intro)
 (intros; try refine go_st ?_)
 refine go_loop (fun e h => ∃ (z : Nat) (zs : List UInt8) (zc : List Value) (u : Value), (Puts l (zig n) zs z ∧ Cells UE 1 zs zc) ∧ e 5 = .int .u64 (z : Int) ∧ e 6 = u ∧ h.G = G1 ∧ h.D = [] ∧ [Item.row u 5 1 zs.length zc].Sublist h.L) (fun e h => iv (e 5)) ?_ ?_
 · exact ⟨zig n, l, ys, _, ⟨puts_zero l (zig_lt hn), hys⟩, eE, eE, rfl, rfl, List.Sublist.refl _⟩
 · rintro e ⟨G', L, D⟩ ⟨z, zs, zc, u, ⟨hp, hcs⟩, e5, e6, hG, hD, hL⟩
   dsimp only at hG hD hL
   subst hG hD
   refine go_ghost (ghost_sub hL) ?_
   refine go_keep [5, 6] ?_
   (refine sJ2 @e5 @e6 ?_; try with_reducible exact True.intro)
   have hlen := puts_len hp
   (intros; try refine go_st ?_); refine go_r 16 17 (by decide) ?_; (refine sJ c76r3.eq_1 ?_; try with_reducible exact True.intro)
   (intros; try refine go_st ?_); refine go_c ?_; (refine sI ?_; try with_reducible exact True.intro)
   refine gb (fun ht => ?_) (fun ht => ?_)
   · have hz : ¬ z < 128 := by simp at ht; omega
     (intros; try refine go_st ?_); refine go_r 20 26 (by decide) ?_; (refine sJ2 c76r4.eq_1 @or_128 ?_; try with_reducible exact True.intro)
     intro bk hbk
     refine app8 (L1 := []) (L2 := []) rfl rfl hcs (by omega) fun A' c' zc' hzc => ?_
     (refine sI ?_; try with_reducible exact True.intro)
     (intros; try refine go_st ?_); refine go_r 18 20 (by decide) ?_; (refine sJ2 c76r5.eq_1 @shr_7 ?_; try with_reducible exact True.intro)
     (intros; try refine go_st ?_)
     refine go_l ⟨⟨z / 128, _, zc', _, ⟨puts_more hp hz, hzc⟩, eE, eE, rfl, rfl, .cons _ (List.Sublist.refl _)⟩, ?_⟩
     (refine sI ?_; try with_reducible exact True.intro)
     simp [iv]
     omega
   · have hz : z < 128 := by simp at ht; omega
     refine go_exit ?_
     (refine sI ?_; try with_reducible exact True.intro)
     (intros; try refine go_st ?_); refine go_r 26 31 (by decide) ?_; (refine sJ2 c76r6.eq_1 @u8_nat ?_; try with_reducible exact True.intro)
     intro bk hbk
     refine app8 (L1 := []) (L2 := []) rfl rfl hcs (by omega) fun A' c' zc' hzc => ?_
     (refine sI ?_; try with_reducible exact True.intro)
     (intros; try refine go_st ?_)
     rw [puts_end hp hz] at hzc ⊢
     refine go_ret (retQ_o _ rfl (.cons _ (List.Sublist.refl _)) (noRegs_row noRegs_nil) ?_)
     exact ⟨zc', hzc, rfl⟩
end Go.Proofs.Ytppgnokhdpaljaa

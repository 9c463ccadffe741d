/- Parts of a proof, 10 texts in one file. No condition. -/
import Derived.Test.YtppgnokhdpaljaaGreatRows
import Derived.Test.YtppgnokhdpaljaaGreatM1
import Derived.Test.YtppgnokhdpaljaaGreatM2
import Derived.Test.YtppgnokhdpaljaaGreatM3
set_option linter.unusedSimpArgs false
set_option linter.unusedVariables false
namespace Go.Proofs.YtppgnokhdpaljaaGreat
open Go Go.Kx
def c84r0 : List SI := [
 ⟨none, .bxR 1 (.t 0), none, 0⟩,
 ⟨none, .mv 2 (.b false), none, 0⟩]
def c84r1 : List SI := [
 ⟨none, .nop, (some 1), 0⟩,
 ⟨none, .ldR 8 1 0 none, none, 0⟩,
 ⟨none, .call 9 95 [(.t 8), (.i 1099511627776)], none, 0⟩,
 ⟨none, .un 10 .not (.t 9), none, 0⟩,
 ⟨none, .mv 11 (.t 10), none, 0⟩,
 ⟨some (11, false), .nop, (some 1), 99999⟩,
 ⟨some (11, false), .ldR 13 1 1 none, none, 13⟩,
 ⟨some (11, false), .call 14 95 [(.t 13), (.i 1099511627776)], none, 14⟩,
 ⟨some (11, false), .un 15 .not (.t 14), none, 15⟩,
 ⟨none, .pick 16 (.t 11) (.b true) (.t 15), none, 0⟩,
 ⟨none, .mv 17 (.t 16), none, 0⟩,
 ⟨some (17, false), .nop, (some 1), 99999⟩,
 ⟨some (17, false), .ldR 19 1 2 none, none, 19⟩,
 ⟨some (17, false), .call 20 95 [(.t 19), (.i 1099511627776)], none, 20⟩,
 ⟨some (17, false), .un 21 .not (.t 20), none, 21⟩,
 ⟨none, .pick 22 (.t 17) (.b true) (.t 21), none, 0⟩,
 ⟨none, .mv 23 (.t 22), none, 0⟩,
 ⟨some (23, false), .nop, (some 1), 99999⟩,
 ⟨some (23, false), .ldR 25 1 0 none, none, 25⟩,
 ⟨some (23, false), .nop, (some 1), 99999⟩,
 ⟨some (23, false), .ldR 27 1 1 none, none, 27⟩,
 ⟨some (23, false), .bin 28 .gtr (.t 25) (.t 27), none, 28⟩,
 ⟨none, .pick 29 (.t 23) (.b true) (.t 28), none, 0⟩,
 ⟨none, .mv 30 (.t 29), none, 0⟩,
 ⟨some (30, false), .nop, (some 1), 99999⟩,
 ⟨some (30, false), .ldR 32 1 1 none, none, 32⟩,
 ⟨some (30, false), .nop, (some 1), 99999⟩,
 ⟨some (30, false), .ldR 34 1 0 none, none, 34⟩,
 ⟨some (30, false), .bin 35 .sub (.t 32) (.t 34), none, 35⟩,
 ⟨some (30, false), .bin 36 .geq (.t 35) (.i 16), none, 36⟩,
 ⟨none, .pick 37 (.t 30) (.b true) (.t 36), none, 0⟩]
def c84r2 : List SI := [
 ⟨none, .mv 2 (.b false), none, 0⟩]
def c84r3 : List SI := [
 ⟨none, .nop, (some 1), 0⟩,
 ⟨none, .ldR 39 1 1 none, none, 0⟩,
 ⟨none, .nop, (some 1), 0⟩,
 ⟨none, .ldR 41 1 0 none, none, 0⟩,
 ⟨none, .bin 42 .sub (.t 39) (.t 41), none, 0⟩,
 ⟨none, .mv 3 (.t 42), none, 0⟩]
def c84r4 : List SI := [
 ⟨none, .nop, (some 1), 0⟩,
 ⟨none, .ldR 44 1 2 none, none, 0⟩,
 ⟨none, .mv 45 (.t 3), none, 0⟩,
 ⟨none, .bin 46 .add (.t 44) (.t 45), none, 0⟩,
 ⟨none, .bin 47 .gtr (.t 46) (.i 1099511627776), none, 0⟩,
 ⟨none, .mv 48 (.t 47), none, 0⟩,
 ⟨some (48, false), .nop, (some 1), 99999⟩,
 ⟨some (48, false), .ldR 50 1 3 none, none, 50⟩,
 ⟨some (48, false), .call 51 95 [(.t 50), (.i 1048576)], none, 51⟩,
 ⟨some (48, false), .un 52 .not (.t 51), none, 52⟩,
 ⟨none, .pick 53 (.t 48) (.b true) (.t 52), none, 0⟩,
 ⟨none, .mv 54 (.t 53), none, 0⟩,
 ⟨some (54, false), .nop, (some 1), 99999⟩,
 ⟨some (54, false), .ldR 56 1 5 none, none, 56⟩,
 ⟨some (54, false), .call 57 95 [(.t 56), (.i 1048576)], none, 57⟩,
 ⟨some (54, false), .un 58 .not (.t 57), none, 58⟩,
 ⟨none, .pick 59 (.t 54) (.b true) (.t 58), none, 0⟩,
 ⟨none, .mv 60 (.t 59), none, 0⟩,
 ⟨some (60, false), .nop, (some 1), 99999⟩,
 ⟨some (60, false), .ldR 62 1 6 none, none, 62⟩,
 ⟨some (60, false), .call 63 95 [(.t 62), (.i 1048576)], none, 63⟩,
 ⟨some (60, false), .un 64 .not (.t 63), none, 64⟩,
 ⟨none, .pick 65 (.t 60) (.b true) (.t 64), none, 0⟩,
 ⟨none, .mv 66 (.t 65), none, 0⟩,
 ⟨some (66, false), .nop, (some 1), 99999⟩,
 ⟨some (66, false), .ldR 68 1 6 none, none, 68⟩,
 ⟨some (66, false), .mv 69 (.t 3), none, 69⟩,
 ⟨some (66, false), .bin 70 .add (.t 68) (.t 69), none, 70⟩,
 ⟨some (66, false), .bin 71 .gtr (.t 70) (.i 1048576), none, 71⟩,
 ⟨none, .pick 72 (.t 66) (.b true) (.t 71), none, 0⟩]
def c84r5 : List SI := [
 ⟨none, .mv 2 (.b false), none, 0⟩]
def c84r6 : List SI := [
 ⟨none, .nop, (some 1), 0⟩,
 ⟨none, .ldR 74 1 4 none, none, 0⟩,
 ⟨none, .bin 75 .eql (.t 74) (.i (-1)), none, 0⟩,
 ⟨none, .mv 76 (.t 75), none, 0⟩,
 ⟨some (76, true), .nop, (some 1), 99999⟩,
 ⟨some (76, true), .ldR 78 1 5 none, none, 78⟩,
 ⟨some (76, true), .bin 79 .neq (.t 78) (.i 0), none, 79⟩,
 ⟨some (76, true), .mv 80 (.t 79), none, 80⟩,
 ⟨some (80, false), .nop, (some 1), 99999⟩,
 ⟨some (80, false), .ldR 82 1 6 none, none, 82⟩,
 ⟨some (80, false), .bin 83 .neq (.t 82) (.i 0), none, 83⟩,
 ⟨some (76, true), .pick 84 (.t 80) (.b true) (.t 83), none, 84⟩,
 ⟨some (76, true), .mv 85 (.t 84), none, 85⟩,
 ⟨some (85, false), .nop, (some 1), 99999⟩,
 ⟨some (85, false), .ldR 87 1 7 none, none, 87⟩,
 ⟨some (76, true), .pick 88 (.t 85) (.b true) (.t 87), none, 88⟩,
 ⟨some (76, true), .mv 89 (.t 88), none, 89⟩,
 ⟨some (89, false), .nop, (some 1), 99999⟩,
 ⟨some (89, false), .ldR 91 1 8 none, none, 91⟩,
 ⟨some (89, false), .bin 92 .neq (.t 91) (.i 0), none, 92⟩,
 ⟨some (76, true), .pick 93 (.t 89) (.b true) (.t 92), none, 93⟩,
 ⟨none, .pick 94 (.t 76) (.t 93) (.b false), none, 0⟩,
 ⟨none, .mv 95 (.t 94), none, 0⟩,
 ⟨some (95, false), .nop, (some 1), 99999⟩,
 ⟨some (95, false), .ldR 97 1 4 none, none, 97⟩,
 ⟨some (95, false), .bin 98 .neq (.t 97) (.i (-1)), none, 98⟩,
 ⟨some (95, false), .mv 99 (.t 98), none, 99⟩,
 ⟨some (99, true), .nop, (some 1), 99999⟩,
 ⟨some (99, true), .ldR 101 1 4 none, none, 101⟩,
 ⟨some (99, true), .call 102 95 [(.t 101), (.i 1099511627776)], none, 102⟩,
 ⟨some (99, true), .un 103 .not (.t 102), none, 103⟩,
 ⟨some (95, false), .pick 104 (.t 99) (.t 103) (.b false), none, 104⟩,
 ⟨none, .pick 105 (.t 95) (.b true) (.t 104), none, 0⟩]
def c84r7 : List SI := [
 ⟨none, .mv 2 (.b false), none, 0⟩]
def c84r8 : List SI := [
 ⟨none, .nop, (some 1), 0⟩,
 ⟨none, .ldR 107 1 8 none, none, 0⟩,
 ⟨none, .bin 108 .neq (.t 107) (.i 0), none, 0⟩]
def c84r9 : List SI := [
 ⟨none, .nop, (some 1), 0⟩,
 ⟨none, .ldR 110 1 8 none, none, 0⟩,
 ⟨none, .bin 111 .eql (.t 110) (.i 1), none, 0⟩,
 ⟨none, .mv 112 (.t 111), none, 0⟩,
 ⟨some (112, false), .nop, (some 1), 99999⟩,
 ⟨some (112, false), .ldR 114 1 8 none, none, 114⟩,
 ⟨some (112, false), .bin 115 .eql (.t 114) (.i 2), none, 115⟩,
 ⟨none, .pick 116 (.t 112) (.b true) (.t 115), none, 0⟩,
 ⟨none, .mv 117 (.t 116), none, 0⟩,
 ⟨some (117, true), .mv 118 (.t 3), none, 118⟩,
 ⟨some (117, true), .bin 119 .eql (.t 118) (.i 0), none, 119⟩,
 ⟨none, .pick 120 (.t 117) (.t 119) (.b false), none, 0⟩,
 ⟨none, .mv 121 (.t 120), none, 0⟩,
 ⟨some (121, true), .nop, (some 1), 99999⟩,
 ⟨some (121, true), .ldR 123 1 9 none, none, 123⟩,
 ⟨some (121, true), .len 124 false (.t 123), none, 124⟩,
 ⟨some (121, true), .bin 125 .eql (.t 124) (.i 0), none, 125⟩,
 ⟨none, .pick 126 (.t 121) (.t 125) (.b false), none, 0⟩,
 ⟨none, .mv 127 (.t 126), none, 0⟩,
 ⟨some (127, true), .nop, (some 1), 99999⟩,
 ⟨some (127, true), .ldR 129 1 7 none, none, 129⟩,
 ⟨none, .pick 130 (.t 127) (.t 129) (.b false), none, 0⟩,
 ⟨none, .mv 131 (.t 130), none, 0⟩,
 ⟨some (131, true), .nop, (some 1), 99999⟩,
 ⟨some (131, true), .ldR 133 1 4 none, none, 133⟩,
 ⟨some (131, true), .bin 134 .geq (.t 133) (.i 0), none, 134⟩,
 ⟨none, .pick 135 (.t 131) (.t 134) (.b false), none, 0⟩,
 ⟨none, .mv 2 (.t 135), none, 0⟩]
def c84r10 : List SI := [
 ⟨none, .nop, (some 1), 0⟩,
 ⟨none, .ldR 137 1 0 none, none, 0⟩,
 ⟨none, .bin 138 .sub (.t 137) (.i 1), none, 0⟩,
 ⟨none, .mv 4 (.t 138), none, 0⟩]
def c84r11 : List SI := [
 ⟨none, .nop, (some 1), 0⟩,
 ⟨none, .ldR 140 1 9 none, none, 0⟩,
 ⟨none, .len 141 false (.t 140), none, 0⟩,
 ⟨none, .mv 142 (.i 0), none, 0⟩]
def c84r12 : List SI := [
 ⟨none, .bin 143 .lss (.t 142) (.t 141), none, 0⟩]
def c84r13 : List SI := [
 ⟨none, .ixA 144 (.t 140) (.t 142) 5, none, 0⟩,
 ⟨none, .ld 145 (.t 144) (some 5), none, 0⟩,
 ⟨none, .alR 6 [(.int .i64 0), (.string ⟨#[]⟩), (.string ⟨#[]⟩), (.bool false), (.int .i64 0)], none, 0⟩,
 ⟨none, .stR 6 0 5 (.t 145), none, 0⟩]
def c84r14 : List SI := [
 ⟨none, .ldR 146 6 0 (some 5), none, 0⟩,
 ⟨none, .call 147 96 [(.t 146)], none, 0⟩,
 ⟨none, .bin 148 .neq (.t 147) (.i 0), none, 0⟩,
 ⟨none, .mv 149 (.t 148), none, 0⟩,
 ⟨some (149, false), .nop, (some 6), 99999⟩,
 ⟨some (149, false), .ldR 151 6 0 none, none, 151⟩,
 ⟨some (149, false), .mv 152 (.t 4), none, 152⟩,
 ⟨some (149, false), .bin 153 .leq (.t 151) (.t 152), none, 153⟩,
 ⟨none, .pick 154 (.t 149) (.b true) (.t 153), none, 0⟩,
 ⟨none, .mv 155 (.t 154), none, 0⟩,
 ⟨some (155, false), .nop, (some 6), 99999⟩,
 ⟨some (155, false), .ldR 157 6 0 none, none, 157⟩,
 ⟨some (155, false), .nop, (some 1), 99999⟩,
 ⟨some (155, false), .ldR 159 1 1 none, none, 159⟩,
 ⟨some (155, false), .bin 160 .gtr (.t 157) (.t 159), none, 160⟩,
 ⟨none, .pick 161 (.t 155) (.b true) (.t 160), none, 0⟩]
def c84r15 : List SI := [
 ⟨none, .mv 2 (.b false), none, 0⟩]
def c84r16 : List SI := [
 ⟨none, .nop, (some 6), 0⟩,
 ⟨none, .ldR 163 6 0 none, none, 0⟩,
 ⟨none, .mv 4 (.t 163), none, 0⟩]
def c84r17 : List SI := [
 ⟨none, .bin 164 .add (.t 142) (.i 1), none, 0⟩,
 ⟨none, .mv 142 (.t 164), none, 0⟩]
def c84r18 : List SI := [
 ⟨none, .mv 2 (.b true), none, 0⟩]
def c84 : SC :=
 (.seq (.reg false c84r0)
 (.seq (.seq (.reg false c84r1)
 (.cond (.t 37)
  (.seq (.reg false c84r2)
  .ret)
  .skip))
 (.seq (.reg false c84r3)
 (.seq (.seq (.reg false c84r4)
 (.cond (.t 72)
  (.seq (.reg false c84r5)
  .ret)
  .skip))
 (.seq (.seq (.reg false c84r6)
 (.cond (.t 105)
  (.seq (.reg false c84r7)
  .ret)
  .skip))
 (.seq (.seq (.reg false c84r8)
 (.cond (.t 108)
  (.seq (.reg false c84r9)
  .ret)
  .skip))
 (.seq (.reg false c84r10)
 (.seq (.seq (.reg false c84r11)
 (.blk 0 (.loop (.seq (.reg false c84r12)
   (.seq (.cond (.t 143)
    .skip
    (.exit 0))
   (.seq (.blk 1 (.seq (.reg false c84r13)
    (.seq (.seq (.reg false c84r14)
    (.cond (.t 161)
     (.seq (.reg false c84r15)
     .ret)
     .skip))
    (.reg false c84r16))))
   (.reg false c84r17)))))))
 (.seq (.reg false c84r18)
 .ret)))))))))
def v84 : List Nat × List Nat := ([1, 6], [1, 6, 7, 12, 18, 24, 26, 31, 33, 38, 40, 43, 49, 55, 61, 67, 73, 77, 81, 86, 90, 96, 100, 106, 109, 113, 122, 128, 132, 136, 139, 150, 156, 158, 162])
def o84 : List RS := [.t 2]
theorem s84 : slimC Tryz.prog Tryz.f84.ntmps v84.1 v84.2 ((Tryz.f84.body).getD .skip) = some c84 := by kernel_rfl
theorem q84 : slimR Tryz.prog Tryz.f84.ntmps v84.1 v84.2 Tryz.f84.results.toList = some o84 := by kernel_rfl
def c85r0 : List SI := [
 ⟨none, .bxR 1 (.t 0), none, 0⟩,
 ⟨none, .mv 2 (.v (.slice none 0 0)), none, 0⟩]
def c85r1 : List SI := [
 ⟨none, .mv 3 (.v (.slice none 0 0)), none, 0⟩]
def c85r2 : List SI := [
 ⟨none, .nop, (some 1), 0⟩,
 ⟨none, .ldR 12 1 0 none, none, 0⟩,
 ⟨none, .nop, (some 1), 0⟩,
 ⟨none, .ldR 14 1 1 none, none, 0⟩,
 ⟨none, .nop, (some 1), 0⟩,
 ⟨none, .ldR 16 1 0 none, none, 0⟩,
 ⟨none, .bin 17 .sub (.t 14) (.t 16), none, 0⟩,
 ⟨none, .nop, (some 1), 0⟩,
 ⟨none, .ldR 19 1 2 none, none, 0⟩,
 ⟨none, .nop, (some 1), 0⟩,
 ⟨none, .ldR 21 1 3 none, none, 0⟩,
 ⟨none, .nop, (some 1), 0⟩,
 ⟨none, .ldR 23 1 4 none, none, 0⟩,
 ⟨none, .nop, (some 1), 0⟩,
 ⟨none, .ldR 25 1 5 none, none, 0⟩,
 ⟨none, .nop, (some 1), 0⟩,
 ⟨none, .ldR 27 1 6 none, none, 0⟩,
 ⟨none, .bls 28 3 7 1 [(.int .i64 0), (.int .i64 0), (.int .i64 0), (.int .i64 0), (.int .i64 0), (.int .i64 0), (.int .i64 0)] [(0, 1, (.t 12)), (1, 1, (.t 17)), (2, 1, (.t 19)), (3, 1, (.t 21)), (4, 1, (.t 23)), (5, 1, (.t 25)), (6, 1, (.t 27))], none, 0⟩,
 ⟨none, .len 29 false (.t 28), none, 0⟩,
 ⟨none, .mv 30 (.i 0), none, 0⟩]
def c85r3 : List SI := [
 ⟨none, .bin 31 .lss (.t 30) (.t 29), none, 0⟩]
def c85r4 : List SI := [
 ⟨none, .ixA 32 (.t 28) (.t 30) 1, none, 0⟩,
 ⟨none, .ld 33 (.t 32) none, none, 0⟩,
 ⟨none, .mv 5 (.t 33), none, 0⟩]
def c85r5 : List SI := [
 ⟨none, .mv 34 (.t 3), none, 0⟩,
 ⟨none, .mv 35 (.t 5), none, 0⟩,
 ⟨none, .call 36 97 [(.t 34), (.t 35)], none, 0⟩,
 ⟨none, .mv 3 (.t 36), none, 0⟩]
def c85r6 : List SI := [
 ⟨none, .bin 37 .add (.t 30) (.i 1), none, 0⟩,
 ⟨none, .mv 30 (.t 37), none, 0⟩]
def c85r7 : List SI := [
 ⟨none, .nop, (some 1), 0⟩,
 ⟨none, .ldR 39 1 8 none, none, 0⟩,
 ⟨none, .mv 6 (.t 39), none, 0⟩]
def c85r8 : List SI := [
 ⟨none, .nop, (some 1), 0⟩,
 ⟨none, .ldR 41 1 7 none, none, 0⟩]
def c85r9 : List SI := [
 ⟨none, .mv 42 (.t 6), none, 0⟩,
 ⟨none, .bin 43 .add (.t 42) (.i 4), none, 0⟩,
 ⟨none, .mv 6 (.t 43), none, 0⟩]
def c85r10 : List (Bool × SI) := [
 (true, N_ (.mv 44 (.t 3))),
 (true, N_ (.mv 45 (.t 6))),
 (true, N_ (.cvI 46 .u8 (.t 45))),
 (true, ⟨none, .nop, (some 1), 0⟩),
 (true, N_ (.ldR 50 1 9 none)),
 (true, N_ (.len 51 false (.t 50))),
 (false, N_ (.bls 47 5 1 1 [(.int .u8 0)] [(0, 1, (.t 46))])),
 (false, N_ (.app 48 (.t 44) (.t 47) 5 1 1)),
 (false, N_ (.call 52 97 [(.t 48), (.t 51)])),
 (true, N_ (.mv 3 (.t 52)))]
def c85r11 : List SI := [
 ⟨none, .nop, (some 1), 0⟩,
 ⟨none, .ldR 54 1 9 none, none, 0⟩,
 ⟨none, .len 55 false (.t 54), none, 0⟩,
 ⟨none, .mv 56 (.i 0), none, 0⟩]
def c85r12 : List SI := [
 ⟨none, .bin 57 .lss (.t 56) (.t 55), none, 0⟩]
def c85r13 : List SI := [
 ⟨none, .mv 58 (.t 56), none, 0⟩,
 ⟨none, .ixA 59 (.t 54) (.t 56) 5, none, 0⟩,
 ⟨none, .ld 60 (.t 59) (some 5), none, 0⟩,
 ⟨none, .alR 8 [(.int .i64 0), (.string ⟨#[]⟩), (.string ⟨#[]⟩), (.bool false), (.int .i64 0)], none, 0⟩,
 ⟨none, .mv 7 (.t 58), none, 0⟩,
 ⟨none, .stR 8 0 5 (.t 60), none, 0⟩]
def c85r14 : List SI := [
 ⟨none, .mv 61 (.t 7), none, 0⟩,
 ⟨none, .bin 62 .eql (.t 61) (.i 0), none, 0⟩]
def c85r15 : List SI := [
 ⟨none, .mv 63 (.t 3), none, 0⟩,
 ⟨none, .nop, (some 8), 0⟩,
 ⟨none, .ldR 65 8 4 none, none, 0⟩,
 ⟨none, .call 66 97 [(.t 63), (.t 65)], none, 0⟩,
 ⟨none, .mv 3 (.t 66), none, 0⟩]
def c85r16 : List (Bool × SI) := [
 (true, N_ (.ldR 68 8 0 (some 5))),
 (true, ⟨none, .nop, (some 1), 0⟩),
 (true, N_ (.ldR 70 1 0 none)),
 (true, ⟨none, .nop, (some 1), 0⟩),
 (true, N_ (.ldR 72 1 9 none)),
 (true, N_ (.ixA 73 (.t 72) (.i 0) 5)),
 (true, N_ (.flA 74 (.t 73) 4)),
 (true, N_ (.ld 75 (.t 74) none)),
 (false, N_ (.call 76 98 [(.t 68), (.t 70), (.t 75)])),
 (true, N_ (.mv 67 (.t 76))),
 (true, N_ (.ext 77 (.t 67) 0)),
 (true, N_ (.ext 78 (.t 67) 1)),
 (true, N_ (.mv 9 (.t 77))),
 (true, N_ (.mv 10 (.t 78)))]
def c85r17 : List SI := [
 ⟨none, .mv 79 (.t 3), none, 0⟩,
 ⟨none, .mv 80 (.t 9), none, 0⟩,
 ⟨none, .app 81 (.t 79) (.t 80) 5 1 1, none, 0⟩,
 ⟨none, .mv 3 (.t 81), none, 0⟩]
def c85r18 : List SI := [
 ⟨none, .bin 82 .add (.t 56) (.i 1), none, 0⟩,
 ⟨none, .mv 56 (.t 82), none, 0⟩]
def c85r19 : List SI := [
 ⟨none, .mv 83 (.t 3), none, 0⟩,
 ⟨none, .call 84 99 [(.t 83)], none, 0⟩,
 ⟨none, .mv 3 (.t 84), none, 0⟩]
def c85r20 : List SI := [
 ⟨none, .mv 85 (.t 3), none, 0⟩,
 ⟨none, .len 86 false (.t 85), none, 0⟩,
 ⟨none, .cvI 87 .u64 (.t 86), none, 0⟩,
 ⟨none, .call 88 100 [(.v (.slice none 0 0)), (.t 87), (.i 4)], none, 0⟩,
 ⟨none, .mv 89 (.t 3), none, 0⟩,
 ⟨none, .app 90 (.t 88) (.t 89) 5 1 1, none, 0⟩,
 ⟨none, .mv 2 (.t 90), none, 0⟩]
def c85 : SC :=
 (.seq (.reg false c85r0)
 (.seq (.reg false c85r1)
 (.seq (.seq (.reg false c85r2)
 (.blk 0 (.loop (.seq (.reg false c85r3)
   (.seq (.cond (.t 31)
    .skip
    (.exit 0))
   (.seq (.blk 1 (.seq (.reg false c85r4)
    (.reg false c85r5)))
   (.reg false c85r6)))))))
 (.seq (.reg false c85r7)
 (.seq (.seq (.reg false c85r8)
 (.cond (.t 41)
  (.reg false c85r9)
  .skip))
 (.seq (.rgX c85r10)
 (.seq (.seq (.reg false c85r11)
 (.blk 2 (.loop (.seq (.reg false c85r12)
   (.seq (.cond (.t 57)
    .skip
    (.exit 2))
   (.seq (.blk 3 (.seq (.reg false c85r13)
    (.seq (.seq (.reg false c85r14)
    (.cond (.t 62)
     (.reg false c85r15)
     .skip))
    (.seq (.rgX c85r16)
    (.reg false c85r17)))))
   (.reg false c85r18)))))))
 (.seq (.reg false c85r19)
 (.seq (.reg false c85r20)
 .ret)))))))))
def v85 : List Nat × List Nat := ([1, 8], [1, 8, 11, 13, 15, 18, 20, 22, 24, 26, 38, 40, 49, 53, 64, 69, 71])
def o85 : List RS := [.t 2]
def c87r0 : List SI := [
 ⟨none, .mv 2 (.v (.slice none 0 0)), none, 0⟩]
def c87r1 : List SI := [
 ⟨none, .mv 3 (.t 0), none, 0⟩,
 ⟨none, .app 4 (.v (.slice none 0 0)) (.t 3) 5 1 1, none, 0⟩,
 ⟨none, .mv 2 (.t 4), none, 0⟩]
def c87 : SC :=
 (.seq (.reg false c87r0)
 (.seq (.reg false c87r1)
 .ret))
def v87 : List Nat × List Nat := ([], [])
def o87 : List RS := [.t 2]
theorem s87 : slimC Tryz.prog Tryz.f87.ntmps v87.1 v87.2 ((Tryz.f87.body).getD .skip) = some c87 := by kernel_rfl
theorem q87 : slimR Tryz.prog Tryz.f87.ntmps v87.1 v87.2 Tryz.f87.results.toList = some o87 := by kernel_rfl
def c89r0 : List SI := [
 ⟨none, .bx 1 (.t 0), none, 0⟩,
 ⟨none, .mv 2 (.v .nilFunc), none, 0⟩]
def c89r1 : List SI := [
 ⟨none, .mkf 3 (.func 101) [(.t 1)], none, 0⟩,
 ⟨none, .mv 2 (.t 3), none, 0⟩]
def c89 : SC :=
 (.seq (.reg false c89r0)
 (.seq (.reg false c89r1)
 .ret))
def v89 : List Nat × List Nat := ([], [])
def o89 : List RS := [.t 2]
def c90r0 : List SI := [
 ⟨none, .bxR 2 (.t 0), none, 0⟩,
 ⟨none, .alR 4 [(.int .i64 0), (.slice none 0 0)], none, 0⟩]
def c90r1 : List (Bool × SI) := [
 (true, ⟨none, .nop, (some 2), 0⟩),
 (true, N_ (.ldR 6 2 0 none)),
 (true, ⟨none, .nop, (some 2), 0⟩),
 (true, N_ (.ldR 8 2 1 none)),
 (true, N_ (.mv 9 (.t 1))),
 (true, N_ (.sl 10 (.t 8) none (some (.t 9)) none 1)),
 (false, N_ (.call 11 103 [(.t 10)])),
 (true, N_ (.bld 12 [(.int .i64 0), (.slice none 0 0)] [(0, 1, (.t 6)), (1, 1, (.t 11))]))]
def c90r2 : List SI := [
 ⟨none, .stR 4 0 2 (.t 12), none, 0⟩]
def c90 : SC :=
 (.seq (.reg false c90r0)
 (.seq (.rgY c90r1 c90r2)
 .ret))
def v90 : List Nat × List Nat := ([2, 4], [2, 4, 5, 7])
def o90 : List RS := [.r 4 (some 2)]
theorem q90 : slimR Tryz.prog Tryz.f90.ntmps v90.1 v90.2 Tryz.f90.results.toList = some o90 := by kernel_rfl
def c91r0 : List SI := [
 ⟨none, .alR 4 [(.int .i64 0), (.int .i64 0), (.int .i64 0), (.int .i64 0), (.int .i64 0), (.int .i64 0), (.int .i64 0), (.bool false), (.int .i64 0), (.slice none 0 0)], none, 0⟩,
 ⟨none, .mv 5 (.i 0), none, 0⟩,
 ⟨none, .mv 6 (.i 0), none, 0⟩]
def c91r1 : List SI := [
 ⟨none, .mv 14 (.t 0), none, 0⟩,
 ⟨none, .mv 15 (.t 1), none, 0⟩,
 ⟨none, .call 16 104 [(.t 14), (.t 15), (.i 4)], none, 0⟩,
 ⟨none, .mv 13 (.t 16), none, 0⟩,
 ⟨none, .ext 17 (.t 13) 0, none, 0⟩,
 ⟨none, .ext 18 (.t 13) 1, none, 0⟩,
 ⟨none, .mv 7 (.t 17), none, 0⟩,
 ⟨none, .mv 8 (.t 18), none, 0⟩]
def c91r2 : List SI := [
 ⟨none, .mv 19 (.t 8), none, 0⟩,
 ⟨none, .bin 20 .neq (.t 19) (.i 0), none, 0⟩]
def c91r3 : List SI := [
 ⟨none, .bld 21 [(.int .i64 0), (.int .i64 0), (.int .i64 0), (.int .i64 0), (.int .i64 0), (.int .i64 0), (.int .i64 0), (.bool false), (.int .i64 0), (.slice none 0 0)] [], none, 0⟩,
 ⟨none, .mv 22 (.t 8), none, 0⟩,
 ⟨none, .stR 4 0 10 (.t 21), none, 0⟩,
 ⟨none, .mv 5 (.i 0), none, 0⟩,
 ⟨none, .mv 6 (.t 22), none, 0⟩]
def c91r4 : List SI := [
 ⟨none, .mv 23 (.t 7), none, 0⟩,
 ⟨none, .bin 24 .lss (.t 23) (.v (.int .u64 5)), none, 0⟩,
 ⟨none, .mv 25 (.t 24), none, 0⟩,
 ⟨some (25, false), .mv 26 (.t 7), none, 26⟩,
 ⟨some (25, false), .bin 27 .gtr (.t 26) (.v (.int .u64 2044)), none, 27⟩,
 ⟨none, .pick 28 (.t 25) (.b true) (.t 27), none, 0⟩]
def c91r5 : List SI := [
 ⟨none, .bld 29 [(.int .i64 0), (.int .i64 0), (.int .i64 0), (.int .i64 0), (.int .i64 0), (.int .i64 0), (.int .i64 0), (.bool false), (.int .i64 0), (.slice none 0 0)] [], none, 0⟩,
 ⟨none, .stR 4 0 10 (.t 29), none, 0⟩,
 ⟨none, .mv 5 (.i 0), none, 0⟩,
 ⟨none, .mv 6 (.i 11), none, 0⟩]
def c91r6 : List SI := [
 ⟨none, .mv 30 (.t 1), none, 0⟩,
 ⟨none, .bin 31 .add (.t 30) (.i 4), none, 0⟩,
 ⟨none, .mv 32 (.t 7), none, 0⟩,
 ⟨none, .cvI 33 .i64 (.t 32), none, 0⟩,
 ⟨none, .bin 34 .add (.t 31) (.t 33), none, 0⟩,
 ⟨none, .mv 9 (.t 34), none, 0⟩]
def c91r7 : List SI := [
 ⟨none, .mv 35 (.t 9), none, 0⟩,
 ⟨none, .mv 36 (.t 0), none, 0⟩,
 ⟨none, .len 37 false (.t 36), none, 0⟩,
 ⟨none, .bin 38 .gtr (.t 35) (.t 37), none, 0⟩]
def c91r8 : List SI := [
 ⟨none, .bld 39 [(.int .i64 0), (.int .i64 0), (.int .i64 0), (.int .i64 0), (.int .i64 0), (.int .i64 0), (.int .i64 0), (.bool false), (.int .i64 0), (.slice none 0 0)] [], none, 0⟩,
 ⟨none, .stR 4 0 10 (.t 39), none, 0⟩,
 ⟨none, .mv 5 (.i 0), none, 0⟩,
 ⟨none, .mv 6 (.i 10), none, 0⟩]
def c91r9 : List SI := [
 ⟨none, .mv 41 (.t 0), none, 0⟩,
 ⟨none, .mv 42 (.t 1), none, 0⟩,
 ⟨none, .bin 43 .add (.t 42) (.i 4), none, 0⟩,
 ⟨none, .mv 44 (.t 9), none, 0⟩,
 ⟨none, .sl 45 (.t 41) (some (.t 43)) (some (.t 44)) none 1, none, 0⟩,
 ⟨none, .call 46 105 [(.t 45)], none, 0⟩,
 ⟨none, .mv 40 (.t 46), none, 0⟩,
 ⟨none, .ext 47 (.t 40) 0, none, 0⟩,
 ⟨none, .ext 48 (.t 40) 1, none, 0⟩,
 ⟨none, .mv 10 (.t 47), none, 0⟩,
 ⟨none, .mv 8 (.t 48), none, 0⟩]
def c91r10 : List SI := [
 ⟨none, .mv 49 (.t 8), none, 0⟩,
 ⟨none, .bin 50 .neq (.t 49) (.i 0), none, 0⟩]
def c91r11 : List SI := [
 ⟨none, .bld 51 [(.int .i64 0), (.int .i64 0), (.int .i64 0), (.int .i64 0), (.int .i64 0), (.int .i64 0), (.int .i64 0), (.bool false), (.int .i64 0), (.slice none 0 0)] [], none, 0⟩,
 ⟨none, .mv 52 (.t 8), none, 0⟩,
 ⟨none, .stR 4 0 10 (.t 51), none, 0⟩,
 ⟨none, .mv 5 (.i 0), none, 0⟩,
 ⟨none, .mv 6 (.t 52), none, 0⟩]
def c91r12 : List SI := [
 ⟨none, .mv 54 (.t 10), none, 0⟩,
 ⟨none, .call 55 106 [(.t 54)], none, 0⟩,
 ⟨none, .mv 53 (.t 55), none, 0⟩,
 ⟨none, .ext 56 (.t 53) 0, none, 0⟩,
 ⟨none, .ext 57 (.t 53) 1, none, 0⟩,
 ⟨none, .alR 11 [(.int .i64 0), (.int .i64 0), (.int .i64 0), (.int .i64 0), (.int .i64 0), (.int .i64 0), (.int .i64 0), (.bool false), (.int .i64 0), (.slice none 0 0)], none, 0⟩,
 ⟨none, .stR 11 0 10 (.t 56), none, 0⟩,
 ⟨none, .mv 12 (.t 57), none, 0⟩]
def c91r13 : List SI := [
 ⟨none, .mv 58 (.t 12), none, 0⟩,
 ⟨none, .un 59 .not (.t 58), none, 0⟩,
 ⟨none, .mv 60 (.t 59), none, 0⟩,
 ⟨some (60, false), .ldR 61 11 0 (some 10), none, 61⟩,
 ⟨some (60, false), .call 62 54 [(.t 61)], none, 62⟩,
 ⟨some (60, false), .bin 63 .neq (.t 62) (.i 0), none, 63⟩,
 ⟨none, .pick 64 (.t 60) (.b true) (.t 63), none, 0⟩]
def c91r14 : List SI := [
 ⟨none, .bld 65 [(.int .i64 0), (.int .i64 0), (.int .i64 0), (.int .i64 0), (.int .i64 0), (.int .i64 0), (.int .i64 0), (.bool false), (.int .i64 0), (.slice none 0 0)] [], none, 0⟩,
 ⟨none, .stR 4 0 10 (.t 65), none, 0⟩,
 ⟨none, .mv 5 (.i 0), none, 0⟩,
 ⟨none, .mv 6 (.i 11), none, 0⟩]
def c91r15 : List SI := [
 ⟨none, .ldR 66 11 0 (some 10), none, 0⟩,
 ⟨none, .mv 67 (.t 9), none, 0⟩,
 ⟨none, .stR 4 0 10 (.t 66), none, 0⟩,
 ⟨none, .mv 5 (.t 67), none, 0⟩,
 ⟨none, .mv 6 (.i 0), none, 0⟩]
def c91 : SC :=
 (.seq (.reg false c91r0)
 (.seq (.reg false c91r1)
 (.seq (.seq (.reg false c91r2)
 (.cond (.t 20)
  (.seq (.reg false c91r3)
  .ret)
  .skip))
 (.seq (.seq (.reg false c91r4)
 (.cond (.t 28)
  (.seq (.reg false c91r5)
  .ret)
  .skip))
 (.seq (.reg false c91r6)
 (.seq (.seq (.reg false c91r7)
 (.cond (.t 38)
  (.seq (.reg false c91r8)
  .ret)
  .skip))
 (.seq (.reg false c91r9)
 (.seq (.seq (.reg false c91r10)
 (.cond (.t 50)
  (.seq (.reg false c91r11)
  .ret)
  .skip))
 (.seq (.reg false c91r12)
 (.seq (.seq (.reg false c91r13)
 (.cond (.t 64)
  (.seq (.reg false c91r14)
  .ret)
  .skip))
 (.seq (.reg false c91r15)
 .ret)))))))))))
def v91 : List Nat × List Nat := ([4, 11], [4, 11])
def o91 : List RS := [.r 4 (some 10), .t 5, .t 6]
def c92r0 : List SI := [
 ⟨none, .bxR 1 (.t 0), none, 0⟩,
 ⟨none, .mv 2 (.b false), none, 0⟩]
def c92r1 : List SI := [
 ⟨none, .nop, (some 1), 0⟩,
 ⟨none, .ldR 8 1 0 none, none, 0⟩,
 ⟨none, .nop, (some 1), 0⟩,
 ⟨none, .ldR 10 1 1 none, none, 0⟩,
 ⟨none, .nop, (some 1), 0⟩,
 ⟨none, .ldR 12 1 2 none, none, 0⟩,
 ⟨none, .bls 13 3 3 1 [(.int .i64 0), (.int .i64 0), (.int .i64 0)] [(0, 1, (.t 8)), (1, 1, (.t 10)), (2, 1, (.t 12))], none, 0⟩,
 ⟨none, .call 14 107 [(.i 1099511627776), (.t 13)], none, 0⟩,
 ⟨none, .un 15 .not (.t 14), none, 0⟩,
 ⟨none, .mv 16 (.t 15), none, 0⟩,
 ⟨some (16, false), .nop, (some 1), 99999⟩,
 ⟨some (16, false), .ldR 18 1 3 none, none, 18⟩,
 ⟨some (16, false), .nop, (some 1), 99999⟩,
 ⟨some (16, false), .ldR 20 1 5 none, none, 20⟩,
 ⟨some (16, false), .nop, (some 1), 99999⟩,
 ⟨some (16, false), .ldR 22 1 6 none, none, 22⟩,
 ⟨some (16, false), .bls 23 3 3 1 [(.int .i64 0), (.int .i64 0), (.int .i64 0)] [(0, 1, (.t 18)), (1, 1, (.t 20)), (2, 1, (.t 22))], none, 23⟩,
 ⟨some (16, false), .call 24 107 [(.i 1048576), (.t 23)], none, 24⟩,
 ⟨some (16, false), .un 25 .not (.t 24), none, 25⟩,
 ⟨none, .pick 26 (.t 16) (.b true) (.t 25), none, 0⟩]
def c92r2 : List SI := [
 ⟨none, .mv 2 (.b false), none, 0⟩]
def c92r3 : List SI := [
 ⟨none, .nop, (some 1), 0⟩,
 ⟨none, .ldR 28 1 1 none, none, 0⟩,
 ⟨none, .nop, (some 1), 0⟩,
 ⟨none, .ldR 30 1 0 none, none, 0⟩,
 ⟨none, .bin 31 .sub (.t 28) (.t 30), none, 0⟩,
 ⟨none, .mv 3 (.t 31), none, 0⟩]
def c92r4 : List SI := [
 ⟨none, .mv 33 (.t 3), none, 0⟩,
 ⟨none, .bin 34 .lss (.t 33) (.i 0), none, 0⟩,
 ⟨none, .mv 35 (.t 34), none, 0⟩,
 ⟨some (35, false), .mv 36 (.t 3), none, 36⟩,
 ⟨some (35, false), .bin 37 .geq (.t 36) (.i 16), none, 37⟩,
 ⟨none, .pick 38 (.t 35) (.b true) (.t 37), none, 0⟩,
 ⟨none, .mv 39 (.t 38), none, 0⟩,
 ⟨some (39, false), .nop, (some 1), 99999⟩,
 ⟨some (39, false), .ldR 41 1 2 none, none, 41⟩,
 ⟨some (39, false), .mv 42 (.t 3), none, 42⟩,
 ⟨some (39, false), .bin 43 .add (.t 41) (.t 42), none, 43⟩,
 ⟨some (39, false), .bin 44 .gtr (.t 43) (.i 1099511627776), none, 44⟩,
 ⟨none, .pick 45 (.t 39) (.b true) (.t 44), none, 0⟩,
 ⟨none, .mv 46 (.t 45), none, 0⟩,
 ⟨some (46, false), .nop, (some 1), 99999⟩,
 ⟨some (46, false), .ldR 48 1 6 none, none, 48⟩,
 ⟨some (46, false), .mv 49 (.t 3), none, 49⟩,
 ⟨some (46, false), .bin 50 .add (.t 48) (.t 49), none, 50⟩,
 ⟨some (46, false), .bin 51 .gtr (.t 50) (.i 1048576), none, 51⟩,
 ⟨none, .pick 52 (.t 46) (.b true) (.t 51), none, 0⟩,
 ⟨none, .mv 32 (.t 52), none, 0⟩]
def c92r5 : List SI := [
 ⟨none, .mv 2 (.b false), none, 0⟩]
def c92r6 : List SI := [
 ⟨none, .nop, (some 1), 0⟩,
 ⟨none, .ldR 55 1 4 none, none, 0⟩,
 ⟨none, .bin 56 .lss (.t 55) (.i (-1)), none, 0⟩,
 ⟨none, .mv 57 (.t 56), none, 0⟩,
 ⟨some (57, false), .nop, (some 1), 99999⟩,
 ⟨some (57, false), .ldR 59 1 4 none, none, 59⟩,
 ⟨some (57, false), .bin 60 .gtr (.t 59) (.i 1099511627776), none, 60⟩,
 ⟨none, .pick 61 (.t 57) (.b true) (.t 60), none, 0⟩,
 ⟨none, .mv 53 (.t 61), none, 0⟩]
def c92r7 : List SI := [
 ⟨none, .mv 2 (.b false), none, 0⟩]
def c92r8 : List SI := [
 ⟨none, .nop, (some 1), 0⟩,
 ⟨none, .ldR 64 1 4 none, none, 0⟩,
 ⟨none, .bin 65 .eql (.t 64) (.i (-1)), none, 0⟩,
 ⟨none, .mv 66 (.t 65), none, 0⟩,
 ⟨some (66, true), .nop, (some 1), 99999⟩,
 ⟨some (66, true), .ldR 68 1 5 none, none, 68⟩,
 ⟨some (66, true), .nop, (some 1), 99999⟩,
 ⟨some (66, true), .ldR 70 1 6 none, none, 70⟩,
 ⟨some (66, true), .bin 71 .add (.t 68) (.t 70), none, 71⟩,
 ⟨some (66, true), .bin 72 .neq (.t 71) (.i 0), none, 72⟩,
 ⟨some (66, true), .mv 73 (.t 72), none, 73⟩,
 ⟨some (73, false), .nop, (some 1), 99999⟩,
 ⟨some (73, false), .ldR 75 1 7 none, none, 75⟩,
 ⟨some (66, true), .pick 76 (.t 73) (.b true) (.t 75), none, 76⟩,
 ⟨some (66, true), .mv 77 (.t 76), none, 77⟩,
 ⟨some (77, false), .nop, (some 1), 99999⟩,
 ⟨some (77, false), .ldR 79 1 8 none, none, 79⟩,
 ⟨some (77, false), .bin 80 .neq (.t 79) (.i 0), none, 80⟩,
 ⟨some (66, true), .pick 81 (.t 77) (.b true) (.t 80), none, 81⟩,
 ⟨none, .pick 82 (.t 66) (.t 81) (.b false), none, 0⟩,
 ⟨none, .mv 62 (.t 82), none, 0⟩]
def c92r9 : List SI := [
 ⟨none, .mv 2 (.b false), none, 0⟩]
def c92r10 : List SI := [
 ⟨none, .nop, (some 1), 0⟩,
 ⟨none, .ldR 84 1 8 none, none, 0⟩]
def c92r11 : List SI := [
 ⟨none, .bin 86 .eql (.t 84) (.i 0), none, 0⟩,
 ⟨none, .mv 85 (.t 86), none, 0⟩]
def c92r12 : List SI := [
 ⟨none, .nop, (some 1), 0⟩,
 ⟨none, .ldR 88 1 0 none, none, 0⟩,
 ⟨none, .mv 4 (.t 88), none, 0⟩]
def c92r13 : List SI := [
 ⟨none, .nop, (some 1), 0⟩,
 ⟨none, .ldR 90 1 9 none, none, 0⟩,
 ⟨none, .len 91 false (.t 90), none, 0⟩,
 ⟨none, .mv 92 (.i 0), none, 0⟩]
def c92r14 : List SI := [
 ⟨none, .bin 93 .lss (.t 92) (.t 91), none, 0⟩]
def c92r15 : List SI := [
 ⟨none, .ixA 94 (.t 90) (.t 92) 5, none, 0⟩,
 ⟨none, .ld 95 (.t 94) (some 5), none, 0⟩,
 ⟨none, .alR 6 [(.int .i64 0), (.string ⟨#[]⟩), (.string ⟨#[]⟩), (.bool false), (.int .i64 0)], none, 0⟩,
 ⟨none, .stR 6 0 5 (.t 95), none, 0⟩]
def c92r16 : List SI := [
 ⟨none, .ldR 96 6 0 (some 5), none, 0⟩,
 ⟨none, .call 97 108 [(.t 96)], none, 0⟩,
 ⟨none, .bin 98 .neq (.t 97) (.i 0), none, 0⟩,
 ⟨none, .mv 99 (.t 98), none, 0⟩,
 ⟨some (99, false), .nop, (some 6), 99999⟩,
 ⟨some (99, false), .ldR 101 6 0 none, none, 101⟩,
 ⟨some (99, false), .mv 102 (.t 4), none, 102⟩,
 ⟨some (99, false), .bin 103 .lss (.t 101) (.t 102), none, 103⟩,
 ⟨none, .pick 104 (.t 99) (.b true) (.t 103), none, 0⟩,
 ⟨none, .mv 105 (.t 104), none, 0⟩,
 ⟨some (105, false), .nop, (some 6), 99999⟩,
 ⟨some (105, false), .ldR 107 6 0 none, none, 107⟩,
 ⟨some (105, false), .nop, (some 1), 99999⟩,
 ⟨some (105, false), .ldR 109 1 1 none, none, 109⟩,
 ⟨some (105, false), .bin 110 .gtr (.t 107) (.t 109), none, 110⟩,
 ⟨none, .pick 111 (.t 105) (.b true) (.t 110), none, 0⟩]
def c92r17 : List SI := [
 ⟨none, .mv 2 (.b false), none, 0⟩]
def c92r18 : List SI := [
 ⟨none, .nop, (some 6), 0⟩,
 ⟨none, .ldR 113 6 0 none, none, 0⟩,
 ⟨none, .bin 114 .add (.t 113) (.i 1), none, 0⟩,
 ⟨none, .mv 4 (.t 114), none, 0⟩]
def c92r19 : List SI := [
 ⟨none, .bin 115 .add (.t 92) (.i 1), none, 0⟩,
 ⟨none, .mv 92 (.t 115), none, 0⟩]
def c92r20 : List SI := [
 ⟨none, .mv 2 (.b true), none, 0⟩]
def c92r21 : List SI := [
 ⟨none, .bin 117 .eql (.t 84) (.i 1), none, 0⟩,
 ⟨none, .mv 116 (.t 117), none, 0⟩]
def c92r22 : List SI := [
 ⟨none, .bin 118 .eql (.t 84) (.i 2), none, 0⟩,
 ⟨none, .mv 116 (.t 118), none, 0⟩]
def c92r23 : List SI := [
 ⟨none, .mv 119 (.t 3), none, 0⟩,
 ⟨none, .bin 120 .eql (.t 119) (.i 0), none, 0⟩,
 ⟨none, .mv 121 (.t 120), none, 0⟩,
 ⟨some (121, true), .nop, (some 1), 99999⟩,
 ⟨some (121, true), .ldR 123 1 9 none, none, 123⟩,
 ⟨some (121, true), .len 124 false (.t 123), none, 124⟩,
 ⟨some (121, true), .bin 125 .eql (.t 124) (.i 0), none, 125⟩,
 ⟨none, .pick 126 (.t 121) (.t 125) (.b false), none, 0⟩,
 ⟨none, .mv 127 (.t 126), none, 0⟩,
 ⟨some (127, true), .nop, (some 1), 99999⟩,
 ⟨some (127, true), .ldR 129 1 7 none, none, 129⟩,
 ⟨none, .pick 130 (.t 127) (.t 129) (.b false), none, 0⟩,
 ⟨none, .mv 2 (.t 130), none, 0⟩]
def c92r24 : List SI := [
 ⟨none, .mv 2 (.b false), none, 0⟩]
def c92 : SC :=
 (.seq (.reg false c92r0)
 (.seq (.seq (.reg false c92r1)
 (.cond (.t 26)
  (.seq (.reg false c92r2)
  .ret)
  .skip))
 (.seq (.reg false c92r3)
 (.seq (.blk 0 (.seq (.reg false c92r4)
  (.cond (.t 32)
   (.seq (.reg false c92r5)
   .ret)
   (.seq (.reg false c92r6)
   (.cond (.t 53)
    (.seq (.reg false c92r7)
    .ret)
    (.seq (.reg false c92r8)
    (.cond (.t 62)
     (.seq (.reg false c92r9)
     .ret)
     .skip)))))))
 (.seq (.seq (.reg false c92r10)
 (.blk 1 (.seq (.reg false c92r11)
  (.cond (.t 85)
   (.seq (.reg false c92r12)
   (.seq (.seq (.reg false c92r13)
   (.blk 2 (.loop (.seq (.reg false c92r14)
     (.seq (.cond (.t 93)
      .skip
      (.exit 2))
     (.seq (.blk 3 (.seq (.reg false c92r15)
      (.seq (.seq (.reg false c92r16)
      (.cond (.t 111)
       (.seq (.reg false c92r17)
       .ret)
       .skip))
      (.reg false c92r18))))
     (.reg false c92r19)))))))
   (.seq (.reg false c92r20)
   .ret)))
   (.seq (.seq (.reg false c92r21)
   (.cond (.t 116)
    .skip
    (.reg false c92r22)))
   (.cond (.t 116)
    (.seq (.reg false c92r23)
    .ret)
    .skip))))))
 (.seq (.reg false c92r24)
 .ret))))))
def v92 : List Nat × List Nat := ([1, 6], [1, 6, 7, 9, 11, 17, 19, 21, 27, 29, 40, 47, 54, 58, 63, 67, 69, 74, 78, 83, 87, 89, 100, 106, 108, 112, 122, 128])
def o92 : List RS := [.t 2]
theorem s92 : slimC Tryz.prog Tryz.f92.ntmps v92.1 v92.2 ((Tryz.f92.body).getD .skip) = some c92 := by kernel_rfl
theorem q92 : slimR Tryz.prog Tryz.f92.ntmps v92.1 v92.2 Tryz.f92.results.toList = some o92 := by kernel_rfl
def c93r0 : List SI := [
 ⟨none, .bxR 1 (.t 0), none, 0⟩,
 ⟨none, .mv 2 (.v (.slice none 0 0)), none, 0⟩]
def c93r1 : List SI := [
 ⟨none, .mv 3 (.v (.slice none 0 0)), none, 0⟩]
def c93r2 : List SI := [
 ⟨none, .nop, (some 1), 0⟩,
 ⟨none, .ldR 13 1 0 none, none, 0⟩,
 ⟨none, .nop, (some 1), 0⟩,
 ⟨none, .ldR 15 1 1 none, none, 0⟩,
 ⟨none, .nop, (some 1), 0⟩,
 ⟨none, .ldR 17 1 0 none, none, 0⟩,
 ⟨none, .bin 18 .sub (.t 15) (.t 17), none, 0⟩,
 ⟨none, .nop, (some 1), 0⟩,
 ⟨none, .ldR 20 1 2 none, none, 0⟩,
 ⟨none, .nop, (some 1), 0⟩,
 ⟨none, .ldR 22 1 3 none, none, 0⟩,
 ⟨none, .nop, (some 1), 0⟩,
 ⟨none, .ldR 24 1 4 none, none, 0⟩,
 ⟨none, .nop, (some 1), 0⟩,
 ⟨none, .ldR 26 1 5 none, none, 0⟩,
 ⟨none, .nop, (some 1), 0⟩,
 ⟨none, .ldR 28 1 6 none, none, 0⟩,
 ⟨none, .bld 29 [(.int .i64 0), (.int .i64 0), (.int .i64 0), (.int .i64 0), (.int .i64 0), (.int .i64 0), (.int .i64 0)] [(0, 1, (.t 13)), (1, 1, (.t 18)), (2, 1, (.t 20)), (3, 1, (.t 22)), (4, 1, (.t 24)), (5, 1, (.t 26)), (6, 1, (.t 28))], none, 0⟩,
 ⟨none, .mv 30 (.i 0), none, 0⟩]
def c93r3 : List SI := [
 ⟨none, .bin 31 .lss (.t 30) (.i 7), none, 0⟩]
def c93r4 : List SI := [
 ⟨none, .ixV 32 (.t 29) (.t 30) 7 1 none, none, 0⟩,
 ⟨none, .mv 5 (.t 32), none, 0⟩]
def c93r5 : List SI := [
 ⟨none, .mv 33 (.t 3), none, 0⟩,
 ⟨none, .mv 34 (.t 5), none, 0⟩,
 ⟨none, .call 35 109 [(.t 33), (.t 34)], none, 0⟩,
 ⟨none, .mv 3 (.t 35), none, 0⟩]
def c93r6 : List SI := [
 ⟨none, .bin 36 .add (.t 30) (.i 1), none, 0⟩,
 ⟨none, .mv 30 (.t 36), none, 0⟩]
def c93r7 : List SI := [
 ⟨none, .nop, (some 1), 0⟩,
 ⟨none, .ldR 38 1 8 none, none, 0⟩,
 ⟨none, .cvI 39 .u8 (.t 38), none, 0⟩,
 ⟨none, .mv 6 (.t 39), none, 0⟩]
def c93r8 : List SI := [
 ⟨none, .nop, (some 1), 0⟩,
 ⟨none, .ldR 41 1 7 none, none, 0⟩]
def c93r9 : List SI := [
 ⟨none, .mv 42 (.t 6), none, 0⟩,
 ⟨none, .bin 43 .or (.t 42) (.v (.int .u8 4)), none, 0⟩,
 ⟨none, .mv 6 (.t 43), none, 0⟩]
def c93r10 : List (Bool × SI) := [
 (true, N_ (.mv 44 (.t 3))),
 (true, N_ (.mv 45 (.t 6))),
 (true, ⟨none, .nop, (some 1), 0⟩),
 (true, N_ (.ldR 49 1 9 none)),
 (true, N_ (.len 50 false (.t 49))),
 (false, N_ (.bls 46 5 1 1 [(.int .u8 0)] [(0, 1, (.t 45))])),
 (false, N_ (.app 47 (.t 44) (.t 46) 5 1 1)),
 (false, N_ (.call 51 109 [(.t 47), (.t 50)])),
 (true, N_ (.mv 3 (.t 51)))]
def c93r11 : List SI := [
 ⟨none, .nop, (some 1), 0⟩,
 ⟨none, .ldR 53 1 9 none, none, 0⟩,
 ⟨none, .len 54 false (.t 53), none, 0⟩,
 ⟨none, .bin 55 .gtr (.t 54) (.i 0), none, 0⟩]
def c93r12 : List SI := [
 ⟨none, .nop, (some 1), 0⟩,
 ⟨none, .ldR 57 1 9 none, none, 0⟩,
 ⟨none, .ixA 58 (.t 57) (.i 0) 5, none, 0⟩,
 ⟨none, .flA 59 (.t 58) 4, none, 0⟩,
 ⟨none, .ld 60 (.t 59) none, none, 0⟩,
 ⟨none, .mv 7 (.t 60), none, 0⟩]
def c93r13 : List SI := [
 ⟨none, .mv 61 (.t 3), none, 0⟩,
 ⟨none, .mv 62 (.t 7), none, 0⟩,
 ⟨none, .call 63 109 [(.t 61), (.t 62)], none, 0⟩,
 ⟨none, .mv 3 (.t 63), none, 0⟩]
def c93r14 : List SI := [
 ⟨none, .nop, (some 1), 0⟩,
 ⟨none, .ldR 65 1 9 none, none, 0⟩,
 ⟨none, .len 66 false (.t 65), none, 0⟩,
 ⟨none, .mv 67 (.i 0), none, 0⟩]
def c93r15 : List SI := [
 ⟨none, .bin 68 .lss (.t 67) (.t 66), none, 0⟩]
def c93r16 : List SI := [
 ⟨none, .ixA 69 (.t 65) (.t 67) 5, none, 0⟩,
 ⟨none, .ld 70 (.t 69) (some 5), none, 0⟩,
 ⟨none, .alR 9 [(.int .i64 0), (.string ⟨#[]⟩), (.string ⟨#[]⟩), (.bool false), (.int .i64 0)], none, 0⟩,
 ⟨none, .stR 9 0 5 (.t 70), none, 0⟩]
def c93r17 : List SI := [
 ⟨none, .ldR 72 9 0 (some 5), none, 0⟩,
 ⟨none, .nop, (some 1), 0⟩,
 ⟨none, .ldR 74 1 0 none, none, 0⟩,
 ⟨none, .mv 75 (.t 7), none, 0⟩,
 ⟨none, .call 76 110 [(.t 72), (.t 74), (.t 75)], none, 0⟩,
 ⟨none, .mv 71 (.t 76), none, 0⟩,
 ⟨none, .ext 77 (.t 71) 0, none, 0⟩,
 ⟨none, .ext 78 (.t 71) 1, none, 0⟩,
 ⟨none, .mv 10 (.t 77), none, 0⟩,
 ⟨none, .mv 11 (.t 78), none, 0⟩]
def c93r18 : List SI := [
 ⟨none, .mv 79 (.t 3), none, 0⟩,
 ⟨none, .mv 80 (.t 10), none, 0⟩,
 ⟨none, .app 81 (.t 79) (.t 80) 5 1 1, none, 0⟩,
 ⟨none, .mv 3 (.t 81), none, 0⟩]
def c93r19 : List SI := [
 ⟨none, .bin 82 .add (.t 67) (.i 1), none, 0⟩,
 ⟨none, .mv 67 (.t 82), none, 0⟩]
def c93r20 : List SI := [
 ⟨none, .mv 83 (.t 3), none, 0⟩,
 ⟨none, .call 84 111 [(.t 83)], none, 0⟩,
 ⟨none, .mv 3 (.t 84), none, 0⟩]
def c93r21 : List SI := [
 ⟨none, .mv 85 (.t 3), none, 0⟩,
 ⟨none, .len 86 false (.t 85), none, 0⟩,
 ⟨none, .cvI 87 .u64 (.t 86), none, 0⟩,
 ⟨none, .call 88 112 [(.v (.slice none 0 0)), (.t 87), (.i 4)], none, 0⟩,
 ⟨none, .mv 89 (.t 3), none, 0⟩,
 ⟨none, .app 90 (.t 88) (.t 89) 5 1 1, none, 0⟩,
 ⟨none, .mv 2 (.t 90), none, 0⟩]
def c93 : SC :=
 (.seq (.reg false c93r0)
 (.seq (.reg false c93r1)
 (.seq (.seq (.reg false c93r2)
 (.blk 0 (.loop (.seq (.reg false c93r3)
   (.seq (.cond (.t 31)
    .skip
    (.exit 0))
   (.seq (.blk 1 (.seq (.reg false c93r4)
    (.reg false c93r5)))
   (.reg false c93r6)))))))
 (.seq (.reg false c93r7)
 (.seq (.seq (.reg false c93r8)
 (.cond (.t 41)
  (.reg false c93r9)
  .skip))
 (.seq (.rgX c93r10)
 (.seq (.seq (.reg false c93r11)
 (.cond (.t 55)
  (.seq (.reg false c93r12)
  (.seq (.reg false c93r13)
  (.seq (.reg false c93r14)
  (.blk 2 (.loop (.seq (.reg false c93r15)
    (.seq (.cond (.t 68)
     .skip
     (.exit 2))
    (.seq (.blk 3 (.seq (.reg false c93r16)
     (.seq (.reg false c93r17)
     (.reg false c93r18))))
    (.reg false c93r19)))))))))
  .skip))
 (.seq (.reg false c93r20)
 (.seq (.reg false c93r21)
 .ret)))))))))
def v93 : List Nat × List Nat := ([1, 9], [1, 9, 12, 14, 16, 19, 21, 23, 25, 27, 37, 40, 48, 52, 56, 64, 73])
def o93 : List RS := [.t 2]
theorem s93 : slimC Tryz.prog Tryz.f93.ntmps v93.1 v93.2 ((Tryz.f93.body).getD .skip) = some c93 := by kernel_rfl
theorem q93 : slimR Tryz.prog Tryz.f93.ntmps v93.1 v93.2 Tryz.f93.results.toList = some o93 := by kernel_rfl
def c94r0 : List SI := [
 ⟨none, .mv 4 (.v (.slice none 0 0)), none, 0⟩]
def c94r1 : List SI := [
 ⟨none, .mv 5 (.t 1), none, 0⟩,
 ⟨none, .bin 6 .lss (.t 5) (.i 0), none, 0⟩]
def c94r2 : List SI := [
 ⟨none, .mv 8 (.t 1), none, 0⟩,
 ⟨none, .mv 9 (.t 0), none, 0⟩,
 ⟨none, .cpc 10 (.t 9), none, 0⟩,
 ⟨none, .mv 11 (.t 0), none, 0⟩,
 ⟨none, .len 12 false (.t 11), none, 0⟩,
 ⟨none, .bin 13 .sub (.t 10) (.t 12), none, 0⟩,
 ⟨none, .bin 14 .sub (.t 8) (.t 13), none, 0⟩,
 ⟨none, .mv 1 (.t 14), none, 0⟩]
def c94r3 : List SI := [
 ⟨none, .mv 15 (.t 1), none, 0⟩,
 ⟨none, .bin 16 .gtr (.t 15) (.i 0), none, 0⟩]
def c94r4 : List SI := [
 ⟨none, .mv 17 (.t 0), none, 0⟩,
 ⟨none, .mv 18 (.t 0), none, 0⟩,
 ⟨none, .cpc 19 (.t 18), none, 0⟩,
 ⟨none, .sl 20 (.t 17) none (some (.t 19)) none 1, none, 0⟩,
 ⟨none, .mv 21 (.t 1), none, 0⟩,
 ⟨none, .apz 22 5 1 1 (.t 20) (.t 21), none, 0⟩,
 ⟨none, .mv 23 (.t 0), none, 0⟩,
 ⟨none, .len 24 false (.t 23), none, 0⟩,
 ⟨none, .sl 25 (.t 22) none (some (.t 24)) none 1, none, 0⟩,
 ⟨none, .mv 0 (.t 25), none, 0⟩]
def c94r5 : List SI := [
 ⟨none, .mv 26 (.t 0), none, 0⟩,
 ⟨none, .mv 4 (.t 26), none, 0⟩]
def c94 : SC :=
 (.seq (.reg false c94r0)
 (.seq (.seq (.reg false c94r1)
 (.cond (.t 6)
  .dead
  .skip))
 (.seq (.seq (.reg false c94r2)
 (.seq (.reg false c94r3)
 (.cond (.t 16)
  (.reg false c94r4)
  .skip)))
 (.seq (.reg false c94r5)
 .ret))))
def v94 : List Nat × List Nat := ([], [])
def o94 : List RS := [.t 4]
def c95r0 : List SI := [
 ⟨none, .mv 4 (.b false), none, 0⟩]
def c95r1 : List SI := [
 ⟨none, .mv 5 (.t 0), none, 0⟩,
 ⟨none, .bin 6 .geq (.t 5) (.i 0), none, 0⟩,
 ⟨none, .mv 7 (.t 6), none, 0⟩,
 ⟨some (7, true), .mv 8 (.t 0), none, 8⟩,
 ⟨some (7, true), .mv 9 (.t 1), none, 9⟩,
 ⟨some (7, true), .bin 10 .leq (.t 8) (.t 9), none, 10⟩,
 ⟨none, .pick 11 (.t 7) (.t 10) (.b false), none, 0⟩,
 ⟨none, .mv 4 (.t 11), none, 0⟩]
def c95 : SC :=
 (.seq (.reg false c95r0)
 (.seq (.reg false c95r1)
 .ret))
def v95 : List Nat × List Nat := ([], [])
def o95 : List RS := [.t 4]
theorem s95 : slimC Tryz.prog Tryz.f95.ntmps v95.1 v95.2 ((Tryz.f95.body).getD .skip) = some c95 := by kernel_rfl
theorem q95 : slimR Tryz.prog Tryz.f95.ntmps v95.1 v95.2 Tryz.f95.results.toList = some o95 := by kernel_rfl
def c96r0 : List SI := [
 ⟨none, .bxR 1 (.t 0), none, 0⟩,
 ⟨none, .mv 2 (.i 0), none, 0⟩]
def c96r1 : List SI := [
 ⟨none, .nop, (some 1), 0⟩,
 ⟨none, .ldR 4 1 0 none, none, 0⟩,
 ⟨none, .call 5 113 [(.t 4)], none, 0⟩,
 ⟨none, .un 6 .not (.t 5), none, 0⟩,
 ⟨none, .mv 7 (.t 6), none, 0⟩,
 ⟨some (7, false), .nop, (some 1), 99999⟩,
 ⟨some (7, false), .ldR 9 1 4 none, none, 9⟩,
 ⟨some (7, false), .call 10 113 [(.t 9)], none, 10⟩,
 ⟨some (7, false), .un 11 .not (.t 10), none, 11⟩,
 ⟨none, .pick 12 (.t 7) (.b true) (.t 11), none, 0⟩,
 ⟨none, .mv 13 (.t 12), none, 0⟩,
 ⟨some (13, false), .nop, (some 1), 99999⟩,
 ⟨some (13, false), .ldR 15 1 1 none, none, 15⟩,
 ⟨some (13, false), .len 16 true (.t 15), none, 16⟩,
 ⟨some (13, false), .bin 17 .gtr (.t 16) (.i 64), none, 17⟩,
 ⟨none, .pick 18 (.t 13) (.b true) (.t 17), none, 0⟩,
 ⟨none, .mv 19 (.t 18), none, 0⟩,
 ⟨some (19, false), .nop, (some 1), 99999⟩,
 ⟨some (19, false), .ldR 21 1 2 none, none, 21⟩,
 ⟨some (19, false), .len 22 true (.t 21), none, 22⟩,
 ⟨some (19, false), .bin 23 .gtr (.t 22) (.i 64), none, 23⟩,
 ⟨none, .pick 24 (.t 19) (.b true) (.t 23), none, 0⟩,
 ⟨none, .mv 25 (.t 24), none, 0⟩,
 ⟨some (25, false), .nop, (some 1), 99999⟩,
 ⟨some (25, false), .ldR 27 1 3 none, none, 27⟩,
 ⟨some (25, false), .mv 28 (.t 27), none, 28⟩,
 ⟨some (28, true), .nop, (some 1), 99999⟩,
 ⟨some (28, true), .ldR 30 1 1 none, none, 30⟩,
 ⟨some (28, true), .bin 31 .eql (.t 30) (.v (.string ⟨#[]⟩)), none, 31⟩,
 ⟨some (28, true), .mv 32 (.t 31), none, 32⟩,
 ⟨some (32, false), .nop, (some 1), 99999⟩,
 ⟨some (32, false), .ldR 34 1 2 none, none, 34⟩,
 ⟨some (32, false), .bin 35 .neq (.t 34) (.v (.string ⟨#[]⟩)), none, 35⟩,
 ⟨some (28, true), .pick 36 (.t 32) (.b true) (.t 35), none, 36⟩,
 ⟨some (25, false), .pick 37 (.t 28) (.t 36) (.b false), none, 37⟩,
 ⟨none, .pick 38 (.t 25) (.b true) (.t 37), none, 0⟩]
def c96r2 : List SI := [
 ⟨none, .mv 2 (.i 1), none, 0⟩]
def c96r3 : List SI := [
 ⟨none, .mv 2 (.i 0), none, 0⟩]
def c96 : SC :=
 (.seq (.reg false c96r0)
 (.seq (.seq (.reg false c96r1)
 (.cond (.t 38)
  (.seq (.reg false c96r2)
  .ret)
  .skip))
 (.seq (.reg false c96r3)
 .ret)))
def v96 : List Nat × List Nat := ([1], [1, 3, 8, 14, 20, 26, 29, 33])
def o96 : List RS := [.t 2]
theorem s96 : slimC Tryz.prog Tryz.f96.ntmps v96.1 v96.2 ((Tryz.f96.body).getD .skip) = some c96 := by kernel_rfl
theorem q96 : slimR Tryz.prog Tryz.f96.ntmps v96.1 v96.2 Tryz.f96.results.toList = some o96 := by kernel_rfl
def c97r0 : List SI := [
 ⟨none, .mv 4 (.v (.slice none 0 0)), none, 0⟩]
def c97r1 : List SI := [
 ⟨none, .mv 7 (.t 1), none, 0⟩,
 ⟨none, .cvI 8 .u64 (.t 7), none, 0⟩,
 ⟨none, .bin 9 .mul (.v (.int .u64 2)) (.t 8), none, 0⟩,
 ⟨none, .mv 5 (.t 9), none, 0⟩]
def c97r2 : List SI := [
 ⟨none, .mv 10 (.t 1), none, 0⟩,
 ⟨none, .bin 11 .lss (.t 10) (.i 0), none, 0⟩]
def c97r3 : List SI := [
 ⟨none, .mv 12 (.t 1), none, 0⟩,
 ⟨none, .bin 13 .add (.t 12) (.i 1), none, 0⟩,
 ⟨none, .un 14 .neg (.t 13), none, 0⟩,
 ⟨none, .cvI 15 .u64 (.t 14), none, 0⟩,
 ⟨none, .bin 16 .mul (.v (.int .u64 2)) (.t 15), none, 0⟩,
 ⟨none, .bin 17 .add (.t 16) (.v (.int .u64 1)), none, 0⟩,
 ⟨none, .mv 5 (.t 17), none, 0⟩]
def c97r4 : List SI := [
 ⟨none, .mv 18 (.t 0), none, 0⟩,
 ⟨none, .call 19 87 [(.t 18)], none, 0⟩,
 ⟨none, .mv 6 (.t 19), none, 0⟩]
def c97r5 : List SI := [
 ⟨none, .mv 20 (.t 5), none, 0⟩,
 ⟨none, .bin 21 .geq (.t 20) (.v (.int .u64 128)), none, 0⟩]
def c97r6 : List SI := [
 ⟨none, .mv 22 (.t 6), none, 0⟩,
 ⟨none, .mv 23 (.t 5), none, 0⟩,
 ⟨none, .bin 24 .rem (.t 23) (.v (.int .u64 128)), none, 0⟩,
 ⟨none, .bin 25 .add (.v (.int .u64 128)) (.t 24), none, 0⟩,
 ⟨none, .cvI 26 .u8 (.t 25), none, 0⟩,
 ⟨none, .bls 27 5 1 1 [(.int .u8 0)] [(0, 1, (.t 26))], none, 0⟩,
 ⟨none, .app 28 (.t 22) (.t 27) 5 1 1, none, 0⟩,
 ⟨none, .mv 6 (.t 28), none, 0⟩]
def c97r7 : List SI := [
 ⟨none, .mv 29 (.t 5), none, 0⟩,
 ⟨none, .bin 30 .quo (.t 29) (.v (.int .u64 128)), none, 0⟩,
 ⟨none, .mv 5 (.t 30), none, 0⟩]
def c97r8 : List SI := [
 ⟨none, .mv 31 (.t 6), none, 0⟩,
 ⟨none, .mv 32 (.t 5), none, 0⟩,
 ⟨none, .cvI 33 .u8 (.t 32), none, 0⟩,
 ⟨none, .bls 34 5 1 1 [(.int .u8 0)] [(0, 1, (.t 33))], none, 0⟩,
 ⟨none, .app 35 (.t 31) (.t 34) 5 1 1, none, 0⟩,
 ⟨none, .mv 4 (.t 35), none, 0⟩]
def c97 : SC :=
 (.seq (.reg false c97r0)
 (.seq (.reg false c97r1)
 (.seq (.seq (.reg false c97r2)
 (.cond (.t 11)
  (.reg false c97r3)
  .skip))
 (.seq (.reg false c97r4)
 (.seq (.blk 0 (.loop (.seq (.seq (.reg false c97r5)
   (.cond (.t 21)
    .skip
    (.exit 0)))
   (.blk 1 (.seq (.reg false c97r6)
    (.reg false c97r7))))))
 (.seq (.reg false c97r8)
 .ret))))))
def v97 : List Nat × List Nat := ([], [])
def o97 : List RS := [.t 4]
theorem s97 : slimC Tryz.prog Tryz.f97.ntmps v97.1 v97.2 ((Tryz.f97.body).getD .skip) = some c97 := by kernel_rfl
theorem q97 : slimR Tryz.prog Tryz.f97.ntmps v97.1 v97.2 Tryz.f97.results.toList = some o97 := by kernel_rfl
def c98r0 : List SI := [
 ⟨none, .bxR 3 (.t 0), none, 0⟩,
 ⟨none, .mv 6 (.v (.slice none 0 0)), none, 0⟩,
 ⟨none, .mv 7 (.i 0), none, 0⟩]
def c98r1 : List SI := [
 ⟨none, .ldR 10 3 0 (some 5), none, 0⟩,
 ⟨none, .call 11 96 [(.t 10)], none, 0⟩,
 ⟨none, .mv 8 (.t 11), none, 0⟩]
def c98r2 : List SI := [
 ⟨none, .mv 12 (.t 8), none, 0⟩,
 ⟨none, .bin 13 .neq (.t 12) (.i 0), none, 0⟩]
def c98r3 : List SI := [
 ⟨none, .mv 14 (.t 8), none, 0⟩,
 ⟨none, .mv 6 (.v (.slice none 0 0)), none, 0⟩,
 ⟨none, .mv 7 (.t 14), none, 0⟩]
def c98r4 : List SI := [
 ⟨none, .mv 15 (.t 1), none, 0⟩,
 ⟨none, .call 16 113 [(.t 15)], none, 0⟩,
 ⟨none, .un 17 .not (.t 16), none, 0⟩,
 ⟨none, .mv 18 (.t 17), none, 0⟩,
 ⟨some (18, false), .mv 19 (.t 2), none, 19⟩,
 ⟨some (18, false), .call 20 113 [(.t 19)], none, 20⟩,
 ⟨some (18, false), .un 21 .not (.t 20), none, 21⟩,
 ⟨none, .pick 22 (.t 18) (.b true) (.t 21), none, 0⟩]
def c98r5 : List SI := [
 ⟨none, .mv 6 (.v (.slice none 0 0)), none, 0⟩,
 ⟨none, .mv 7 (.i 1), none, 0⟩]
def c98r6 : List SI := [
 ⟨none, .nop, (some 3), 0⟩,
 ⟨none, .ldR 24 3 0 none, none, 0⟩,
 ⟨none, .mv 25 (.t 1), none, 0⟩,
 ⟨none, .bin 26 .sub (.t 24) (.t 25), none, 0⟩,
 ⟨none, .call 27 97 [(.v (.slice none 0 0)), (.t 26)], none, 0⟩,
 ⟨none, .mv 9 (.t 27), none, 0⟩]
def c98r7 : List SI := [
 ⟨none, .mv 28 (.t 9), none, 0⟩,
 ⟨none, .nop, (some 3), 0⟩,
 ⟨none, .ldR 30 3 4 none, none, 0⟩,
 ⟨none, .mv 31 (.t 2), none, 0⟩,
 ⟨none, .bin 32 .sub (.t 30) (.t 31), none, 0⟩,
 ⟨none, .call 33 97 [(.t 28), (.t 32)], none, 0⟩,
 ⟨none, .mv 9 (.t 33), none, 0⟩]
def c98r8 : List SI := [
 ⟨none, .nop, (some 3), 0⟩,
 ⟨none, .ldR 35 3 3 none, none, 0⟩]
def c98r9 : List SI := [
 ⟨none, .mv 36 (.t 9), none, 0⟩,
 ⟨none, .bls 37 5 1 1 [(.int .u8 0)] [(0, 1, (.v (.int .u8 1)))], none, 0⟩,
 ⟨none, .app 38 (.t 36) (.t 37) 5 1 1, none, 0⟩,
 ⟨none, .mv 9 (.t 38), none, 0⟩]
def c98r10 : List SI := [
 ⟨none, .mv 39 (.t 9), none, 0⟩,
 ⟨none, .bls 40 5 1 1 [(.int .u8 0)] [(0, 1, (.v (.int .u8 0)))], none, 0⟩,
 ⟨none, .app 41 (.t 39) (.t 40) 5 1 1, none, 0⟩,
 ⟨none, .mv 9 (.t 41), none, 0⟩]
def c98r11 : List SI := [
 ⟨none, .mv 42 (.t 9), none, 0⟩,
 ⟨none, .nop, (some 3), 0⟩,
 ⟨none, .ldR 44 3 1 none, none, 0⟩,
 ⟨none, .call 45 114 [(.t 42), (.t 44)], none, 0⟩,
 ⟨none, .mv 9 (.t 45), none, 0⟩]
def c98r12 : List SI := [
 ⟨none, .mv 46 (.t 9), none, 0⟩,
 ⟨none, .nop, (some 3), 0⟩,
 ⟨none, .ldR 48 3 2 none, none, 0⟩,
 ⟨none, .call 49 114 [(.t 46), (.t 48)], none, 0⟩,
 ⟨none, .mv 6 (.t 49), none, 0⟩,
 ⟨none, .mv 7 (.i 0), none, 0⟩]
def c98 : SC :=
 (.seq (.reg false c98r0)
 (.seq (.reg false c98r1)
 (.seq (.seq (.reg false c98r2)
 (.cond (.t 13)
  (.seq (.reg false c98r3)
  .ret)
  .skip))
 (.seq (.seq (.reg false c98r4)
 (.cond (.t 22)
  (.seq (.reg false c98r5)
  .ret)
  .skip))
 (.seq (.reg false c98r6)
 (.seq (.reg false c98r7)
 (.seq (.seq (.reg false c98r8)
 (.cond (.t 35)
  (.reg false c98r9)
  (.reg false c98r10)))
 (.seq (.reg false c98r11)
 (.seq (.reg false c98r12)
 .ret)))))))))
def v98 : List Nat × List Nat := ([3], [3, 23, 29, 34, 43, 47])
def o98 : List RS := [.t 6, .t 7]
theorem s98 : slimC Tryz.prog Tryz.f98.ntmps v98.1 v98.2 ((Tryz.f98.body).getD .skip) = some c98 := by kernel_rfl
theorem q98 : slimR Tryz.prog Tryz.f98.ntmps v98.1 v98.2 Tryz.f98.results.toList = some o98 := by kernel_rfl
def c99r0 : List SI := [
 ⟨none, .mv 2 (.v (.slice none 0 0)), none, 0⟩]
def c99r1 : List SI := [
 ⟨none, .bl0 3, none, 0⟩,
 ⟨none, .mv 4 (.t 0), none, 0⟩,
 ⟨none, .app 5 (.t 3) (.t 4) 5 1 1, none, 0⟩,
 ⟨none, .mv 6 (.t 0), none, 0⟩,
 ⟨none, .call 7 116 [(.t 6)], none, 0⟩,
 ⟨none, .call 8 115 [(.t 7)], none, 0⟩,
 ⟨none, .app 9 (.t 5) (.t 8) 5 1 1, none, 0⟩,
 ⟨none, .mv 2 (.t 9), none, 0⟩]
def c99 : SC :=
 (.seq (.reg false c99r0)
 (.seq (.reg false c99r1)
 .ret))
def v99 : List Nat × List Nat := ([], [])
def o99 : List RS := [.t 2]
theorem s99 : slimC Tryz.prog Tryz.f99.ntmps v99.1 v99.2 ((Tryz.f99.body).getD .skip) = some c99 := by kernel_rfl
theorem q99 : slimR Tryz.prog Tryz.f99.ntmps v99.1 v99.2 Tryz.f99.results.toList = some o99 := by kernel_rfl
def c100r0 : List SI := [
 ⟨none, .mv 6 (.v (.slice none 0 0)), none, 0⟩]
def c100r1 : List SI := [
 ⟨none, .mv 10 (.t 0), none, 0⟩,
 ⟨none, .call 11 87 [(.t 10)], none, 0⟩,
 ⟨none, .mv 7 (.t 11), none, 0⟩]
def c100r2 : List SI := [
 ⟨none, .mv 12 (.t 2), none, 0⟩,
 ⟨none, .bin 13 .lss (.t 12) (.i 1), none, 0⟩,
 ⟨none, .mv 14 (.t 13), none, 0⟩,
 ⟨some (14, false), .mv 15 (.t 2), none, 15⟩,
 ⟨some (14, false), .bin 16 .gtr (.t 15) (.i 8), none, 16⟩,
 ⟨none, .pick 17 (.t 14) (.b true) (.t 16), none, 0⟩]
def c100r3 : List SI := [
 ⟨none, .mv 18 (.t 7), none, 0⟩,
 ⟨none, .mv 6 (.t 18), none, 0⟩]
def c100r4 : List SI := [
 ⟨none, .mv 19 (.t 2), none, 0⟩,
 ⟨none, .mv 20 (.i 0), none, 0⟩]
def c100r5 : List SI := [
 ⟨none, .bin 21 .lss (.t 20) (.t 19), none, 0⟩]
def c100r6 : List SI := [
 ⟨none, .mv 22 (.t 20), none, 0⟩,
 ⟨none, .mv 8 (.t 22), none, 0⟩]
def c100r7 : List SI := [
 ⟨none, .mv 23 (.t 1), none, 0⟩,
 ⟨none, .mv 9 (.t 23), none, 0⟩]
def c100r8 : List SI := [
 ⟨none, .mv 24 (.t 2), none, 0⟩,
 ⟨none, .bin 25 .sub (.t 24) (.i 1), none, 0⟩,
 ⟨none, .mv 26 (.t 8), none, 0⟩,
 ⟨none, .bin 27 .sub (.t 25) (.t 26), none, 0⟩,
 ⟨none, .mv 28 (.i 0), none, 0⟩]
def c100r9 : List SI := [
 ⟨none, .bin 29 .lss (.t 28) (.t 27), none, 0⟩]
def c100r10 : List SI := [
 ⟨none, .mv 30 (.t 9), none, 0⟩,
 ⟨none, .bin 31 .quo (.t 30) (.v (.int .u64 256)), none, 0⟩,
 ⟨none, .mv 9 (.t 31), none, 0⟩]
def c100r11 : List SI := [
 ⟨none, .bin 32 .add (.t 28) (.i 1), none, 0⟩,
 ⟨none, .mv 28 (.t 32), none, 0⟩]
def c100r12 : List SI := [
 ⟨none, .mv 33 (.t 7), none, 0⟩,
 ⟨none, .mv 34 (.t 9), none, 0⟩,
 ⟨none, .bin 35 .rem (.t 34) (.v (.int .u64 256)), none, 0⟩,
 ⟨none, .cvI 36 .u8 (.t 35), none, 0⟩,
 ⟨none, .bls 37 5 1 1 [(.int .u8 0)] [(0, 1, (.t 36))], none, 0⟩,
 ⟨none, .app 38 (.t 33) (.t 37) 5 1 1, none, 0⟩,
 ⟨none, .mv 7 (.t 38), none, 0⟩]
def c100r13 : List SI := [
 ⟨none, .bin 39 .add (.t 20) (.i 1), none, 0⟩,
 ⟨none, .mv 20 (.t 39), none, 0⟩]
def c100r14 : List SI := [
 ⟨none, .mv 40 (.t 7), none, 0⟩,
 ⟨none, .mv 6 (.t 40), none, 0⟩]
def c100 : SC :=
 (.seq (.reg false c100r0)
 (.seq (.reg false c100r1)
 (.seq (.seq (.reg false c100r2)
 (.cond (.t 17)
  (.seq (.reg false c100r3)
  .ret)
  .skip))
 (.seq (.seq (.reg false c100r4)
 (.blk 0 (.loop (.seq (.reg false c100r5)
   (.seq (.cond (.t 21)
    .skip
    (.exit 0))
   (.seq (.blk 1 (.seq (.reg false c100r6)
    (.seq (.reg false c100r7)
    (.seq (.seq (.reg false c100r8)
    (.blk 2 (.loop (.seq (.reg false c100r9)
      (.seq (.cond (.t 29)
       .skip
       (.exit 2))
      (.seq (.blk 3 (.reg false c100r10))
      (.reg false c100r11)))))))
    (.reg false c100r12)))))
   (.reg false c100r13)))))))
 (.seq (.reg false c100r14)
 .ret)))))
def v100 : List Nat × List Nat := ([], [])
def o100 : List RS := [.t 6]
theorem s100 : slimC Tryz.prog Tryz.f100.ntmps v100.1 v100.2 ((Tryz.f100.body).getD .skip) = some c100 := by kernel_rfl
theorem q100 : slimR Tryz.prog Tryz.f100.ntmps v100.1 v100.2 Tryz.f100.results.toList = some o100 := by kernel_rfl
def c101r0 : List SI := [
 ⟨none, .flA 8 (.t 1) 0, none, 0⟩,
 ⟨none, .ld 9 (.t 8) none, none, 0⟩,
 ⟨none, .mv 3 (.i 0), none, 0⟩,
 ⟨none, .mv 4 (.t 9), none, 0⟩]
def c101r1 : List SI := [
 ⟨none, .flA 11 (.t 1) 1, none, 0⟩,
 ⟨none, .ld 12 (.t 11) none, none, 0⟩,
 ⟨none, .mv 13 (.t 3), none, 0⟩,
 ⟨none, .call 14 102 [(.t 12), (.t 13)], none, 0⟩,
 ⟨none, .mv 10 (.t 14), none, 0⟩,
 ⟨none, .ext 15 (.t 10) 0, none, 0⟩,
 ⟨none, .ext 16 (.t 10) 1, none, 0⟩,
 ⟨none, .ext 17 (.t 10) 2, none, 0⟩,
 ⟨none, .alR 5 [(.int .i64 0), (.int .i64 0), (.int .i64 0), (.int .i64 0), (.int .i64 0), (.int .i64 0), (.int .i64 0), (.bool false), (.int .i64 0), (.slice none 0 0)], none, 0⟩,
 ⟨none, .stR 5 0 10 (.t 15), none, 0⟩,
 ⟨none, .mv 6 (.t 16), none, 0⟩,
 ⟨none, .mv 7 (.t 17), none, 0⟩]
def c101r2 : List SI := [
 ⟨none, .mv 18 (.t 7), none, 0⟩,
 ⟨none, .bin 19 .neq (.t 18) (.i 0), none, 0⟩,
 ⟨none, .mv 20 (.t 19), none, 0⟩,
 ⟨some (20, false), .nop, (some 5), 99999⟩,
 ⟨some (20, false), .ldR 22 5 0 none, none, 22⟩,
 ⟨some (20, false), .mv 23 (.t 4), none, 23⟩,
 ⟨some (20, false), .bin 24 .lss (.t 22) (.t 23), none, 24⟩,
 ⟨none, .pick 25 (.t 20) (.b true) (.t 24), none, 0⟩,
 ⟨none, .mv 26 (.t 25), none, 0⟩,
 ⟨some (26, false), .mv 27 (.t 0), none, 27⟩,
 ⟨some (26, false), .ldR 28 5 0 (some 10), none, 28⟩,
 ⟨some (26, false), .mv 29 (.t 6), none, 29⟩,
 ⟨some (26, false), .cav 30 (.t 27) [(.t 28), (.t 29)], none, 30⟩,
 ⟨some (26, false), .un 31 .not (.t 30), none, 31⟩,
 ⟨none, .pick 32 (.t 26) (.b true) (.t 31), none, 0⟩]
def c101r3 : List SI := [
 ⟨none, .mv 33 (.t 6), none, 0⟩,
 ⟨none, .nop, (some 5), 0⟩,
 ⟨none, .ldR 35 5 1 none, none, 0⟩,
 ⟨none, .bin 36 .add (.t 35) (.i 1), none, 0⟩,
 ⟨none, .mv 3 (.t 33), none, 0⟩,
 ⟨none, .mv 4 (.t 36), none, 0⟩]
def c101 : SC :=
 (.seq (.reg true c101r0)
 (.blk 0 (.loop (.blk 1 (.seq (.reg false c101r1)
    (.seq (.seq (.reg false c101r2)
    (.cond (.t 32)
     .ret
     .skip))
    (.reg true c101r3)))))))
def v101 : List Nat × List Nat := ([5], [5, 21, 34])
def o101 : List RS := []
def c102r0 : List SI := [
 ⟨none, .alR 4 [(.int .i64 0), (.int .i64 0), (.int .i64 0), (.int .i64 0), (.int .i64 0), (.int .i64 0), (.int .i64 0), (.bool false), (.int .i64 0), (.slice none 0 0)], none, 0⟩,
 ⟨none, .mv 5 (.i 0), none, 0⟩,
 ⟨none, .mv 6 (.i 0), none, 0⟩]
def c102r1 : List SI := [
 ⟨none, .mv 12 (.t 0), none, 0⟩,
 ⟨none, .mv 13 (.t 1), none, 0⟩,
 ⟨none, .call 14 117 [(.t 12), (.t 13), (.i 4)], none, 0⟩,
 ⟨none, .mv 11 (.t 14), none, 0⟩,
 ⟨none, .ext 15 (.t 11) 0, none, 0⟩,
 ⟨none, .ext 16 (.t 11) 1, none, 0⟩,
 ⟨none, .mv 7 (.t 15), none, 0⟩,
 ⟨none, .mv 6 (.t 16), none, 0⟩]
def c102r2 : List SI := [
 ⟨none, .mv 17 (.t 6), none, 0⟩,
 ⟨none, .bin 18 .neq (.t 17) (.i 0), none, 0⟩]
def c102r3 : List SI := [
 ⟨none, .bld 19 [(.int .i64 0), (.int .i64 0), (.int .i64 0), (.int .i64 0), (.int .i64 0), (.int .i64 0), (.int .i64 0), (.bool false), (.int .i64 0), (.slice none 0 0)] [], none, 0⟩,
 ⟨none, .mv 20 (.t 6), none, 0⟩,
 ⟨none, .stR 4 0 10 (.t 19), none, 0⟩,
 ⟨none, .mv 5 (.i 0), none, 0⟩,
 ⟨none, .mv 6 (.t 20), none, 0⟩]
def c102r4 : List SI := [
 ⟨none, .mv 21 (.t 7), none, 0⟩,
 ⟨none, .bin 22 .lss (.t 21) (.v (.int .u64 5)), none, 0⟩,
 ⟨none, .mv 23 (.t 22), none, 0⟩,
 ⟨some (23, false), .mv 24 (.t 7), none, 24⟩,
 ⟨some (23, false), .bin 25 .gtr (.t 24) (.v (.int .u64 2044)), none, 25⟩,
 ⟨none, .pick 26 (.t 23) (.b true) (.t 25), none, 0⟩]
def c102r5 : List SI := [
 ⟨none, .bld 27 [(.int .i64 0), (.int .i64 0), (.int .i64 0), (.int .i64 0), (.int .i64 0), (.int .i64 0), (.int .i64 0), (.bool false), (.int .i64 0), (.slice none 0 0)] [], none, 0⟩,
 ⟨none, .stR 4 0 10 (.t 27), none, 0⟩,
 ⟨none, .mv 5 (.i 0), none, 0⟩,
 ⟨none, .mv 6 (.i 11), none, 0⟩]
def c102r6 : List SI := [
 ⟨none, .mv 28 (.t 0), none, 0⟩,
 ⟨none, .mv 29 (.t 1), none, 0⟩,
 ⟨none, .bin 30 .add (.t 29) (.i 4), none, 0⟩,
 ⟨none, .sl 31 (.t 28) (some (.t 30)) none none 1, none, 0⟩,
 ⟨none, .mv 8 (.t 31), none, 0⟩]
def c102r7 : List SI := [
 ⟨none, .mv 32 (.t 8), none, 0⟩,
 ⟨none, .len 33 false (.t 32), none, 0⟩,
 ⟨none, .cvI 34 .u64 (.t 33), none, 0⟩,
 ⟨none, .mv 35 (.t 7), none, 0⟩,
 ⟨none, .bin 36 .lss (.t 34) (.t 35), none, 0⟩]
def c102r8 : List SI := [
 ⟨none, .bld 37 [(.int .i64 0), (.int .i64 0), (.int .i64 0), (.int .i64 0), (.int .i64 0), (.int .i64 0), (.int .i64 0), (.bool false), (.int .i64 0), (.slice none 0 0)] [], none, 0⟩,
 ⟨none, .stR 4 0 10 (.t 37), none, 0⟩,
 ⟨none, .mv 5 (.i 0), none, 0⟩,
 ⟨none, .mv 6 (.i 10), none, 0⟩]
def c102r9 : List SI := [
 ⟨none, .mv 39 (.t 8), none, 0⟩,
 ⟨none, .mv 40 (.t 7), none, 0⟩,
 ⟨none, .sl 41 (.t 39) none (some (.t 40)) none 1, none, 0⟩,
 ⟨none, .call 42 118 [(.t 41)], none, 0⟩,
 ⟨none, .mv 38 (.t 42), none, 0⟩,
 ⟨none, .ext 43 (.t 38) 0, none, 0⟩,
 ⟨none, .ext 44 (.t 38) 1, none, 0⟩,
 ⟨none, .mv 9 (.t 43), none, 0⟩,
 ⟨none, .mv 6 (.t 44), none, 0⟩]
def c102r10 : List SI := [
 ⟨none, .mv 45 (.t 6), none, 0⟩,
 ⟨none, .bin 46 .neq (.t 45) (.i 0), none, 0⟩]
def c102r11 : List SI := [
 ⟨none, .bld 47 [(.int .i64 0), (.int .i64 0), (.int .i64 0), (.int .i64 0), (.int .i64 0), (.int .i64 0), (.int .i64 0), (.bool false), (.int .i64 0), (.slice none 0 0)] [], none, 0⟩,
 ⟨none, .mv 48 (.t 6), none, 0⟩,
 ⟨none, .stR 4 0 10 (.t 47), none, 0⟩,
 ⟨none, .mv 5 (.i 0), none, 0⟩,
 ⟨none, .mv 6 (.t 48), none, 0⟩]
def c102r12 : List SI := [
 ⟨none, .mv 50 (.t 9), none, 0⟩,
 ⟨none, .call 51 119 [(.t 50)], none, 0⟩,
 ⟨none, .mv 49 (.t 51), none, 0⟩,
 ⟨none, .ext 52 (.t 49) 0, none, 0⟩,
 ⟨none, .ext 53 (.t 49) 1, none, 0⟩,
 ⟨none, .stR 4 0 10 (.t 52), none, 0⟩,
 ⟨none, .mv 10 (.t 53), none, 0⟩]
def c102r13 : List SI := [
 ⟨none, .mv 54 (.t 10), none, 0⟩,
 ⟨none, .un 55 .not (.t 54), none, 0⟩,
 ⟨none, .mv 56 (.t 55), none, 0⟩,
 ⟨some (56, false), .ldR 57 4 0 (some 10), none, 57⟩,
 ⟨some (56, false), .call 58 47 [(.t 57)], none, 58⟩,
 ⟨some (56, false), .bin 59 .neq (.t 58) (.i 0), none, 59⟩,
 ⟨none, .pick 60 (.t 56) (.b true) (.t 59), none, 0⟩]
def c102r14 : List SI := [
 ⟨none, .bld 61 [(.int .i64 0), (.int .i64 0), (.int .i64 0), (.int .i64 0), (.int .i64 0), (.int .i64 0), (.int .i64 0), (.bool false), (.int .i64 0), (.slice none 0 0)] [], none, 0⟩,
 ⟨none, .stR 4 0 10 (.t 61), none, 0⟩,
 ⟨none, .mv 5 (.i 0), none, 0⟩,
 ⟨none, .mv 6 (.i 11), none, 0⟩]
def c102r15 : List SI := [
 ⟨none, .ldR 62 4 0 (some 10), none, 0⟩,
 ⟨none, .mv 63 (.t 1), none, 0⟩,
 ⟨none, .bin 64 .add (.t 63) (.i 4), none, 0⟩,
 ⟨none, .mv 65 (.t 7), none, 0⟩,
 ⟨none, .cvI 66 .i64 (.t 65), none, 0⟩,
 ⟨none, .bin 67 .add (.t 64) (.t 66), none, 0⟩,
 ⟨none, .stR 4 0 10 (.t 62), none, 0⟩,
 ⟨none, .mv 5 (.t 67), none, 0⟩,
 ⟨none, .mv 6 (.i 0), none, 0⟩]
def c102 : SC :=
 (.seq (.reg false c102r0)
 (.seq (.reg false c102r1)
 (.seq (.seq (.reg false c102r2)
 (.cond (.t 18)
  (.seq (.reg false c102r3)
  .ret)
  .skip))
 (.seq (.seq (.reg false c102r4)
 (.cond (.t 26)
  (.seq (.reg false c102r5)
  .ret)
  .skip))
 (.seq (.reg false c102r6)
 (.seq (.seq (.reg false c102r7)
 (.cond (.t 36)
  (.seq (.reg false c102r8)
  .ret)
  .skip))
 (.seq (.reg false c102r9)
 (.seq (.seq (.reg false c102r10)
 (.cond (.t 46)
  (.seq (.reg false c102r11)
  .ret)
  .skip))
 (.seq (.reg false c102r12)
 (.seq (.seq (.reg false c102r13)
 (.cond (.t 60)
  (.seq (.reg false c102r14)
  .ret)
  .skip))
 (.seq (.reg false c102r15)
 .ret)))))))))))
def v102 : List Nat × List Nat := ([4], [4])
def o102 : List RS := [.r 4 (some 10), .t 5, .t 6]
def c103r0 : List SI := [
 ⟨none, .mv 2 (.v (.slice none 0 0)), none, 0⟩]
def c103r1 : List SI := [
 ⟨none, .mv 3 (.t 0), none, 0⟩,
 ⟨none, .isn 4 false (.t 3), none, 0⟩]
def c103r2 : List SI := [
 ⟨none, .mv 2 (.v (.slice none 0 0)), none, 0⟩]
def c103r3 : List SI := [
 ⟨none, .bl0 5, none, 0⟩,
 ⟨none, .mv 6 (.t 0), none, 0⟩,
 ⟨none, .app 7 (.t 5) (.t 6) 5 1 1, none, 0⟩,
 ⟨none, .mv 2 (.t 7), none, 0⟩]
def c103 : SC :=
 (.seq (.reg false c103r0)
 (.seq (.seq (.reg false c103r1)
 (.cond (.t 4)
  (.seq (.reg false c103r2)
  .ret)
  .skip))
 (.seq (.reg false c103r3)
 .ret)))
def v103 : List Nat × List Nat := ([], [])
def o103 : List RS := [.t 2]
theorem s103 : slimC Tryz.prog Tryz.f103.ntmps v103.1 v103.2 ((Tryz.f103.body).getD .skip) = some c103 := by kernel_rfl
theorem q103 : slimR Tryz.prog Tryz.f103.ntmps v103.1 v103.2 Tryz.f103.results.toList = some o103 := by kernel_rfl
def c104r0 : List SI := [
 ⟨none, .mv 6 (.v (.int .u64 0)), none, 0⟩,
 ⟨none, .mv 7 (.i 0), none, 0⟩]
def c104r1 : List SI := [
 ⟨none, .mv 10 (.t 2), none, 0⟩,
 ⟨none, .bin 11 .lss (.t 10) (.i 1), none, 0⟩,
 ⟨none, .mv 12 (.t 11), none, 0⟩,
 ⟨some (12, false), .mv 13 (.t 2), none, 13⟩,
 ⟨some (12, false), .bin 14 .gtr (.t 13) (.i 8), none, 14⟩,
 ⟨none, .pick 15 (.t 12) (.b true) (.t 14), none, 0⟩,
 ⟨none, .mv 16 (.t 15), none, 0⟩,
 ⟨some (16, false), .mv 17 (.t 1), none, 17⟩,
 ⟨some (16, false), .bin 18 .lss (.t 17) (.i 0), none, 18⟩,
 ⟨none, .pick 19 (.t 16) (.b true) (.t 18), none, 0⟩]
def c104r2 : List SI := [
 ⟨none, .mv 6 (.v (.int .u64 0)), none, 0⟩,
 ⟨none, .mv 7 (.i 1), none, 0⟩]
def c104r3 : List SI := [
 ⟨none, .mv 20 (.t 1), none, 0⟩,
 ⟨none, .mv 21 (.t 0), none, 0⟩,
 ⟨none, .len 22 false (.t 21), none, 0⟩,
 ⟨none, .bin 23 .gtr (.t 20) (.t 22), none, 0⟩,
 ⟨none, .mv 24 (.t 23), none, 0⟩,
 ⟨some (24, false), .mv 25 (.t 0), none, 25⟩,
 ⟨some (24, false), .len 26 false (.t 25), none, 26⟩,
 ⟨some (24, false), .mv 27 (.t 1), none, 27⟩,
 ⟨some (24, false), .bin 28 .sub (.t 26) (.t 27), none, 28⟩,
 ⟨some (24, false), .mv 29 (.t 2), none, 29⟩,
 ⟨some (24, false), .bin 30 .lss (.t 28) (.t 29), none, 30⟩,
 ⟨none, .pick 31 (.t 24) (.b true) (.t 30), none, 0⟩]
def c104r4 : List SI := [
 ⟨none, .mv 6 (.v (.int .u64 0)), none, 0⟩,
 ⟨none, .mv 7 (.i 10), none, 0⟩]
def c104r5 : List SI := [
 ⟨none, .mv 8 (.v (.int .u64 0)), none, 0⟩]
def c104r6 : List SI := [
 ⟨none, .mv 32 (.t 2), none, 0⟩,
 ⟨none, .mv 33 (.i 0), none, 0⟩]
def c104r7 : List SI := [
 ⟨none, .bin 34 .lss (.t 33) (.t 32), none, 0⟩]
def c104r8 : List SI := [
 ⟨none, .mv 35 (.t 33), none, 0⟩,
 ⟨none, .mv 9 (.t 35), none, 0⟩]
def c104r9 : List SI := [
 ⟨none, .mv 36 (.t 8), none, 0⟩,
 ⟨none, .bin 37 .mul (.t 36) (.v (.int .u64 256)), none, 0⟩,
 ⟨none, .mv 38 (.t 0), none, 0⟩,
 ⟨none, .mv 39 (.t 1), none, 0⟩,
 ⟨none, .mv 40 (.t 9), none, 0⟩,
 ⟨none, .bin 41 .add (.t 39) (.t 40), none, 0⟩,
 ⟨none, .ixA 42 (.t 38) (.t 41) 1, none, 0⟩,
 ⟨none, .ld 43 (.t 42) none, none, 0⟩,
 ⟨none, .cvI 44 .u64 (.t 43), none, 0⟩,
 ⟨none, .bin 45 .add (.t 37) (.t 44), none, 0⟩,
 ⟨none, .mv 8 (.t 45), none, 0⟩]
def c104r10 : List SI := [
 ⟨none, .bin 46 .add (.t 33) (.i 1), none, 0⟩,
 ⟨none, .mv 33 (.t 46), none, 0⟩]
def c104r11 : List SI := [
 ⟨none, .mv 47 (.t 8), none, 0⟩,
 ⟨none, .mv 6 (.t 47), none, 0⟩,
 ⟨none, .mv 7 (.i 0), none, 0⟩]
def c104 : SC :=
 (.seq (.reg false c104r0)
 (.seq (.seq (.reg false c104r1)
 (.cond (.t 19)
  (.seq (.reg false c104r2)
  .ret)
  .skip))
 (.seq (.seq (.reg false c104r3)
 (.cond (.t 31)
  (.seq (.reg false c104r4)
  .ret)
  .skip))
 (.seq (.reg false c104r5)
 (.seq (.seq (.reg false c104r6)
 (.blk 0 (.loop (.seq (.reg false c104r7)
   (.seq (.cond (.t 34)
    .skip
    (.exit 0))
   (.seq (.blk 1 (.seq (.reg false c104r8)
    (.reg false c104r9)))
   (.reg false c104r10)))))))
 (.seq (.reg false c104r11)
 .ret))))))
def v104 : List Nat × List Nat := ([], [])
def o104 : List RS := [.t 6, .t 7]
def c105r0 : List SI := [
 ⟨none, .mv 2 (.v (.slice none 0 0)), none, 0⟩,
 ⟨none, .mv 3 (.i 0), none, 0⟩]
def c105r1 : List SI := [
 ⟨none, .mv 7 (.t 0), none, 0⟩,
 ⟨none, .len 8 false (.t 7), none, 0⟩,
 ⟨none, .bin 9 .sub (.t 8) (.i 4), none, 0⟩,
 ⟨none, .mv 4 (.t 9), none, 0⟩]
def c105r2 : List SI := [
 ⟨none, .mv 10 (.t 4), none, 0⟩,
 ⟨none, .bin 11 .lss (.t 10) (.i 0), none, 0⟩]
def c105r3 : List SI := [
 ⟨none, .mv 2 (.v (.slice none 0 0)), none, 0⟩,
 ⟨none, .mv 3 (.i 10), none, 0⟩]
def c105r4 : List SI := [
 ⟨none, .mv 12 (.t 0), none, 0⟩,
 ⟨none, .mv 13 (.t 4), none, 0⟩,
 ⟨none, .sl 14 (.t 12) none (some (.t 13)) none 1, none, 0⟩,
 ⟨none, .call 15 116 [(.t 14)], none, 0⟩,
 ⟨none, .call 16 115 [(.t 15)], none, 0⟩,
 ⟨none, .mv 5 (.t 16), none, 0⟩]
def c105r5 : List SI := [
 ⟨none, .mv 6 (.i 0), none, 0⟩]
def c105r6 : List SI := [
 ⟨none, .mv 17 (.t 6), none, 0⟩,
 ⟨none, .bin 18 .lss (.t 17) (.i 4), none, 0⟩]
def c105r7 : List SI := [
 ⟨none, .mv 21 (.t 0), none, 0⟩,
 ⟨none, .mv 22 (.t 4), none, 0⟩,
 ⟨none, .mv 23 (.t 6), none, 0⟩,
 ⟨none, .bin 24 .add (.t 22) (.t 23), none, 0⟩,
 ⟨none, .ixA 25 (.t 21) (.t 24) 1, none, 0⟩,
 ⟨none, .ld 26 (.t 25) none, none, 0⟩,
 ⟨none, .mv 27 (.t 5), none, 0⟩,
 ⟨none, .mv 28 (.t 6), none, 0⟩,
 ⟨none, .ixA 29 (.t 27) (.t 28) 1, none, 0⟩,
 ⟨none, .ld 30 (.t 29) none, none, 0⟩,
 ⟨none, .bin 31 .neq (.t 26) (.t 30), none, 0⟩]
def c105r8 : List SI := [
 ⟨none, .mv 2 (.v (.slice none 0 0)), none, 0⟩,
 ⟨none, .mv 3 (.i 20), none, 0⟩]
def c105r9 : List SI := [
 ⟨none, .mv 19 (.t 6), none, 0⟩,
 ⟨none, .bin 20 .add (.t 19) (.i 1), none, 0⟩,
 ⟨none, .mv 6 (.t 20), none, 0⟩]
def c105r10 : List SI := [
 ⟨none, .bl0 32, none, 0⟩,
 ⟨none, .mv 33 (.t 0), none, 0⟩,
 ⟨none, .mv 34 (.t 4), none, 0⟩,
 ⟨none, .sl 35 (.t 33) none (some (.t 34)) none 1, none, 0⟩,
 ⟨none, .app 36 (.t 32) (.t 35) 5 1 1, none, 0⟩,
 ⟨none, .mv 2 (.t 36), none, 0⟩,
 ⟨none, .mv 3 (.i 0), none, 0⟩]
def c105 : SC :=
 (.seq (.reg false c105r0)
 (.seq (.reg false c105r1)
 (.seq (.seq (.reg false c105r2)
 (.cond (.t 11)
  (.seq (.reg false c105r3)
  .ret)
  .skip))
 (.seq (.reg false c105r4)
 (.seq (.seq (.reg false c105r5)
 (.blk 0 (.loop (.seq (.seq (.reg false c105r6)
   (.cond (.t 18)
    .skip
    (.exit 0)))
   (.seq (.blk 1 (.seq (.reg true c105r7)
    (.cond (.t 31)
     (.seq (.reg false c105r8)
     .ret)
     .skip)))
   (.reg false c105r9))))))
 (.seq (.reg false c105r10)
 .ret))))))
def v105 : List Nat × List Nat := ([], [])
def o105 : List RS := [.t 2, .t 3]
def c106r0 : List SI := [
 ⟨none, .alR 2 [(.int .i64 0), (.int .i64 0), (.int .i64 0), (.int .i64 0), (.int .i64 0), (.int .i64 0), (.int .i64 0), (.bool false), (.int .i64 0), (.slice none 0 0)], none, 0⟩,
 ⟨none, .mv 3 (.b false), none, 0⟩]
def c106r1 : List SI := [
 ⟨none, .alR 4 [(.int .i64 0), (.int .i64 0), (.int .i64 0), (.int .i64 0), (.int .i64 0), (.int .i64 0), (.int .i64 0), (.bool false), (.int .i64 0), (.slice none 0 0)], none, 0⟩]
def c106r2 : List SI := [
 ⟨none, .mv 5 (.i 0), none, 0⟩]
def c106r3 : List SI := [
 ⟨none, .bld 21 [(.int .i64 0), (.int .i64 0), (.int .i64 0), (.int .i64 0), (.int .i64 0), (.int .i64 0), (.int .i64 0)] [], none, 0⟩,
 ⟨none, .al 6 [(.int .i64 0), (.int .i64 0), (.int .i64 0), (.int .i64 0), (.int .i64 0), (.int .i64 0), (.int .i64 0)], none, 0⟩,
 ⟨none, .st (.t 6) 7 (.t 21), none, 0⟩]
def c106r4 : List SI := [
 ⟨none, .mv 22 (.i 0), none, 0⟩]
def c106r5 : List SI := [
 ⟨none, .bin 23 .lss (.t 22) (.i 7), none, 0⟩]
def c106r6 : List SI := [
 ⟨none, .mv 24 (.t 22), none, 0⟩,
 ⟨none, .mv 7 (.t 24), none, 0⟩]
def c106r7 : List SI := [
 ⟨none, .mv 26 (.t 0), none, 0⟩,
 ⟨none, .mv 27 (.t 5), none, 0⟩,
 ⟨none, .call 28 120 [(.t 26), (.t 27)], none, 0⟩,
 ⟨none, .mv 25 (.t 28), none, 0⟩,
 ⟨none, .ext 29 (.t 25) 0, none, 0⟩,
 ⟨none, .ext 30 (.t 25) 1, none, 0⟩,
 ⟨none, .ext 31 (.t 25) 2, none, 0⟩,
 ⟨none, .mv 8 (.t 29), none, 0⟩,
 ⟨none, .mv 9 (.t 30), none, 0⟩,
 ⟨none, .mv 10 (.t 31), none, 0⟩]
def c106r8 : List SI := [
 ⟨none, .mv 32 (.t 10), none, 0⟩,
 ⟨none, .bin 33 .neq (.t 32) (.i 0), none, 0⟩]
def c106r9 : List SI := [
 ⟨none, .ldR 34 4 0 (some 10), none, 0⟩,
 ⟨none, .stR 2 0 10 (.t 34), none, 0⟩,
 ⟨none, .mv 3 (.b false), none, 0⟩]
def c106r10 : List SI := [
 ⟨none, .mv 35 (.t 7), none, 0⟩,
 ⟨none, .mv 36 (.t 8), none, 0⟩,
 ⟨none, .ixP 37 (.t 6) (.t 35) 7 1, none, 0⟩,
 ⟨none, .st (.t 37) 1 (.t 36), none, 0⟩]
def c106r11 : List SI := [
 ⟨none, .mv 38 (.t 9), none, 0⟩,
 ⟨none, .mv 5 (.t 38), none, 0⟩]
def c106r12 : List SI := [
 ⟨none, .bin 39 .add (.t 22) (.i 1), none, 0⟩,
 ⟨none, .mv 22 (.t 39), none, 0⟩]
def c106r13 : List SI := [
 ⟨none, .mv 41 (.t 0), none, 0⟩,
 ⟨none, .mv 42 (.t 5), none, 0⟩,
 ⟨none, .call 43 104 [(.t 41), (.t 42), (.i 1)], none, 0⟩,
 ⟨none, .mv 40 (.t 43), none, 0⟩,
 ⟨none, .ext 44 (.t 40) 0, none, 0⟩,
 ⟨none, .ext 45 (.t 40) 1, none, 0⟩,
 ⟨none, .mv 11 (.t 44), none, 0⟩,
 ⟨none, .mv 12 (.t 45), none, 0⟩]
def c106r14 : List SI := [
 ⟨none, .mv 46 (.t 12), none, 0⟩,
 ⟨none, .bin 47 .neq (.t 46) (.i 0), none, 0⟩,
 ⟨none, .mv 48 (.t 47), none, 0⟩,
 ⟨some (48, false), .mv 49 (.t 11), none, 49⟩,
 ⟨some (48, false), .bin 50 .gtr (.t 49) (.v (.int .u64 7)), none, 50⟩,
 ⟨none, .pick 51 (.t 48) (.b true) (.t 50), none, 0⟩]
def c106r15 : List SI := [
 ⟨none, .ldR 52 4 0 (some 10), none, 0⟩,
 ⟨none, .stR 2 0 10 (.t 52), none, 0⟩,
 ⟨none, .mv 3 (.b false), none, 0⟩]
def c106r16 : List SI := [
 ⟨none, .mv 54 (.t 0), none, 0⟩,
 ⟨none, .mv 55 (.t 5), none, 0⟩,
 ⟨none, .bin 56 .add (.t 55) (.i 1), none, 0⟩,
 ⟨none, .call 57 120 [(.t 54), (.t 56)], none, 0⟩,
 ⟨none, .mv 53 (.t 57), none, 0⟩,
 ⟨none, .ext 58 (.t 53) 0, none, 0⟩,
 ⟨none, .ext 59 (.t 53) 1, none, 0⟩,
 ⟨none, .ext 60 (.t 53) 2, none, 0⟩,
 ⟨none, .mv 13 (.t 58), none, 0⟩,
 ⟨none, .mv 5 (.t 59), none, 0⟩,
 ⟨none, .mv 12 (.t 60), none, 0⟩]
def c106r17 : List SI := [
 ⟨none, .mv 61 (.t 12), none, 0⟩,
 ⟨none, .bin 62 .neq (.t 61) (.i 0), none, 0⟩,
 ⟨none, .mv 63 (.t 62), none, 0⟩,
 ⟨some (63, false), .mv 64 (.t 13), none, 64⟩,
 ⟨some (63, false), .bin 65 .lss (.t 64) (.i 0), none, 65⟩,
 ⟨none, .pick 66 (.t 63) (.b true) (.t 65), none, 0⟩,
 ⟨none, .mv 67 (.t 66), none, 0⟩,
 ⟨some (67, false), .mv 68 (.t 13), none, 68⟩,
 ⟨some (67, false), .bin 69 .gtr (.t 68) (.i 16), none, 69⟩,
 ⟨none, .pick 70 (.t 67) (.b true) (.t 69), none, 0⟩,
 ⟨none, .mv 71 (.t 70), none, 0⟩,
 ⟨some (71, false), .ixP 72 (.t 6) (.i 1) 7 1, none, 72⟩,
 ⟨some (71, false), .ld 73 (.t 72) none, none, 73⟩,
 ⟨some (71, false), .bin 74 .lss (.t 73) (.i 0), none, 74⟩,
 ⟨none, .pick 75 (.t 71) (.b true) (.t 74), none, 0⟩,
 ⟨none, .mv 76 (.t 75), none, 0⟩,
 ⟨some (76, false), .ixP 77 (.t 6) (.i 1) 7 1, none, 77⟩,
 ⟨some (76, false), .ld 78 (.t 77) none, none, 78⟩,
 ⟨some (76, false), .bin 79 .gtr (.t 78) (.i 16), none, 79⟩,
 ⟨none, .pick 80 (.t 76) (.b true) (.t 79), none, 0⟩,
 ⟨none, .mv 81 (.t 80), none, 0⟩,
 ⟨some (81, false), .ixP 82 (.t 6) (.i 0) 7 1, none, 82⟩,
 ⟨some (81, false), .ld 83 (.t 82) none, none, 83⟩,
 ⟨some (81, false), .bin 84 .lss (.t 83) (.i 0), none, 84⟩,
 ⟨none, .pick 85 (.t 81) (.b true) (.t 84), none, 0⟩,
 ⟨none, .mv 86 (.t 85), none, 0⟩,
 ⟨some (86, false), .ixP 87 (.t 6) (.i 0) 7 1, none, 87⟩,
 ⟨some (86, false), .ld 88 (.t 87) none, none, 88⟩,
 ⟨some (86, false), .bin 89 .gtr (.t 88) (.i 1099511627776), none, 89⟩,
 ⟨none, .pick 90 (.t 86) (.b true) (.t 89), none, 0⟩]
def c106r18 : List SI := [
 ⟨none, .ldR 91 4 0 (some 10), none, 0⟩,
 ⟨none, .stR 2 0 10 (.t 91), none, 0⟩,
 ⟨none, .mv 3 (.b false), none, 0⟩]
def c106r19 : List SI := [
 ⟨none, .ixP 92 (.t 6) (.i 0) 7 1, none, 0⟩,
 ⟨none, .ld 93 (.t 92) none, none, 0⟩,
 ⟨none, .ixP 94 (.t 6) (.i 0) 7 1, none, 0⟩,
 ⟨none, .ld 95 (.t 94) none, none, 0⟩,
 ⟨none, .ixP 96 (.t 6) (.i 1) 7 1, none, 0⟩,
 ⟨none, .ld 97 (.t 96) none, none, 0⟩,
 ⟨none, .bin 98 .add (.t 95) (.t 97), none, 0⟩,
 ⟨none, .ixP 99 (.t 6) (.i 2) 7 1, none, 0⟩,
 ⟨none, .ld 100 (.t 99) none, none, 0⟩,
 ⟨none, .ixP 101 (.t 6) (.i 3) 7 1, none, 0⟩,
 ⟨none, .ld 102 (.t 101) none, none, 0⟩,
 ⟨none, .ixP 103 (.t 6) (.i 4) 7 1, none, 0⟩,
 ⟨none, .ld 104 (.t 103) none, none, 0⟩,
 ⟨none, .ixP 105 (.t 6) (.i 5) 7 1, none, 0⟩,
 ⟨none, .ld 106 (.t 105) none, none, 0⟩,
 ⟨none, .ixP 107 (.t 6) (.i 6) 7 1, none, 0⟩,
 ⟨none, .ld 108 (.t 107) none, none, 0⟩,
 ⟨none, .mv 109 (.t 11), none, 0⟩,
 ⟨none, .bin 110 .geq (.t 109) (.v (.int .u64 4)), none, 0⟩,
 ⟨none, .mv 111 (.t 11), none, 0⟩,
 ⟨none, .bin 112 .rem (.t 111) (.v (.int .u64 4)), none, 0⟩,
 ⟨none, .cvI 113 .i64 (.t 112), none, 0⟩,
 ⟨none, .bld 114 [(.int .i64 0), (.int .i64 0), (.int .i64 0), (.int .i64 0), (.int .i64 0), (.int .i64 0), (.int .i64 0), (.bool false), (.int .i64 0), (.slice none 0 0)] [(0, 1, (.t 93)), (1, 1, (.t 98)), (2, 1, (.t 100)), (3, 1, (.t 102)), (4, 1, (.t 104)), (5, 1, (.t 106)), (6, 1, (.t 108)), (7, 1, (.t 110)), (8, 1, (.t 113))], none, 0⟩,
 ⟨none, .stR 4 0 10 (.t 114), none, 0⟩]
def c106r20 : List SI := [
 ⟨none, .mv 14 (.i 0), none, 0⟩]
def c106r21 : List SI := [
 ⟨none, .mv 115 (.t 13), none, 0⟩,
 ⟨none, .bin 116 .gtr (.t 115) (.i 0), none, 0⟩]
def c106r22 : List SI := [
 ⟨none, .mv 118 (.t 0), none, 0⟩,
 ⟨none, .mv 119 (.t 5), none, 0⟩,
 ⟨none, .call 120 120 [(.t 118), (.t 119)], none, 0⟩,
 ⟨none, .mv 117 (.t 120), none, 0⟩,
 ⟨none, .ext 121 (.t 117) 0, none, 0⟩,
 ⟨none, .ext 122 (.t 117) 1, none, 0⟩,
 ⟨none, .ext 123 (.t 117) 2, none, 0⟩,
 ⟨none, .mv 15 (.t 121), none, 0⟩,
 ⟨none, .mv 16 (.t 122), none, 0⟩,
 ⟨none, .mv 17 (.t 123), none, 0⟩]
def c106r23 : List SI := [
 ⟨none, .mv 124 (.t 17), none, 0⟩,
 ⟨none, .bin 125 .neq (.t 124) (.i 0), none, 0⟩]
def c106r24 : List SI := [
 ⟨none, .ldR 126 4 0 (some 10), none, 0⟩,
 ⟨none, .stR 2 0 10 (.t 126), none, 0⟩,
 ⟨none, .mv 3 (.b false), none, 0⟩]
def c106r25 : List SI := [
 ⟨none, .mv 127 (.t 15), none, 0⟩,
 ⟨none, .mv 14 (.t 127), none, 0⟩]
def c106r26 : List SI := [
 ⟨none, .mv 128 (.t 16), none, 0⟩,
 ⟨none, .mv 5 (.t 128), none, 0⟩]
def c106r27 : List SI := [
 ⟨none, .mv 129 (.t 13), none, 0⟩,
 ⟨none, .mv 130 (.i 0), none, 0⟩]
def c106r28 : List SI := [
 ⟨none, .bin 131 .lss (.t 130) (.t 129), none, 0⟩]
def c106r29 : List SI := [
 ⟨none, .mv 133 (.t 0), none, 0⟩,
 ⟨none, .mv 134 (.t 5), none, 0⟩,
 ⟨none, .nop, (some 4), 0⟩,
 ⟨none, .ldR 136 4 0 none, none, 0⟩,
 ⟨none, .mv 137 (.t 14), none, 0⟩,
 ⟨none, .call 138 121 [(.t 133), (.t 134), (.t 136), (.t 137)], none, 0⟩,
 ⟨none, .mv 132 (.t 138), none, 0⟩,
 ⟨none, .ext 139 (.t 132) 0, none, 0⟩,
 ⟨none, .ext 140 (.t 132) 1, none, 0⟩,
 ⟨none, .ext 141 (.t 132) 2, none, 0⟩,
 ⟨none, .alR 18 [(.int .i64 0), (.string ⟨#[]⟩), (.string ⟨#[]⟩), (.bool false), (.int .i64 0)], none, 0⟩,
 ⟨none, .stR 18 0 5 (.t 139), none, 0⟩,
 ⟨none, .mv 19 (.t 140), none, 0⟩,
 ⟨none, .mv 20 (.t 141), none, 0⟩]
def c106r30 : List SI := [
 ⟨none, .mv 142 (.t 20), none, 0⟩,
 ⟨none, .bin 143 .neq (.t 142) (.i 0), none, 0⟩]
def c106r31 : List SI := [
 ⟨none, .ldR 144 4 0 (some 10), none, 0⟩,
 ⟨none, .stR 2 0 10 (.t 144), none, 0⟩,
 ⟨none, .mv 3 (.b false), none, 0⟩]
def c106r32 : List SI := [
 ⟨none, .nop, (some 4), 0⟩,
 ⟨none, .ldR 146 4 9 none, none, 0⟩,
 ⟨none, .ldR 147 18 0 (some 5), none, 0⟩,
 ⟨none, .bls 148 65 1 5 [(.int .i64 0), (.string ⟨#[]⟩), (.string ⟨#[]⟩), (.bool false), (.int .i64 0)] [(0, 5, (.t 147))], none, 0⟩,
 ⟨none, .app 149 (.t 146) (.t 148) 65 5 56, none, 0⟩,
 ⟨none, .nop, (some 4), 0⟩,
 ⟨none, .stR 4 9 1 (.t 149), none, 0⟩]
def c106r33 : List SI := [
 ⟨none, .mv 151 (.t 19), none, 0⟩,
 ⟨none, .mv 5 (.t 151), none, 0⟩]
def c106r34 : List SI := [
 ⟨none, .bin 152 .add (.t 130) (.i 1), none, 0⟩,
 ⟨none, .mv 130 (.t 152), none, 0⟩]
def c106r35 : List WI := [
 (true, false, ⟨none, .ldR 153 4 0 (some 10), none, 0⟩),
 (true, false, ⟨none, .mv 154 (.t 5), none, 0⟩),
 (true, false, ⟨none, .mv 155 (.t 0), none, 0⟩),
 (true, false, ⟨none, .len 156 false (.t 155), none, 0⟩),
 (true, false, ⟨none, .bin 157 .eql (.t 154) (.t 156), none, 0⟩),
 (true, false, ⟨none, .mv 158 (.t 157), none, 0⟩),
 (true, false, ⟨some (158, true), .mv 159 (.t 13), none, 159⟩),
 (true, false, ⟨some (158, true), .bin 160 .eql (.t 159) (.i 0), none, 160⟩),
 (true, false, ⟨some (158, true), .mv 161 (.t 160), none, 161⟩),
 (true, false, ⟨some (161, false), .nop, (some 4), 99999⟩),
 (true, false, ⟨some (161, false), .ldR 163 4 9 none, none, 163⟩),
 (true, false, ⟨some (161, false), .ixA 164 (.t 163) (.i 0) 5, none, 164⟩),
 (true, false, ⟨some (161, false), .flA 165 (.t 164) 4, none, 165⟩),
 (true, false, ⟨some (161, false), .ld 166 (.t 165) none, none, 166⟩),
 (true, false, ⟨some (161, false), .mv 167 (.t 14), none, 167⟩),
 (true, false, ⟨some (161, false), .bin 168 .eql (.t 166) (.t 167), none, 168⟩),
 (true, false, ⟨some (158, true), .pick 169 (.t 161) (.b true) (.t 168), none, 169⟩),
 (true, false, ⟨none, .pick 170 (.t 158) (.t 169) (.b false), none, 0⟩),
 (false, false, ⟨none, .stR 2 0 10 (.t 153), none, 0⟩),
 (true, false, ⟨none, .mv 3 (.t 170), none, 0⟩)]
def c106 : SC :=
 (.seq (.reg false c106r0)
 (.seq (.reg false c106r1)
 (.seq (.reg false c106r2)
 (.seq (.reg false c106r3)
 (.seq (.seq (.reg false c106r4)
 (.blk 0 (.loop (.seq (.reg false c106r5)
   (.seq (.cond (.t 23)
    .skip
    (.exit 0))
   (.seq (.blk 1 (.seq (.reg false c106r6)
    (.seq (.reg false c106r7)
    (.seq (.seq (.reg false c106r8)
    (.cond (.t 33)
     (.seq (.reg false c106r9)
     .ret)
     .skip))
    (.seq (.reg false c106r10)
    (.reg false c106r11))))))
   (.reg false c106r12)))))))
 (.seq (.reg false c106r13)
 (.seq (.seq (.reg false c106r14)
 (.cond (.t 51)
  (.seq (.reg false c106r15)
  .ret)
  .skip))
 (.seq (.reg false c106r16)
 (.seq (.seq (.reg false c106r17)
 (.cond (.t 90)
  (.seq (.reg false c106r18)
  .ret)
  .skip))
 (.seq (.reg false c106r19)
 (.seq (.reg false c106r20)
 (.seq (.seq (.reg false c106r21)
 (.cond (.t 116)
  (.seq (.reg false c106r22)
  (.seq (.seq (.reg false c106r23)
  (.cond (.t 125)
   (.seq (.reg false c106r24)
   .ret)
   .skip))
  (.seq (.reg false c106r25)
  (.reg false c106r26))))
  .skip))
 (.seq (.seq (.reg false c106r27)
 (.blk 2 (.loop (.seq (.reg false c106r28)
   (.seq (.cond (.t 131)
    .skip
    (.exit 2))
   (.seq (.blk 3 (.seq (.reg false c106r29)
    (.seq (.seq (.reg false c106r30)
    (.cond (.t 143)
     (.seq (.reg false c106r31)
     .ret)
     .skip))
    (.seq (.reg false c106r32)
    (.reg false c106r33)))))
   (.reg false c106r34)))))))
 (.seq (.rgW c106r35)
 .ret))))))))))))))
def v106 : List Nat × List Nat := ([2, 4, 18], [2, 4, 18, 135, 145, 150, 162])
def o106 : List RS := [.r 2 (some 10), .t 3]
def c107r0 : List SI := [
 ⟨none, .mv 4 (.b false), none, 0⟩]
def c107r1 : List SI := [
 ⟨none, .mv 5 (.t 1), none, 0⟩,
 ⟨none, .call 6 122 [(.t 5)], none, 0⟩,
 ⟨none, .bin 7 .geq (.t 6) (.i 0), none, 0⟩,
 ⟨none, .mv 8 (.t 7), none, 0⟩,
 ⟨some (8, true), .mv 9 (.t 1), none, 9⟩,
 ⟨some (8, true), .call 10 123 [(.t 9)], none, 10⟩,
 ⟨some (8, true), .mv 11 (.t 0), none, 11⟩,
 ⟨some (8, true), .bin 12 .leq (.t 10) (.t 11), none, 12⟩,
 ⟨none, .pick 13 (.t 8) (.t 12) (.b false), none, 0⟩,
 ⟨none, .mv 4 (.t 13), none, 0⟩]
def c107 : SC :=
 (.seq (.reg false c107r0)
 (.seq (.reg false c107r1)
 .ret))
def v107 : List Nat × List Nat := ([], [])
def o107 : List RS := [.t 4]
theorem s107 : slimC Tryz.prog Tryz.f107.ntmps v107.1 v107.2 ((Tryz.f107.body).getD .skip) = some c107 := by kernel_rfl
theorem q107 : slimR Tryz.prog Tryz.f107.ntmps v107.1 v107.2 Tryz.f107.results.toList = some o107 := by kernel_rfl
def c108r0 : List SI := [
 ⟨none, .bxR 1 (.t 0), none, 0⟩,
 ⟨none, .mv 2 (.i 0), none, 0⟩]
def c108r1 : List SI := [
 ⟨none, .nop, (some 1), 0⟩,
 ⟨none, .ldR 5 1 0 none, none, 0⟩,
 ⟨none, .call 6 124 [(.t 5)], none, 0⟩,
 ⟨none, .un 7 .not (.t 6), none, 0⟩,
 ⟨none, .mv 3 (.t 7), none, 0⟩]
def c108r2 : List SI := [
 ⟨none, .nop, (some 1), 0⟩,
 ⟨none, .ldR 9 1 4 none, none, 0⟩,
 ⟨none, .call 10 124 [(.t 9)], none, 0⟩,
 ⟨none, .un 11 .not (.t 10), none, 0⟩,
 ⟨none, .mv 3 (.t 11), none, 0⟩]
def c108r3 : List SI := [
 ⟨none, .nop, (some 1), 0⟩,
 ⟨none, .ldR 13 1 1 none, none, 0⟩,
 ⟨none, .len 14 true (.t 13), none, 0⟩,
 ⟨none, .nop, (some 1), 0⟩,
 ⟨none, .ldR 16 1 2 none, none, 0⟩,
 ⟨none, .len 17 true (.t 16), none, 0⟩,
 ⟨none, .mm 18 true (.t 14) (.t 17), none, 0⟩,
 ⟨none, .bin 19 .gtr (.t 18) (.i 64), none, 0⟩,
 ⟨none, .mv 3 (.t 19), none, 0⟩]
def c108r4 : List SI := [
 ⟨none, .mv 2 (.i 1), none, 0⟩]
def c108r5 : List SI := [
 ⟨none, .nop, (some 1), 0⟩,
 ⟨none, .ldR 22 1 3 none, none, 0⟩,
 ⟨none, .mv 23 (.t 22), none, 0⟩,
 ⟨some (23, true), .nop, (some 1), 99999⟩,
 ⟨some (23, true), .ldR 25 1 1 none, none, 25⟩,
 ⟨some (23, true), .bin 26 .eql (.t 25) (.v (.string ⟨#[]⟩)), none, 26⟩,
 ⟨some (23, true), .mv 27 (.t 26), none, 27⟩,
 ⟨some (27, false), .nop, (some 1), 99999⟩,
 ⟨some (27, false), .ldR 29 1 2 none, none, 29⟩,
 ⟨some (27, false), .bin 30 .neq (.t 29) (.v (.string ⟨#[]⟩)), none, 30⟩,
 ⟨some (23, true), .pick 31 (.t 27) (.b true) (.t 30), none, 31⟩,
 ⟨none, .pick 32 (.t 23) (.t 31) (.b false), none, 0⟩,
 ⟨none, .mv 20 (.t 32), none, 0⟩]
def c108r6 : List SI := [
 ⟨none, .mv 2 (.i 1), none, 0⟩]
def c108r7 : List SI := [
 ⟨none, .mv 2 (.i 0), none, 0⟩]
def c108 : SC :=
 (.seq (.reg false c108r0)
 (.seq (.blk 0 (.seq (.seq (.reg false c108r1)
  (.cond (.t 3)
   .skip
   (.seq (.reg false c108r2)
   (.cond (.t 3)
    .skip
    (.reg false c108r3)))))
  (.cond (.t 3)
   (.seq (.reg false c108r4)
   .ret)
   (.seq (.reg false c108r5)
   (.cond (.t 20)
    (.seq (.reg false c108r6)
    .ret)
    .skip)))))
 (.seq (.reg false c108r7)
 .ret)))
def v108 : List Nat × List Nat := ([1], [1, 4, 8, 12, 15, 21, 24, 28])
def o108 : List RS := [.t 2]
theorem s108 : slimC Tryz.prog Tryz.f108.ntmps v108.1 v108.2 ((Tryz.f108.body).getD .skip) = some c108 := by kernel_rfl
theorem q108 : slimR Tryz.prog Tryz.f108.ntmps v108.1 v108.2 Tryz.f108.results.toList = some o108 := by kernel_rfl
def c109r0 : List SI := [
 ⟨none, .mv 4 (.v (.slice none 0 0)), none, 0⟩]
def c109r1 : List SI := [
 ⟨none, .mv 7 (.t 1), none, 0⟩,
 ⟨none, .cvI 8 .u64 (.t 7), none, 0⟩,
 ⟨none, .bin 9 .shl (.t 8) (.v (.int .u64 1)), none, 0⟩,
 ⟨none, .mv 10 (.t 1), none, 0⟩,
 ⟨none, .bin 11 .shr (.t 10) (.v (.int .u64 63)), none, 0⟩,
 ⟨none, .cvI 12 .u64 (.t 11), none, 0⟩,
 ⟨none, .bin 13 .xor (.t 9) (.t 12), none, 0⟩,
 ⟨none, .mv 5 (.t 13), none, 0⟩]
def c109r2 : List SI := [
 ⟨none, .mv 14 (.t 0), none, 0⟩,
 ⟨none, .call 15 103 [(.t 14)], none, 0⟩,
 ⟨none, .mv 6 (.t 15), none, 0⟩]
def c109r3 : List SI := [
 ⟨none, .mv 16 (.t 5), none, 0⟩,
 ⟨none, .bin 17 .geq (.t 16) (.v (.int .u64 128)), none, 0⟩]
def c109r4 : List SI := [
 ⟨none, .mv 20 (.t 6), none, 0⟩,
 ⟨none, .mv 21 (.t 5), none, 0⟩,
 ⟨none, .cvI 22 .u8 (.t 21), none, 0⟩,
 ⟨none, .bin 23 .or (.t 22) (.v (.int .u8 128)), none, 0⟩,
 ⟨none, .bls 24 5 1 1 [(.int .u8 0)] [(0, 1, (.t 23))], none, 0⟩,
 ⟨none, .app 25 (.t 20) (.t 24) 5 1 1, none, 0⟩,
 ⟨none, .mv 6 (.t 25), none, 0⟩]
def c109r5 : List SI := [
 ⟨none, .mv 18 (.t 5), none, 0⟩,
 ⟨none, .bin 19 .shr (.t 18) (.v (.int .u64 7)), none, 0⟩,
 ⟨none, .mv 5 (.t 19), none, 0⟩]
def c109r6 : List SI := [
 ⟨none, .mv 26 (.t 6), none, 0⟩,
 ⟨none, .mv 27 (.t 5), none, 0⟩,
 ⟨none, .cvI 28 .u8 (.t 27), none, 0⟩,
 ⟨none, .bls 29 5 1 1 [(.int .u8 0)] [(0, 1, (.t 28))], none, 0⟩,
 ⟨none, .app 30 (.t 26) (.t 29) 5 1 1, none, 0⟩,
 ⟨none, .mv 4 (.t 30), none, 0⟩]
def c109 : SC :=
 (.seq (.reg false c109r0)
 (.seq (.reg false c109r1)
 (.seq (.reg false c109r2)
 (.seq (.blk 0 (.loop (.seq (.seq (.reg false c109r3)
   (.cond (.t 17)
    .skip
    (.exit 0)))
   (.seq (.blk 1 (.reg false c109r4))
   (.reg false c109r5)))))
 (.seq (.reg false c109r6)
 .ret)))))
def v109 : List Nat × List Nat := ([], [])
def o109 : List RS := [.t 4]
theorem s109 : slimC Tryz.prog Tryz.f109.ntmps v109.1 v109.2 ((Tryz.f109.body).getD .skip) = some c109 := by kernel_rfl
theorem q109 : slimR Tryz.prog Tryz.f109.ntmps v109.1 v109.2 Tryz.f109.results.toList = some o109 := by kernel_rfl
def c110r0 : List SI := [
 ⟨none, .bxR 3 (.t 0), none, 0⟩,
 ⟨none, .mv 6 (.v (.slice none 0 0)), none, 0⟩,
 ⟨none, .mv 7 (.i 0), none, 0⟩]
def c110r1 : List SI := [
 ⟨none, .ldR 11 3 0 (some 5), none, 0⟩,
 ⟨none, .call 12 108 [(.t 11)], none, 0⟩,
 ⟨none, .mv 8 (.t 12), none, 0⟩]
def c110r2 : List SI := [
 ⟨none, .mv 13 (.t 8), none, 0⟩,
 ⟨none, .bin 14 .neq (.t 13) (.i 0), none, 0⟩]
def c110r3 : List SI := [
 ⟨none, .mv 15 (.t 8), none, 0⟩,
 ⟨none, .mv 6 (.v (.slice none 0 0)), none, 0⟩,
 ⟨none, .mv 7 (.t 15), none, 0⟩]
def c110r4 : List SI := [
 ⟨none, .mv 16 (.t 1), none, 0⟩,
 ⟨none, .call 17 124 [(.t 16)], none, 0⟩,
 ⟨none, .un 18 .not (.t 17), none, 0⟩,
 ⟨none, .mv 19 (.t 18), none, 0⟩,
 ⟨some (19, false), .mv 20 (.t 2), none, 20⟩,
 ⟨some (19, false), .call 21 124 [(.t 20)], none, 21⟩,
 ⟨some (19, false), .un 22 .not (.t 21), none, 22⟩,
 ⟨none, .pick 23 (.t 19) (.b true) (.t 22), none, 0⟩]
def c110r5 : List SI := [
 ⟨none, .mv 6 (.v (.slice none 0 0)), none, 0⟩,
 ⟨none, .mv 7 (.i 1), none, 0⟩]
def c110r6 : List SI := [
 ⟨none, .mv 9 (.v (.int .u8 0)), none, 0⟩]
def c110r7 : List SI := [
 ⟨none, .nop, (some 3), 0⟩,
 ⟨none, .ldR 25 3 3 none, none, 0⟩]
def c110r8 : List SI := [
 ⟨none, .mv 9 (.v (.int .u8 1)), none, 0⟩]
def c110r9 : List (Bool × SI) := [
 (true, ⟨none, .nop, (some 3), 0⟩),
 (true, N_ (.ldR 27 3 0 none)),
 (true, N_ (.mv 28 (.t 1))),
 (true, N_ (.bin 29 .sub (.t 27) (.t 28))),
 (true, ⟨none, .nop, (some 3), 0⟩),
 (true, N_ (.ldR 32 3 4 none)),
 (true, N_ (.mv 33 (.t 2))),
 (true, N_ (.bin 34 .sub (.t 32) (.t 33))),
 (false, N_ (.call 30 109 [(.v (.slice none 0 0)), (.t 29)])),
 (false, N_ (.call 35 109 [(.t 30), (.t 34)])),
 (true, N_ (.mv 10 (.t 35)))]
def c110r10 : List (Bool × SI) := [
 (true, N_ (.mv 36 (.t 10))),
 (true, N_ (.mv 37 (.t 9))),
 (true, ⟨none, .nop, (some 3), 0⟩),
 (true, N_ (.ldR 41 3 1 none)),
 (true, ⟨none, .nop, (some 3), 0⟩),
 (true, N_ (.ldR 44 3 2 none)),
 (false, N_ (.bls 38 5 1 1 [(.int .u8 0)] [(0, 1, (.t 37))])),
 (false, N_ (.app 39 (.t 36) (.t 38) 5 1 1)),
 (false, N_ (.call 42 125 [(.t 39), (.t 41)])),
 (false, N_ (.call 45 125 [(.t 42), (.t 44)])),
 (true, N_ (.mv 6 (.t 45))),
 (true, N_ (.mv 7 (.i 0)))]
def c110 : SC :=
 (.seq (.reg false c110r0)
 (.seq (.seq (.reg false c110r1)
 (.seq (.reg false c110r2)
 (.cond (.t 14)
  (.seq (.reg false c110r3)
  .ret)
  .skip)))
 (.seq (.seq (.reg false c110r4)
 (.cond (.t 23)
  (.seq (.reg false c110r5)
  .ret)
  .skip))
 (.seq (.reg false c110r6)
 (.seq (.seq (.reg false c110r7)
 (.cond (.t 25)
  (.reg false c110r8)
  .skip))
 (.seq (.rgX c110r9)
 (.seq (.rgX c110r10)
 .ret)))))))
def v110 : List Nat × List Nat := ([3], [3, 24, 26, 31, 40, 43])
def o110 : List RS := [.t 6, .t 7]
theorem s110 : slimC Tryz.prog Tryz.f110.ntmps v110.1 v110.2 ((Tryz.f110.body).getD .skip) = some c110 := by kernel_rfl
theorem q110 : slimR Tryz.prog Tryz.f110.ntmps v110.1 v110.2 Tryz.f110.results.toList = some o110 := by kernel_rfl
def c111r0 : List SI := [
 ⟨none, .mv 2 (.v (.slice none 0 0)), none, 0⟩]
def c111r1 : List SI := [
 ⟨none, .mv 3 (.t 0), none, 0⟩,
 ⟨none, .app 4 (.v (.slice none 0 0)) (.t 3) 5 1 1, none, 0⟩,
 ⟨none, .mv 5 (.t 0), none, 0⟩,
 ⟨none, .call 6 126 [(.t 5)], none, 0⟩,
 ⟨none, .cvI 7 .u64 (.t 6), none, 0⟩,
 ⟨none, .call 8 112 [(.t 4), (.t 7), (.i 4)], none, 0⟩,
 ⟨none, .mv 2 (.t 8), none, 0⟩]
def c111 : SC :=
 (.seq (.reg false c111r0)
 (.seq (.reg false c111r1)
 .ret))
def v111 : List Nat × List Nat := ([], [])
def o111 : List RS := [.t 2]
theorem s111 : slimC Tryz.prog Tryz.f111.ntmps v111.1 v111.2 ((Tryz.f111.body).getD .skip) = some c111 := by kernel_rfl
theorem q111 : slimR Tryz.prog Tryz.f111.ntmps v111.1 v111.2 Tryz.f111.results.toList = some o111 := by kernel_rfl
def c112r0 : List SI := [
 ⟨none, .mv 6 (.v (.slice none 0 0)), none, 0⟩]
def c112r1 : List SI := [
 ⟨none, .mv 9 (.t 0), none, 0⟩,
 ⟨none, .call 10 103 [(.t 9)], none, 0⟩,
 ⟨none, .mv 7 (.t 10), none, 0⟩]
def c112r2 : List SI := [
 ⟨none, .mv 11 (.t 2), none, 0⟩,
 ⟨none, .bin 12 .lss (.t 11) (.i 1), none, 0⟩,
 ⟨none, .mv 13 (.t 12), none, 0⟩,
 ⟨some (13, false), .mv 14 (.t 2), none, 14⟩,
 ⟨some (13, false), .bin 15 .gtr (.t 14) (.i 8), none, 15⟩,
 ⟨none, .pick 16 (.t 13) (.b true) (.t 15), none, 0⟩]
def c112r3 : List SI := [
 ⟨none, .mv 17 (.t 7), none, 0⟩,
 ⟨none, .mv 6 (.t 17), none, 0⟩]
def c112r4 : List SI := [
 ⟨none, .mv 18 (.t 2), none, 0⟩,
 ⟨none, .bin 19 .sub (.t 18) (.i 1), none, 0⟩,
 ⟨none, .bin 20 .mul (.i 8) (.t 19), none, 0⟩,
 ⟨none, .mv 8 (.t 20), none, 0⟩]
def c112r5 : List SI := [
 ⟨none, .mv 21 (.t 8), none, 0⟩,
 ⟨none, .bin 22 .geq (.t 21) (.i 0), none, 0⟩]
def c112r6 : List SI := [
 ⟨none, .mv 25 (.t 7), none, 0⟩,
 ⟨none, .mv 26 (.t 1), none, 0⟩,
 ⟨none, .mv 27 (.t 8), none, 0⟩,
 ⟨none, .bin 28 .shr (.t 26) (.t 27), none, 0⟩,
 ⟨none, .cvI 29 .u8 (.t 28), none, 0⟩,
 ⟨none, .bls 30 5 1 1 [(.int .u8 0)] [(0, 1, (.t 29))], none, 0⟩,
 ⟨none, .app 31 (.t 25) (.t 30) 5 1 1, none, 0⟩,
 ⟨none, .mv 7 (.t 31), none, 0⟩]
def c112r7 : List SI := [
 ⟨none, .mv 23 (.t 8), none, 0⟩,
 ⟨none, .bin 24 .sub (.t 23) (.i 8), none, 0⟩,
 ⟨none, .mv 8 (.t 24), none, 0⟩]
def c112r8 : List SI := [
 ⟨none, .mv 32 (.t 7), none, 0⟩,
 ⟨none, .mv 6 (.t 32), none, 0⟩]
def c112 : SC :=
 (.seq (.reg false c112r0)
 (.seq (.reg false c112r1)
 (.seq (.seq (.reg false c112r2)
 (.cond (.t 16)
  (.seq (.reg false c112r3)
  .ret)
  .skip))
 (.seq (.seq (.reg false c112r4)
 (.blk 0 (.loop (.seq (.seq (.reg false c112r5)
   (.cond (.t 22)
    .skip
    (.exit 0)))
   (.seq (.blk 1 (.reg false c112r6))
   (.reg false c112r7))))))
 (.seq (.reg false c112r8)
 .ret)))))
def v112 : List Nat × List Nat := ([], [])
def o112 : List RS := [.t 6]
theorem s112 : slimC Tryz.prog Tryz.f112.ntmps v112.1 v112.2 ((Tryz.f112.body).getD .skip) = some c112 := by kernel_rfl
theorem q112 : slimR Tryz.prog Tryz.f112.ntmps v112.1 v112.2 Tryz.f112.results.toList = some o112 := by kernel_rfl
def c113r0 : List SI := [
 ⟨none, .mv 2 (.b false), none, 0⟩]
def c113r1 : List SI := [
 ⟨none, .mv 3 (.t 0), none, 0⟩,
 ⟨none, .bin 4 .geq (.t 3) (.i 0), none, 0⟩,
 ⟨none, .mv 5 (.t 4), none, 0⟩,
 ⟨some (5, true), .mv 6 (.t 0), none, 6⟩,
 ⟨some (5, true), .bin 7 .leq (.t 6) (.i 1099511627776), none, 7⟩,
 ⟨none, .pick 8 (.t 5) (.t 7) (.b false), none, 0⟩,
 ⟨none, .mv 2 (.t 8), none, 0⟩]
def c113 : SC :=
 (.seq (.reg false c113r0)
 (.seq (.reg false c113r1)
 .ret))
def v113 : List Nat × List Nat := ([], [])
def o113 : List RS := [.t 2]
theorem s113 : slimC Tryz.prog Tryz.f113.ntmps v113.1 v113.2 ((Tryz.f113.body).getD .skip) = some c113 := by kernel_rfl
theorem q113 : slimR Tryz.prog Tryz.f113.ntmps v113.1 v113.2 Tryz.f113.results.toList = some o113 := by kernel_rfl
def c114r0 : List SI := [
 ⟨none, .mv 4 (.v (.slice none 0 0)), none, 0⟩]
def c114r1 : List SI := [
 ⟨none, .mv 5 (.t 0), none, 0⟩,
 ⟨none, .mv 6 (.t 1), none, 0⟩,
 ⟨none, .len 7 true (.t 6), none, 0⟩,
 ⟨none, .call 8 97 [(.t 5), (.t 7)], none, 0⟩,
 ⟨none, .mv 9 (.t 1), none, 0⟩,
 ⟨none, .app 10 (.t 8) (.t 9) 5 1 1, none, 0⟩,
 ⟨none, .mv 4 (.t 10), none, 0⟩]
def c114 : SC :=
 (.seq (.reg false c114r0)
 (.seq (.reg false c114r1)
 .ret))
def v114 : List Nat × List Nat := ([], [])
def o114 : List RS := [.t 4]
theorem s114 : slimC Tryz.prog Tryz.f114.ntmps v114.1 v114.2 ((Tryz.f114.body).getD .skip) = some c114 := by kernel_rfl
theorem q114 : slimR Tryz.prog Tryz.f114.ntmps v114.1 v114.2 Tryz.f114.results.toList = some o114 := by kernel_rfl
def c115r0 : List SI := [
 ⟨none, .mv 2 (.v (.slice none 0 0)), none, 0⟩]
def c115r1 : List SI := [
 ⟨none, .mv 3 (.t 0), none, 0⟩,
 ⟨none, .bin 4 .quo (.t 3) (.v (.int .u32 16777216)), none, 0⟩,
 ⟨none, .cvI 5 .u8 (.t 4), none, 0⟩,
 ⟨none, .mv 6 (.t 0), none, 0⟩,
 ⟨none, .bin 7 .quo (.t 6) (.v (.int .u32 65536)), none, 0⟩,
 ⟨none, .cvI 8 .u8 (.t 7), none, 0⟩,
 ⟨none, .mv 9 (.t 0), none, 0⟩,
 ⟨none, .bin 10 .quo (.t 9) (.v (.int .u32 256)), none, 0⟩,
 ⟨none, .cvI 11 .u8 (.t 10), none, 0⟩,
 ⟨none, .mv 12 (.t 0), none, 0⟩,
 ⟨none, .cvI 13 .u8 (.t 12), none, 0⟩,
 ⟨none, .bls 14 5 4 1 [(.int .u8 0), (.int .u8 0), (.int .u8 0), (.int .u8 0)] [(0, 1, (.t 5)), (1, 1, (.t 8)), (2, 1, (.t 11)), (3, 1, (.t 13))], none, 0⟩,
 ⟨none, .mv 2 (.t 14), none, 0⟩]
def c115 : SC :=
 (.seq (.reg false c115r0)
 (.seq (.reg false c115r1)
 .ret))
def v115 : List Nat × List Nat := ([], [])
def o115 : List RS := [.t 2]
theorem s115 : slimC Tryz.prog Tryz.f115.ntmps v115.1 v115.2 ((Tryz.f115.body).getD .skip) = some c115 := by kernel_rfl
theorem q115 : slimR Tryz.prog Tryz.f115.ntmps v115.1 v115.2 Tryz.f115.results.toList = some o115 := by kernel_rfl
def c116r0 : List SI := [
 ⟨none, .mv 2 (.v (.int .u32 0)), none, 0⟩]
def c116r1 : List SI := [
 ⟨none, .mv 3 (.v (.int .u32 4294967295)), none, 0⟩]
def c116r2 : List SI := [
 ⟨none, .mv 4 (.i 0), none, 0⟩]
def c116r3 : List SI := [
 ⟨none, .mv 5 (.t 4), none, 0⟩,
 ⟨none, .mv 6 (.t 0), none, 0⟩,
 ⟨none, .len 7 false (.t 6), none, 0⟩,
 ⟨none, .bin 8 .lss (.t 5) (.t 7), none, 0⟩]
def c116r4 : List SI := [
 ⟨none, .mv 11 (.t 3), none, 0⟩,
 ⟨none, .mv 12 (.t 0), none, 0⟩,
 ⟨none, .mv 13 (.t 4), none, 0⟩,
 ⟨none, .ixA 14 (.t 12) (.t 13) 1, none, 0⟩,
 ⟨none, .ld 15 (.t 14) none, none, 0⟩,
 ⟨none, .cvI 16 .u32 (.t 15), none, 0⟩,
 ⟨none, .bin 17 .xor (.t 11) (.t 16), none, 0⟩,
 ⟨none, .call 18 127 [(.t 17), (.i 8)], none, 0⟩,
 ⟨none, .mv 3 (.t 18), none, 0⟩]
def c116r5 : List SI := [
 ⟨none, .mv 9 (.t 4), none, 0⟩,
 ⟨none, .bin 10 .add (.t 9) (.i 1), none, 0⟩,
 ⟨none, .mv 4 (.t 10), none, 0⟩]
def c116r6 : List SI := [
 ⟨none, .mv 19 (.t 3), none, 0⟩,
 ⟨none, .bin 20 .xor (.t 19) (.v (.int .u32 4294967295)), none, 0⟩,
 ⟨none, .mv 2 (.t 20), none, 0⟩]
def c116 : SC :=
 (.seq (.reg false c116r0)
 (.seq (.reg false c116r1)
 (.seq (.seq (.reg false c116r2)
 (.blk 0 (.loop (.seq (.seq (.reg false c116r3)
   (.cond (.t 8)
    .skip
    (.exit 0)))
   (.seq (.blk 1 (.reg false c116r4))
   (.reg false c116r5))))))
 (.seq (.reg false c116r6)
 .ret))))
def v116 : List Nat × List Nat := ([], [])
def o116 : List RS := [.t 2]
theorem s116 : slimC Tryz.prog Tryz.f116.ntmps v116.1 v116.2 ((Tryz.f116.body).getD .skip) = some c116 := by kernel_rfl
theorem q116 : slimR Tryz.prog Tryz.f116.ntmps v116.1 v116.2 Tryz.f116.results.toList = some o116 := by kernel_rfl
def c117r0 : List SI := [
 ⟨none, .mv 6 (.v (.int .u64 0)), none, 0⟩,
 ⟨none, .mv 7 (.i 0), none, 0⟩]
def c117r1 : List SI := [
 ⟨none, .mv 12 (.t 2), none, 0⟩,
 ⟨none, .bin 13 .lss (.t 12) (.i 1), none, 0⟩,
 ⟨none, .mv 14 (.t 13), none, 0⟩,
 ⟨some (14, false), .mv 15 (.t 2), none, 15⟩,
 ⟨some (14, false), .bin 16 .gtr (.t 15) (.i 8), none, 16⟩,
 ⟨none, .pick 17 (.t 14) (.b true) (.t 16), none, 0⟩,
 ⟨none, .mv 18 (.t 17), none, 0⟩,
 ⟨some (18, false), .mv 19 (.t 1), none, 19⟩,
 ⟨some (18, false), .bin 20 .lss (.t 19) (.i 0), none, 20⟩,
 ⟨none, .pick 21 (.t 18) (.b true) (.t 20), none, 0⟩]
def c117r2 : List SI := [
 ⟨none, .mv 6 (.v (.int .u64 0)), none, 0⟩,
 ⟨none, .mv 7 (.i 1), none, 0⟩]
def c117r3 : List SI := [
 ⟨none, .mv 22 (.t 0), none, 0⟩,
 ⟨none, .mv 23 (.t 1), none, 0⟩,
 ⟨none, .call 24 128 [(.t 22), (.t 23)], none, 0⟩,
 ⟨none, .mv 8 (.t 24), none, 0⟩]
def c117r4 : List SI := [
 ⟨none, .mv 25 (.t 8), none, 0⟩,
 ⟨none, .len 26 false (.t 25), none, 0⟩,
 ⟨none, .mv 27 (.t 2), none, 0⟩,
 ⟨none, .bin 28 .lss (.t 26) (.t 27), none, 0⟩]
def c117r5 : List SI := [
 ⟨none, .mv 6 (.v (.int .u64 0)), none, 0⟩,
 ⟨none, .mv 7 (.i 10), none, 0⟩]
def c117r6 : List SI := [
 ⟨none, .mv 9 (.v (.int .u64 0)), none, 0⟩]
def c117r7 : List SI := [
 ⟨none, .mv 29 (.t 8), none, 0⟩,
 ⟨none, .mv 30 (.t 2), none, 0⟩,
 ⟨none, .sl 31 (.t 29) none (some (.t 30)) none 1, none, 0⟩,
 ⟨none, .len 32 false (.t 31), none, 0⟩,
 ⟨none, .mv 33 (.i 0), none, 0⟩]
def c117r8 : List SI := [
 ⟨none, .bin 34 .lss (.t 33) (.t 32), none, 0⟩]
def c117r9 : List SI := [
 ⟨none, .ixA 35 (.t 31) (.t 33) 1, none, 0⟩,
 ⟨none, .ld 36 (.t 35) none, none, 0⟩,
 ⟨none, .mv 11 (.t 36), none, 0⟩]
def c117r10 : List SI := [
 ⟨none, .mv 37 (.t 9), none, 0⟩,
 ⟨none, .bin 38 .shl (.t 37) (.v (.int .u64 8)), none, 0⟩,
 ⟨none, .mv 39 (.t 11), none, 0⟩,
 ⟨none, .cvI 40 .u64 (.t 39), none, 0⟩,
 ⟨none, .bin 41 .or (.t 38) (.t 40), none, 0⟩,
 ⟨none, .mv 9 (.t 41), none, 0⟩]
def c117r11 : List SI := [
 ⟨none, .bin 42 .add (.t 33) (.i 1), none, 0⟩,
 ⟨none, .mv 33 (.t 42), none, 0⟩]
def c117r12 : List SI := [
 ⟨none, .mv 43 (.t 9), none, 0⟩,
 ⟨none, .mv 6 (.t 43), none, 0⟩,
 ⟨none, .mv 7 (.i 0), none, 0⟩]
def c117 : SC :=
 (.seq (.reg false c117r0)
 (.seq (.seq (.reg false c117r1)
 (.cond (.t 21)
  (.seq (.reg false c117r2)
  .ret)
  .skip))
 (.seq (.reg false c117r3)
 (.seq (.seq (.reg false c117r4)
 (.cond (.t 28)
  (.seq (.reg false c117r5)
  .ret)
  .skip))
 (.seq (.reg false c117r6)
 (.seq (.seq (.reg false c117r7)
 (.blk 0 (.loop (.seq (.reg false c117r8)
   (.seq (.cond (.t 34)
    .skip
    (.exit 0))
   (.seq (.blk 1 (.seq (.reg false c117r9)
    (.reg false c117r10)))
   (.reg false c117r11)))))))
 (.seq (.reg false c117r12)
 .ret)))))))
def v117 : List Nat × List Nat := ([], [])
def o117 : List RS := [.t 6, .t 7]
def c118r0 : List SI := [
 ⟨none, .mv 2 (.v (.slice none 0 0)), none, 0⟩,
 ⟨none, .mv 3 (.i 0), none, 0⟩]
def c118r1 : List SI := [
 ⟨none, .mv 7 (.t 0), none, 0⟩,
 ⟨none, .len 8 false (.t 7), none, 0⟩,
 ⟨none, .bin 9 .sub (.t 8) (.i 4), none, 0⟩,
 ⟨none, .mv 4 (.t 9), none, 0⟩]
def c118r2 : List SI := [
 ⟨none, .mv 10 (.t 4), none, 0⟩,
 ⟨none, .bin 11 .lss (.t 10) (.i 0), none, 0⟩]
def c118r3 : List SI := [
 ⟨none, .mv 2 (.v (.slice none 0 0)), none, 0⟩,
 ⟨none, .mv 3 (.i 10), none, 0⟩]
def c118r4 : List SI := [
 ⟨none, .mv 13 (.t 0), none, 0⟩,
 ⟨none, .mv 14 (.t 4), none, 0⟩,
 ⟨none, .call 15 117 [(.t 13), (.t 14), (.i 4)], none, 0⟩,
 ⟨none, .mv 12 (.t 15), none, 0⟩,
 ⟨none, .ext 16 (.t 12) 0, none, 0⟩,
 ⟨none, .ext 17 (.t 12) 1, none, 0⟩,
 ⟨none, .mv 5 (.t 16), none, 0⟩,
 ⟨none, .mv 6 (.t 17), none, 0⟩]
def c118r5 : List SI := [
 ⟨none, .mv 18 (.t 6), none, 0⟩,
 ⟨none, .bin 19 .neq (.t 18) (.i 0), none, 0⟩,
 ⟨none, .mv 20 (.t 19), none, 0⟩,
 ⟨some (20, false), .mv 21 (.t 5), none, 21⟩,
 ⟨some (20, false), .mv 22 (.t 0), none, 22⟩,
 ⟨some (20, false), .mv 23 (.t 4), none, 23⟩,
 ⟨some (20, false), .sl 24 (.t 22) none (some (.t 23)) none 1, none, 24⟩,
 ⟨some (20, false), .call 25 126 [(.t 24)], none, 25⟩,
 ⟨some (20, false), .cvI 26 .u64 (.t 25), none, 26⟩,
 ⟨some (20, false), .bin 27 .neq (.t 21) (.t 26), none, 27⟩,
 ⟨none, .pick 28 (.t 20) (.b true) (.t 27), none, 0⟩]
def c118r6 : List SI := [
 ⟨none, .mv 2 (.v (.slice none 0 0)), none, 0⟩,
 ⟨none, .mv 3 (.i 20), none, 0⟩]
def c118r7 : List SI := [
 ⟨none, .mv 29 (.t 0), none, 0⟩,
 ⟨none, .mv 30 (.t 4), none, 0⟩,
 ⟨none, .sl 31 (.t 29) none (some (.t 30)) none 1, none, 0⟩,
 ⟨none, .app 32 (.v (.slice none 0 0)) (.t 31) 5 1 1, none, 0⟩,
 ⟨none, .mv 2 (.t 32), none, 0⟩,
 ⟨none, .mv 3 (.i 0), none, 0⟩]
def c118 : SC :=
 (.seq (.reg false c118r0)
 (.seq (.reg false c118r1)
 (.seq (.seq (.reg false c118r2)
 (.cond (.t 11)
  (.seq (.reg false c118r3)
  .ret)
  .skip))
 (.seq (.seq (.reg false c118r4)
 (.seq (.reg false c118r5)
 (.cond (.t 28)
  (.seq (.reg false c118r6)
  .ret)
  .skip)))
 (.seq (.reg false c118r7)
 .ret)))))
def v118 : List Nat × List Nat := ([], [])
def o118 : List RS := [.t 2, .t 3]
def c119r0 : List SI := [
 ⟨none, .bx 1 (.t 0), none, 0⟩,
 ⟨none, .alR 2 [(.int .i64 0), (.int .i64 0), (.int .i64 0), (.int .i64 0), (.int .i64 0), (.int .i64 0), (.int .i64 0), (.bool false), (.int .i64 0), (.slice none 0 0)], none, 0⟩,
 ⟨none, .al 3 [(.bool false)], none, 0⟩]
def c119r1 : List SI := [
 ⟨none, .al 4 [(.int .i64 0)], none, 0⟩,
 ⟨none, .st (.t 4) 1 (.i 0), none, 0⟩]
def c119r2 : List SI := [
 ⟨none, .st (.t 3) 1 (.b true), none, 0⟩]
def c119r3 : List SI := [
 ⟨none, .mkf 15 (.func 129) [(.t 1), (.t 4), (.t 3)], none, 0⟩,
 ⟨none, .mv 5 (.t 15), none, 0⟩]
def c119r4 : List SI := [
 ⟨none, .al 6 [(.int .i64 0), (.int .i64 0), (.int .i64 0), (.int .i64 0), (.int .i64 0), (.int .i64 0), (.int .i64 0)], none, 0⟩]
def c119r5 : List SI := [
 ⟨none, .mv 16 (.i 0), none, 0⟩]
def c119r6 : List SI := [
 ⟨none, .bin 17 .lss (.t 16) (.i 7), none, 0⟩]
def c119r7 : List SI := [
 ⟨none, .mv 18 (.t 16), none, 0⟩,
 ⟨none, .mv 7 (.t 18), none, 0⟩]
def c119r8 : List SI := [
 ⟨none, .mv 19 (.t 7), none, 0⟩,
 ⟨none, .mv 20 (.t 5), none, 0⟩,
 ⟨none, .cav 21 (.t 20) [], none, 0⟩,
 ⟨none, .ixP 22 (.t 6) (.t 19) 7 1, none, 0⟩,
 ⟨none, .st (.t 22) 1 (.t 21), none, 0⟩]
def c119r9 : List SI := [
 ⟨none, .bin 23 .add (.t 16) (.i 1), none, 0⟩,
 ⟨none, .mv 16 (.t 23), none, 0⟩]
def c119r10 : List SI := [
 ⟨none, .ld 24 (.t 3) none, none, 0⟩,
 ⟨none, .un 25 .not (.t 24), none, 0⟩,
 ⟨none, .mv 26 (.t 25), none, 0⟩,
 ⟨some (26, false), .ld 27 (.t 4) none, none, 27⟩,
 ⟨some (26, false), .ld 28 (.t 1) none, none, 28⟩,
 ⟨some (26, false), .len 29 false (.t 28), none, 29⟩,
 ⟨some (26, false), .bin 30 .geq (.t 27) (.t 29), none, 30⟩,
 ⟨none, .pick 31 (.t 26) (.b true) (.t 30), none, 0⟩,
 ⟨none, .mv 32 (.t 31), none, 0⟩,
 ⟨some (32, false), .ld 33 (.t 1) none, none, 33⟩,
 ⟨some (32, false), .ld 34 (.t 4) none, none, 34⟩,
 ⟨some (32, false), .ixA 35 (.t 33) (.t 34) 1, none, 35⟩,
 ⟨some (32, false), .ld 36 (.t 35) none, none, 36⟩,
 ⟨some (32, false), .bin 37 .geq (.t 36) (.v (.int .u8 8)), none, 37⟩,
 ⟨none, .pick 38 (.t 32) (.b true) (.t 37), none, 0⟩,
 ⟨none, .mv 39 (.t 38), none, 0⟩,
 ⟨some (39, false), .ixP 40 (.t 6) (.i 0) 7 1, none, 40⟩,
 ⟨some (39, false), .ld 41 (.t 40) none, none, 41⟩,
 ⟨some (39, false), .bin 42 .lss (.t 41) (.i 0), none, 42⟩,
 ⟨none, .pick 43 (.t 39) (.b true) (.t 42), none, 0⟩,
 ⟨none, .mv 44 (.t 43), none, 0⟩,
 ⟨some (44, false), .ixP 45 (.t 6) (.i 0) 7 1, none, 45⟩,
 ⟨some (44, false), .ld 46 (.t 45) none, none, 46⟩,
 ⟨some (44, false), .bin 47 .gtr (.t 46) (.i 1099511627776), none, 47⟩,
 ⟨none, .pick 48 (.t 44) (.b true) (.t 47), none, 0⟩,
 ⟨none, .mv 49 (.t 48), none, 0⟩,
 ⟨some (49, false), .ixP 50 (.t 6) (.i 1) 7 1, none, 50⟩,
 ⟨some (49, false), .ld 51 (.t 50) none, none, 51⟩,
 ⟨some (49, false), .bin 52 .lss (.t 51) (.i 0), none, 52⟩,
 ⟨none, .pick 53 (.t 49) (.b true) (.t 52), none, 0⟩,
 ⟨none, .mv 54 (.t 53), none, 0⟩,
 ⟨some (54, false), .ixP 55 (.t 6) (.i 1) 7 1, none, 55⟩,
 ⟨some (54, false), .ld 56 (.t 55) none, none, 56⟩,
 ⟨some (54, false), .bin 57 .geq (.t 56) (.i 16), none, 57⟩,
 ⟨none, .pick 58 (.t 54) (.b true) (.t 57), none, 0⟩]
def c119r11 : List SI := [
 ⟨none, .bld 59 [(.int .i64 0), (.int .i64 0), (.int .i64 0), (.int .i64 0), (.int .i64 0), (.int .i64 0), (.int .i64 0), (.bool false), (.int .i64 0), (.slice none 0 0)] [], none, 0⟩,
 ⟨none, .stR 2 0 10 (.t 59), none, 0⟩,
 ⟨none, .st (.t 3) 1 (.b false), none, 0⟩]
def c119r12 : List SI := [
 ⟨none, .ld 60 (.t 1) none, none, 0⟩,
 ⟨none, .ld 61 (.t 4) none, none, 0⟩,
 ⟨none, .ixA 62 (.t 60) (.t 61) 1, none, 0⟩,
 ⟨none, .ld 63 (.t 62) none, none, 0⟩,
 ⟨none, .mv 8 (.t 63), none, 0⟩]
def c119r13 : List SI := [
 ⟨none, .ld 64 (.t 4) none, none, 0⟩,
 ⟨none, .bin 65 .add (.t 64) (.i 1), none, 0⟩,
 ⟨none, .st (.t 4) 1 (.t 65), none, 0⟩]
def c119r14 : List SI := [
 ⟨none, .ixP 66 (.t 6) (.i 0) 7 1, none, 0⟩,
 ⟨none, .ld 67 (.t 66) none, none, 0⟩,
 ⟨none, .ixP 68 (.t 6) (.i 0) 7 1, none, 0⟩,
 ⟨none, .ld 69 (.t 68) none, none, 0⟩,
 ⟨none, .ixP 70 (.t 6) (.i 1) 7 1, none, 0⟩,
 ⟨none, .ld 71 (.t 70) none, none, 0⟩,
 ⟨none, .bin 72 .add (.t 69) (.t 71), none, 0⟩,
 ⟨none, .ixP 73 (.t 6) (.i 2) 7 1, none, 0⟩,
 ⟨none, .ld 74 (.t 73) none, none, 0⟩,
 ⟨none, .ixP 75 (.t 6) (.i 3) 7 1, none, 0⟩,
 ⟨none, .ld 76 (.t 75) none, none, 0⟩,
 ⟨none, .ixP 77 (.t 6) (.i 4) 7 1, none, 0⟩,
 ⟨none, .ld 78 (.t 77) none, none, 0⟩,
 ⟨none, .ixP 79 (.t 6) (.i 5) 7 1, none, 0⟩,
 ⟨none, .ld 80 (.t 79) none, none, 0⟩,
 ⟨none, .ixP 81 (.t 6) (.i 6) 7 1, none, 0⟩,
 ⟨none, .ld 82 (.t 81) none, none, 0⟩,
 ⟨none, .mv 83 (.t 8), none, 0⟩,
 ⟨none, .bin 84 .and (.t 83) (.v (.int .u8 4)), none, 0⟩,
 ⟨none, .bin 85 .neq (.t 84) (.v (.int .u8 0)), none, 0⟩,
 ⟨none, .mv 86 (.t 8), none, 0⟩,
 ⟨none, .bin 87 .andNot (.t 86) (.v (.int .u8 4)), none, 0⟩,
 ⟨none, .cvI 88 .i64 (.t 87), none, 0⟩,
 ⟨none, .bld 89 [(.int .i64 0), (.int .i64 0), (.int .i64 0), (.int .i64 0), (.int .i64 0), (.int .i64 0), (.int .i64 0), (.bool false), (.int .i64 0), (.slice none 0 0)] [(0, 1, (.t 67)), (1, 1, (.t 72)), (2, 1, (.t 74)), (3, 1, (.t 76)), (4, 1, (.t 78)), (5, 1, (.t 80)), (6, 1, (.t 82)), (7, 1, (.t 85)), (8, 1, (.t 88))], none, 0⟩,
 ⟨none, .stR 2 0 10 (.t 89), none, 0⟩]
def c119r15 : List SI := [
 ⟨none, .mv 90 (.t 5), none, 0⟩,
 ⟨none, .cav 91 (.t 90) [], none, 0⟩,
 ⟨none, .mv 9 (.t 91), none, 0⟩]
def c119r16 : List SI := [
 ⟨none, .ld 92 (.t 3) none, none, 0⟩,
 ⟨none, .un 93 .not (.t 92), none, 0⟩,
 ⟨none, .mv 94 (.t 93), none, 0⟩,
 ⟨some (94, false), .mv 95 (.t 9), none, 95⟩,
 ⟨some (94, false), .bin 96 .lss (.t 95) (.i 0), none, 96⟩,
 ⟨none, .pick 97 (.t 94) (.b true) (.t 96), none, 0⟩,
 ⟨none, .mv 98 (.t 97), none, 0⟩,
 ⟨some (98, false), .mv 99 (.t 9), none, 99⟩,
 ⟨some (98, false), .bin 100 .gtr (.t 99) (.i 16), none, 100⟩,
 ⟨none, .pick 101 (.t 98) (.b true) (.t 100), none, 0⟩]
def c119r17 : List SI := [
 ⟨none, .bld 102 [(.int .i64 0), (.int .i64 0), (.int .i64 0), (.int .i64 0), (.int .i64 0), (.int .i64 0), (.int .i64 0), (.bool false), (.int .i64 0), (.slice none 0 0)] [], none, 0⟩,
 ⟨none, .stR 2 0 10 (.t 102), none, 0⟩,
 ⟨none, .st (.t 3) 1 (.b false), none, 0⟩]
def c119r18 : List SI := [
 ⟨none, .mv 10 (.i 0), none, 0⟩]
def c119r19 : List SI := [
 ⟨none, .mv 103 (.t 9), none, 0⟩,
 ⟨none, .bin 104 .gtr (.t 103) (.i 0), none, 0⟩]
def c119r20 : List SI := [
 ⟨none, .mv 105 (.t 5), none, 0⟩,
 ⟨none, .cav 106 (.t 105) [], none, 0⟩,
 ⟨none, .mv 10 (.t 106), none, 0⟩]
def c119r21 : List SI := [
 ⟨none, .mv 11 (.i 0), none, 0⟩]
def c119r22 : List SI := [
 ⟨none, .mv 107 (.t 11), none, 0⟩,
 ⟨none, .mv 108 (.t 9), none, 0⟩,
 ⟨none, .bin 109 .lss (.t 107) (.t 108), none, 0⟩,
 ⟨none, .mv 110 (.t 109), none, 0⟩,
 ⟨some (110, true), .ld 111 (.t 3) none, none, 111⟩,
 ⟨none, .pick 112 (.t 110) (.t 111) (.b false), none, 0⟩]
def c119r23 : List SI := [
 ⟨none, .ld 116 (.t 1) none, none, 0⟩,
 ⟨none, .ld 117 (.t 4) none, none, 0⟩,
 ⟨none, .nop, (some 2), 0⟩,
 ⟨none, .ldR 119 2 0 none, none, 0⟩,
 ⟨none, .mv 120 (.t 10), none, 0⟩,
 ⟨none, .call 121 131 [(.t 116), (.t 117), (.t 119), (.t 120)], none, 0⟩,
 ⟨none, .mv 115 (.t 121), none, 0⟩,
 ⟨none, .ext 122 (.t 115) 0, none, 0⟩,
 ⟨none, .ext 123 (.t 115) 1, none, 0⟩,
 ⟨none, .ext 124 (.t 115) 2, none, 0⟩,
 ⟨none, .alR 12 [(.int .i64 0), (.string ⟨#[]⟩), (.string ⟨#[]⟩), (.bool false), (.int .i64 0)], none, 0⟩,
 ⟨none, .stR 12 0 5 (.t 122), none, 0⟩,
 ⟨none, .mv 13 (.t 123), none, 0⟩,
 ⟨none, .mv 14 (.t 124), none, 0⟩]
def c119r24 : List SI := [
 ⟨none, .ld 125 (.t 3) none, none, 0⟩,
 ⟨none, .mv 126 (.t 125), none, 0⟩,
 ⟨some (126, true), .mv 127 (.t 14), none, 127⟩,
 ⟨some (126, true), .bin 128 .eql (.t 127) (.i 0), none, 128⟩,
 ⟨none, .pick 129 (.t 126) (.t 128) (.b false), none, 0⟩,
 ⟨none, .mv 130 (.t 129), none, 0⟩,
 ⟨some (130, true), .mv 131 (.t 11), none, 131⟩,
 ⟨some (130, true), .bin 132 .gtr (.t 131) (.i 0), none, 132⟩,
 ⟨some (130, true), .mv 133 (.t 132), none, 133⟩,
 ⟨some (133, false), .nop, (some 12), 99999⟩,
 ⟨some (133, false), .ldR 135 12 4 none, none, 135⟩,
 ⟨some (133, false), .mv 136 (.t 10), none, 136⟩,
 ⟨some (133, false), .bin 137 .eql (.t 135) (.t 136), none, 137⟩,
 ⟨some (130, true), .pick 138 (.t 133) (.b true) (.t 137), none, 138⟩,
 ⟨none, .pick 139 (.t 130) (.t 138) (.b false), none, 0⟩,
 ⟨none, .st (.t 3) 1 (.t 139), none, 0⟩]
def c119r25 : List SI := [
 ⟨none, .mv 140 (.t 13), none, 0⟩,
 ⟨none, .st (.t 4) 1 (.t 140), none, 0⟩]
def c119r26 : List SI := [
 ⟨none, .nop, (some 2), 0⟩,
 ⟨none, .ldR 142 2 9 none, none, 0⟩,
 ⟨none, .ldR 143 12 0 (some 5), none, 0⟩,
 ⟨none, .bls 144 65 1 5 [(.int .i64 0), (.string ⟨#[]⟩), (.string ⟨#[]⟩), (.bool false), (.int .i64 0)] [(0, 5, (.t 143))], none, 0⟩,
 ⟨none, .app 145 (.t 142) (.t 144) 65 5 56, none, 0⟩,
 ⟨none, .nop, (some 2), 0⟩,
 ⟨none, .stR 2 9 1 (.t 145), none, 0⟩]
def c119r27 : List SI := [
 ⟨none, .mv 113 (.t 11), none, 0⟩,
 ⟨none, .bin 114 .add (.t 113) (.i 1), none, 0⟩,
 ⟨none, .mv 11 (.t 114), none, 0⟩]
def c119r28 : List WI := [
 (true, false, ⟨none, .ldR 147 2 0 (some 10), none, 0⟩),
 (true, false, ⟨none, .ld 148 (.t 3) none, none, 0⟩),
 (true, false, ⟨none, .mv 149 (.t 148), none, 0⟩),
 (true, false, ⟨some (149, true), .ld 150 (.t 4) none, none, 150⟩),
 (true, false, ⟨some (149, true), .ld 151 (.t 1) none, none, 151⟩),
 (true, false, ⟨some (149, true), .len 152 false (.t 151), none, 152⟩),
 (true, false, ⟨some (149, true), .bin 153 .eql (.t 150) (.t 152), none, 153⟩),
 (true, false, ⟨none, .pick 154 (.t 149) (.t 153) (.b false), none, 0⟩),
 (false, false, ⟨none, .stR 2 0 10 (.t 147), none, 0⟩),
 (false, true, ⟨none, .st (.t 3) 1 (.t 154), none, 0⟩)]
def c119 : SC :=
 (.seq (.reg false c119r0)
 (.seq (.reg false c119r1)
 (.seq (.reg false c119r2)
 (.seq (.reg false c119r3)
 (.seq (.reg false c119r4)
 (.seq (.seq (.reg false c119r5)
 (.blk 0 (.loop (.seq (.reg false c119r6)
   (.seq (.cond (.t 17)
    .skip
    (.exit 0))
   (.seq (.blk 1 (.seq (.reg false c119r7)
    (.reg false c119r8)))
   (.reg false c119r9)))))))
 (.seq (.seq (.reg false c119r10)
 (.cond (.t 58)
  (.seq (.reg false c119r11)
  .ret)
  .skip))
 (.seq (.reg false c119r12)
 (.seq (.reg false c119r13)
 (.seq (.reg false c119r14)
 (.seq (.reg false c119r15)
 (.seq (.seq (.reg false c119r16)
 (.cond (.t 101)
  (.seq (.reg false c119r17)
  .ret)
  .skip))
 (.seq (.reg false c119r18)
 (.seq (.seq (.reg false c119r19)
 (.cond (.t 104)
  (.reg false c119r20)
  .skip))
 (.seq (.seq (.reg false c119r21)
 (.blk 2 (.loop (.seq (.seq (.reg false c119r22)
   (.cond (.t 112)
    .skip
    (.exit 2)))
   (.seq (.blk 3 (.seq (.reg false c119r23)
    (.seq (.reg false c119r24)
    (.seq (.reg false c119r25)
    (.reg false c119r26)))))
   (.reg false c119r27))))))
 (.seq (.rgW c119r28)
 .ret))))))))))))))))
def v119 : List Nat × List Nat := ([2, 12], [2, 12, 118, 134, 141, 146])
def o119 : List RS := [.r 2 (some 10), .c 3 none]
def c120r0 : List SI := [
 ⟨none, .mv 4 (.i 0), none, 0⟩,
 ⟨none, .mv 5 (.i 0), none, 0⟩,
 ⟨none, .mv 6 (.i 0), none, 0⟩]
def c120r1 : List SI := [
 ⟨none, .mv 12 (.t 1), none, 0⟩,
 ⟨none, .bin 13 .lss (.t 12) (.i 0), none, 0⟩]
def c120r2 : List SI := [
 ⟨none, .mv 4 (.i 0), none, 0⟩,
 ⟨none, .mv 5 (.i 0), none, 0⟩,
 ⟨none, .mv 6 (.i 1), none, 0⟩]
def c120r3 : List SI := [
 ⟨none, .mv 7 (.v (.int .u64 0)), none, 0⟩]
def c120r4 : List SI := [
 ⟨none, .mv 8 (.v (.int .u64 1)), none, 0⟩]
def c120r5 : List SI := [
 ⟨none, .mv 9 (.i 0), none, 0⟩]
def c120r6 : List SI := [
 ⟨none, .mv 16 (.t 1), none, 0⟩,
 ⟨none, .mv 17 (.t 0), none, 0⟩,
 ⟨none, .len 18 false (.t 17), none, 0⟩,
 ⟨none, .bin 19 .geq (.t 16) (.t 18), none, 0⟩,
 ⟨none, .mv 20 (.t 19), none, 0⟩,
 ⟨some (20, false), .mv 21 (.t 9), none, 21⟩,
 ⟨some (20, false), .mv 22 (.t 0), none, 22⟩,
 ⟨some (20, false), .len 23 false (.t 22), none, 23⟩,
 ⟨some (20, false), .mv 24 (.t 1), none, 24⟩,
 ⟨some (20, false), .bin 25 .sub (.t 23) (.t 24), none, 25⟩,
 ⟨some (20, false), .bin 26 .geq (.t 21) (.t 25), none, 26⟩,
 ⟨none, .pick 27 (.t 20) (.b true) (.t 26), none, 0⟩]
def c120r7 : List SI := [
 ⟨none, .mv 4 (.i 0), none, 0⟩,
 ⟨none, .mv 5 (.i 0), none, 0⟩,
 ⟨none, .mv 6 (.i 10), none, 0⟩]
def c120r8 : List SI := [
 ⟨none, .mv 28 (.t 0), none, 0⟩,
 ⟨none, .mv 29 (.t 1), none, 0⟩,
 ⟨none, .mv 30 (.t 9), none, 0⟩,
 ⟨none, .bin 31 .add (.t 29) (.t 30), none, 0⟩,
 ⟨none, .ixA 32 (.t 28) (.t 31) 1, none, 0⟩,
 ⟨none, .ld 33 (.t 32) none, none, 0⟩,
 ⟨none, .mv 10 (.t 33), none, 0⟩]
def c120r9 : List SI := [
 ⟨none, .mv 34 (.t 9), none, 0⟩,
 ⟨none, .bin 35 .eql (.t 34) (.i 9), none, 0⟩,
 ⟨none, .mv 36 (.t 35), none, 0⟩,
 ⟨some (36, true), .mv 37 (.t 10), none, 37⟩,
 ⟨some (36, true), .bin 38 .gtr (.t 37) (.v (.int .u8 1)), none, 38⟩,
 ⟨none, .pick 39 (.t 36) (.t 38) (.b false), none, 0⟩,
 ⟨none, .mv 40 (.t 39), none, 0⟩,
 ⟨some (40, false), .mv 41 (.t 9), none, 41⟩,
 ⟨some (40, false), .bin 42 .gtr (.t 41) (.i 0), none, 42⟩,
 ⟨some (40, false), .mv 43 (.t 42), none, 43⟩,
 ⟨some (43, true), .mv 44 (.t 10), none, 44⟩,
 ⟨some (43, true), .bin 45 .eql (.t 44) (.v (.int .u8 0)), none, 45⟩,
 ⟨some (40, false), .pick 46 (.t 43) (.t 45) (.b false), none, 46⟩,
 ⟨none, .pick 47 (.t 40) (.b true) (.t 46), none, 0⟩]
def c120r10 : List SI := [
 ⟨none, .mv 4 (.i 0), none, 0⟩,
 ⟨none, .mv 5 (.i 0), none, 0⟩,
 ⟨none, .mv 6 (.i 11), none, 0⟩]
def c120r11 : List SI := [
 ⟨none, .mv 48 (.t 7), none, 0⟩,
 ⟨none, .mv 49 (.t 8), none, 0⟩,
 ⟨none, .mv 50 (.t 10), none, 0⟩,
 ⟨none, .bin 51 .rem (.t 50) (.v (.int .u8 128)), none, 0⟩,
 ⟨none, .cvI 52 .u64 (.t 51), none, 0⟩,
 ⟨none, .bin 53 .mul (.t 49) (.t 52), none, 0⟩,
 ⟨none, .bin 54 .add (.t 48) (.t 53), none, 0⟩,
 ⟨none, .mv 7 (.t 54), none, 0⟩]
def c120r12 : List SI := [
 ⟨none, .mv 55 (.t 8), none, 0⟩,
 ⟨none, .bin 56 .mul (.t 55) (.v (.int .u64 128)), none, 0⟩,
 ⟨none, .mv 8 (.t 56), none, 0⟩]
def c120r13 : List SI := [
 ⟨none, .mv 57 (.t 10), none, 0⟩,
 ⟨none, .bin 58 .lss (.t 57) (.v (.int .u8 128)), none, 0⟩]
def c120r14 : List SI := [
 ⟨none, .mv 59 (.t 7), none, 0⟩,
 ⟨none, .bin 60 .quo (.t 59) (.v (.int .u64 2)), none, 0⟩,
 ⟨none, .cvI 61 .i64 (.t 60), none, 0⟩,
 ⟨none, .mv 11 (.t 61), none, 0⟩]
def c120r15 : List SI := [
 ⟨none, .mv 62 (.t 7), none, 0⟩,
 ⟨none, .bin 63 .rem (.t 62) (.v (.int .u64 2)), none, 0⟩,
 ⟨none, .bin 64 .eql (.t 63) (.v (.int .u64 1)), none, 0⟩]
def c120r16 : List SI := [
 ⟨none, .mv 65 (.t 11), none, 0⟩,
 ⟨none, .un 66 .neg (.t 65), none, 0⟩,
 ⟨none, .bin 67 .sub (.t 66) (.i 1), none, 0⟩,
 ⟨none, .mv 11 (.t 67), none, 0⟩]
def c120r17 : List SI := [
 ⟨none, .mv 68 (.t 11), none, 0⟩,
 ⟨none, .mv 69 (.t 1), none, 0⟩,
 ⟨none, .mv 70 (.t 9), none, 0⟩,
 ⟨none, .bin 71 .add (.t 69) (.t 70), none, 0⟩,
 ⟨none, .bin 72 .add (.t 71) (.i 1), none, 0⟩,
 ⟨none, .mv 4 (.t 68), none, 0⟩,
 ⟨none, .mv 5 (.t 72), none, 0⟩,
 ⟨none, .mv 6 (.i 0), none, 0⟩]
def c120r18 : List SI := [
 ⟨none, .mv 14 (.t 9), none, 0⟩,
 ⟨none, .bin 15 .add (.t 14) (.i 1), none, 0⟩,
 ⟨none, .mv 9 (.t 15), none, 0⟩]
def c120 : SC :=
 (.seq (.reg false c120r0)
 (.seq (.seq (.reg false c120r1)
 (.cond (.t 13)
  (.seq (.reg false c120r2)
  .ret)
  .skip))
 (.seq (.reg false c120r3)
 (.seq (.reg false c120r4)
 (.seq (.reg false c120r5)
 (.blk 0 (.loop (.seq (.blk 1 (.seq (.seq (.reg false c120r6)
    (.cond (.t 27)
     (.seq (.reg false c120r7)
     .ret)
     .skip))
    (.seq (.reg false c120r8)
    (.seq (.seq (.reg false c120r9)
    (.cond (.t 47)
     (.seq (.reg false c120r10)
     .ret)
     .skip))
    (.seq (.reg false c120r11)
    (.seq (.reg false c120r12)
    (.seq (.reg false c120r13)
    (.cond (.t 58)
     (.seq (.reg false c120r14)
     (.seq (.seq (.reg false c120r15)
     (.cond (.t 64)
      (.reg false c120r16)
      .skip))
     (.seq (.reg false c120r17)
     .ret)))
     .skip))))))))
   (.reg false c120r18)))))))))
def v120 : List Nat × List Nat := ([], [])
def o120 : List RS := [.t 4, .t 5, .t 6]
def c121r0 : List SI := [
 ⟨none, .alR 8 [(.int .i64 0), (.string ⟨#[]⟩), (.string ⟨#[]⟩), (.bool false), (.int .i64 0)], none, 0⟩,
 ⟨none, .mv 9 (.i 0), none, 0⟩,
 ⟨none, .mv 10 (.i 0), none, 0⟩]
def c121r1 : List SI := [
 ⟨none, .bld 25 [(.int .i64 0), (.string ⟨#[]⟩), (.string ⟨#[]⟩), (.bool false), (.int .i64 0)] [], none, 0⟩,
 ⟨none, .alR 11 [(.int .i64 0), (.string ⟨#[]⟩), (.string ⟨#[]⟩), (.bool false), (.int .i64 0)], none, 0⟩,
 ⟨none, .stR 11 0 5 (.t 25), none, 0⟩]
def c121r2 : List SI := [
 ⟨none, .mv 26 (.t 2), none, 0⟩,
 ⟨none, .call 27 113 [(.t 26)], none, 0⟩,
 ⟨none, .un 28 .not (.t 27), none, 0⟩,
 ⟨none, .mv 29 (.t 28), none, 0⟩,
 ⟨some (29, false), .mv 30 (.t 3), none, 30⟩,
 ⟨some (29, false), .call 31 113 [(.t 30)], none, 31⟩,
 ⟨some (29, false), .un 32 .not (.t 31), none, 32⟩,
 ⟨none, .pick 33 (.t 29) (.b true) (.t 32), none, 0⟩,
 ⟨none, .mv 34 (.t 33), none, 0⟩,
 ⟨some (34, false), .mv 35 (.t 1), none, 35⟩,
 ⟨some (34, false), .bin 36 .lss (.t 35) (.i 0), none, 36⟩,
 ⟨none, .pick 37 (.t 34) (.b true) (.t 36), none, 0⟩,
 ⟨none, .mv 38 (.t 37), none, 0⟩,
 ⟨some (38, false), .mv 39 (.t 1), none, 39⟩,
 ⟨some (38, false), .mv 40 (.t 0), none, 40⟩,
 ⟨some (38, false), .len 41 false (.t 40), none, 41⟩,
 ⟨some (38, false), .bin 42 .gtr (.t 39) (.t 41), none, 42⟩,
 ⟨none, .pick 43 (.t 38) (.b true) (.t 42), none, 0⟩]
def c121r3 : List SI := [
 ⟨none, .ldR 44 11 0 (some 5), none, 0⟩,
 ⟨none, .stR 8 0 5 (.t 44), none, 0⟩,
 ⟨none, .mv 9 (.i 0), none, 0⟩,
 ⟨none, .mv 10 (.i 1), none, 0⟩]
def c121r4 : List SI := [
 ⟨none, .mv 46 (.t 0), none, 0⟩,
 ⟨none, .mv 47 (.t 1), none, 0⟩,
 ⟨none, .call 48 120 [(.t 46), (.t 47)], none, 0⟩,
 ⟨none, .mv 45 (.t 48), none, 0⟩,
 ⟨none, .ext 49 (.t 45) 0, none, 0⟩,
 ⟨none, .ext 50 (.t 45) 1, none, 0⟩,
 ⟨none, .ext 51 (.t 45) 2, none, 0⟩,
 ⟨none, .mv 12 (.t 49), none, 0⟩,
 ⟨none, .mv 13 (.t 50), none, 0⟩,
 ⟨none, .mv 14 (.t 51), none, 0⟩]
def c121r5 : List SI := [
 ⟨none, .mv 52 (.t 14), none, 0⟩,
 ⟨none, .bin 53 .neq (.t 52) (.i 0), none, 0⟩]
def c121r6 : List SI := [
 ⟨none, .ldR 54 11 0 (some 5), none, 0⟩,
 ⟨none, .mv 55 (.t 14), none, 0⟩,
 ⟨none, .stR 8 0 5 (.t 54), none, 0⟩,
 ⟨none, .mv 9 (.i 0), none, 0⟩,
 ⟨none, .mv 10 (.t 55), none, 0⟩]
def c121r7 : List SI := [
 ⟨none, .mv 57 (.t 0), none, 0⟩,
 ⟨none, .mv 58 (.t 13), none, 0⟩,
 ⟨none, .call 59 120 [(.t 57), (.t 58)], none, 0⟩,
 ⟨none, .mv 56 (.t 59), none, 0⟩,
 ⟨none, .ext 60 (.t 56) 0, none, 0⟩,
 ⟨none, .ext 61 (.t 56) 1, none, 0⟩,
 ⟨none, .ext 62 (.t 56) 2, none, 0⟩,
 ⟨none, .mv 15 (.t 60), none, 0⟩,
 ⟨none, .mv 16 (.t 61), none, 0⟩,
 ⟨none, .mv 17 (.t 62), none, 0⟩]
def c121r8 : List SI := [
 ⟨none, .mv 63 (.t 17), none, 0⟩,
 ⟨none, .bin 64 .neq (.t 63) (.i 0), none, 0⟩]
def c121r9 : List SI := [
 ⟨none, .ldR 65 11 0 (some 5), none, 0⟩,
 ⟨none, .mv 66 (.t 17), none, 0⟩,
 ⟨none, .stR 8 0 5 (.t 65), none, 0⟩,
 ⟨none, .mv 9 (.i 0), none, 0⟩,
 ⟨none, .mv 10 (.t 66), none, 0⟩]
def c121r10 : List SI := [
 ⟨none, .mv 67 (.t 16), none, 0⟩,
 ⟨none, .mv 68 (.t 0), none, 0⟩,
 ⟨none, .len 69 false (.t 68), none, 0⟩,
 ⟨none, .bin 70 .geq (.t 67) (.t 69), none, 0⟩]
def c121r11 : List SI := [
 ⟨none, .ldR 71 11 0 (some 5), none, 0⟩,
 ⟨none, .stR 8 0 5 (.t 71), none, 0⟩,
 ⟨none, .mv 9 (.i 0), none, 0⟩,
 ⟨none, .mv 10 (.i 10), none, 0⟩]
def c121r12 : List SI := [
 ⟨none, .mv 72 (.t 0), none, 0⟩,
 ⟨none, .mv 73 (.t 16), none, 0⟩,
 ⟨none, .ixA 74 (.t 72) (.t 73) 1, none, 0⟩,
 ⟨none, .ld 75 (.t 74) none, none, 0⟩,
 ⟨none, .bin 76 .gtr (.t 75) (.v (.int .u8 1)), none, 0⟩]
def c121r13 : List SI := [
 ⟨none, .ldR 77 11 0 (some 5), none, 0⟩,
 ⟨none, .stR 8 0 5 (.t 77), none, 0⟩,
 ⟨none, .mv 9 (.i 0), none, 0⟩,
 ⟨none, .mv 10 (.i 11), none, 0⟩]
def c121r14 : List SI := [
 ⟨none, .mv 79 (.t 0), none, 0⟩,
 ⟨none, .mv 80 (.t 16), none, 0⟩,
 ⟨none, .bin 81 .add (.t 80) (.i 1), none, 0⟩,
 ⟨none, .call 82 132 [(.t 79), (.t 81), (.i 64)], none, 0⟩,
 ⟨none, .mv 78 (.t 82), none, 0⟩,
 ⟨none, .ext 83 (.t 78) 0, none, 0⟩,
 ⟨none, .ext 84 (.t 78) 1, none, 0⟩,
 ⟨none, .ext 85 (.t 78) 2, none, 0⟩,
 ⟨none, .mv 18 (.t 83), none, 0⟩,
 ⟨none, .mv 19 (.t 84), none, 0⟩,
 ⟨none, .mv 20 (.t 85), none, 0⟩]
def c121r15 : List SI := [
 ⟨none, .mv 86 (.t 20), none, 0⟩,
 ⟨none, .bin 87 .neq (.t 86) (.i 0), none, 0⟩]
def c121r16 : List SI := [
 ⟨none, .ldR 88 11 0 (some 5), none, 0⟩,
 ⟨none, .mv 89 (.t 20), none, 0⟩,
 ⟨none, .stR 8 0 5 (.t 88), none, 0⟩,
 ⟨none, .mv 9 (.i 0), none, 0⟩,
 ⟨none, .mv 10 (.t 89), none, 0⟩]
def c121r17 : List SI := [
 ⟨none, .mv 91 (.t 0), none, 0⟩,
 ⟨none, .mv 92 (.t 19), none, 0⟩,
 ⟨none, .call 93 132 [(.t 91), (.t 92), (.i 64)], none, 0⟩,
 ⟨none, .mv 90 (.t 93), none, 0⟩,
 ⟨none, .ext 94 (.t 90) 0, none, 0⟩,
 ⟨none, .ext 95 (.t 90) 1, none, 0⟩,
 ⟨none, .ext 96 (.t 90) 2, none, 0⟩,
 ⟨none, .mv 21 (.t 94), none, 0⟩,
 ⟨none, .mv 22 (.t 95), none, 0⟩,
 ⟨none, .mv 23 (.t 96), none, 0⟩]
def c121r18 : List SI := [
 ⟨none, .mv 97 (.t 23), none, 0⟩,
 ⟨none, .bin 98 .neq (.t 97) (.i 0), none, 0⟩]
def c121r19 : List SI := [
 ⟨none, .ldR 99 11 0 (some 5), none, 0⟩,
 ⟨none, .mv 100 (.t 23), none, 0⟩,
 ⟨none, .stR 8 0 5 (.t 99), none, 0⟩,
 ⟨none, .mv 9 (.i 0), none, 0⟩,
 ⟨none, .mv 10 (.t 100), none, 0⟩]
def c121r20 : RX := .br [(true, N_ (.mv 101 (.t 2))),
 (true, N_ (.mv 102 (.t 12))),
 (true, N_ (.mv 104 (.t 18))),
 (true, N_ (.mv 105 (.t 21))),
 (true, N_ (.mv 106 (.t 0))),
 (true, N_ (.mv 107 (.t 16))),
 (true, N_ (.ixA 108 (.t 106) (.t 107) 1)),
 (true, N_ (.ld 109 (.t 108) none)),
 (true, N_ (.bin 110 .eql (.t 109) (.v (.int .u8 1)))),
 (true, N_ (.mv 111 (.t 3))),
 (true, N_ (.mv 112 (.t 15)))]
 ⟨none, .call 103 133 [(.t 101), (.t 102)], none, 0⟩
 (.br []
 ⟨none, .call 113 133 [(.t 111), (.t 112)], none, 0⟩
 (.leaf [(true, ⟨none, .bld 114 [(.int .i64 0), (.string ⟨#[]⟩), (.string ⟨#[]⟩), (.bool false), (.int .i64 0)] [(0, 1, (.t 103)), (1, 1, (.t 104)), (2, 1, (.t 105)), (3, 1, (.t 110)), (4, 1, (.t 113))], none, 0⟩),
 (false, ⟨none, .al 24 [(.int .i64 0), (.string ⟨#[]⟩), (.string ⟨#[]⟩), (.bool false), (.int .i64 0)], none, 0⟩),
 (false, N_ (.st (.t 24) 5 (.t 114)))])
 ⟨none, .al 24 [(.int .i64 0), (.string ⟨#[]⟩), (.string ⟨#[]⟩), (.bool false), (.int .i64 0)], none, 0⟩
 (.leaf [(false, N_ (.call 113 133 [(.t 111), (.t 112)])),
 (true, ⟨none, .bld 114 [(.int .i64 0), (.string ⟨#[]⟩), (.string ⟨#[]⟩), (.bool false), (.int .i64 0)] [(0, 1, (.t 103)), (1, 1, (.t 104)), (2, 1, (.t 105)), (3, 1, (.t 110)), (4, 1, (.t 113))], none, 0⟩),
 (false, N_ (.st (.t 24) 5 (.t 114)))]))
 ⟨none, .al 24 [(.int .i64 0), (.string ⟨#[]⟩), (.string ⟨#[]⟩), (.bool false), (.int .i64 0)], none, 0⟩
 (.leaf [(false, N_ (.call 103 133 [(.t 101), (.t 102)])),
 (false, N_ (.call 113 133 [(.t 111), (.t 112)])),
 (true, ⟨none, .bld 114 [(.int .i64 0), (.string ⟨#[]⟩), (.string ⟨#[]⟩), (.bool false), (.int .i64 0)] [(0, 1, (.t 103)), (1, 1, (.t 104)), (2, 1, (.t 105)), (3, 1, (.t 110)), (4, 1, (.t 113))], none, 0⟩),
 (false, N_ (.st (.t 24) 5 (.t 114)))])
def c121r21 : List SI := [
 ⟨none, .ld 115 (.t 24) (some 5), none, 0⟩,
 ⟨none, .call 116 96 [(.t 115)], none, 0⟩,
 ⟨none, .bin 117 .neq (.t 116) (.i 0), none, 0⟩]
def c121r22 : List SI := [
 ⟨none, .ldR 118 11 0 (some 5), none, 0⟩,
 ⟨none, .stR 8 0 5 (.t 118), none, 0⟩,
 ⟨none, .mv 9 (.i 0), none, 0⟩,
 ⟨none, .mv 10 (.i 1), none, 0⟩]
def c121r23 : List SI := [
 ⟨none, .ld 119 (.t 24) (some 5), none, 0⟩,
 ⟨none, .mv 120 (.t 22), none, 0⟩,
 ⟨none, .stR 8 0 5 (.t 119), none, 0⟩,
 ⟨none, .mv 9 (.t 120), none, 0⟩,
 ⟨none, .mv 10 (.i 0), none, 0⟩]
def c121 : SC :=
 (.seq (.reg false c121r0)
 (.seq (.reg false c121r1)
 (.seq (.seq (.reg false c121r2)
 (.cond (.t 43)
  (.seq (.reg false c121r3)
  .ret)
  .skip))
 (.seq (.reg false c121r4)
 (.seq (.seq (.reg false c121r5)
 (.cond (.t 53)
  (.seq (.reg false c121r6)
  .ret)
  .skip))
 (.seq (.reg false c121r7)
 (.seq (.seq (.reg false c121r8)
 (.cond (.t 64)
  (.seq (.reg false c121r9)
  .ret)
  .skip))
 (.seq (.seq (.reg false c121r10)
 (.cond (.t 70)
  (.seq (.reg false c121r11)
  .ret)
  .skip))
 (.seq (.seq (.reg false c121r12)
 (.cond (.t 76)
  (.seq (.reg false c121r13)
  .ret)
  .skip))
 (.seq (.reg false c121r14)
 (.seq (.seq (.reg false c121r15)
 (.cond (.t 87)
  (.seq (.reg false c121r16)
  .ret)
  .skip))
 (.seq (.reg false c121r17)
 (.seq (.seq (.reg false c121r18)
 (.cond (.t 98)
  (.seq (.reg false c121r19)
  .ret)
  .skip))
 (.seq (.rgZ c121r20)
 (.seq (.seq (.reg false c121r21)
 (.cond (.t 117)
  (.seq (.reg false c121r22)
  .ret)
  .skip))
 (.seq (.reg false c121r23)
 .ret))))))))))))))))
def v121 : List Nat × List Nat := ([8, 11], [8, 11])
def o121 : List RS := [.r 8 (some 5), .t 9, .t 10]
def c122r0 : List SI := [
 ⟨none, .mv 2 (.i 0), none, 0⟩]
def c122r1 : List SI := [
 ⟨none, .mv 5 (.t 0), none, 0⟩,
 ⟨none, .len 6 false (.t 5), none, 0⟩,
 ⟨none, .bin 7 .lss (.t 6) (.i 1), none, 0⟩]
def c122r2 : List SI := [
 ⟨none, .mv 9 (.t 0), none, 0⟩,
 ⟨none, .ixA 10 (.t 9) (.i 0) 1, none, 0⟩,
 ⟨none, .ld 11 (.t 10) none, none, 0⟩,
 ⟨none, .mv 3 (.t 11), none, 0⟩]
def c122r3 : List SI := [
 ⟨none, .mv 4 (.i 1), none, 0⟩]
def c122r4 : List SI := [
 ⟨none, .mv 12 (.t 4), none, 0⟩,
 ⟨none, .mv 13 (.t 0), none, 0⟩,
 ⟨none, .len 14 false (.t 13), none, 0⟩,
 ⟨none, .bin 15 .lss (.t 12) (.t 14), none, 0⟩]
def c122r5 : List SI := [
 ⟨none, .mv 18 (.t 3), none, 0⟩,
 ⟨none, .mv 19 (.t 0), none, 0⟩,
 ⟨none, .mv 20 (.t 4), none, 0⟩,
 ⟨none, .ixA 21 (.t 19) (.t 20) 1, none, 0⟩,
 ⟨none, .ld 22 (.t 21) none, none, 0⟩,
 ⟨none, .mm 23 false (.t 18) (.t 22), none, 0⟩,
 ⟨none, .mv 3 (.t 23), none, 0⟩]
def c122r6 : List SI := [
 ⟨none, .mv 16 (.t 4), none, 0⟩,
 ⟨none, .bin 17 .add (.t 16) (.i 1), none, 0⟩,
 ⟨none, .mv 4 (.t 17), none, 0⟩]
def c122r7 : List SI := [
 ⟨none, .mv 24 (.t 3), none, 0⟩,
 ⟨none, .mv 2 (.t 24), none, 0⟩]
def c122 : SC :=
 (.seq (.reg false c122r0)
 (.seq (.seq (.reg false c122r1)
 (.cond (.t 7)
  .dead
  .skip))
 (.seq (.reg false c122r2)
 (.seq (.seq (.reg false c122r3)
 (.blk 0 (.loop (.seq (.seq (.reg false c122r4)
   (.cond (.t 15)
    .skip
    (.exit 0)))
   (.seq (.blk 1 (.reg false c122r5))
   (.reg false c122r6))))))
 (.seq (.reg false c122r7)
 .ret)))))
def v122 : List Nat × List Nat := ([], [])
def o122 : List RS := [.t 2]
theorem s122 : slimC Tryz.prog Tryz.f122.ntmps v122.1 v122.2 ((Tryz.f122.body).getD .skip) = some c122 := by kernel_rfl
theorem q122 : slimR Tryz.prog Tryz.f122.ntmps v122.1 v122.2 Tryz.f122.results.toList = some o122 := by kernel_rfl
def c123r0 : List SI := [
 ⟨none, .mv 2 (.i 0), none, 0⟩]
def c123r1 : List SI := [
 ⟨none, .mv 5 (.t 0), none, 0⟩,
 ⟨none, .len 6 false (.t 5), none, 0⟩,
 ⟨none, .bin 7 .lss (.t 6) (.i 1), none, 0⟩]
def c123r2 : List SI := [
 ⟨none, .mv 9 (.t 0), none, 0⟩,
 ⟨none, .ixA 10 (.t 9) (.i 0) 1, none, 0⟩,
 ⟨none, .ld 11 (.t 10) none, none, 0⟩,
 ⟨none, .mv 3 (.t 11), none, 0⟩]
def c123r3 : List SI := [
 ⟨none, .mv 4 (.i 1), none, 0⟩]
def c123r4 : List SI := [
 ⟨none, .mv 12 (.t 4), none, 0⟩,
 ⟨none, .mv 13 (.t 0), none, 0⟩,
 ⟨none, .len 14 false (.t 13), none, 0⟩,
 ⟨none, .bin 15 .lss (.t 12) (.t 14), none, 0⟩]
def c123r5 : List SI := [
 ⟨none, .mv 18 (.t 3), none, 0⟩,
 ⟨none, .mv 19 (.t 0), none, 0⟩,
 ⟨none, .mv 20 (.t 4), none, 0⟩,
 ⟨none, .ixA 21 (.t 19) (.t 20) 1, none, 0⟩,
 ⟨none, .ld 22 (.t 21) none, none, 0⟩,
 ⟨none, .mm 23 true (.t 18) (.t 22), none, 0⟩,
 ⟨none, .mv 3 (.t 23), none, 0⟩]
def c123r6 : List SI := [
 ⟨none, .mv 16 (.t 4), none, 0⟩,
 ⟨none, .bin 17 .add (.t 16) (.i 1), none, 0⟩,
 ⟨none, .mv 4 (.t 17), none, 0⟩]
def c123r7 : List SI := [
 ⟨none, .mv 24 (.t 3), none, 0⟩,
 ⟨none, .mv 2 (.t 24), none, 0⟩]
def c123 : SC :=
 (.seq (.reg false c123r0)
 (.seq (.seq (.reg false c123r1)
 (.cond (.t 7)
  .dead
  .skip))
 (.seq (.reg false c123r2)
 (.seq (.seq (.reg false c123r3)
 (.blk 0 (.loop (.seq (.seq (.reg false c123r4)
   (.cond (.t 15)
    .skip
    (.exit 0)))
   (.seq (.blk 1 (.reg false c123r5))
   (.reg false c123r6))))))
 (.seq (.reg false c123r7)
 .ret)))))
def v123 : List Nat × List Nat := ([], [])
def o123 : List RS := [.t 2]
theorem s123 : slimC Tryz.prog Tryz.f123.ntmps v123.1 v123.2 ((Tryz.f123.body).getD .skip) = some c123 := by kernel_rfl
theorem q123 : slimR Tryz.prog Tryz.f123.ntmps v123.1 v123.2 Tryz.f123.results.toList = some o123 := by kernel_rfl
def c124r0 : List SI := [
 ⟨none, .mv 2 (.b false), none, 0⟩]
def c124r1 : List SI := [
 ⟨none, .mv 3 (.t 0), none, 0⟩,
 ⟨none, .bin 4 .geq (.t 3) (.i 0), none, 0⟩,
 ⟨none, .mv 5 (.t 4), none, 0⟩,
 ⟨some (5, true), .mv 6 (.t 0), none, 6⟩,
 ⟨some (5, true), .bin 7 .leq (.t 6) (.i 1099511627776), none, 7⟩,
 ⟨none, .pick 8 (.t 5) (.t 7) (.b false), none, 0⟩,
 ⟨none, .mv 2 (.t 8), none, 0⟩]
def c124 : SC :=
 (.seq (.reg false c124r0)
 (.seq (.reg false c124r1)
 .ret))
def v124 : List Nat × List Nat := ([], [])
def o124 : List RS := [.t 2]
theorem s124 : slimC Tryz.prog Tryz.f124.ntmps v124.1 v124.2 ((Tryz.f124.body).getD .skip) = some c124 := by kernel_rfl
theorem q124 : slimR Tryz.prog Tryz.f124.ntmps v124.1 v124.2 Tryz.f124.results.toList = some o124 := by kernel_rfl
def c125r0 : List SI := [
 ⟨none, .mv 4 (.v (.slice none 0 0)), none, 0⟩]
def c125r1 : List SI := [
 ⟨none, .mv 5 (.t 0), none, 0⟩,
 ⟨none, .mv 6 (.t 1), none, 0⟩,
 ⟨none, .len 7 true (.t 6), none, 0⟩,
 ⟨none, .call 8 109 [(.t 5), (.t 7)], none, 0⟩,
 ⟨none, .mv 9 (.t 1), none, 0⟩,
 ⟨none, .app 10 (.t 8) (.t 9) 5 1 1, none, 0⟩,
 ⟨none, .mv 4 (.t 10), none, 0⟩]
def c125 : SC :=
 (.seq (.reg false c125r0)
 (.seq (.reg false c125r1)
 .ret))
def v125 : List Nat × List Nat := ([], [])
def o125 : List RS := [.t 4]
theorem s125 : slimC Tryz.prog Tryz.f125.ntmps v125.1 v125.2 ((Tryz.f125.body).getD .skip) = some c125 := by kernel_rfl
theorem q125 : slimR Tryz.prog Tryz.f125.ntmps v125.1 v125.2 Tryz.f125.results.toList = some o125 := by kernel_rfl
def c126r0 : List SI := [
 ⟨none, .mv 2 (.v (.int .u32 0)), none, 0⟩]
def c126r1 : List SI := [
 ⟨none, .call 7 134 [], none, 0⟩,
 ⟨none, .mv 3 (.t 7), none, 0⟩]
def c126r2 : List SI := [
 ⟨none, .mv 4 (.v (.int .u32 4294967295)), none, 0⟩]
def c126r3 : List SI := [
 ⟨none, .mv 8 (.t 0), none, 0⟩,
 ⟨none, .len 9 false (.t 8), none, 0⟩,
 ⟨none, .mv 10 (.i 0), none, 0⟩]
def c126r4 : List SI := [
 ⟨none, .bin 11 .lss (.t 10) (.t 9), none, 0⟩]
def c126r5 : List SI := [
 ⟨none, .ixA 12 (.t 8) (.t 10) 1, none, 0⟩,
 ⟨none, .ld 13 (.t 12) none, none, 0⟩,
 ⟨none, .mv 6 (.t 13), none, 0⟩]
def c126r6 : List SI := [
 ⟨none, .mv 14 (.t 3), none, 0⟩,
 ⟨none, .mv 15 (.t 4), none, 0⟩,
 ⟨none, .mv 16 (.t 6), none, 0⟩,
 ⟨none, .cav 17 (.t 14) [(.t 15), (.t 16)], none, 0⟩,
 ⟨none, .mv 4 (.t 17), none, 0⟩]
def c126r7 : List SI := [
 ⟨none, .bin 18 .add (.t 10) (.i 1), none, 0⟩,
 ⟨none, .mv 10 (.t 18), none, 0⟩]
def c126r8 : List SI := [
 ⟨none, .mv 19 (.t 4), none, 0⟩,
 ⟨none, .un 20 .xor (.t 19), none, 0⟩,
 ⟨none, .mv 2 (.t 20), none, 0⟩]
def c126 : SC :=
 (.seq (.reg false c126r0)
 (.seq (.reg false c126r1)
 (.seq (.reg false c126r2)
 (.seq (.seq (.reg false c126r3)
 (.blk 0 (.loop (.seq (.reg false c126r4)
   (.seq (.cond (.t 11)
    .skip
    (.exit 0))
   (.seq (.blk 1 (.seq (.reg false c126r5)
    (.reg false c126r6)))
   (.reg false c126r7)))))))
 (.seq (.reg false c126r8)
 .ret)))))
def v126 : List Nat × List Nat := ([], [])
def o126 : List RS := [.t 2]
theorem s126 : slimC Tryz.prog Tryz.f126.ntmps v126.1 v126.2 ((Tryz.f126.body).getD .skip) = some c126 := by kernel_rfl
theorem q126 : slimR Tryz.prog Tryz.f126.ntmps v126.1 v126.2 Tryz.f126.results.toList = some o126 := by kernel_rfl
def c127r0 : List SI := [
 ⟨none, .mv 4 (.v (.int .u32 0)), none, 0⟩]
def c127r1 : List SI := [
 ⟨none, .mv 5 (.i 0), none, 0⟩]
def c127r2 : List SI := [
 ⟨none, .mv 6 (.t 5), none, 0⟩,
 ⟨none, .mv 7 (.t 1), none, 0⟩,
 ⟨none, .bin 8 .lss (.t 6) (.t 7), none, 0⟩]
def c127r3 : List SI := [
 ⟨none, .mv 11 (.t 0), none, 0⟩,
 ⟨none, .call 12 135 [(.t 11)], none, 0⟩,
 ⟨none, .mv 0 (.t 12), none, 0⟩]
def c127r4 : List SI := [
 ⟨none, .mv 9 (.t 5), none, 0⟩,
 ⟨none, .bin 10 .add (.t 9) (.i 1), none, 0⟩,
 ⟨none, .mv 5 (.t 10), none, 0⟩]
def c127r5 : List SI := [
 ⟨none, .mv 13 (.t 0), none, 0⟩,
 ⟨none, .mv 4 (.t 13), none, 0⟩]
def c127 : SC :=
 (.seq (.reg false c127r0)
 (.seq (.seq (.reg false c127r1)
 (.blk 0 (.loop (.seq (.seq (.reg false c127r2)
   (.cond (.t 8)
    .skip
    (.exit 0)))
   (.seq (.blk 1 (.reg false c127r3))
   (.reg false c127r4))))))
 (.seq (.reg false c127r5)
 .ret)))
def v127 : List Nat × List Nat := ([], [])
def o127 : List RS := [.t 4]
theorem s127 : slimC Tryz.prog Tryz.f127.ntmps v127.1 v127.2 ((Tryz.f127.body).getD .skip) = some c127 := by kernel_rfl
theorem q127 : slimR Tryz.prog Tryz.f127.ntmps v127.1 v127.2 Tryz.f127.results.toList = some o127 := by kernel_rfl
def c128r0 : List SI := [
 ⟨none, .mv 4 (.v (.slice none 0 0)), none, 0⟩]
def c128r1 : List SI := [
 ⟨none, .mv 5 (.t 0), none, 0⟩,
 ⟨none, .mv 6 (.t 1), none, 0⟩,
 ⟨none, .mv 7 (.t 0), none, 0⟩,
 ⟨none, .len 8 false (.t 7), none, 0⟩,
 ⟨none, .mm 9 false (.t 6) (.t 8), none, 0⟩,
 ⟨none, .sl 10 (.t 5) (some (.t 9)) none none 1, none, 0⟩,
 ⟨none, .mv 4 (.t 10), none, 0⟩]
def c128 : SC :=
 (.seq (.reg false c128r0)
 (.seq (.reg false c128r1)
 .ret))
def v128 : List Nat × List Nat := ([], [])
def o128 : List RS := [.t 4]
def c129r0 : List SI := [
 ⟨none, .mv 3 (.i 0), none, 0⟩]
def c129r1 : List SI := [
 ⟨none, .ld 8 (.t 0) none, none, 0⟩,
 ⟨none, .ld 9 (.t 1) none, none, 0⟩,
 ⟨none, .call 10 130 [(.t 8), (.t 9)], none, 0⟩,
 ⟨none, .mv 7 (.t 10), none, 0⟩,
 ⟨none, .ext 11 (.t 7) 0, none, 0⟩,
 ⟨none, .ext 12 (.t 7) 1, none, 0⟩,
 ⟨none, .ext 13 (.t 7) 2, none, 0⟩,
 ⟨none, .mv 4 (.t 11), none, 0⟩,
 ⟨none, .mv 5 (.t 12), none, 0⟩,
 ⟨none, .mv 6 (.t 13), none, 0⟩]
def c129r2 : List SI := [
 ⟨none, .mv 14 (.t 6), none, 0⟩,
 ⟨none, .bin 15 .neq (.t 14) (.i 0), none, 0⟩]
def c129r3 : List SI := [
 ⟨none, .st (.t 2) 1 (.b false), none, 0⟩]
def c129r4 : List SI := [
 ⟨none, .mv 3 (.i 0), none, 0⟩]
def c129r5 : List SI := [
 ⟨none, .mv 16 (.t 5), none, 0⟩,
 ⟨none, .st (.t 1) 1 (.t 16), none, 0⟩]
def c129r6 : List SI := [
 ⟨none, .mv 17 (.t 4), none, 0⟩,
 ⟨none, .mv 3 (.t 17), none, 0⟩]
def c129 : SC :=
 (.seq (.reg false c129r0)
 (.seq (.reg false c129r1)
 (.seq (.seq (.reg false c129r2)
 (.cond (.t 15)
  (.seq (.reg false c129r3)
  (.seq (.reg false c129r4)
  .ret))
  .skip))
 (.seq (.reg false c129r5)
 (.seq (.reg false c129r6)
 .ret)))))
def v129 : List Nat × List Nat := ([], [])
def o129 : List RS := [.t 3]
def c130r0 : List SI := [
 ⟨none, .mv 4 (.i 0), none, 0⟩,
 ⟨none, .mv 5 (.i 0), none, 0⟩,
 ⟨none, .mv 6 (.i 0), none, 0⟩]
def c130r1 : List SI := [
 ⟨none, .mv 10 (.t 1), none, 0⟩,
 ⟨none, .bin 11 .lss (.t 10) (.i 0), none, 0⟩]
def c130r2 : List SI := [
 ⟨none, .mv 4 (.i 0), none, 0⟩,
 ⟨none, .mv 5 (.i 0), none, 0⟩,
 ⟨none, .mv 6 (.i 1), none, 0⟩]
def c130r3 : List SI := [
 ⟨none, .mv 7 (.v (.int .u64 0)), none, 0⟩]
def c130r4 : List SI := [
 ⟨none, .mv 12 (.t 0), none, 0⟩,
 ⟨none, .mv 13 (.t 1), none, 0⟩,
 ⟨none, .call 14 128 [(.t 12), (.t 13)], none, 0⟩,
 ⟨none, .len 15 false (.t 14), none, 0⟩,
 ⟨none, .mv 16 (.i 0), none, 0⟩]
def c130r5 : List SI := [
 ⟨none, .bin 17 .lss (.t 16) (.t 15), none, 0⟩]
def c130r6 : List SI := [
 ⟨none, .mv 18 (.t 16), none, 0⟩,
 ⟨none, .ixA 19 (.t 14) (.t 16) 1, none, 0⟩,
 ⟨none, .ld 20 (.t 19) none, none, 0⟩,
 ⟨none, .mv 8 (.t 18), none, 0⟩,
 ⟨none, .mv 9 (.t 20), none, 0⟩]
def c130r7 : List SI := [
 ⟨none, .mv 21 (.t 8), none, 0⟩,
 ⟨none, .bin 22 .eql (.t 21) (.i 9), none, 0⟩,
 ⟨none, .mv 23 (.t 22), none, 0⟩,
 ⟨some (23, true), .mv 24 (.t 9), none, 24⟩,
 ⟨some (23, true), .bin 25 .gtr (.t 24) (.v (.int .u8 1)), none, 25⟩,
 ⟨none, .pick 26 (.t 23) (.t 25) (.b false), none, 0⟩,
 ⟨none, .mv 27 (.t 26), none, 0⟩,
 ⟨some (27, false), .mv 28 (.t 8), none, 28⟩,
 ⟨some (27, false), .bin 29 .gtr (.t 28) (.i 0), none, 29⟩,
 ⟨some (27, false), .mv 30 (.t 29), none, 30⟩,
 ⟨some (30, true), .mv 31 (.t 9), none, 31⟩,
 ⟨some (30, true), .bin 32 .eql (.t 31) (.v (.int .u8 0)), none, 32⟩,
 ⟨some (27, false), .pick 33 (.t 30) (.t 32) (.b false), none, 33⟩,
 ⟨none, .pick 34 (.t 27) (.b true) (.t 33), none, 0⟩]
def c130r8 : List SI := [
 ⟨none, .mv 4 (.i 0), none, 0⟩,
 ⟨none, .mv 5 (.i 0), none, 0⟩,
 ⟨none, .mv 6 (.i 11), none, 0⟩]
def c130r9 : List SI := [
 ⟨none, .mv 35 (.t 7), none, 0⟩,
 ⟨none, .mv 36 (.t 9), none, 0⟩,
 ⟨none, .bin 37 .and (.t 36) (.v (.int .u8 127)), none, 0⟩,
 ⟨none, .cvI 38 .u64 (.t 37), none, 0⟩,
 ⟨none, .mv 39 (.t 8), none, 0⟩,
 ⟨none, .bin 40 .mul (.i 7) (.t 39), none, 0⟩,
 ⟨none, .bin 41 .shl (.t 38) (.t 40), none, 0⟩,
 ⟨none, .bin 42 .or (.t 35) (.t 41), none, 0⟩,
 ⟨none, .mv 7 (.t 42), none, 0⟩]
def c130r10 : List SI := [
 ⟨none, .mv 43 (.t 9), none, 0⟩,
 ⟨none, .bin 44 .lss (.t 43) (.v (.int .u8 128)), none, 0⟩]
def c130r11 : List SI := [
 ⟨none, .mv 45 (.t 7), none, 0⟩,
 ⟨none, .bin 46 .shr (.t 45) (.v (.int .u64 1)), none, 0⟩,
 ⟨none, .cvI 47 .i64 (.t 46), none, 0⟩,
 ⟨none, .mv 48 (.t 7), none, 0⟩,
 ⟨none, .bin 49 .and (.t 48) (.v (.int .u64 1)), none, 0⟩,
 ⟨none, .cvI 50 .i64 (.t 49), none, 0⟩,
 ⟨none, .un 51 .neg (.t 50), none, 0⟩,
 ⟨none, .bin 52 .xor (.t 47) (.t 51), none, 0⟩,
 ⟨none, .mv 53 (.t 1), none, 0⟩,
 ⟨none, .mv 54 (.t 8), none, 0⟩,
 ⟨none, .bin 55 .add (.t 53) (.t 54), none, 0⟩,
 ⟨none, .bin 56 .add (.t 55) (.i 1), none, 0⟩,
 ⟨none, .mv 4 (.t 52), none, 0⟩,
 ⟨none, .mv 5 (.t 56), none, 0⟩,
 ⟨none, .mv 6 (.i 0), none, 0⟩]
def c130r12 : List SI := [
 ⟨none, .bin 57 .add (.t 16) (.i 1), none, 0⟩,
 ⟨none, .mv 16 (.t 57), none, 0⟩]
def c130r13 : List SI := [
 ⟨none, .mv 4 (.i 0), none, 0⟩,
 ⟨none, .mv 5 (.i 0), none, 0⟩,
 ⟨none, .mv 6 (.i 10), none, 0⟩]
def c130 : SC :=
 (.seq (.reg false c130r0)
 (.seq (.seq (.reg false c130r1)
 (.cond (.t 11)
  (.seq (.reg false c130r2)
  .ret)
  .skip))
 (.seq (.reg false c130r3)
 (.seq (.seq (.reg false c130r4)
 (.blk 0 (.loop (.seq (.reg false c130r5)
   (.seq (.cond (.t 17)
    .skip
    (.exit 0))
   (.seq (.blk 1 (.seq (.reg false c130r6)
    (.seq (.seq (.reg false c130r7)
    (.cond (.t 34)
     (.seq (.reg false c130r8)
     .ret)
     .skip))
    (.seq (.reg false c130r9)
    (.seq (.reg false c130r10)
    (.cond (.t 44)
     (.seq (.reg false c130r11)
     .ret)
     .skip))))))
   (.reg false c130r12)))))))
 (.seq (.reg false c130r13)
 .ret)))))
def v130 : List Nat × List Nat := ([], [])
def o130 : List RS := [.t 4, .t 5, .t 6]
def c131r0 : List SI := [
 ⟨none, .alR 8 [(.int .i64 0), (.string ⟨#[]⟩), (.string ⟨#[]⟩), (.bool false), (.int .i64 0)], none, 0⟩,
 ⟨none, .mv 9 (.i 0), none, 0⟩,
 ⟨none, .mv 10 (.i 0), none, 0⟩]
def c131r1 : List SI := [
 ⟨none, .mv 13 (.t 2), none, 0⟩,
 ⟨none, .call 14 124 [(.t 13)], none, 0⟩,
 ⟨none, .un 15 .not (.t 14), none, 0⟩,
 ⟨none, .mv 16 (.t 15), none, 0⟩,
 ⟨some (16, false), .mv 17 (.t 3), none, 17⟩,
 ⟨some (16, false), .call 18 124 [(.t 17)], none, 18⟩,
 ⟨some (16, false), .un 19 .not (.t 18), none, 19⟩,
 ⟨none, .pick 20 (.t 16) (.b true) (.t 19), none, 0⟩,
 ⟨none, .mv 21 (.t 20), none, 0⟩,
 ⟨some (21, false), .mv 22 (.t 1), none, 22⟩,
 ⟨some (21, false), .bin 23 .lss (.t 22) (.i 0), none, 23⟩,
 ⟨none, .pick 24 (.t 21) (.b true) (.t 23), none, 0⟩,
 ⟨none, .mv 25 (.t 24), none, 0⟩,
 ⟨some (25, false), .mv 26 (.t 1), none, 26⟩,
 ⟨some (25, false), .mv 27 (.t 0), none, 27⟩,
 ⟨some (25, false), .len 28 false (.t 27), none, 28⟩,
 ⟨some (25, false), .bin 29 .gtr (.t 26) (.t 28), none, 29⟩,
 ⟨none, .pick 30 (.t 25) (.b true) (.t 29), none, 0⟩]
def c131r2 : List SI := [
 ⟨none, .bld 31 [(.int .i64 0), (.string ⟨#[]⟩), (.string ⟨#[]⟩), (.bool false), (.int .i64 0)] [], none, 0⟩,
 ⟨none, .stR 8 0 5 (.t 31), none, 0⟩,
 ⟨none, .mv 9 (.i 0), none, 0⟩,
 ⟨none, .mv 10 (.i 1), none, 0⟩]
def c131r3 : List SI := [
 ⟨none, .mv 32 (.t 0), none, 0⟩,
 ⟨none, .mv 33 (.t 1), none, 0⟩,
 ⟨none, .bld 34 [(.slice none 0 0), (.int .i64 0), (.int .i64 0)] [(0, 1, (.t 32)), (1, 1, (.t 33))], none, 0⟩,
 ⟨none, .bx 35 (.t 34), none, 0⟩,
 ⟨none, .mv 11 (.t 35), none, 0⟩]
def c131r4 : List SI := [
 ⟨none, .mv 12 (.v (.func (.func 136) #[] #[])), none, 0⟩]
def c131r5 : List SI := [
 ⟨none, .mv 36 (.t 2), none, 0⟩,
 ⟨none, .mv 37 (.t 11), none, 0⟩,
 ⟨none, .call 38 139 [(.t 37), (.v (.func (.func 130) #[] #[]))], none, 0⟩,
 ⟨none, .call 39 138 [(.t 36), (.t 38)], none, 0⟩,
 ⟨none, .nop, (some 8), 0⟩,
 ⟨none, .stR 8 0 1 (.t 39), none, 0⟩]
def c131r6 : List SI := [
 ⟨none, .mv 41 (.t 3), none, 0⟩,
 ⟨none, .mv 42 (.t 11), none, 0⟩,
 ⟨none, .call 43 139 [(.t 42), (.v (.func (.func 130) #[] #[]))], none, 0⟩,
 ⟨none, .call 44 138 [(.t 41), (.t 43)], none, 0⟩,
 ⟨none, .nop, (some 8), 0⟩,
 ⟨none, .stR 8 4 1 (.t 44), none, 0⟩]
def c131r7 : List SI := [
 ⟨none, .mv 46 (.t 11), none, 0⟩,
 ⟨none, .call 47 140 [(.t 46), (.v (.func (.func 141) #[] #[]))], none, 0⟩,
 ⟨none, .nop, (some 8), 0⟩,
 ⟨none, .stR 8 3 1 (.t 47), none, 0⟩]
def c131r8 : List SI := [
 ⟨none, .mv 49 (.t 11), none, 0⟩,
 ⟨none, .mv 50 (.t 12), none, 0⟩,
 ⟨none, .call 51 142 [(.t 49), (.t 50)], none, 0⟩,
 ⟨none, .mv 52 (.t 11), none, 0⟩,
 ⟨none, .mv 53 (.t 12), none, 0⟩,
 ⟨none, .call 54 142 [(.t 52), (.t 53)], none, 0⟩,
 ⟨none, .nop, (some 8), 0⟩,
 ⟨none, .stR 8 1 1 (.t 51), none, 0⟩,
 ⟨none, .nop, (some 8), 0⟩,
 ⟨none, .stR 8 2 1 (.t 54), none, 0⟩]
def c131r9 : List SI := [
 ⟨none, .mv 57 (.t 11), none, 0⟩,
 ⟨none, .nck 58 (.t 57), none, 0⟩,
 ⟨none, .flA 59 (.t 58) 2, none, 0⟩,
 ⟨none, .ld 60 (.t 59) none, none, 0⟩,
 ⟨none, .bin 61 .eql (.t 60) (.i 0), none, 0⟩]
def c131r10 : List SI := [
 ⟨none, .mv 62 (.t 11), none, 0⟩,
 ⟨none, .ldR 63 8 0 (some 5), none, 0⟩,
 ⟨none, .call 64 108 [(.t 63)], none, 0⟩,
 ⟨none, .nck 65 (.t 62), none, 0⟩,
 ⟨none, .flA 66 (.t 65) 2, none, 0⟩,
 ⟨none, .st (.t 66) 1 (.t 64), none, 0⟩]
def c131r11 : List SI := [
 ⟨none, .mv 67 (.t 11), none, 0⟩,
 ⟨none, .nck 68 (.t 67), none, 0⟩,
 ⟨none, .flA 69 (.t 68) 2, none, 0⟩,
 ⟨none, .ld 70 (.t 69) none, none, 0⟩,
 ⟨none, .bin 71 .neq (.t 70) (.i 0), none, 0⟩]
def c131r12 : List WI := [
 (true, false, ⟨none, .bld 72 [(.int .i64 0), (.string ⟨#[]⟩), (.string ⟨#[]⟩), (.bool false), (.int .i64 0)] [], none, 0⟩),
 (true, false, ⟨none, .mv 73 (.t 11), none, 0⟩),
 (true, false, ⟨none, .nck 74 (.t 73), none, 0⟩),
 (true, false, ⟨none, .flA 75 (.t 74) 2, none, 0⟩),
 (true, false, ⟨none, .ld 76 (.t 75) none, none, 0⟩),
 (false, false, ⟨none, .stR 8 0 5 (.t 72), none, 0⟩),
 (true, false, ⟨none, .mv 9 (.i 0), none, 0⟩),
 (true, false, ⟨none, .mv 10 (.t 76), none, 0⟩)]
def c131r13 : List WI := [
 (true, false, ⟨none, .ldR 77 8 0 (some 5), none, 0⟩),
 (true, false, ⟨none, .mv 78 (.t 11), none, 0⟩),
 (true, false, ⟨none, .nck 79 (.t 78), none, 0⟩),
 (true, false, ⟨none, .flA 80 (.t 79) 1, none, 0⟩),
 (true, false, ⟨none, .ld 81 (.t 80) none, none, 0⟩),
 (false, false, ⟨none, .stR 8 0 5 (.t 77), none, 0⟩),
 (true, false, ⟨none, .mv 9 (.t 81), none, 0⟩),
 (true, false, ⟨none, .mv 10 (.i 0), none, 0⟩)]
def c131 : SC :=
 (.seq (.reg false c131r0)
 (.seq (.seq (.reg false c131r1)
 (.cond (.t 30)
  (.seq (.reg false c131r2)
  .ret)
  .skip))
 (.seq (.reg false c131r3)
 (.seq (.reg false c131r4)
 (.seq (.reg false c131r5)
 (.seq (.reg false c131r6)
 (.seq (.reg false c131r7)
 (.seq (.reg false c131r8)
 (.seq (.seq (.reg false c131r9)
 (.cond (.t 61)
  (.reg false c131r10)
  .skip))
 (.seq (.seq (.reg false c131r11)
 (.cond (.t 71)
  (.seq (.rgW c131r12)
  .ret)
  .skip))
 (.seq (.rgW c131r13)
 .ret)))))))))))
def v131 : List Nat × List Nat := ([8], [8, 40, 45, 48, 55, 56])
def o131 : List RS := [.r 8 (some 5), .t 9, .t 10]
def c132r0 : List SI := [
 ⟨none, .mv 6 (.v (.string ⟨#[]⟩)), none, 0⟩,
 ⟨none, .mv 7 (.i 0), none, 0⟩,
 ⟨none, .mv 8 (.i 0), none, 0⟩]
def c132r1 : List SI := [
 ⟨none, .mv 13 (.t 0), none, 0⟩,
 ⟨none, .mv 14 (.t 1), none, 0⟩,
 ⟨none, .call 15 120 [(.t 13), (.t 14)], none, 0⟩,
 ⟨none, .mv 12 (.t 15), none, 0⟩,
 ⟨none, .ext 16 (.t 12) 0, none, 0⟩,
 ⟨none, .ext 17 (.t 12) 1, none, 0⟩,
 ⟨none, .ext 18 (.t 12) 2, none, 0⟩,
 ⟨none, .mv 9 (.t 16), none, 0⟩,
 ⟨none, .mv 10 (.t 17), none, 0⟩,
 ⟨none, .mv 11 (.t 18), none, 0⟩]
def c132r2 : List SI := [
 ⟨none, .mv 19 (.t 11), none, 0⟩,
 ⟨none, .bin 20 .neq (.t 19) (.i 0), none, 0⟩]
def c132r3 : List SI := [
 ⟨none, .mv 21 (.t 11), none, 0⟩,
 ⟨none, .mv 6 (.v (.string ⟨#[]⟩)), none, 0⟩,
 ⟨none, .mv 7 (.i 0), none, 0⟩,
 ⟨none, .mv 8 (.t 21), none, 0⟩]
def c132r4 : List SI := [
 ⟨none, .mv 22 (.t 9), none, 0⟩,
 ⟨none, .bin 23 .lss (.t 22) (.i 0), none, 0⟩]
def c132r5 : List SI := [
 ⟨none, .mv 6 (.v (.string ⟨#[]⟩)), none, 0⟩,
 ⟨none, .mv 7 (.i 0), none, 0⟩,
 ⟨none, .mv 8 (.i 11), none, 0⟩]
def c132r6 : List SI := [
 ⟨none, .mv 24 (.t 9), none, 0⟩,
 ⟨none, .mv 25 (.t 2), none, 0⟩,
 ⟨none, .bin 26 .gtr (.t 24) (.t 25), none, 0⟩]
def c132r7 : List SI := [
 ⟨none, .mv 6 (.v (.string ⟨#[]⟩)), none, 0⟩,
 ⟨none, .mv 7 (.i 0), none, 0⟩,
 ⟨none, .mv 8 (.i 2), none, 0⟩]
def c132r8 : List SI := [
 ⟨none, .mv 27 (.t 0), none, 0⟩,
 ⟨none, .len 28 false (.t 27), none, 0⟩,
 ⟨none, .mv 29 (.t 10), none, 0⟩,
 ⟨none, .bin 30 .sub (.t 28) (.t 29), none, 0⟩,
 ⟨none, .mv 31 (.t 9), none, 0⟩,
 ⟨none, .bin 32 .lss (.t 30) (.t 31), none, 0⟩]
def c132r9 : List SI := [
 ⟨none, .mv 6 (.v (.string ⟨#[]⟩)), none, 0⟩,
 ⟨none, .mv 7 (.i 0), none, 0⟩,
 ⟨none, .mv 8 (.i 10), none, 0⟩]
def c132r10 : List SI := [
 ⟨none, .mv 33 (.t 0), none, 0⟩,
 ⟨none, .mv 34 (.t 10), none, 0⟩,
 ⟨none, .mv 35 (.t 10), none, 0⟩,
 ⟨none, .mv 36 (.t 9), none, 0⟩,
 ⟨none, .bin 37 .add (.t 35) (.t 36), none, 0⟩,
 ⟨none, .sl 38 (.t 33) (some (.t 34)) (some (.t 37)) none 1, none, 0⟩,
 ⟨none, .cvS 39 (.t 38), none, 0⟩,
 ⟨none, .mv 40 (.t 10), none, 0⟩,
 ⟨none, .mv 41 (.t 9), none, 0⟩,
 ⟨none, .bin 42 .add (.t 40) (.t 41), none, 0⟩,
 ⟨none, .mv 6 (.t 39), none, 0⟩,
 ⟨none, .mv 7 (.t 42), none, 0⟩,
 ⟨none, .mv 8 (.i 0), none, 0⟩]
def c132 : SC :=
 (.seq (.reg false c132r0)
 (.seq (.reg false c132r1)
 (.seq (.seq (.reg false c132r2)
 (.cond (.t 20)
  (.seq (.reg false c132r3)
  .ret)
  .skip))
 (.seq (.seq (.reg false c132r4)
 (.cond (.t 23)
  (.seq (.reg false c132r5)
  .ret)
  .skip))
 (.seq (.seq (.reg false c132r6)
 (.cond (.t 26)
  (.seq (.reg false c132r7)
  .ret)
  .skip))
 (.seq (.seq (.reg false c132r8)
 (.cond (.t 32)
  (.seq (.reg false c132r9)
  .ret)
  .skip))
 (.seq (.reg false c132r10)
 .ret)))))))
def v132 : List Nat × List Nat := ([], [])
def o132 : List RS := [.t 6, .t 7, .t 8]
def c133r0 : List SI := [
 ⟨none, .mv 4 (.i 0), none, 0⟩]
def c133r1 : List SI := [
 ⟨none, .mv 5 (.t 1), none, 0⟩,
 ⟨none, .bin 6 .lss (.t 5) (.i (-1099511627776)), none, 0⟩,
 ⟨none, .mv 7 (.t 6), none, 0⟩,
 ⟨some (7, false), .mv 8 (.t 1), none, 8⟩,
 ⟨some (7, false), .bin 9 .gtr (.t 8) (.i 1099511627776), none, 9⟩,
 ⟨none, .pick 10 (.t 7) (.b true) (.t 9), none, 0⟩,
 ⟨none, .mv 11 (.t 10), none, 0⟩,
 ⟨some (11, false), .mv 12 (.t 0), none, 12⟩,
 ⟨some (11, false), .mv 13 (.t 1), none, 13⟩,
 ⟨some (11, false), .bin 14 .add (.t 12) (.t 13), none, 14⟩,
 ⟨some (11, false), .call 15 113 [(.t 14)], none, 15⟩,
 ⟨some (11, false), .un 16 .not (.t 15), none, 16⟩,
 ⟨none, .pick 17 (.t 11) (.b true) (.t 16), none, 0⟩]
def c133r2 : List SI := [
 ⟨none, .mv 4 (.i (-1)), none, 0⟩]
def c133r3 : List SI := [
 ⟨none, .mv 18 (.t 0), none, 0⟩,
 ⟨none, .mv 19 (.t 1), none, 0⟩,
 ⟨none, .bin 20 .add (.t 18) (.t 19), none, 0⟩,
 ⟨none, .mv 4 (.t 20), none, 0⟩]
def c133 : SC :=
 (.seq (.reg false c133r0)
 (.seq (.seq (.reg false c133r1)
 (.cond (.t 17)
  (.seq (.reg false c133r2)
  .ret)
  .skip))
 (.seq (.reg false c133r3)
 .ret)))
def v133 : List Nat × List Nat := ([], [])
def o133 : List RS := [.t 4]
def c134r0 : List SI := [
 ⟨none, .mv 0 (.v .nilFunc), none, 0⟩]
def c134r1 : List SI := [
 ⟨none, .al 1 [(.int .u32 0), (.int .u32 0), (.int .u32 0), (.int .u32 0), (.int .u32 0), (.int .u32 0), (.int .u32 0), (.int .u32 0), (.int .u32 0), (.int .u32 0), (.int .u32 0), (.int .u32 0), (.int .u32 0), (.int .u32 0), (.int .u32 0), (.int .u32 0)], none, 0⟩]
def c134r2 : List SI := [
 ⟨none, .mv 3 (.i 0), none, 0⟩]
def c134r3 : List SI := [
 ⟨none, .bin 4 .lss (.t 3) (.i 16), none, 0⟩]
def c134r4 : List SI := [
 ⟨none, .mv 5 (.t 3), none, 0⟩,
 ⟨none, .mv 2 (.t 5), none, 0⟩]
def c134r5 : List SI := [
 ⟨none, .mv 6 (.t 2), none, 0⟩,
 ⟨none, .mv 7 (.t 2), none, 0⟩,
 ⟨none, .cvI 8 .u32 (.t 7), none, 0⟩,
 ⟨none, .call 9 143 [(.t 8)], none, 0⟩,
 ⟨none, .ixP 10 (.t 1) (.t 6) 16 1, none, 0⟩,
 ⟨none, .st (.t 10) 1 (.t 9), none, 0⟩]
def c134r6 : List SI := [
 ⟨none, .bin 11 .add (.t 3) (.i 1), none, 0⟩,
 ⟨none, .mv 3 (.t 11), none, 0⟩]
def c134r7 : List SI := [
 ⟨none, .mkf 12 (.func 144) [(.t 1)], none, 0⟩,
 ⟨none, .mv 0 (.t 12), none, 0⟩]
def c134 : SC :=
 (.seq (.reg false c134r0)
 (.seq (.reg false c134r1)
 (.seq (.seq (.reg false c134r2)
 (.blk 0 (.loop (.seq (.reg false c134r3)
   (.seq (.cond (.t 4)
    .skip
    (.exit 0))
   (.seq (.blk 1 (.seq (.reg false c134r4)
    (.reg false c134r5)))
   (.reg false c134r6)))))))
 (.seq (.reg false c134r7)
 .ret))))
def v134 : List Nat × List Nat := ([], [])
def o134 : List RS := [.t 0]
theorem s134 : slimC Tryz.prog Tryz.f134.ntmps v134.1 v134.2 ((Tryz.f134.body).getD .skip) = some c134 := by kernel_rfl
theorem q134 : slimR Tryz.prog Tryz.f134.ntmps v134.1 v134.2 Tryz.f134.results.toList = some o134 := by kernel_rfl
def c135r0 : List SI := [
 ⟨none, .mv 2 (.v (.int .u32 0)), none, 0⟩]
def c135r1 : List SI := [
 ⟨none, .mv 3 (.t 0), none, 0⟩,
 ⟨none, .bin 4 .rem (.t 3) (.v (.int .u32 2)), none, 0⟩,
 ⟨none, .bin 5 .eql (.t 4) (.v (.int .u32 1)), none, 0⟩]
def c135r2 : List SI := [
 ⟨none, .mv 6 (.t 0), none, 0⟩,
 ⟨none, .bin 7 .quo (.t 6) (.v (.int .u32 2)), none, 0⟩,
 ⟨none, .bin 8 .xor (.t 7) (.v (.int .u32 3988292384)), none, 0⟩,
 ⟨none, .mv 2 (.t 8), none, 0⟩]
def c135r3 : List SI := [
 ⟨none, .mv 9 (.t 0), none, 0⟩,
 ⟨none, .bin 10 .quo (.t 9) (.v (.int .u32 2)), none, 0⟩,
 ⟨none, .mv 2 (.t 10), none, 0⟩]
def c135 : SC :=
 (.seq (.reg false c135r0)
 (.seq (.seq (.reg false c135r1)
 (.cond (.t 5)
  (.seq (.reg false c135r2)
  .ret)
  .skip))
 (.seq (.reg false c135r3)
 .ret)))
def v135 : List Nat × List Nat := ([], [])
def o135 : List RS := [.t 2]
theorem s135 : slimC Tryz.prog Tryz.f135.ntmps v135.1 v135.2 ((Tryz.f135.body).getD .skip) = some c135 := by kernel_rfl
theorem q135 : slimR Tryz.prog Tryz.f135.ntmps v135.1 v135.2 Tryz.f135.results.toList = some o135 := by kernel_rfl
def c136r0 : List SI := [
 ⟨none, .mv 4 (.v (.string ⟨#[]⟩)), none, 0⟩,
 ⟨none, .mv 5 (.i 0), none, 0⟩,
 ⟨none, .mv 6 (.i 0), none, 0⟩]
def c136r1 : List SI := [
 ⟨none, .mv 7 (.t 0), none, 0⟩,
 ⟨none, .mv 8 (.t 1), none, 0⟩,
 ⟨none, .call 9 137 [(.t 7), (.t 8), (.i 64)], none, 0⟩,
 ⟨none, .ext 10 (.t 9) 0, none, 0⟩,
 ⟨none, .ext 11 (.t 9) 1, none, 0⟩,
 ⟨none, .ext 12 (.t 9) 2, none, 0⟩,
 ⟨none, .mv 4 (.t 10), none, 0⟩,
 ⟨none, .mv 5 (.t 11), none, 0⟩,
 ⟨none, .mv 6 (.t 12), none, 0⟩]
def c136 : SC :=
 (.seq (.reg false c136r0)
 (.seq (.reg false c136r1)
 .ret))
def v136 : List Nat × List Nat := ([], [])
def o136 : List RS := [.t 4, .t 5, .t 6]
def c137r0 : List SI := [
 ⟨none, .mv 6 (.v (.string ⟨#[]⟩)), none, 0⟩,
 ⟨none, .mv 7 (.i 0), none, 0⟩,
 ⟨none, .mv 8 (.i 0), none, 0⟩]
def c137r1 : List SI := [
 ⟨none, .mv 11 (.t 0), none, 0⟩,
 ⟨none, .mv 12 (.t 1), none, 0⟩,
 ⟨none, .call 13 130 [(.t 11), (.t 12)], none, 0⟩,
 ⟨none, .mv 10 (.t 13), none, 0⟩,
 ⟨none, .ext 14 (.t 10) 0, none, 0⟩,
 ⟨none, .ext 15 (.t 10) 1, none, 0⟩,
 ⟨none, .ext 16 (.t 10) 2, none, 0⟩,
 ⟨none, .mv 9 (.t 14), none, 0⟩,
 ⟨none, .mv 7 (.t 15), none, 0⟩,
 ⟨none, .mv 8 (.t 16), none, 0⟩]
def c137r2 : List SI := [
 ⟨none, .mv 18 (.t 8), none, 0⟩,
 ⟨none, .bin 19 .neq (.t 18) (.i 0), none, 0⟩,
 ⟨none, .mv 17 (.t 19), none, 0⟩]
def c137r3 : List SI := [
 ⟨none, .mv 20 (.t 8), none, 0⟩,
 ⟨none, .mv 6 (.v (.string ⟨#[]⟩)), none, 0⟩,
 ⟨none, .mv 7 (.i 0), none, 0⟩,
 ⟨none, .mv 8 (.t 20), none, 0⟩]
def c137r4 : List SI := [
 ⟨none, .mv 22 (.t 9), none, 0⟩,
 ⟨none, .bin 23 .lss (.t 22) (.i 0), none, 0⟩,
 ⟨none, .mv 21 (.t 23), none, 0⟩]
def c137r5 : List SI := [
 ⟨none, .mv 6 (.v (.string ⟨#[]⟩)), none, 0⟩,
 ⟨none, .mv 7 (.i 0), none, 0⟩,
 ⟨none, .mv 8 (.i 11), none, 0⟩]
def c137r6 : List SI := [
 ⟨none, .mv 25 (.t 9), none, 0⟩,
 ⟨none, .mv 26 (.t 2), none, 0⟩,
 ⟨none, .bin 27 .gtr (.t 25) (.t 26), none, 0⟩,
 ⟨none, .mv 24 (.t 27), none, 0⟩]
def c137r7 : List SI := [
 ⟨none, .mv 6 (.v (.string ⟨#[]⟩)), none, 0⟩,
 ⟨none, .mv 7 (.i 0), none, 0⟩,
 ⟨none, .mv 8 (.i 2), none, 0⟩]
def c137r8 : List SI := [
 ⟨none, .mv 29 (.t 9), none, 0⟩,
 ⟨none, .mv 30 (.t 0), none, 0⟩,
 ⟨none, .len 31 false (.t 30), none, 0⟩,
 ⟨none, .mv 32 (.t 7), none, 0⟩,
 ⟨none, .bin 33 .sub (.t 31) (.t 32), none, 0⟩,
 ⟨none, .bin 34 .gtr (.t 29) (.t 33), none, 0⟩,
 ⟨none, .mv 28 (.t 34), none, 0⟩]
def c137r9 : List SI := [
 ⟨none, .mv 6 (.v (.string ⟨#[]⟩)), none, 0⟩,
 ⟨none, .mv 7 (.i 0), none, 0⟩,
 ⟨none, .mv 8 (.i 10), none, 0⟩]
def c137r10 : List SI := [
 ⟨none, .mv 35 (.t 0), none, 0⟩,
 ⟨none, .mv 36 (.t 7), none, 0⟩,
 ⟨none, .mv 37 (.t 7), none, 0⟩,
 ⟨none, .mv 38 (.t 9), none, 0⟩,
 ⟨none, .bin 39 .add (.t 37) (.t 38), none, 0⟩,
 ⟨none, .sl 40 (.t 35) (some (.t 36)) (some (.t 39)) none 1, none, 0⟩,
 ⟨none, .cvS 41 (.t 40), none, 0⟩,
 ⟨none, .mv 42 (.t 7), none, 0⟩,
 ⟨none, .mv 43 (.t 9), none, 0⟩,
 ⟨none, .bin 44 .add (.t 42) (.t 43), none, 0⟩,
 ⟨none, .mv 6 (.t 41), none, 0⟩,
 ⟨none, .mv 7 (.t 44), none, 0⟩,
 ⟨none, .mv 8 (.i 0), none, 0⟩]
def c137 : SC :=
 (.seq (.reg false c137r0)
 (.seq (.reg false c137r1)
 (.seq (.blk 0 (.seq (.reg false c137r2)
  (.cond (.t 17)
   (.seq (.reg false c137r3)
   .ret)
   (.seq (.reg false c137r4)
   (.cond (.t 21)
    (.seq (.reg false c137r5)
    .ret)
    (.seq (.reg false c137r6)
    (.cond (.t 24)
     (.seq (.reg false c137r7)
     .ret)
     (.seq (.reg false c137r8)
     (.cond (.t 28)
      (.seq (.reg false c137r9)
      .ret)
      .skip)))))))))
 (.seq (.reg false c137r10)
 .ret))))
def v137 : List Nat × List Nat := ([], [])
def o137 : List RS := [.t 6, .t 7, .t 8]
def c138r0 : List SI := [
 ⟨none, .mv 4 (.i 0), none, 0⟩]
def c138r1 : List SI := [
 ⟨none, .mv 5 (.t 1), none, 0⟩,
 ⟨none, .bin 6 .lss (.t 5) (.i (-1099511627776)), none, 0⟩,
 ⟨none, .mv 7 (.t 6), none, 0⟩,
 ⟨some (7, false), .mv 8 (.t 1), none, 8⟩,
 ⟨some (7, false), .bin 9 .gtr (.t 8) (.i 1099511627776), none, 9⟩,
 ⟨none, .pick 10 (.t 7) (.b true) (.t 9), none, 0⟩]
def c138r2 : List SI := [
 ⟨none, .mv 4 (.i (-1)), none, 0⟩]
def c138r3 : List SI := [
 ⟨none, .mv 11 (.t 0), none, 0⟩,
 ⟨none, .mv 12 (.t 1), none, 0⟩,
 ⟨none, .bin 13 .add (.t 11) (.t 12), none, 0⟩,
 ⟨none, .mv 4 (.t 13), none, 0⟩]
def c138 : SC :=
 (.seq (.reg false c138r0)
 (.seq (.seq (.reg false c138r1)
 (.cond (.t 10)
  (.seq (.reg false c138r2)
  .ret)
  .skip))
 (.seq (.reg false c138r3)
 .ret)))
def v138 : List Nat × List Nat := ([], [])
def o138 : List RS := [.t 4]
def c139r0 : List SI := [
 ⟨none, .mv 4 (.i 0), none, 0⟩]
def c139r1 : List SI := [
 ⟨none, .mv 5 (.i 0), none, 0⟩]
def c139r2 : List SI := [
 ⟨none, .mv 6 (.t 0), none, 0⟩,
 ⟨none, .nck 7 (.t 6), none, 0⟩,
 ⟨none, .flA 8 (.t 7) 2, none, 0⟩,
 ⟨none, .ld 9 (.t 8) none, none, 0⟩,
 ⟨none, .bin 10 .eql (.t 9) (.i 0), none, 0⟩]
def c139r3 : List WI := [
 (true, false, ⟨none, .mv 12 (.t 0), none, 0⟩),
 (true, false, ⟨none, .mv 13 (.t 0), none, 0⟩),
 (true, false, ⟨none, .mv 14 (.t 1), none, 0⟩),
 (true, false, ⟨none, .mv 15 (.t 0), none, 0⟩),
 (true, false, ⟨none, .nck 16 (.t 15), none, 0⟩),
 (true, false, ⟨none, .flA 17 (.t 16) 0, none, 0⟩),
 (true, false, ⟨none, .ld 18 (.t 17) none, none, 0⟩),
 (true, false, ⟨none, .mv 19 (.t 0), none, 0⟩),
 (true, false, ⟨none, .nck 20 (.t 19), none, 0⟩),
 (true, false, ⟨none, .flA 21 (.t 20) 1, none, 0⟩),
 (true, false, ⟨none, .ld 22 (.t 21) none, none, 0⟩),
 (false, true, ⟨none, .cav 23 (.t 14) [(.t 18), (.t 22)], none, 0⟩),
 (true, false, ⟨none, .mv 11 (.t 23), none, 0⟩),
 (true, false, ⟨none, .ext 24 (.t 11) 0, none, 0⟩),
 (true, false, ⟨none, .ext 25 (.t 11) 1, none, 0⟩),
 (true, false, ⟨none, .ext 26 (.t 11) 2, none, 0⟩),
 (true, false, ⟨none, .mv 5 (.t 24), none, 0⟩),
 (true, false, ⟨none, .nck 27 (.t 12), none, 0⟩),
 (true, false, ⟨none, .flA 28 (.t 27) 1, none, 0⟩),
 (false, true, ⟨none, .st (.t 28) 1 (.t 25), none, 0⟩),
 (true, false, ⟨none, .nck 29 (.t 13), none, 0⟩),
 (true, false, ⟨none, .flA 30 (.t 29) 2, none, 0⟩),
 (false, true, ⟨none, .st (.t 30) 1 (.t 26), none, 0⟩)]
def c139r4 : List SI := [
 ⟨none, .mv 31 (.t 5), none, 0⟩,
 ⟨none, .mv 4 (.t 31), none, 0⟩]
def c139 : SC :=
 (.seq (.reg false c139r0)
 (.seq (.reg false c139r1)
 (.seq (.seq (.reg false c139r2)
 (.cond (.t 10)
  (.rgW c139r3)
  .skip))
 (.seq (.reg false c139r4)
 .ret))))
def v139 : List Nat × List Nat := ([], [])
def o139 : List RS := [.t 4]
def c140r0 : List SI := [
 ⟨none, .mv 4 (.b false), none, 0⟩]
def c140r1 : List SI := [
 ⟨none, .mv 5 (.b false), none, 0⟩]
def c140r2 : List SI := [
 ⟨none, .mv 6 (.t 0), none, 0⟩,
 ⟨none, .nck 7 (.t 6), none, 0⟩,
 ⟨none, .flA 8 (.t 7) 2, none, 0⟩,
 ⟨none, .ld 9 (.t 8) none, none, 0⟩,
 ⟨none, .bin 10 .eql (.t 9) (.i 0), none, 0⟩]
def c140r3 : List WI := [
 (true, false, ⟨none, .mv 12 (.t 0), none, 0⟩),
 (true, false, ⟨none, .mv 13 (.t 0), none, 0⟩),
 (true, false, ⟨none, .mv 14 (.t 1), none, 0⟩),
 (true, false, ⟨none, .mv 15 (.t 0), none, 0⟩),
 (true, false, ⟨none, .nck 16 (.t 15), none, 0⟩),
 (true, false, ⟨none, .flA 17 (.t 16) 0, none, 0⟩),
 (true, false, ⟨none, .ld 18 (.t 17) none, none, 0⟩),
 (true, false, ⟨none, .mv 19 (.t 0), none, 0⟩),
 (true, false, ⟨none, .nck 20 (.t 19), none, 0⟩),
 (true, false, ⟨none, .flA 21 (.t 20) 1, none, 0⟩),
 (true, false, ⟨none, .ld 22 (.t 21) none, none, 0⟩),
 (false, true, ⟨none, .cav 23 (.t 14) [(.t 18), (.t 22)], none, 0⟩),
 (true, false, ⟨none, .mv 11 (.t 23), none, 0⟩),
 (true, false, ⟨none, .ext 24 (.t 11) 0, none, 0⟩),
 (true, false, ⟨none, .ext 25 (.t 11) 1, none, 0⟩),
 (true, false, ⟨none, .ext 26 (.t 11) 2, none, 0⟩),
 (true, false, ⟨none, .mv 5 (.t 24), none, 0⟩),
 (true, false, ⟨none, .nck 27 (.t 12), none, 0⟩),
 (true, false, ⟨none, .flA 28 (.t 27) 1, none, 0⟩),
 (false, true, ⟨none, .st (.t 28) 1 (.t 25), none, 0⟩),
 (true, false, ⟨none, .nck 29 (.t 13), none, 0⟩),
 (true, false, ⟨none, .flA 30 (.t 29) 2, none, 0⟩),
 (false, true, ⟨none, .st (.t 30) 1 (.t 26), none, 0⟩)]
def c140r4 : List SI := [
 ⟨none, .mv 31 (.t 5), none, 0⟩,
 ⟨none, .mv 4 (.t 31), none, 0⟩]
def c140 : SC :=
 (.seq (.reg false c140r0)
 (.seq (.reg false c140r1)
 (.seq (.seq (.reg false c140r2)
 (.cond (.t 10)
  (.rgW c140r3)
  .skip))
 (.seq (.reg false c140r4)
 .ret))))
def v140 : List Nat × List Nat := ([], [])
def o140 : List RS := [.t 4]
def c141r0 : List SI := [
 ⟨none, .mv 4 (.b false), none, 0⟩,
 ⟨none, .mv 5 (.i 0), none, 0⟩,
 ⟨none, .mv 6 (.i 0), none, 0⟩]
def c141r1 : List SI := [
 ⟨none, .mv 8 (.t 1), none, 0⟩,
 ⟨none, .mv 9 (.t 0), none, 0⟩,
 ⟨none, .len 10 false (.t 9), none, 0⟩,
 ⟨none, .bin 11 .geq (.t 8) (.t 10), none, 0⟩,
 ⟨none, .mv 7 (.t 11), none, 0⟩]
def c141r2 : List SI := [
 ⟨none, .mv 4 (.b false), none, 0⟩,
 ⟨none, .mv 5 (.i 0), none, 0⟩,
 ⟨none, .mv 6 (.i 10), none, 0⟩]
def c141r3 : List SI := [
 ⟨none, .mv 13 (.t 0), none, 0⟩,
 ⟨none, .mv 14 (.t 1), none, 0⟩,
 ⟨none, .ixA 15 (.t 13) (.t 14) 1, none, 0⟩,
 ⟨none, .ld 16 (.t 15) none, none, 0⟩,
 ⟨none, .bin 17 .gtr (.t 16) (.v (.int .u8 1)), none, 0⟩,
 ⟨none, .mv 12 (.t 17), none, 0⟩]
def c141r4 : List SI := [
 ⟨none, .mv 4 (.b false), none, 0⟩,
 ⟨none, .mv 5 (.i 0), none, 0⟩,
 ⟨none, .mv 6 (.i 11), none, 0⟩]
def c141r5 : List SI := [
 ⟨none, .mv 18 (.t 0), none, 0⟩,
 ⟨none, .mv 19 (.t 1), none, 0⟩,
 ⟨none, .ixA 20 (.t 18) (.t 19) 1, none, 0⟩,
 ⟨none, .ld 21 (.t 20) none, none, 0⟩,
 ⟨none, .bin 22 .eql (.t 21) (.v (.int .u8 1)), none, 0⟩,
 ⟨none, .mv 23 (.t 1), none, 0⟩,
 ⟨none, .bin 24 .add (.t 23) (.i 1), none, 0⟩,
 ⟨none, .mv 4 (.t 22), none, 0⟩,
 ⟨none, .mv 5 (.t 24), none, 0⟩,
 ⟨none, .mv 6 (.i 0), none, 0⟩]
def c141 : SC :=
 (.seq (.reg false c141r0)
 (.seq (.blk 0 (.seq (.reg false c141r1)
  (.cond (.t 7)
   (.seq (.reg false c141r2)
   .ret)
   (.seq (.reg false c141r3)
   (.cond (.t 12)
    (.seq (.reg false c141r4)
    .ret)
    .skip)))))
 (.seq (.reg false c141r5)
 .ret)))
def v141 : List Nat × List Nat := ([], [])
def o141 : List RS := [.t 4, .t 5, .t 6]
def c142r0 : List SI := [
 ⟨none, .mv 4 (.v (.string ⟨#[]⟩)), none, 0⟩]
def c142r1 : List SI := [
 ⟨none, .mv 5 (.v (.string ⟨#[]⟩)), none, 0⟩]
def c142r2 : List SI := [
 ⟨none, .mv 6 (.t 0), none, 0⟩,
 ⟨none, .nck 7 (.t 6), none, 0⟩,
 ⟨none, .flA 8 (.t 7) 2, none, 0⟩,
 ⟨none, .ld 9 (.t 8) none, none, 0⟩,
 ⟨none, .bin 10 .eql (.t 9) (.i 0), none, 0⟩]
def c142r3 : List WI := [
 (true, false, ⟨none, .mv 12 (.t 0), none, 0⟩),
 (true, false, ⟨none, .mv 13 (.t 0), none, 0⟩),
 (true, false, ⟨none, .mv 14 (.t 1), none, 0⟩),
 (true, false, ⟨none, .mv 15 (.t 0), none, 0⟩),
 (true, false, ⟨none, .nck 16 (.t 15), none, 0⟩),
 (true, false, ⟨none, .flA 17 (.t 16) 0, none, 0⟩),
 (true, false, ⟨none, .ld 18 (.t 17) none, none, 0⟩),
 (true, false, ⟨none, .mv 19 (.t 0), none, 0⟩),
 (true, false, ⟨none, .nck 20 (.t 19), none, 0⟩),
 (true, false, ⟨none, .flA 21 (.t 20) 1, none, 0⟩),
 (true, false, ⟨none, .ld 22 (.t 21) none, none, 0⟩),
 (false, true, ⟨none, .cav 23 (.t 14) [(.t 18), (.t 22)], none, 0⟩),
 (true, false, ⟨none, .mv 11 (.t 23), none, 0⟩),
 (true, false, ⟨none, .ext 24 (.t 11) 0, none, 0⟩),
 (true, false, ⟨none, .ext 25 (.t 11) 1, none, 0⟩),
 (true, false, ⟨none, .ext 26 (.t 11) 2, none, 0⟩),
 (true, false, ⟨none, .mv 5 (.t 24), none, 0⟩),
 (true, false, ⟨none, .nck 27 (.t 12), none, 0⟩),
 (true, false, ⟨none, .flA 28 (.t 27) 1, none, 0⟩),
 (false, true, ⟨none, .st (.t 28) 1 (.t 25), none, 0⟩),
 (true, false, ⟨none, .nck 29 (.t 13), none, 0⟩),
 (true, false, ⟨none, .flA 30 (.t 29) 2, none, 0⟩),
 (false, true, ⟨none, .st (.t 30) 1 (.t 26), none, 0⟩)]
def c142r4 : List SI := [
 ⟨none, .mv 31 (.t 5), none, 0⟩,
 ⟨none, .mv 4 (.t 31), none, 0⟩]
def c142 : SC :=
 (.seq (.reg false c142r0)
 (.seq (.reg false c142r1)
 (.seq (.seq (.reg false c142r2)
 (.cond (.t 10)
  (.rgW c142r3)
  .skip))
 (.seq (.reg false c142r4)
 .ret))))
def v142 : List Nat × List Nat := ([], [])
def o142 : List RS := [.t 4]
def c143r0 : List SI := [
 ⟨none, .mv 2 (.v (.int .u32 0)), none, 0⟩]
def c143r1 : List SI := [
 ⟨none, .mv 3 (.i 0), none, 0⟩]
def c143r2 : List SI := [
 ⟨none, .bin 4 .lss (.t 3) (.i 4), none, 0⟩]
def c143r3 : List SI := [
 ⟨none, .mv 5 (.t 0), none, 0⟩,
 ⟨none, .bin 6 .shr (.t 5) (.v (.int .u64 1)), none, 0⟩,
 ⟨none, .mv 7 (.t 0), none, 0⟩,
 ⟨none, .bin 8 .and (.t 7) (.v (.int .u32 1)), none, 0⟩,
 ⟨none, .un 9 .neg (.t 8), none, 0⟩,
 ⟨none, .bin 10 .and (.v (.int .u32 3988292384)) (.t 9), none, 0⟩,
 ⟨none, .bin 11 .xor (.t 6) (.t 10), none, 0⟩,
 ⟨none, .mv 0 (.t 11), none, 0⟩]
def c143r4 : List SI := [
 ⟨none, .bin 12 .add (.t 3) (.i 1), none, 0⟩,
 ⟨none, .mv 3 (.t 12), none, 0⟩]
def c143r5 : List SI := [
 ⟨none, .mv 13 (.t 0), none, 0⟩,
 ⟨none, .mv 2 (.t 13), none, 0⟩]
def c143 : SC :=
 (.seq (.reg false c143r0)
 (.seq (.seq (.reg false c143r1)
 (.blk 0 (.loop (.seq (.reg false c143r2)
   (.seq (.cond (.t 4)
    .skip
    (.exit 0))
   (.seq (.blk 1 (.reg false c143r3))
   (.reg false c143r4)))))))
 (.seq (.reg false c143r5)
 .ret)))
def v143 : List Nat × List Nat := ([], [])
def o143 : List RS := [.t 2]
theorem s143 : slimC Tryz.prog Tryz.f143.ntmps v143.1 v143.2 ((Tryz.f143.body).getD .skip) = some c143 := by kernel_rfl
theorem q143 : slimR Tryz.prog Tryz.f143.ntmps v143.1 v143.2 Tryz.f143.results.toList = some o143 := by kernel_rfl
def c144r0 : List SI := [
 ⟨none, .mv 5 (.v (.int .u32 0)), none, 0⟩]
def c144r1 : List SI := [
 ⟨none, .mv 6 (.t 0), none, 0⟩,
 ⟨none, .mv 7 (.t 1), none, 0⟩,
 ⟨none, .cvI 8 .u32 (.t 7), none, 0⟩,
 ⟨none, .bin 9 .xor (.t 6) (.t 8), none, 0⟩,
 ⟨none, .mv 0 (.t 9), none, 0⟩]
def c144r2 : List SI := [
 ⟨none, .mv 10 (.t 0), none, 0⟩,
 ⟨none, .bin 11 .and (.t 10) (.v (.int .u32 15)), none, 0⟩,
 ⟨none, .ixP 12 (.t 2) (.t 11) 16 1, none, 0⟩,
 ⟨none, .ld 13 (.t 12) none, none, 0⟩,
 ⟨none, .mv 14 (.t 0), none, 0⟩,
 ⟨none, .bin 15 .shr (.t 14) (.v (.int .u64 4)), none, 0⟩,
 ⟨none, .bin 16 .xor (.t 13) (.t 15), none, 0⟩,
 ⟨none, .mv 0 (.t 16), none, 0⟩]
def c144r3 : List SI := [
 ⟨none, .mv 17 (.t 0), none, 0⟩,
 ⟨none, .bin 18 .and (.t 17) (.v (.int .u32 15)), none, 0⟩,
 ⟨none, .ixP 19 (.t 2) (.t 18) 16 1, none, 0⟩,
 ⟨none, .ld 20 (.t 19) none, none, 0⟩,
 ⟨none, .mv 21 (.t 0), none, 0⟩,
 ⟨none, .bin 22 .shr (.t 21) (.v (.int .u64 4)), none, 0⟩,
 ⟨none, .bin 23 .xor (.t 20) (.t 22), none, 0⟩,
 ⟨none, .mv 5 (.t 23), none, 0⟩]
def c144 : SC :=
 (.seq (.reg false c144r0)
 (.seq (.reg false c144r1)
 (.seq (.reg false c144r2)
 (.seq (.reg false c144r3)
 .ret))))
def v144 : List Nat × List Nat := ([], [])
def o144 : List RS := [.t 5]
theorem s144 : slimC Tryz.prog Tryz.f144.ntmps v144.1 v144.2 ((Tryz.f144.body).getD .skip) = some c144 := by kernel_rfl
theorem q144 : slimR Tryz.prog Tryz.f144.ntmps v144.1 v144.2 Tryz.f144.results.toList = some o144 := by kernel_rfl
theorem F87 : Fun Tryz.prog 87 5 v87 c87 o87 := Fun.mk' Tryz.func87 Tryz.ntmps87 (by kernel_rfl) (by kernel_rfl) s87 q87
theorem F103 : Fun Tryz.prog 103 8 v103 c103 o103 := Fun.mk' Tryz.func103 Tryz.ntmps103 (by kernel_rfl) (by kernel_rfl) s103 q103
def UE (x : UInt8) (cs : List Value) : Prop := cs = [.int .u8 (x.toNat : Int)]
theorem UE1 : ∀ (x : UInt8) cs, UE x cs → ∀ u ∈ cs, u.oneCell' = true := fun x cs h u hu => by
 rw [h] at hu
 simp at hu
 subst hu
 rfl
abbrev SB (G : Nat → Option Obj) (v : Value) (l : List UInt8) : Prop := SlV G UE 1 v l
abbrev OwnB (zs : List UInt8) (L' : List Kx.Item) (r : Value) : Prop := OwnL UE 5 1 zs L' r
theorem SB.le {G G' : Nat → Option Obj} {v : Value} {l : List UInt8} (h : SB G v l) (hg : Gle G G') : SB G' v l := SlV.le h hg fun _ _ h => h
def cellB (l : List UInt8) : List Value := l.map fun b => .int .u8 (b.toNat : Int)
theorem cells_b : ∀ (l : List UInt8), Cells UE 1 l (cellB l)
 | [] => .nil
 | b :: l => .cons (cs := [.int .u8 (b.toNat : Int)]) rfl rfl (cells_b l)
theorem byteCells_b (s : ByteArray) : byteCells s = cellB s.data.toList := rfl
theorem app8 {P : Program} {h : H} {d : Nat} {l : List SI} {e : Env} {K : Env → H → Prop} {u : Value} {b : Nat} {zs : List UInt8} {zc : List Value} {L1 L2 : List Kx.Item} {x : UInt8} {y : Int} (hL : h.L = .row (.slice (some ⟨b, 0, none⟩) 1 1) 5 1 1 [.int .u8 y] :: L1 ++ .row u 5 1 zs.length zc :: L2) (hy : y = (x.toNat : Int))
  (hc : Cells UE 1 zs zc) (hz : zs.length ≤ 10000000)
  (hk : ∀ A' c' zc', Cells UE 1 (zs ++ [x]) zc' → kR P l d e K (.slice A' (zs ++ [x]).length c') ⟨h.G, .row (.slice (some ⟨b, 0, none⟩) 1 1) 5 1 1 [.int .u8 y] :: L1 ++ .row (.slice A' (zs ++ [x]).length c') 5 1 (zs ++ [x]).length zc' :: L2, h.D⟩) :
  apX P u (.slice (some ⟨b, 0, none⟩) 1 1) 5 1 1 d l e h K := by
 subst hy
 refine ⟨.row (.slice (some ⟨b, 0, none⟩) 1 1) 5 1 1 [.int .u8 (x.toNat : Int)] :: L1, zs.length, zc, L2, 1, [.int .u8 (x.toNat : Int)], .inl hL, srcH_row (h := h) (by rw [hL]; exact .head _) (UE1 x _ rfl) rfl, by unfold maxLen; omega, fun A' c' => ?_⟩
 have := hk A' c' (zc ++ [.int .u8 (x.toNat : Int)]) (hc.app (.one (show UE x [.int .u8 (x.toNat : Int)] from rfl) rfl))
 simp only [List.length_append, List.length_cons, List.length_nil, Nat.zero_add] at this
 exact this
theorem apX_s {P : Program} {h : H} {d : Nat} {l : List SI} {e : Env} {K : Env → H → Prop} {u : Value} {s : ByteArray} {zs : List UInt8} {zc : List Value} {L1 L2 : List Kx.Item} (hr : RowAt h.L u 5 1 L1 zs.length zc L2) (hc : Cells UE 1 zs zc) (hz : zs.length + s.size ≤ 10000000)
  (hk : ∀ A' c' zc', Cells UE 1 (zs ++ s.data.toList) zc' → kR P l d e K (.slice A' (zs ++ s.data.toList).length c') { h with L := L1 ++ .row (.slice A' (zs ++ s.data.toList).length c') 5 1 (zs ++ s.data.toList).length zc' :: L2 }) :
  apX P u (.string s) 5 1 1 d l e h K := by
 refine ⟨L1, zs.length, zc, L2, s.size, cellB s.data.toList, hr, ⟨fun u hu => ?_, ?_, .inr (.inr ⟨s, rfl, rfl, byteCells_b s, rfl⟩)⟩, by unfold maxLen; omega, fun A' c' => ?_⟩
 ·simp [cellB] at hu; obtain ⟨_, _, rfl⟩ := hu; rfl
 ·simp [cellB]
 ·have := hk A' c' (zc ++ cellB s.data.toList) (hc.app (cells_b _))
  rw [List.length_append] at this
  exact this
theorem bin_mul (k : IntKind) (a b : Int) : binV .mul (.int k a) (.int k b) = some (.int k (k.wrap (a * b))) := by simp [binV]
theorem bin_add (k : IntKind) (a b : Int) : binV .add (.int k a) (.int k b) = some (.int k (k.wrap (a + b))) := by simp [binV]
theorem bin_quo (k : IntKind) (a b : Nat) (hb : b ≠ 0) (ha : (a : Int) ≤ k.max) (hk : k.signed = false) : binV .quo (.int k a) (.int k b) = some (.int k ((a / b : Nat) : Int)) := by
 have h1 : ¬ (b : Int) = 0 := by omega
 have h2 : k.wrap (((a / b : Nat) : Int)) = ((a / b : Nat) : Int) := by
  have hq := Nat.div_le_self a b
  generalize a / b = q at hq ⊢
  cases k <;> simp [IntKind.signed] at hk <;> simp [IntKind.max, IntKind.signed, IntKind.bits] at ha <;> simp only [IntKind.wrap, IntKind.signed, IntKind.bits] <;> simp <;> omega
 simp only [binV]
 rw [if_pos trivial, if_neg h1]
 have : (a : Int).tdiv (b : Int) = ((a / b : Nat) : Int) := by rw [Int.tdiv_eq_ediv_of_nonneg (by omega)]; rfl
 rw [this, h2]
theorem bin_rem (k : IntKind) (a b : Nat) (hb : b ≠ 0) : binV .rem (.int k a) (.int k b) = some (.int k ((a % b : Nat) : Int)) := by
 have h1 : ¬ (b : Int) = 0 := by omega
 simp only [binV]
 rw [if_pos trivial, if_neg h1]
 have : (a : Int).tmod (b : Int) = ((a % b : Nat) : Int) := by rw [Int.tmod_eq_emod_of_nonneg (by omega)]; rfl
 rw [this]
theorem callsH_gx {P : Program} {f : FuncId} {args : Array Value} {h : H} {M : H → Prop} {R : Value → H → Prop} (hE : Enters P f) (hg : GhostX h M) (hc : ∀ h', M h' → CallsH P f args h' R) : CallsH P f args h R :=
 ⟨hE, fun β w hs => by
  obtain ⟨h1, m, s1, t1, d1, r1⟩ := hg β w hs
  exact ((hc h1 m).2 β w s1).mono fun _ _ ⟨v, h2, a, ⟨b1, b2⟩, c, d, r⟩ => ⟨v, h2, a, ⟨b1.trans d1, r1.trans b2⟩, c, t1.trans d, r⟩⟩
theorem SB.nil {G : Nat → Option Obj} : SB G (.slice none 0 0) [] := ⟨none, 0, rfl, Nat.le_refl _, Nat.zero_le _, fun i x hx => by simp at hx⟩
theorem Copy_ok (l : List UInt8) (v : Value) (G : Nat → Option Obj) (hl : SB G v l) (hb : l.length ≤ 1000000) :
  FnO Tryz.prog 87 #[v] G [] (fun _ L' r => OwnB l L' r) := by
 refine F87.fnO (by simp) noRegs_nil (go_of ?_)
 unfold c87
 intros; refine gr 0 0 ?_; refine sJ c87r0.eq_1 ?_
 intros; refine gr 3 5 ?_; refine sJ c87r1.eq_1 ?_
 refine apX_v (.inr ⟨⟨none, rfl⟩, rfl, rfl, rfl, rfl⟩) hl rfl UE1 (by unfold maxLen; omega) fun ys A c hc => ?_
 simp only [Nat.zero_add]
 refine sI ?_
 (intros; try refine go_st ?_)
 refine go_ret (retQ_o _ rfl (List.Sublist.refl _) (noRegs_row noRegs_nil) ?_)
 exact ⟨ys, hc, rfl⟩
theorem Clone_ok (l : List UInt8) (v : Value) (G : Nat → Option Obj) (hl : SB G v l) (hb : l.length ≤ 1000000) :
  FnO Tryz.prog 103 #[v] G [] (fun _ L' r => OwnB l L' r) := by
 refine F103.fnO (by simp) noRegs_nil (go_of ?_)
 have hl0 := hl
 obtain ⟨A, c, rfl, hc, hm, hA⟩ := hl
 unfold c103
 intros; refine gr 0 0 ?_; refine sJ c103r0.eq_1 ?_
 intros; refine gr 3 4 ?_; refine sJ c103r1.eq_1 ?_
 intros; refine gc ?_; refine sI ?_
 refine gb (fun ht => ?_) (fun ht => ?_)
 ·intros; refine gr 0 0 ?_; refine sJ c103r2.eq_1 ?_
  (intros; try refine go_st ?_)
  have hA0 : l = [] := by
   match l, hA with
   | [], _ => rfl
   | x :: xs, hA => obtain ⟨a, _, ha, _⟩ := hA 0 x rfl; subst ha; cases ht
  subst hA0
  refine go_ghost (ghost_nil none 5 1) ?_
  refine go_ret (retQ_o _ rfl (List.Sublist.refl _) (noRegs_row noRegs_nil) ?_)
  exact ⟨[], .nil, rfl⟩
 ·intros; refine gr 5 8 ?_; refine sJ c103r3.eq_1 ?_
  intro b hb'
  refine apX_v (.inr ⟨⟨_, rfl⟩, rfl, rfl, rfl, rfl⟩) hl0 rfl UE1 (by unfold maxLen; omega) fun ys A c hc => ?_
  simp only [Nat.zero_add]
  refine sI ?_
  (intros; try refine go_st ?_)
  refine go_ret (retQ_o _ rfl (List.Sublist.refl _) (noRegs_row noRegs_nil) ?_)
  exact ⟨ys, hc, rfl⟩
theorem F109 : Fun Tryz.prog 109 31 v109 c109 o109 := Fun.mk' Tryz.func109 Tryz.ntmps109 (by kernel_rfl) (by kernel_rfl) s109 q109
theorem F97 : Fun Tryz.prog 97 36 v97 c97 o97 := Fun.mk' Tryz.func97 Tryz.ntmps97 (by kernel_rfl) (by kernel_rfl) s97 q97
def zig (n : Int) : Nat := if 0 ≤ n then (2 * n).toNat else (-2 * n - 1).toNat
def vnat : Nat → Nat → List UInt8
 | 0, z => [UInt8.ofNat z]
 | f + 1, z => if z < 128 then [UInt8.ofNat z] else UInt8.ofNat (128 + z % 128) :: vnat f (z / 128)
def pvB (n : Int) : List UInt8 := vnat 9 (zig n)
theorem vnat_len : ∀ f z, (vnat f z).length ≤ f + 1 ∧ 1 ≤ (vnat f z).length
 | 0, z => by simp [vnat]
 | f + 1, z => by
  unfold vnat
  split
  ·simp
  ·have := vnat_len f (z / 128)
   simp
   omega
theorem pvB_len (n : Int) : (pvB n).length ≤ 10 := (vnat_len 9 _).1
theorem zig_lt {n : Int} (h : I64 n) : zig n < 18446744073709551616 := by
 unfold zig I64 at *
 split <;> omega
theorem vnat_lt {f z : Nat} (h : z < 128) : vnat f z = [UInt8.ofNat z] := by
 cases f with
 | zero => rfl
 | succ f => exact if_pos h
def Puts (p : List UInt8) (z0 : Nat) (zs : List UInt8) (z : Nat) : Prop := ∃ f, f ≤ 9 ∧ zs.length + f = p.length + 9 ∧ z < 2 * 128 ^ f ∧ zs ++ vnat f z = p ++ vnat 9 z0
theorem puts_zero (p : List UInt8) {z0 : Nat} (h : z0 < 18446744073709551616) : Puts p z0 p z0 := ⟨9, Nat.le_refl _, rfl, by omega, rfl⟩
theorem puts_end {p zs : List UInt8} {z0 z : Nat} (h : Puts p z0 zs z) (hz : z < 128) : zs ++ [UInt8.ofNat z] = p ++ vnat 9 z0 := by
 obtain ⟨f, _, _, _, h⟩ := h
 rw [← h, vnat_lt hz]
theorem puts_more {p zs : List UInt8} {z0 z : Nat} (h : Puts p z0 zs z) (hz : ¬ z < 128) : Puts p z0 (zs ++ [UInt8.ofNat (128 + z % 128)]) (z / 128) := by
 obtain ⟨f, h1, h2, h3, h4⟩ := h
 cases f with
 | zero => simp at h3; omega
 | succ f =>
  refine ⟨f, by omega, by simp; omega, by rw [Nat.pow_succ] at h3; omega, ?_⟩
  rw [← h4, vnat, if_neg hz]
  simp
theorem puts_len {p zs : List UInt8} {z0 z : Nat} (h : Puts p z0 zs z) : zs.length ≤ p.length + 9 := by
 obtain ⟨f, h1, h2, _⟩ := h
 omega
theorem or_128 (z : Nat) : binV .or (.int .u8 (IntKind.u8.wrap (z : Int))) (.int .u8 128) = some (.int .u8 ((UInt8.ofNat (128 + z % 128)).toNat : Int)) := by
 have key : ∀ b : Fin 256, (BitVec.ofInt 8 ((b.val : Nat) : Int) ||| BitVec.ofInt 8 128).toNat = 128 + b.val % 128 := by decide +kernel
 have h1 : IntKind.u8.wrap (z : Int) = ((z % 256 : Nat) : Int) := by rw [IntKind.wrap_u8]; omega
 have h2 := key ⟨z % 256, Nat.mod_lt _ (by omega)⟩
 rw [h1]
 simp only [binV]
 rw [if_pos trivial]
 have h3 : (BitVec.ofInt IntKind.u8.bits ((z % 256 : Nat) : Int) ||| BitVec.ofInt IntKind.u8.bits 128).toNat = 128 + z % 128 := by
  refine h2.trans ?_
  dsimp only
  omega
 rw [h3]
 simp [IntKind.wrap_u8]
theorem u8_nat (z : Nat) : IntKind.u8.wrap (z : Int) = ((UInt8.ofNat z).toNat : Int) := by
 rw [IntKind.wrap_u8]
 simp
theorem shr_7 (z : Nat) : binV .shr (.int .u64 (z : Int)) (.int .u64 7) = some (.int .u64 ((z / 128 : Nat) : Int)) := by
 simp [binV, IntKind.bits]
 rw [Int.fdiv_eq_ediv_of_nonneg _ (by omega)]
theorem shl_1 (n : Int) : binV .shl (.int .u64 (IntKind.u64.wrap n)) (.int .u64 1) = some (.int .u64 (IntKind.u64.wrap (IntKind.u64.wrap n * 2))) := by
 simp [binV, IntKind.bits]
def sgn (n : Int) : Int := if 0 ≤ n then 0 else -1
theorem shr_63 {n : Int} (h : I64 n) : binV .shr (.int .i64 n) (.int .u64 63) = some (.int .i64 (sgn n)) := by
 have h1 : n.fdiv 9223372036854775808 = sgn n := by
  rw [Int.fdiv_eq_ediv_of_nonneg _ (by omega)]
  unfold sgn I64 at *
  split <;> omega
 simp [binV, IntKind.bits, h1]
theorem xor_zig {n : Int} (h : I64 n) : binV .xor (.int .u64 (IntKind.u64.wrap (IntKind.u64.wrap n * 2))) (.int .u64 (IntKind.u64.wrap (sgn n))) = some (.int .u64 (zig n : Int)) := by
 have hz := zig_lt h
 have key : (BitVec.ofInt 64 (IntKind.u64.wrap (IntKind.u64.wrap n * 2)) ^^^ BitVec.ofInt 64 (IntKind.u64.wrap (sgn n))).toNat = zig n := by
  unfold I64 at h
  by_cases h0 : 0 ≤ n
  ·have e1 : IntKind.u64.wrap (IntKind.u64.wrap n * 2) = 2 * n := by rw [IntKind.wrap_u64, IntKind.wrap_u64]; omega
   have e2 : IntKind.u64.wrap (sgn n) = 0 := by rw [sgn, if_pos h0]; rfl
   rw [e1, e2]
   have : BitVec.ofInt 64 0 = 0#64 := rfl
   rw [this, BitVec.xor_zero, BitVec.toNat_ofInt]
   simp [zig, h0]
   omega
  ·have e1 : IntKind.u64.wrap (IntKind.u64.wrap n * 2) = (2 * n) % 18446744073709551616 := by rw [IntKind.wrap_u64, IntKind.wrap_u64]; omega
   have e2 : IntKind.u64.wrap (sgn n) = 18446744073709551615 := by rw [sgn, if_neg h0]; rfl
   rw [e1, e2]
   have : BitVec.ofInt 64 18446744073709551615 = BitVec.allOnes 64 := by decide
   rw [this, BitVec.xor_allOnes, BitVec.toNat_not, BitVec.toNat_ofInt]
   simp [zig, h0]
   omega
 simp only [binV]
 rw [if_pos trivial]
 have e3 : (BitVec.ofInt IntKind.u64.bits (IntKind.u64.wrap (IntKind.u64.wrap n * 2)) ^^^ BitVec.ofInt IntKind.u64.bits (IntKind.u64.wrap (sgn n))).toNat = zig n := key
 rw [e3, IntKind.wrap_u64]
 congr 2
 omega
theorem PutVar_ok (l : List UInt8) (n : Int) (hn : I64 n) (v : Value) (G : Nat → Option Obj) (hl : SB G v l) (hb : l.length ≤ 100000) :
  FnO Tryz.prog 109 #[v, .int .i64 n] G [] (fun _ L' r => OwnB (l ++ pvB n) L' r) := by
 refine F109.fnO (by simp) noRegs_nil (go_of ?_)
 have hl0 := hl
 obtain ⟨A, c, rfl, hc, hm, hA⟩ := hl
 unfold c109
 intros; refine gr 0 0 ?_; refine sJ c109r0.eq_1 ?_
 intros; refine gr 7 14 ?_; (refine sJ4 c109r1.eq_1 @shl_1 (shr_63 hn) (xor_zig hn) ?_)
 intros; refine gr 14 16 ?_; refine sJ c109r2.eq_1 ?_
 refine (Clone_ok l _ G hl0 (by omega) _ []).mono ?_
 rintro r h' ⟨G1, L', rfl, hg1, ys, hys, rfl⟩
 refine sI ?_
 (intros; try refine go_st ?_)
 refine go_loop (fun e h => ∃ (z : Nat) (zs : List UInt8) (zc : List Value) (u : Value), (Puts l (zig n) zs z ∧ Cells UE 1 zs zc) ∧ e 5 = .int .u64 (z : Int) ∧ e 6 = u ∧ h.G = G1 ∧ h.D = [] ∧ [Item.row u 5 1 zs.length zc].Sublist h.L) (fun e h => iv (e 5)) ?_ ?_
 ·exact ⟨zig n, l, ys, _, ⟨puts_zero l (zig_lt hn), hys⟩, eE, eE, rfl, rfl, List.Sublist.refl _⟩
 ·rintro e ⟨G', L, D⟩ ⟨z, zs, zc, u, ⟨hp, hcs⟩, e5, e6, hG, hD, hL⟩
  dsimp only at hG hD hL
  subst hG hD
  refine go_ghost (ghost_sub hL) ?_
  refine go_keep [5, 6] ?_
  refine sJ2 @e5 @e6 ?_
  have hlen := puts_len hp
  intros; refine gr 16 17 ?_; refine sJ c109r3.eq_1 ?_
  intros; refine gc ?_; refine sI ?_
  refine gb (fun ht => ?_) (fun ht => ?_)
  ·have hz : ¬ z < 128 := by simp at ht; omega
   intros; refine gr 20 26 ?_; refine sJ2 c109r4.eq_1 @or_128 ?_
   intro bk hbk
   refine app8 (L1 := []) (L2 := []) rfl rfl hcs (by omega) fun A' c' zc' hzc => ?_
   refine sI ?_
   intros; refine gr 18 20 ?_; refine sJ2 c109r5.eq_1 @shr_7 ?_
   (intros; try refine go_st ?_)
   refine go_l ⟨⟨z / 128, _, zc', _, ⟨puts_more hp hz, hzc⟩, eE, eE, rfl, rfl, .cons _ (List.Sublist.refl _)⟩, ?_⟩
   refine sI ?_
   simp [iv]
   omega
  ·have hz : z < 128 := by simp at ht; omega
   refine go_exit ?_
   refine sI ?_
   intros; refine gr 26 31 ?_; refine sJ2 c109r6.eq_1 @u8_nat ?_
   intro bk hbk
   refine app8 (L1 := []) (L2 := []) rfl rfl hcs (by omega) fun A' c' zc' hzc => ?_
   refine sI ?_
   (intros; try refine go_st ?_)
   rw [puts_end hp hz] at hzc ⊢
   refine go_ret (retQ_o _ rfl (.cons _ (List.Sublist.refl _)) (noRegs_row noRegs_nil) ?_)
   exact ⟨zc', hzc, rfl⟩
theorem RPutVar_ok (l : List UInt8) (n : Int) (hn : I64 n) (v : Value) (G : Nat → Option Obj) (hl : SB G v l) (hb : l.length ≤ 100000) :
  FnO Tryz.prog 97 #[v, .int .i64 n] G [] (fun _ L' r => OwnB (l ++ pvB n) L' r) := by
 refine F97.fnO (by simp) noRegs_nil (go_of ?_)
 have hl0 := hl
 have hn0 := hn
 unfold I64 at hn
 obtain ⟨A, c, rfl, hc, hm, hA⟩ := hl
 unfold c97
 intros; refine gr 0 0 ?_; refine sJ c97r0.eq_1 ?_
 intros; refine gr 7 10 ?_; refine sJ2 c97r1.eq_1 @bin_mul ?_
 have hrest : ∀ (e : Env), e 0 = .slice A l.length c → e 5 = .int .u64 (zig n : Int) → go none Tryz.prog 36 v97.1 v97.2 (retQ o97 fun v h => OwnB (l ++ pvB n) h.L v) [Td.s ((SC.reg false c97r4).seq ((SC.blk 0 (((SC.reg false c97r5).seq (SC.cond (O.t 21) SC.skip (SC.exit 0))).seq (SC.blk 1 ((SC.reg false c97r6).seq (SC.reg false c97r7)))).loop).seq ((SC.reg false c97r8).seq SC.ret)))] e ⟨G, [], []⟩ := fun e e0 e5 => by
  refine go_keep [0, 5] ?_
  refine sJ2 @e0 @e5 ?_
  intros; refine gr 18 20 ?_; refine sJ c97r4.eq_1 ?_
  refine (Copy_ok l _ G hl0 (by omega) _ []).mono ?_
  rintro r h' ⟨G1, L', rfl, hg1, ys, hys, rfl⟩
  refine sI ?_
  (intros; try refine go_st ?_)
  refine go_loop (fun e h => ∃ (z : Nat) (zs : List UInt8) (zc : List Value) (u : Value), (Puts l (zig n) zs z ∧ Cells UE 1 zs zc ∧ z < 18446744073709551616) ∧ e 5 = .int .u64 (z : Int) ∧ e 6 = u ∧ h.G = G1 ∧ h.D = [] ∧ [Item.row u 5 1 zs.length zc].Sublist h.L) (fun e h => iv (e 5)) ?_ ?_
  ·exact ⟨zig n, l, ys, _, ⟨puts_zero l (zig_lt hn0), hys, zig_lt hn0⟩, eE, eE, rfl, rfl, List.Sublist.refl _⟩
  ·rintro e ⟨G', L, D⟩ ⟨z, zs, zc, u, ⟨hp, hcs, hzb⟩, e5, e6, hG, hD, hL⟩
   dsimp only at hG hD hL
   subst hG hD
   refine go_ghost (ghost_sub hL) ?_
   refine go_keep [5, 6] ?_
   refine sJ2 @e5 @e6 ?_
   have hlen := puts_len hp
   intros; refine gr 20 21 ?_; refine sJ c97r5.eq_1 ?_
   intros; refine gc ?_; refine sI ?_
   refine gb (fun ht => ?_) (fun ht => ?_)
   ·have hz : ¬ z < 128 := by simp at ht; omega
    have hpm := puts_more hp hz
    have hdz : z / 128 < z := by omega
    have hq : binV .quo (.int .u64 (z : Int)) (.int .u64 128) = some (.int .u64 ((z / 128 : Nat) : Int)) := bin_quo .u64 z 128 (by decide) (by simp [IntKind.max, IntKind.signed, IntKind.bits]; omega) rfl
    generalize z / 128 = q at hq hpm hdz
    have hr : binV .rem (.int .u64 (z : Int)) (.int .u64 128) = some (.int .u64 ((z : Int) % 128)) := bin_rem .u64 z 128 (by decide)
    have hw : IntKind.u8.wrap (IntKind.u64.wrap (128 + (z : Int) % 128)) = ((UInt8.ofNat (128 + z % 128)).toNat : Int) := by
     rw [← u8_nat, IntKind.wrap_u64]
     congr 1
     omega
    intros; refine gr 22 29 ?_; refine sJ3 c97r6.eq_1 @hr @bin_add ?_
    intro bk hbk
    refine app8 (L1 := []) (L2 := []) rfl hw hcs (by omega) fun A' c' zc' hzc => ?_
    refine sI ?_
    intros; refine gr 29 31 ?_; refine sJ2 c97r7.eq_1 @hq ?_
    (intros; try refine go_st ?_)
    refine go_l ⟨⟨q, _, zc', _, ⟨hpm, hzc, by omega⟩, eE, eE, rfl, rfl, .cons _ (List.Sublist.refl _)⟩, ?_⟩
    refine sI ?_
    omega
   ·have hz : z < 128 := by simp at ht; omega
    refine go_exit ?_
    refine sI ?_
    intros; refine gr 31 36 ?_; refine sJ2 c97r8.eq_1 @u8_nat ?_
    intro bk hbk
    refine app8 (L1 := []) (L2 := []) rfl rfl hcs (by omega) fun A' c' zc' hzc => ?_
    refine sI ?_
    (intros; try refine go_st ?_)
    rw [puts_end hp hz] at hzc ⊢
    refine go_ret (retQ_o _ rfl (.cons _ (List.Sublist.refl _)) (noRegs_row noRegs_nil) ?_)
    exact ⟨zc', hzc, rfl⟩
 intros; refine gr 10 11 ?_; refine sJ c97r2.eq_1 ?_
 intros; refine gc ?_; refine sI ?_
 refine gb (fun ht => ?_) (fun ht => ?_)
 ·have hz : IntKind.u64.wrap (IntKind.u64.wrap (2 * IntKind.u64.wrap (IntKind.i64.wrap (0 - IntKind.i64.wrap (n + 1)))) + 1) = (zig n : Int) := by
   have h0 : n < 0 := by simpa using ht
   have e1 : IntKind.i64.wrap (n + 1) = n + 1 := by rw [w64_id] <;> omega
   have e2 : IntKind.i64.wrap (0 - (n + 1)) = 0 - (n + 1) := by rw [w64_id] <;> omega
   rw [e1, e2]
   simp only [IntKind.wrap_u64, zig, if_neg (show ¬ 0 ≤ n by omega)]
   omega
  intros; refine gr 12 18 ?_; refine sJ4 c97r3.eq_1 @bin_mul @bin_add @hz ?_
  intro _
  (repeat first | refine go_skip ?_ | refine go_b ?_)
  refine hrest _ ?_ ?_ <;> (refine sI ?_; try with_reducible exact True.intro)
 ·have hz : IntKind.u64.wrap (2 * IntKind.u64.wrap n) = (zig n : Int) := by
   have h0 : ¬ n < 0 := by simpa using ht
   simp only [IntKind.wrap_u64, zig, if_pos (show 0 ≤ n by omega)]
   omega
  (repeat first | refine go_skip ?_ | refine go_b ?_)
  refine hrest _ ?_ ?_ <;> (refine sJ @hz ?_; try with_reducible exact True.intro)
theorem F124 : Fun Tryz.prog 124 9 v124 c124 o124 := Fun.mk' Tryz.func124 Tryz.ntmps124 (by kernel_rfl) (by kernel_rfl) s124 q124
theorem F113 : Fun Tryz.prog 113 9 v113 c113 o113 := Fun.mk' Tryz.func113 Tryz.ntmps113 (by kernel_rfl) (by kernel_rfl) s113 q113
theorem F125 : Fun Tryz.prog 125 11 v125 c125 o125 := Fun.mk' Tryz.func125 Tryz.ntmps125 (by kernel_rfl) (by kernel_rfl) s125 q125
theorem F114 : Fun Tryz.prog 114 11 v114 c114 o114 := Fun.mk' Tryz.func114 Tryz.ntmps114 (by kernel_rfl) (by kernel_rfl) s114 q114
theorem F108 : Fun Tryz.prog 108 33 v108 c108 o108 := Fun.mk' Tryz.func108 Tryz.ntmps108 (by kernel_rfl) (by kernel_rfl) s108 q108
theorem F96 : Fun Tryz.prog 96 39 v96 c96 o96 := Fun.mk' Tryz.func96 Tryz.ntmps96 (by kernel_rfl) (by kernel_rfl) s96 q96
def inO (n : Int) : Bool := decide (0 ≤ n) && decide (n ≤ 1099511627776)
theorem in_ok (n : Int) (G : Nat → Option Obj) : FnS Tryz.prog 124 #[.int .i64 n] G (.bool (inO n)) := by
 refine F124.fnS (by simp) (go_of ?_)
 unfold c124
 intros; refine gr 0 0 ?_; refine sJ c124r0.eq_1 ?_
 intros; refine gr 3 9 ?_; refine sJ c124r1.eq_1 ?_
 refine gd (fun h1 => ?_) (fun h1 => ?_)
 ·refine sI ?_
  intros; refine rV ?_; simp only [push_cast, Nat.reduceBEq]
  have : 0 ≤ n := by simpa using h1
  simp [inO, this]
 ·refine sI ?_
  intros; refine rV ?_; simp only [push_cast, Nat.reduceBEq]
  have : ¬ 0 ≤ n := by simpa using h1
  simp [inO, this]
theorem In_ok (n : Int) (G : Nat → Option Obj) : FnS Tryz.prog 113 #[.int .i64 n] G (.bool (inO n)) := by
 refine F113.fnS (by simp) (go_of ?_)
 unfold c113
 intros; refine gr 0 0 ?_; refine sJ c113r0.eq_1 ?_
 intros; refine gr 3 9 ?_; refine sJ c113r1.eq_1 ?_
 refine gd (fun h1 => ?_) (fun h1 => ?_)
 ·refine sI ?_
  intros; refine rV ?_; simp only [push_cast, Nat.reduceBEq]
  have : 0 ≤ n := by simpa using h1
  simp [inO, this]
 ·refine sI ?_
  intros; refine rV ?_; simp only [push_cast, Nat.reduceBEq]
  have : ¬ 0 ≤ n := by simpa using h1
  simp [inO, this]
def ptB (s : ByteArray) : List UInt8 := pvB s.size ++ s.data.toList
theorem ptB_len (s : ByteArray) : (ptB s).length ≤ 10 + s.size := by
 have := pvB_len s.size
 simp [ptB]
 omega
theorem PutText_ok (l : List UInt8) (s : ByteArray) (v : Value) (G : Nat → Option Obj) (hl : SB G v l) (hb : l.length ≤ 100000) (hs : s.size ≤ 100000) :
  FnO Tryz.prog 125 #[v, .string s] G [] (fun _ L' r => OwnB (l ++ ptB s) L' r) := by
 refine F125.fnO (by simp) noRegs_nil (go_of ?_)
 unfold c125
 intros; refine gr 0 0 ?_; refine sJ c125r0.eq_1 ?_
 intros; refine gr 5 11 ?_; refine sJ c125r1.eq_1 ?_
 refine (PutVar_ok l s.size (by unfold I64; omega) v G hl hb _ []).mono ?_
 rintro r h' ⟨G1, L', rfl, hg1, ys, hys, rfl⟩
 refine sI ?_
 have hpl := pvB_len s.size
 refine apX_s (L1 := []) (.inl rfl) hys (by rw [List.length_append]; omega) fun A' c' zc' hzc => ?_
 refine sI ?_
 (intros; try refine go_st ?_)
 refine go_ret (retQ_o _ rfl (List.Sublist.refl _) (noRegs_row noRegs_nil) ?_)
 rw [List.append_assoc] at hzc ⊢
 exact ⟨zc', hzc, rfl⟩
theorem RPutText_ok (l : List UInt8) (s : ByteArray) (v : Value) (G : Nat → Option Obj) (hl : SB G v l) (hb : l.length ≤ 100000) (hs : s.size ≤ 100000) :
  FnO Tryz.prog 114 #[v, .string s] G [] (fun _ L' r => OwnB (l ++ ptB s) L' r) := by
 refine F114.fnO (by simp) noRegs_nil (go_of ?_)
 unfold c114
 intros; refine gr 0 0 ?_; refine sJ c114r0.eq_1 ?_
 intros; refine gr 5 11 ?_; refine sJ c114r1.eq_1 ?_
 refine (RPutVar_ok l s.size (by unfold I64; omega) v G hl hb _ []).mono ?_
 rintro r h' ⟨G1, L', rfl, hg1, ys, hys, rfl⟩
 refine sI ?_
 have hpl := pvB_len s.size
 refine apX_s (L1 := []) (.inl rfl) hys (by rw [List.length_append]; omega) fun A' c' zc' hzc => ?_
 refine sI ?_
 (intros; try refine go_st ?_)
 refine go_ret (retQ_o _ rfl (List.Sublist.refl _) (noRegs_row noRegs_nil) ?_)
 rw [List.append_assoc] at hzc ⊢
 exact ⟨zc', hzc, rfl⟩
structure Rec where
 off : Int
 key : ByteArray
 val : ByteArray
 dead : Bool
 stamp : Int
def cellR (x : Rec) : List Value := [.int .i64 x.off, .string x.key, .string x.val, .bool x.dead, .int .i64 x.stamp]
def RR (x : Rec) (cs : List Value) : Prop := cs = cellR x ∧ (I64 x.off ∧ I64 x.stamp) ∧ x.key.size ≤ maxLen ∧ x.val.size ≤ maxLen
def isE (s : ByteArray) : Bool := s.toList == ByteArray.toList ⟨#[]⟩
def chkR (x : Rec) : Int := if inO x.off = true ∧ inO x.stamp = true ∧ x.key.size ≤ 64 ∧ x.val.size ≤ 64 ∧ ¬ (x.dead = true ∧ (isE x.key = true ∨ isE x.val = false)) then 0 else 1
theorem bin_seq (a : ByteArray) : binV .eql (.string a) (.string ⟨#[]⟩) = some (.bool (isE a)) := rfl
theorem bin_sne (a : ByteArray) : binV .neq (.string a) (.string ⟨#[]⟩) = some (.bool (!isE a)) := rfl
theorem chkR_1 {x : Rec} (h : inO x.off = false ∨ inO x.stamp = false ∨ 64 < x.key.size ∨ 64 < x.val.size ∨ (x.dead = true ∧ (isE x.key = true ∨ isE x.val = false))) : chkR x = 1 := by
 refine if_neg fun ⟨h1, h2, h3, h4, h5⟩ => ?_
 rcases h with h | h | h | h | h
 ·rw [h1] at h; cases h
 ·rw [h2] at h; cases h
 ·omega
 ·omega
 ·exact h5 h
theorem RCheck_ok (x : Rec) (G : Nat → Option Obj) : FnS Tryz.prog 96 #[.agg (cellR x).toArray] G (.int .i64 (chkR x)) := by
 refine F96.fnS (by simp) (go_of ?_)
 unfold c96 cellR
 intros; refine gr 0 0 ?_; refine sJ c96r0.eq_1 ?_
 have hbad : ∀ (fr : List Td) (e : Env) (L : List Kx.Item), chkR x = 1 → go none Tryz.prog 39 v96.1 v96.2 (retQ o96 fun v h => v = .int .i64 (chkR x)) (Td.s ((SC.reg false c96r2).seq .ret) :: fr) e ⟨G, L, []⟩ := fun fr e L hx => by
  intros; refine gr 0 0 ?_; refine sJ c96r2.eq_1 ?_
  intros; refine rV ?_; simp only [push_cast, Nat.reduceBEq]
  rw [hx]
 have hgood : ∀ (e : Env) (L : List Kx.Item), chkR x = 0 → go none Tryz.prog 39 v96.1 v96.2 (retQ o96 fun v h => v = .int .i64 (chkR x)) [Td.s ((SC.reg false c96r3).seq .ret)] e ⟨G, L, []⟩ := fun e L hx => by
  intros; refine gr 0 0 ?_; refine sJ c96r3.eq_1 ?_
  intros; refine rV ?_; simp only [push_cast, Nat.reduceBEq]
  rw [hx]
 intros; refine gr 4 38 ?_; refine sJ c96r1.eq_1 ?_
 refine (In_ok x.off G _ _).mono ?_; rintro _ _ ⟨rfl, rfl⟩; refine sI ?_
 refine gd (fun h1 => ?_) (fun h1 => ?_)
 ·refine sI ?_
  intros; refine gc ?_; refine sI ?_
  exact hbad _ _ _ (chkR_1 (.inl (by simpa using h1)))
 refine sI ?_
 refine (In_ok x.stamp G _ _).mono ?_; rintro _ _ ⟨rfl, rfl⟩; refine sI ?_
 refine gd (fun h2 => ?_) (fun h2 => ?_)
 ·refine sI ?_
  intros; refine gc ?_; refine sI ?_
  exact hbad _ _ _ (chkR_1 (.inr (.inl (by simpa using h2))))
 refine sI ?_
 refine gd (fun h3 => ?_) (fun h3 => ?_)
 ·refine sI ?_
  intros; refine gc ?_; refine sI ?_
  exact hbad _ _ _ (chkR_1 (.inr (.inr (.inl (by simp at h3; omega)))))
 refine sI ?_
 refine gd (fun h4 => ?_) (fun h4 => ?_)
 ·refine sI ?_
  intros; refine gc ?_; refine sI ?_
  exact hbad _ _ _ (chkR_1 (.inr (.inr (.inr (.inl (by simp at h4; omega))))))
 refine sI ?_
 have h1' : inO x.off = true := by simpa using h1
 have h2' : inO x.stamp = true := by simpa using h2
 have h3' : x.key.size ≤ 64 := by simp at h3; omega
 have h4' : x.val.size ≤ 64 := by simp at h4; omega
 refine gd (fun h5 => ?_) (fun h5 => ?_)
 ·refine sJ @bin_seq ?_
  refine gd (fun h6 => ?_) (fun h6 => ?_)
  ·refine sI ?_
   intros; refine gc ?_; refine sI ?_
   exact hbad _ _ _ (chkR_1 (.inr (.inr (.inr (.inr ⟨h5, .inl h6⟩)))))
  refine sJ @bin_sne ?_
  intros; refine gc ?_; refine sI ?_
  refine gb (fun h7 => ?_) (fun h7 => ?_)
  ·exact hbad _ _ _ (chkR_1 (.inr (.inr (.inr (.inr ⟨h5, .inr (by simpa using h7)⟩)))))
  ·(repeat first | refine go_skip ?_ | refine go_b ?_)
   refine hgood _ _ (if_pos ⟨h1', h2', h3', h4', fun h => ?_⟩)
   rcases h.2 with h | h
   ·rw [h6] at h; cases h
   ·simp [h] at h7
 ·refine sI ?_
  intros; refine gc ?_; refine sI ?_
  (repeat first | refine go_skip ?_ | refine go_b ?_)
  exact hgood _ _ (if_pos ⟨h1', h2', h3', h4', fun h => by rw [h5] at h; cases h.1⟩)
theorem Check_ok (x : Rec) (G : Nat → Option Obj) : FnS Tryz.prog 108 #[.agg (cellR x).toArray] G (.int .i64 (chkR x)) := by
 refine F108.fnS (by simp) (go_of ?_)
 unfold c108 cellR
 intros; refine gr 0 0 ?_; refine sJ c108r0.eq_1 ?_
 have hbad : ∀ (fr : List Td) (e : Env) (L : List Kx.Item), chkR x = 1 → go none Tryz.prog 33 v108.1 v108.2 (retQ o108 fun v h => v = .int .i64 (chkR x)) (Td.s ((SC.reg false c108r4).seq .ret) :: fr) e ⟨G, L, []⟩ := fun fr e L hx => by
  intros; refine gr 0 0 ?_; refine sJ c108r4.eq_1 ?_
  intros; refine rV ?_; simp only [push_cast, Nat.reduceBEq]
  rw [hx]
 intros; refine gr 5 8 ?_; refine sJ c108r1.eq_1 ?_
 refine (in_ok x.off G _ _).mono ?_; rintro _ _ ⟨rfl, rfl⟩; refine sI ?_
 intros; refine gc ?_; refine sI ?_
 refine gb (fun h1 => ?_) (fun h1 => ?_)
 ·(repeat first | refine go_skip ?_ | refine go_b ?_)
  intros; refine gc ?_; refine sI ?_
  refine gb (fun _ => ?_) (fun h => by rw [h1] at h; cases h)
  exact hbad _ _ _ (chkR_1 (.inl (by simpa using h1)))
 intros; refine gr 9 12 ?_; refine sJ c108r2.eq_1 ?_
 refine (in_ok x.stamp G _ _).mono ?_; rintro _ _ ⟨rfl, rfl⟩; refine sI ?_
 intros; refine gc ?_; refine sI ?_
 refine gb (fun h2 => ?_) (fun h2 => ?_)
 ·(repeat first | refine go_skip ?_ | refine go_b ?_)
  intros; refine gc ?_; refine sI ?_
  refine gb (fun _ => ?_) (fun h => by rw [h2] at h; cases h)
  exact hbad _ _ _ (chkR_1 (.inr (.inl (by simpa using h2))))
 have h1' : inO x.off = true := by simpa using h1
 have h2' : inO x.stamp = true := by simpa using h2
 intros; refine gr 13 20 ?_; refine sJ c108r3.eq_1 ?_
 intros; refine gc ?_; refine sI ?_
 refine gb (fun h3 => ?_) (fun h3 => ?_)
 ·have h3 := of_decide_eq_true h3
  by_cases h4 : 64 < x.key.size
  ·exact hbad _ _ _ (chkR_1 (.inr (.inr (.inl h4))))
  ·exact hbad _ _ _ (chkR_1 (.inr (.inr (.inr (.inl (by omega))))))
 have h3 := of_decide_eq_false h3
 have h3' : x.key.size ≤ 64 := by omega
 have h4' : x.val.size ≤ 64 := by omega
 have hbad2 : ∀ (fr : List Td) (e : Env) (L : List Kx.Item), chkR x = 1 → go none Tryz.prog 33 v108.1 v108.2 (retQ o108 fun v h => v = .int .i64 (chkR x)) (Td.s ((SC.reg false c108r6).seq .ret) :: fr) e ⟨G, L, []⟩ := fun fr e L hx => by
  intros; refine gr 0 0 ?_; refine sJ c108r6.eq_1 ?_
  intros; refine rV ?_; simp only [push_cast, Nat.reduceBEq]
  rw [hx]
 have hgood : ∀ (e : Env) (L : List Kx.Item), chkR x = 0 → go none Tryz.prog 33 v108.1 v108.2 (retQ o108 fun v h => v = .int .i64 (chkR x)) [Td.s ((SC.reg false c108r7).seq .ret)] e ⟨G, L, []⟩ := fun e L hx => by
  intros; refine gr 0 0 ?_; refine sJ c108r7.eq_1 ?_
  intros; refine rV ?_; simp only [push_cast, Nat.reduceBEq]
  rw [hx]
 intros; refine gr 22 33 ?_; refine sJ c108r5.eq_1 ?_
 refine gd (fun h5 => ?_) (fun h5 => ?_)
 ·refine sJ @bin_seq ?_
  refine gd (fun h6 => ?_) (fun h6 => ?_)
  ·refine sI ?_
   intros; refine gc ?_; refine sI ?_
   exact hbad2 _ _ _ (chkR_1 (.inr (.inr (.inr (.inr ⟨h5, .inl h6⟩)))))
  refine sJ @bin_sne ?_
  intros; refine gc ?_; refine sI ?_
  refine gb (fun h7 => ?_) (fun h7 => ?_)
  ·exact hbad2 _ _ _ (chkR_1 (.inr (.inr (.inr (.inr ⟨h5, .inr (by simpa using h7)⟩)))))
  ·(repeat first | refine go_skip ?_ | refine go_b ?_)
   refine hgood _ _ (if_pos ⟨h1', h2', h3', h4', fun h => ?_⟩)
   rcases h.2 with h | h
   ·rw [h6] at h; cases h
   ·simp [h] at h7
 ·refine sI ?_
  intros; refine gc ?_; refine sI ?_
  (repeat first | refine go_skip ?_ | refine go_b ?_)
  exact hgood _ _ (if_pos ⟨h1', h2', h3', h4', fun h => by rw [h5] at h; cases h.1⟩)
theorem F110 : Fun Tryz.prog 110 46 v110 c110 o110 := Fun.mk' Tryz.func110 Tryz.ntmps110 (by kernel_rfl) (by kernel_rfl) s110 q110
theorem F98 : Fun Tryz.prog 98 50 v98 c98 o98 := Fun.mk' Tryz.func98 Tryz.ntmps98 (by kernel_rfl) (by kernel_rfl) s98 q98
def prB (x : Rec) (base stamp : Int) : List UInt8 := pvB (x.off - base) ++ pvB (x.stamp - stamp) ++ [if x.dead = true then 1 else 0] ++ ptB x.key ++ ptB x.val
def putR (x : Rec) (base stamp : Int) : List UInt8 × Int := if chkR x ≠ 0 then ([], chkR x) else if ¬ (inO base = true ∧ inO stamp = true) then ([], 1) else (prB x base stamp, 0)
def OwnE (p : List UInt8 × Int) (L' : List Kx.Item) (r : Value) : Prop := ∃ u, r = .tuple #[u, .int .i64 p.2] ∧ OwnB p.1 L' u
theorem chk_small {x : Rec} (h : chkR x = 0) : (inO x.off = true ∧ inO x.stamp = true) ∧ x.key.size ≤ 64 ∧ x.val.size ≤ 64 := by
 by_cases h0 : inO x.off = true ∧ inO x.stamp = true ∧ x.key.size ≤ 64 ∧ x.val.size ≤ 64 ∧ ¬ (x.dead = true ∧ (isE x.key = true ∨ isE x.val = false))
 ·exact ⟨⟨h0.1, h0.2.1⟩, h0.2.2.1, h0.2.2.2.1⟩
 ·rw [chkR, if_neg h0] at h; cases h
theorem RPut_ok (x : Rec) (base stamp : Int) (G : Nat → Option Obj) : FnO Tryz.prog 98 #[.agg (cellR x).toArray, .int .i64 base, .int .i64 stamp] G [] (fun _ L' r => OwnE (putR x base stamp) L' r) := by
 refine F98.fnO (by simp) noRegs_nil (go_of ?_)
 unfold c98
 have hck := RCheck_ok x
 unfold cellR at hck ⊢
 intros; refine gr 0 0 ?_; refine sJ c98r0.eq_1 ?_
 intros; refine gr 10 12 ?_; refine sJ c98r1.eq_1 ?_
 refine (hck G _ _).mono ?_; rintro _ _ ⟨rfl, rfl⟩; refine sI ?_
 intros; refine gr 12 13 ?_; refine sJ c98r2.eq_1 ?_
 intros; refine gc ?_; refine sI ?_
 refine gb (fun h1 => ?_) (fun h1 => ?_)
 ·intros; refine gr 14 15 ?_; refine sJ c98r3.eq_1 ?_
  (intros; try refine go_st ?_)
  refine go_ghost (ghost_nil none 5 1) ?_
  refine go_ret (retQ_o _ rfl (.cons_cons _ (List.nil_sublist _)) (noRegs_row noRegs_nil) ?_)
  rw [putR, if_pos (by simpa using h1)]
  exact ⟨_, rfl, [], .nil, rfl⟩
 have h1 : chkR x = 0 := by simpa using h1
 have hbad : ∀ (fr : List Td) (e : Env) (L : List Kx.Item), putR x base stamp = ([], 1) → go none Tryz.prog 50 v98.1 v98.2 (retQ o98 fun v h => OwnE (putR x base stamp) h.L v) (Td.s ((SC.reg false c98r5).seq .ret) :: fr) e ⟨G, L, []⟩ := fun fr e L hx => by
  intros; refine gr 0 0 ?_; refine sJ c98r5.eq_1 ?_
  (intros; try refine go_st ?_)
  refine go_ghost (ghost_nil none 5 1) ?_
  refine go_ret (retQ_o _ rfl (.cons_cons _ (List.nil_sublist _)) (noRegs_row noRegs_nil) ?_)
  rw [hx]
  exact ⟨_, rfl, [], .nil, rfl⟩
 have hpb : ∀ (h : ¬ (inO base = true ∧ inO stamp = true)), putR x base stamp = ([], 1) := fun h => by rw [putR, if_neg (by simp [h1]), if_pos h]
 intros; refine gr 15 22 ?_; refine sJ c98r4.eq_1 ?_
 refine (In_ok base G _ _).mono ?_; rintro _ _ ⟨rfl, rfl⟩; refine sI ?_
 refine gd (fun h2 => ?_) (fun h2 => ?_)
 ·refine sI ?_
  intros; refine gc ?_; refine sI ?_
  exact hbad _ _ _ (hpb fun h => by rw [h.1] at h2; cases h2)
 refine sI ?_
 refine (In_ok stamp G _ _).mono ?_; rintro _ _ ⟨rfl, rfl⟩; refine sI ?_
 intros; refine gc ?_; refine sI ?_
 refine gb (fun h3 => ?_) (fun h3 => ?_)
 ·exact hbad _ _ _ (hpb fun h => by rw [h.2] at h3; cases h3)
 have h2 : inO base = true := by simpa using h2
 have h3 : inO stamp = true := by simpa using h3
 obtain ⟨⟨ho, hst⟩, hk, hv⟩ := chk_small h1
 have hput : putR x base stamp = (prB x base stamp, 0) := by rw [putR, if_neg (by simp [h1]), if_neg (by simp [h2, h3])]
 simp [inO] at h2 h3 ho hst
 have w1 : IntKind.i64.wrap (x.off - base) = x.off - base := by rw [w64_id] <;> omega
 have w2 : IntKind.i64.wrap (x.stamp - stamp) = x.stamp - stamp := by rw [w64_id] <;> omega
 have i1 : I64 (x.off - base) := by unfold I64; omega
 have i2 : I64 (x.stamp - stamp) := by unfold I64; omega
 have l1 := pvB_len (x.off - base)
 have l2 := pvB_len (x.stamp - stamp)
 (repeat first | refine go_skip ?_ | refine go_b ?_)
 intros; refine gr 24 28 ?_; refine sJ2 c98r6.eq_1 @w1 ?_
 refine (RPutVar_ok [] (x.off - base) i1 _ G SB.nil (by simp) _ []).mono ?_
 rintro r h' ⟨G1, L', rfl, hg1, ys, hys, rfl⟩
 simp only [List.nil_append] at hys ⊢
 refine sI ?_
 intros; refine gr 28 34 ?_; refine sJ2 c98r7.eq_1 @w2 ?_
 refine callsH_gx F97.enters (gx_slv_at [] _ (by decide) hys) ?_
 rintro h' ⟨G2, rfl, hg2, hv2⟩
 refine (RPutVar_ok _ (x.stamp - stamp) i2 _ G2 hv2 (by omega) _ []).mono ?_
 rintro r h' ⟨G3, L', rfl, hg3, ys3, hys3, rfl⟩
 refine sI ?_
 have hrest : ∀ (e : Env) (L : List Kx.Item) (u : Value) (zc : List Value) (b : UInt8), b = (if x.dead = true then 1 else 0) → Cells UE 1 (pvB (x.off - base) ++ pvB (x.stamp - stamp) ++ [b]) zc → e 9 = u →
   go none Tryz.prog 50 v98.1 v98.2 (retQ o98 fun v h => OwnE (putR x base stamp) h.L v) [Td.s ((SC.reg false c98r11).seq ((SC.reg false c98r12).seq .ret))] e ⟨G3, [.row u 5 1 (pvB (x.off - base) ++ pvB (x.stamp - stamp) ++ [b]).length zc, .reg 3 [.int .i64 x.off, .string x.key, .string x.val, .bool x.dead, .int .i64 x.stamp]], []⟩ := fun e L u zc b hb hzc e9 => by
  refine go_keep [9] ?_
  refine sJ @e9 ?_
  intros; refine gr 42 46 ?_; refine sJ c98r11.eq_1 ?_
  refine callsH_gx F114.enters (gx_slv_at [] _ (by decide) hzc) ?_
  rintro h' ⟨G4, rfl, hg4, hv4⟩
  refine (RPutText_ok _ x.key _ G4 hv4 (by simp; omega) (by omega) _ []).mono ?_
  rintro r h' ⟨G5, L', rfl, hg5, ys5, hys5, rfl⟩
  refine sI ?_
  have l3 := ptB_len x.key
  intros; refine gr 46 50 ?_; refine sJ c98r12.eq_1 ?_
  refine callsH_gx F114.enters (gx_slv_at [] _ (by decide) hys5) ?_
  rintro h' ⟨G6, rfl, hg6, hv6⟩
  refine (RPutText_ok _ x.val _ G6 hv6 (by simp; omega) (by omega) _ []).mono ?_
  rintro r h' ⟨G7, L', rfl, hg7, ys7, hys7, rfl⟩
  refine sI ?_
  (intros; try refine go_st ?_)
  refine go_ret (retQ_o _ rfl (.cons_cons _ (List.nil_sublist _)) (noRegs_row noRegs_nil) ?_)
  rw [hput]
  subst hb
  exact ⟨_, rfl, ys7, hys7, rfl⟩
 intros; refine gr 0 0 ?_; refine sJ c98r8.eq_1 ?_
 intros; refine gc ?_; refine sI ?_
 refine gb (fun h5 => ?_) (fun h5 => ?_)
 ·intros; refine gr 36 39 ?_; refine sJ c98r9.eq_1 ?_
  intro bk hbk
  refine app8 (L1 := []) (L2 := [_]) (x := 1) rfl rfl hys3 (by simp; omega) fun A' c' zc' hzc => ?_
  refine sI ?_
  intro _
  refine go_ghost (ghost_sub (.cons _ (List.Sublist.refl _))) ?_
  (repeat first | refine go_skip ?_ | refine go_b ?_)
  refine hrest _ [] _ _ 1 (by rw [if_pos h5]) hzc ?_
  (refine sI ?_; try with_reducible exact True.intro)
 ·intros; refine gr 39 42 ?_; refine sJ c98r10.eq_1 ?_
  intro bk hbk
  refine app8 (L1 := []) (L2 := [_]) (x := 0) rfl rfl hys3 (by simp; omega) fun A' c' zc' hzc => ?_
  refine sI ?_
  intro _
  refine go_ghost (ghost_sub (.cons _ (List.Sublist.refl _))) ?_
  (repeat first | refine go_skip ?_ | refine go_b ?_)
  refine hrest _ [] _ _ 0 (by rw [if_neg (by rw [h5]; simp)]) hzc ?_
  (refine sI ?_; try with_reducible exact True.intro)
theorem Put_ok (x : Rec) (base stamp : Int) (G : Nat → Option Obj) : FnO Tryz.prog 110 #[.agg (cellR x).toArray, .int .i64 base, .int .i64 stamp] G [] (fun _ L' r => OwnE (putR x base stamp) L' r) := by
 refine F110.fnO (by simp) noRegs_nil (go_of ?_)
 unfold c110
 have hck := Check_ok x
 unfold cellR at hck ⊢
 intros; refine gr 0 0 ?_; refine sJ c110r0.eq_1 ?_
 intros; refine gr 11 13 ?_; refine sJ c110r1.eq_1 ?_
 refine (hck G _ _).mono ?_; rintro _ _ ⟨rfl, rfl⟩; refine sI ?_
 intros; refine gr 13 14 ?_; refine sJ c110r2.eq_1 ?_
 intros; refine gc ?_; refine sI ?_
 refine gb (fun h1 => ?_) (fun h1 => ?_)
 ·intros; refine gr 15 16 ?_; refine sJ c110r3.eq_1 ?_
  (intros; try refine go_st ?_)
  refine go_ghost (ghost_nil none 5 1) ?_
  refine go_ret (retQ_o _ rfl (.cons_cons _ (List.nil_sublist _)) (noRegs_row noRegs_nil) ?_)
  rw [putR, if_pos (by simpa using h1)]
  exact ⟨_, rfl, [], .nil, rfl⟩
 have h1 : chkR x = 0 := by simpa using h1
 have hbad : ∀ (fr : List Td) (e : Env) (L : List Kx.Item), putR x base stamp = ([], 1) → go none Tryz.prog 46 v110.1 v110.2 (retQ o110 fun v h => OwnE (putR x base stamp) h.L v) (Td.s ((SC.reg false c110r5).seq .ret) :: fr) e ⟨G, L, []⟩ := fun fr e L hx => by
  intros; refine gr 0 0 ?_; refine sJ c110r5.eq_1 ?_
  (intros; try refine go_st ?_)
  refine go_ghost (ghost_nil none 5 1) ?_
  refine go_ret (retQ_o _ rfl (.cons_cons _ (List.nil_sublist _)) (noRegs_row noRegs_nil) ?_)
  rw [hx]
  exact ⟨_, rfl, [], .nil, rfl⟩
 have hpb : ∀ (h : ¬ (inO base = true ∧ inO stamp = true)), putR x base stamp = ([], 1) := fun h => by rw [putR, if_neg (by simp [h1]), if_pos h]
 (repeat first | refine go_skip ?_ | refine go_b ?_)
 intros; refine gr 16 23 ?_; refine sJ c110r4.eq_1 ?_
 refine (in_ok base G _ _).mono ?_; rintro _ _ ⟨rfl, rfl⟩; refine sI ?_
 refine gd (fun h2 => ?_) (fun h2 => ?_)
 ·refine sI ?_
  intros; refine gc ?_; refine sI ?_
  exact hbad _ _ _ (hpb fun h => by rw [h.1] at h2; cases h2)
 refine sI ?_
 refine (in_ok stamp G _ _).mono ?_; rintro _ _ ⟨rfl, rfl⟩; refine sI ?_
 intros; refine gc ?_; refine sI ?_
 refine gb (fun h3 => ?_) (fun h3 => ?_)
 ·exact hbad _ _ _ (hpb fun h => by rw [h.2] at h3; cases h3)
 have h2 : inO base = true := by simpa using h2
 have h3 : inO stamp = true := by simpa using h3
 obtain ⟨⟨ho, hst⟩, hk, hv⟩ := chk_small h1
 have hput : putR x base stamp = (prB x base stamp, 0) := by rw [putR, if_neg (by simp [h1]), if_neg (by simp [h2, h3])]
 simp [inO] at h2 h3 ho hst
 have w1 : IntKind.i64.wrap (x.off - base) = x.off - base := by rw [w64_id] <;> omega
 have w2 : IntKind.i64.wrap (x.stamp - stamp) = x.stamp - stamp := by rw [w64_id] <;> omega
 have i1 : I64 (x.off - base) := by unfold I64; omega
 have i2 : I64 (x.stamp - stamp) := by unfold I64; omega
 have l1 := pvB_len (x.off - base)
 have l2 := pvB_len (x.stamp - stamp)
 (repeat first | refine go_skip ?_ | refine go_b ?_)
 have hrest : ∀ (e : Env) (b : UInt8), b = (if x.dead = true then 1 else 0) → e 1 = .int .i64 base → e 2 = .int .i64 stamp → e 9 = .int .u8 (b.toNat : Int) →
   go none Tryz.prog 46 v110.1 v110.2 (retQ o110 fun v h => OwnE (putR x base stamp) h.L v) [Td.s ((SC.rgX c110r9).seq ((SC.rgX c110r10).seq .ret))] e ⟨G, [.reg 3 [.int .i64 x.off, .string x.key, .string x.val, .bool x.dead, .int .i64 x.stamp]], []⟩ := fun e b hb e1 e2 e9 => by
  refine go_keep [1, 2, 9] ?_
  refine sJ3 @e1 @e2 @e9 ?_
  (intros; try refine go_st ?_); refine go_x _ (List.Sublist.refl _) (by decide) ?_; refine sJ3 c110r9.eq_1 @w1 @w2 ?_
  refine (PutVar_ok [] (x.off - base) i1 _ G SB.nil (by simp) _ []).mono ?_
  rintro r h' ⟨G1, L', rfl, hg1, ys, hys, rfl⟩
  simp only [List.nil_append] at hys ⊢
  refine ⟨grow_L hg1 (.cons _ (List.Sublist.refl _)), ?_⟩
  refine sI ?_
  refine callsH_gx F109.enters (gx_slv_at [] _ (by decide) hys) ?_
  rintro h' ⟨G2, rfl, hg2, hv2⟩
  refine (PutVar_ok _ (x.stamp - stamp) i2 _ G2 hv2 (by omega) _ []).mono ?_
  rintro r h' ⟨G3, L', rfl, hg3, ys3, hys3, rfl⟩
  refine ⟨grow_L (hg1.trans (hg2.trans hg3)) (.cons _ (List.Sublist.refl _)), ?_⟩
  refine sI ?_
  (intros; try refine go_st ?_); refine go_x _ (.cons _ (List.Sublist.refl _)) (by decide) ?_; refine sJ c110r10.eq_1 ?_
  intro bk hbk
  refine ⟨grow_L (fun _ _ h => h) (.cons _ (.cons _ (List.Sublist.refl _))), ?_⟩
  refine sI ?_
  refine app8 (L1 := []) (L2 := [_]) (x := b) rfl rfl hys3 (by simp; omega) fun A' c' zc' hzc => ?_
  refine sI ?_
  refine ⟨grow_L (fun _ _ h => h) (.cons _ (.cons _ (List.Sublist.refl _))), ?_⟩
  refine sI ?_
  refine callsH_gx F125.enters (gx_slv_at [_] _ (by decide) hzc) ?_
  rintro h' ⟨G4, rfl, hg4, hv4⟩
  refine (PutText_ok _ x.key _ G4 hv4 (by simp; omega) (by omega) _ []).mono ?_
  rintro r h' ⟨G5, L', rfl, hg5, ys5, hys5, rfl⟩
  refine ⟨grow_L (hg4.trans hg5) (.cons _ (.cons _ (List.Sublist.refl _))), ?_⟩
  refine sI ?_
  have l3 := ptB_len x.key
  refine callsH_gx F125.enters (gx_slv_at [] _ (by decide) hys5) ?_
  rintro h' ⟨G6, rfl, hg6, hv6⟩
  refine (PutText_ok _ x.val _ G6 hv6 (by simp; omega) (by omega) _ []).mono ?_
  rintro r h' ⟨G7, L', rfl, hg7, ys7, hys7, rfl⟩
  refine ⟨grow_L (hg4.trans (hg5.trans (hg6.trans hg7))) (.cons _ (.cons _ (List.Sublist.refl _))), ?_⟩
  refine sI ?_
  (intros; try refine go_st ?_)
  refine go_ret (retQ_o _ rfl (.cons_cons _ (List.nil_sublist _)) (noRegs_row noRegs_nil) ?_)
  rw [hput]
  subst hb
  exact ⟨_, rfl, ys7, hys7, rfl⟩
 intros; refine gr 0 0 ?_; refine sJ c110r6.eq_1 ?_
 intros; refine gr 0 0 ?_; refine sJ c110r7.eq_1 ?_
 intros; refine gc ?_; refine sI ?_
 refine gb (fun h5 => ?_) (fun h5 => ?_)
 ·intros; refine gr 0 0 ?_; refine sJ c110r8.eq_1 ?_
  (repeat first | (with_reducible intro _) | refine go_skip ?_ | refine go_b ?_)
  refine hrest _ 1 (by rw [if_pos h5]) ?_ ?_ ?_ <;> (refine sI ?_; try with_reducible exact True.intro)
  rfl
 ·(repeat first | refine go_skip ?_ | refine go_b ?_)
  refine hrest _ 0 (by rw [if_neg (by rw [h5]; simp)]) ?_ ?_ ?_ <;> (refine sI ?_; try with_reducible exact True.intro)
  rfl
theorem F107 : Fun Tryz.prog 107 14 v107 c107 o107 := Fun.mk' Tryz.func107 Tryz.ntmps107 (by kernel_rfl) (by kernel_rfl) s107 q107
theorem F122 : Fun Tryz.prog 122 25 v122 c122 o122 := Fun.mk' Tryz.func122 Tryz.ntmps122 (by kernel_rfl) (by kernel_rfl) s122 q122
theorem F123 : Fun Tryz.prog 123 25 v123 c123 o123 := Fun.mk' Tryz.func123 Tryz.ntmps123 (by kernel_rfl) (by kernel_rfl) s123 q123
theorem F95 : Fun Tryz.prog 95 12 v95 c95 o95 := Fun.mk' Tryz.func95 Tryz.ntmps95 (by kernel_rfl) (by kernel_rfl) s95 q95
def IE (x : Int) (cs : List Value) : Prop := cs = [.int .i64 x] ∧ I64 x
def rng (m n : Int) : Bool := decide (0 ≤ n) && decide (n ≤ m)
theorem rin_ok (n m : Int) (G : Nat → Option Obj) : FnS Tryz.prog 95 #[.int .i64 n, .int .i64 m] G (.bool (rng m n)) := by
 refine F95.fnS (by simp) (go_of ?_)
 unfold c95
 intros; refine gr 0 0 ?_; refine sJ c95r0.eq_1 ?_
 intros; refine gr 5 12 ?_; refine sJ c95r1.eq_1 ?_
 refine gd (fun h1 => ?_) (fun h1 => ?_)
 ·refine sI ?_
  intros; refine rV ?_; simp only [push_cast, Nat.reduceBEq]
  have : 0 ≤ n := by simpa using h1
  simp [rng, this]
 ·refine sI ?_
  intros; refine rV ?_; simp only [push_cast, Nat.reduceBEq]
  have : ¬ 0 ≤ n := by simpa using h1
  simp [rng, this]
theorem take1 {l : List Int} {k : Nat} {x y : Int} (h0 : l[0]? = some y) (hx : l[k]? = some x) (f : Int → Int → Int) (hk : 0 < k) : ((l.drop 1).take k).foldl f y = f (((l.drop 1).take (k - 1)).foldl f y) x := by
 have hl := List.getElem?_eq_some_iff.1 hx
 obtain ⟨k, rfl⟩ : ∃ j, k = j + 1 := ⟨k - 1, by omega⟩
 have h1 : (l.drop 1)[k]? = some x := by rw [List.getElem?_drop, Nat.add_comm]; exact hx
 have h2 := List.getElem?_eq_some_iff.1 h1
 rw [List.take_succ_eq_append_getElem h2.1, h2.2]
 simp
theorem Min_ok (l : List Int) (y : Int) (h0 : l[0]? = some y) (v : Value) (G : Nat → Option Obj) (hl : SlV G IE 1 v l) : FnS Tryz.prog 122 #[v] G (.int .i64 ((l.drop 1).foldl min y)) := by
 refine F122.fnS (by simp) (go_of ?_)
 obtain ⟨A, c, rfl, hc, hm, hA⟩ := hl
 have hpos := (List.getElem?_eq_some_iff.1 h0).1
 unfold c122
 intros; refine gr 0 0 ?_; refine sJ c122r0.eq_1 ?_
 intros; refine gr 5 7 ?_; refine sJ c122r1.eq_1 ?_
 intros; refine gc ?_; refine sI ?_
 refine gb (fun h1 => by simp at h1; omega) (fun h1 => ?_)
 (repeat first | refine go_skip ?_ | refine go_b ?_)
 intros; refine gr 9 12 ?_; refine sJ c122r2.eq_1 ?_
 refine hA.x_l1 h0 rfl rfl ?_
 rintro a1 ha1 u1 ⟨hu, -⟩
 cases hu
 refine sI ?_
 intros; refine gr 0 0 ?_; refine sJ c122r3.eq_1 ?_
 (intros; try refine go_st ?_)
 refine go_loop (fun e h => ∃ k : Nat, (0 < k ∧ k ≤ l.length) ∧ e 4 = .int .i64 k ∧ e 0 = .slice A l.length c ∧ e 3 = .int .i64 (((l.drop 1).take (k - 1)).foldl min y) ∧ h = ⟨G, [], []⟩) (fun e h => l.length - iv (e 4)) ?_ ?_
 ·exact ⟨1, ⟨by omega, by omega⟩, by refine sI ?_; rfl, eE, by refine sI ?_; rfl, rfl⟩
 ·rintro e h ⟨k, ⟨hk0, hk⟩, e4, e0, e3, rfl⟩
  refine go_keep [0, 3, 4] ?_
  refine sJ3 @e0 @e3 @e4 ?_
  intros; refine gr 12 15 ?_; refine sJ c122r4.eq_1 ?_
  intros; refine gc ?_; refine sI ?_
  refine gb (fun ht => ?_) (fun ht => ?_)
  ·have hkl : k < l.length := by simpa using ht
   have hw3 := inc_i k c (by omega) hm
   obtain ⟨x, hx⟩ : ∃ x, l[k]? = some x := ⟨l[k], List.getElem?_eq_getElem (by omega)⟩
   (repeat first | refine go_skip ?_ | refine go_b ?_)
   intros; refine gr 18 24 ?_; refine sJ c122r5.eq_1 ?_
   refine hA.x_l1 hx rfl rfl ?_
   rintro a1 ha1 u1 ⟨hu, -⟩
   cases hu
   refine sI ?_
   intros; refine gr 16 18 ?_; refine sJ2 c122r6.eq_1 @hw3 ?_
   (intros; try refine go_st ?_)
   refine go_l ⟨⟨k + 1, ⟨by omega, by omega⟩, eE, eE, by rw [Nat.add_sub_cancel, take1 h0 hx min hk0]; (refine sI ?_; try with_reducible exact True.intro), rfl⟩, ?_⟩
   refine sI ?_
   omega
  ·have hkl : k = l.length := by simp at ht; omega
   subst hkl
   refine go_exit ?_
   refine sI ?_
   intros; refine gr 24 25 ?_; refine sJ c122r7.eq_1 ?_
   intros; refine rV ?_; simp only [push_cast, Nat.reduceBEq]
   rw [List.take_of_length_le (by simp)]
theorem Max_ok (l : List Int) (y : Int) (h0 : l[0]? = some y) (v : Value) (G : Nat → Option Obj) (hl : SlV G IE 1 v l) : FnS Tryz.prog 123 #[v] G (.int .i64 ((l.drop 1).foldl max y)) := by
 refine F123.fnS (by simp) (go_of ?_)
 obtain ⟨A, c, rfl, hc, hm, hA⟩ := hl
 have hpos := (List.getElem?_eq_some_iff.1 h0).1
 unfold c123
 intros; refine gr 0 0 ?_; refine sJ c123r0.eq_1 ?_
 intros; refine gr 5 7 ?_; refine sJ c123r1.eq_1 ?_
 intros; refine gc ?_; refine sI ?_
 refine gb (fun h1 => by simp at h1; omega) (fun h1 => ?_)
 (repeat first | refine go_skip ?_ | refine go_b ?_)
 intros; refine gr 9 12 ?_; refine sJ c123r2.eq_1 ?_
 refine hA.x_l1 h0 rfl rfl ?_
 rintro a1 ha1 u1 ⟨hu, -⟩
 cases hu
 refine sI ?_
 intros; refine gr 0 0 ?_; refine sJ c123r3.eq_1 ?_
 (intros; try refine go_st ?_)
 refine go_loop (fun e h => ∃ k : Nat, (0 < k ∧ k ≤ l.length) ∧ e 4 = .int .i64 k ∧ e 0 = .slice A l.length c ∧ e 3 = .int .i64 (((l.drop 1).take (k - 1)).foldl max y) ∧ h = ⟨G, [], []⟩) (fun e h => l.length - iv (e 4)) ?_ ?_
 ·exact ⟨1, ⟨by omega, by omega⟩, by refine sI ?_; rfl, eE, by refine sI ?_; rfl, rfl⟩
 ·rintro e h ⟨k, ⟨hk0, hk⟩, e4, e0, e3, rfl⟩
  refine go_keep [0, 3, 4] ?_
  refine sJ3 @e0 @e3 @e4 ?_
  intros; refine gr 12 15 ?_; refine sJ c123r4.eq_1 ?_
  intros; refine gc ?_; refine sI ?_
  refine gb (fun ht => ?_) (fun ht => ?_)
  ·have hkl : k < l.length := by simpa using ht
   have hw3 := inc_i k c (by omega) hm
   obtain ⟨x, hx⟩ : ∃ x, l[k]? = some x := ⟨l[k], List.getElem?_eq_getElem (by omega)⟩
   (repeat first | refine go_skip ?_ | refine go_b ?_)
   intros; refine gr 18 24 ?_; refine sJ c123r5.eq_1 ?_
   refine hA.x_l1 hx rfl rfl ?_
   rintro a1 ha1 u1 ⟨hu, -⟩
   cases hu
   refine sI ?_
   intros; refine gr 16 18 ?_; refine sJ2 c123r6.eq_1 @hw3 ?_
   (intros; try refine go_st ?_)
   refine go_l ⟨⟨k + 1, ⟨by omega, by omega⟩, eE, eE, by rw [Nat.add_sub_cancel, take1 h0 hx max hk0]; (refine sI ?_; try with_reducible exact True.intro), rfl⟩, ?_⟩
   refine sI ?_
   omega
  ·have hkl : k = l.length := by simp at ht; omega
   subst hkl
   refine go_exit ?_
   refine sI ?_
   intros; refine gr 24 25 ?_; refine sJ c123r7.eq_1 ?_
   intros; refine rV ?_; simp only [push_cast, Nat.reduceBEq]
   rw [List.take_of_length_le (by simp)]
theorem min_all (m : Int) : ∀ (l : List Int) (y : Int), m ≤ l.foldl min y ↔ m ≤ y ∧ ∀ x ∈ l, m ≤ x
 | [], y => by simp
 | x :: l, y => by
  have h1 : m ≤ min y x ↔ m ≤ y ∧ m ≤ x := by omega
  rw [List.foldl_cons, min_all m l, h1, and_assoc]
  simp
theorem max_all (m : Int) : ∀ (l : List Int) (y : Int), l.foldl max y ≤ m ↔ y ≤ m ∧ ∀ x ∈ l, x ≤ m
 | [], y => by simp
 | x :: l, y => by
  have h1 : max y x ≤ m ↔ y ≤ m ∧ x ≤ m := by omega
  rw [List.foldl_cons, max_all m l, h1, and_assoc]
  simp
theorem within_all (m : Int) (l : List Int) (y : Int) : (decide (0 ≤ l.foldl min y) && decide (l.foldl max y ≤ m)) = (y :: l).all (rng m) := by
 rw [Bool.eq_iff_iff]
 simp only [Bool.and_eq_true, decide_eq_true_eq, min_all, max_all, List.all_eq_true, rng, List.mem_cons]
 constructor
 ·rintro ⟨⟨h1, h2⟩, h3, h4⟩ x (rfl | hx)
  ·exact ⟨h1, h3⟩
  ·exact ⟨h2 x hx, h4 x hx⟩
 ·intro h
  exact ⟨⟨(h y (.inl rfl)).1, fun x hx => (h x (.inr hx)).1⟩, (h y (.inl rfl)).2, fun x hx => (h x (.inr hx)).2⟩
theorem within_ok (m : Int) (y : Int) (l : List Int) (v : Value) (G : Nat → Option Obj) (hl : SlV G IE 1 v (y :: l)) : FnS Tryz.prog 107 #[.int .i64 m, v] G (.bool ((y :: l).all (rng m))) := by
 refine F107.fnS (by simp) (go_of ?_)
 rw [← within_all]
 unfold c107
 intros; refine gr 0 0 ?_; refine sJ c107r0.eq_1 ?_
 intros; refine gr 5 14 ?_; refine sJ c107r1.eq_1 ?_
 refine (Min_ok (y :: l) y rfl v G hl _ _).mono ?_; rintro _ _ ⟨rfl, rfl⟩; refine sI ?_
 refine gd (fun h1 => ?_) (fun h1 => ?_)
 ·refine sI ?_
  refine (Max_ok (y :: l) y rfl v G hl _ _).mono ?_; rintro _ _ ⟨rfl, rfl⟩; refine sI ?_
  intros; refine rV ?_; simp only [push_cast, Nat.reduceBEq]
  have h1 : 0 ≤ l.foldl min y := by simpa using h1
  simp [h1]
 ·refine sI ?_
  intros; refine rV ?_; simp only [push_cast, Nat.reduceBEq]
  have h1 : ¬ 0 ≤ l.foldl min y := by simpa using h1
  simp [h1]
theorem F92 : Fun Tryz.prog 92 131 v92 c92 o92 := Fun.mk' Tryz.func92 Tryz.ntmps92 (by kernel_rfl) (by kernel_rfl) s92 q92
structure Batch where
 base : Int
 last : Int
 src : Int
 epoch : Int
 pid : Int
 gen : Int
 seq : Int
 txn : Bool
 ctl : Int
 recs : List Rec
def cellH (x : Batch) (v : Value) : List Value := [.int .i64 x.base, .int .i64 x.last, .int .i64 x.src, .int .i64 x.epoch, .int .i64 x.pid, .int .i64 x.gen, .int .i64 x.seq, .bool x.txn, .int .i64 x.ctl, v]
def BE (G : Nat → Option Obj) (x : Batch) (cs : List Value) : Prop :=
 ∃ A c, cs = cellH x (.slice A x.recs.length c) ∧ (x.recs.length ≤ c ∧ c ≤ maxLen ∧ SlA G RR 5 A x.recs) ∧ I64 x.base ∧ I64 x.last ∧ I64 x.src ∧ I64 x.epoch ∧ I64 x.pid ∧ I64 x.gen ∧ I64 x.seq ∧ I64 x.ctl
theorem BE.le {G G' : Nat → Option Obj} (hg : Gle G G') {x : Batch} {cs : List Value} (h : BE G x cs) : BE G' x cs := by
 obtain ⟨A, c, h1, ⟨h2, h3, h4⟩, h5⟩ := h
 exact ⟨A, c, h1, ⟨h2, h3, h4.le hg fun _ _ h => h⟩, h5⟩
def rowF (last : Int) : Int → List Rec → Bool
 | _, [] => true
 | next, r :: rs => decide (chkR r = 0) && decide (next ≤ r.off) && decide (r.off ≤ last) && rowF last (r.off + 1) rs
def Form (b : Batch) : Prop :=
 (rng 1099511627776 b.base = true ∧ rng 1099511627776 b.last = true ∧ rng 1099511627776 b.src = true) ∧ (rng 1048576 b.epoch = true ∧ rng 1048576 b.gen = true ∧ rng 1048576 b.seq = true) ∧
  (b.base ≤ b.last ∧ b.last - b.base < 16 ∧ b.src + (b.last - b.base) ≤ 1099511627776 ∧ b.seq + (b.last - b.base) ≤ 1048576) ∧ (-1 ≤ b.pid ∧ b.pid ≤ 1099511627776) ∧ (b.pid = -1 → b.gen = 0 ∧ b.seq = 0 ∧ b.txn = false ∧ b.ctl = 0) ∧
  ((b.ctl = 0 ∧ rowF b.last b.base b.recs = true) ∨ ((b.ctl = 1 ∨ b.ctl = 2) ∧ b.last - b.base = 0 ∧ b.recs = [] ∧ b.txn = true))
instance decForm (b : Batch) : Decidable (Form b) := by
 unfold Form
 infer_instance
theorem within_row (m : Int) (y : Int) (l : List Int) (v : Value) (n : Nat) (ys : List Value) (hc : Cells IE 1 (y :: l) ys) (G : Nat → Option Obj) (L : List Kx.Item) (D : List Nat) :
  CallsH Tryz.prog 107 #[.int .i64 m, v] ⟨G, .row v 3 1 n ys :: L, D⟩ fun r h' => r = .bool ((y :: l).all (rng m)) ∧ h' = ⟨G, .row v 3 1 n ys :: L, D⟩ :=
 lend1 (E := IE) (xs := y :: l) (R := fun r => r = .bool ((y :: l).all (rng m))) F107.enters (by decide) hc fun G' hg hx => by
  have := within_ok m y l v G' hx L D
  simpa using this
theorem cells3 {a b c : Int} (ha : I64 a) (hb : I64 b) (hc : I64 c) : Cells IE 1 [a, b, c] [.int .i64 a, .int .i64 b, .int .i64 c] :=
 .cons (cs := [.int .i64 a]) ⟨rfl, ha⟩ rfl (.cons (cs := [.int .i64 b]) ⟨rfl, hb⟩ rfl (.one (cs := [.int .i64 c]) ⟨rfl, hc⟩ rfl))
theorem formed_ok (x : Batch) (cs : List Value) (G : Nat → Option Obj) (hx : BE G x cs) : FnS Tryz.prog 92 #[.agg cs.toArray] G (.bool (decide (Form x))) := by
 obtain ⟨A, c, rfl, ⟨hc, hm, hA⟩, i1, i2, i3, i4, i5, i6, i7, i8⟩ := hx
 refine F92.fnS (by simp) (go_of ?_)
 unfold c92 cellH
 intros; refine gr 0 0 ?_; refine sJ c92r0.eq_1 ?_
 have hbad : ∀ (fr : List Td) (e : Env) (L : List Kx.Item), ¬ Form x → go none Tryz.prog 131 v92.1 v92.2 (retQ o92 fun v h => v = .bool (decide (Form x))) (Td.s ((SC.reg false c92r2).seq .ret) :: fr) e ⟨G, L, []⟩ := fun fr e L hx => by
  intros; refine gr 0 0 ?_; refine sJ c92r2.eq_1 ?_
  intros; refine rV ?_; simp only [push_cast, Nat.reduceBEq]
  rw [decide_eq_false hx]
 intros; refine gr 8 26 ?_; refine sJ c92r1.eq_1 ?_
 intro b1 hb1
 refine (within_row 1099511627776 _ _ _ _ _ (cells3 i1 i2 i3) _ _ _).mono ?_; rintro _ _ ⟨rfl, rfl⟩; refine sI ?_
 refine gd (fun h1 => ?_) (fun h1 => ?_)
 ·refine sI ?_
  intros; refine gc ?_; refine sI ?_
  refine hbad _ _ _ fun h => ?_
  simp [h.1.1, h.1.2.1, h.1.2.2] at h1
 refine sI ?_
 intro b2 hb2
 refine (within_row 1048576 _ _ _ _ _ (cells3 i4 i6 i7) _ _ _).mono ?_; rintro _ _ ⟨rfl, rfl⟩; refine sI ?_
 intros; refine gc ?_; refine sI ?_
 refine gb (fun h2 => ?_) (fun h2 => ?_)
 ·refine hbad _ _ _ fun h => ?_
  simp [h.2.1.1, h.2.1.2.1, h.2.1.2.2] at h2
 have h1 : rng 1099511627776 x.base = true ∧ rng 1099511627776 x.last = true ∧ rng 1099511627776 x.src = true := by simpa using h1
 have h2 : rng 1048576 x.epoch = true ∧ rng 1048576 x.gen = true ∧ rng 1048576 x.seq = true := by simpa using h2
 have h1' := h1
 have h2' := h2
 simp [rng] at h1' h2'
 have w1 : IntKind.i64.wrap (x.last - x.base) = x.last - x.base := by rw [w64_id] <;> omega
 (repeat first | refine go_skip ?_ | refine go_b ?_)
 intros; refine gr 28 32 ?_; refine sJ2 c92r3.eq_1 @w1 ?_
 have hb5 : ∀ (fr : List Td) (e : Env) (L : List Kx.Item), ¬ Form x → go none Tryz.prog 131 v92.1 v92.2 (retQ o92 fun v h => v = .bool (decide (Form x))) (Td.s ((SC.reg false c92r5).seq .ret) :: fr) e ⟨G, L, []⟩ := fun fr e L hx => by
  intros; refine gr 0 0 ?_; refine sJ c92r5.eq_1 ?_
  intros; refine rV ?_; simp only [push_cast, Nat.reduceBEq]
  rw [decide_eq_false hx]
 have hb7 : ∀ (fr : List Td) (e : Env) (L : List Kx.Item), ¬ Form x → go none Tryz.prog 131 v92.1 v92.2 (retQ o92 fun v h => v = .bool (decide (Form x))) (Td.s ((SC.reg false c92r7).seq .ret) :: fr) e ⟨G, L, []⟩ := fun fr e L hx => by
  intros; refine gr 0 0 ?_; refine sJ c92r7.eq_1 ?_
  intros; refine rV ?_; simp only [push_cast, Nat.reduceBEq]
  rw [decide_eq_false hx]
 have hb9 : ∀ (fr : List Td) (e : Env) (L : List Kx.Item), ¬ Form x → go none Tryz.prog 131 v92.1 v92.2 (retQ o92 fun v h => v = .bool (decide (Form x))) (Td.s ((SC.reg false c92r9).seq .ret) :: fr) e ⟨G, L, []⟩ := fun fr e L hx => by
  intros; refine gr 0 0 ?_; refine sJ c92r9.eq_1 ?_
  intros; refine rV ?_; simp only [push_cast, Nat.reduceBEq]
  rw [decide_eq_false hx]
 have hb17 : ∀ (fr : List Td) (e : Env) (L : List Kx.Item), ¬ Form x → go none Tryz.prog 131 v92.1 v92.2 (retQ o92 fun v h => v = .bool (decide (Form x))) (Td.s ((SC.reg false c92r17).seq .ret) :: fr) e ⟨G, L, []⟩ := fun fr e L hx => by
  intros; refine gr 0 0 ?_; refine sJ c92r17.eq_1 ?_
  intros; refine rV ?_; simp only [push_cast, Nat.reduceBEq]
  rw [decide_eq_false hx]
 have w2 : ∀ (h : 0 ≤ x.last - x.base), IntKind.i64.wrap (x.src + (x.last - x.base)) = x.src + (x.last - x.base) := fun h => by rw [w64_id] <;> omega
 have w3 : ∀ (h : 0 ≤ x.last - x.base), IntKind.i64.wrap (x.seq + (x.last - x.base)) = x.seq + (x.last - x.base) := fun h => by rw [w64_id] <;> omega
 have w4 : IntKind.i64.wrap (x.gen + x.seq) = x.gen + x.seq := by rw [w64_id] <;> omega
 intros; refine gr 33 53 ?_; refine sJ c92r4.eq_1 ?_
 refine gd (fun h3 => ?_) (fun h3 => ?_)
 ·refine sI ?_
  intros; refine gc ?_; refine sI ?_
  exact hb5 _ _ _ fun h => by have := of_decide_eq_true h3; have := h.2.2.1.1; omega
 have h3 := of_decide_eq_false h3
 refine sI ?_
 refine gd (fun h4 => ?_) (fun h4 => ?_)
 ·refine sI ?_
  intros; refine gc ?_; refine sI ?_
  exact hb5 _ _ _ fun h => by have := of_decide_eq_true h4; have := h.2.2.1.2.1; omega
 have h4 := of_decide_eq_false h4
 (refine sJ (w2 (by omega)) ?_)
 refine gd (fun h5 => ?_) (fun h5 => ?_)
 ·refine sI ?_
  intros; refine gc ?_; refine sI ?_
  exact hb5 _ _ _ fun h => by have := of_decide_eq_true h5; have := h.2.2.1.2.2.1; omega
 have h5 := of_decide_eq_false h5
 (refine sJ (w3 (by omega)) ?_)
 intros; refine gc ?_; refine sI ?_
 refine gb (fun h6 => ?_) (fun h6 => ?_)
 ·exact hb5 _ _ _ fun h => by have := of_decide_eq_true h6; have := h.2.2.1.2.2.2; omega
 have h6 := of_decide_eq_false h6
 intros; refine gr 55 62 ?_; refine sJ c92r6.eq_1 ?_
 refine gd (fun h7 => ?_) (fun h7 => ?_)
 ·refine sI ?_
  intros; refine gc ?_; refine sI ?_
  exact hb7 _ _ _ fun h => by have := of_decide_eq_true h7; have := h.2.2.2.1.1; omega
 have h7 := of_decide_eq_false h7
 refine sI ?_
 intros; refine gc ?_; refine sI ?_
 refine gb (fun h8 => ?_) (fun h8 => ?_)
 ·exact hb7 _ _ _ fun h => by have := of_decide_eq_true h8; have := h.2.2.2.1.2; omega
 have h8 := of_decide_eq_false h8
 intros; refine gr 64 83 ?_; refine sJ c92r8.eq_1 ?_
 have hrest : ∀ (e : Env), (x.pid = -1 → x.gen = 0 ∧ x.seq = 0 ∧ x.txn = false ∧ x.ctl = 0) → e 3 = .int .i64 (x.last - x.base) →
   go none Tryz.prog 131 v92.1 v92.2 (retQ o92 fun v h => v = .bool (decide (Form x))) [Td.s (((SC.reg false c92r10).seq (SC.blk 1 ((SC.reg false c92r11).seq (SC.cond (O.t 85) ((SC.reg false c92r12).seq (((SC.reg false c92r13).seq (SC.blk 2 ((SC.reg false c92r14).seq ((SC.cond (O.t 93) SC.skip (SC.exit 2)).seq ((SC.blk 3 ((SC.reg false c92r15).seq (((SC.reg false c92r16).seq (SC.cond (O.t 111) ((SC.reg false c92r17).seq SC.ret) SC.skip)).seq (SC.reg false c92r18)))).seq (SC.reg false c92r19)))).loop)).seq ((SC.reg false c92r20).seq SC.ret))) (((SC.reg false c92r21).seq (SC.cond (O.t 116) SC.skip (SC.reg false c92r22))).seq (SC.cond (O.t 116) ((SC.reg false c92r23).seq SC.ret) SC.skip)))))).seq ((SC.reg false c92r24).seq SC.ret))] e ⟨G, [.reg 1 [.int .i64 x.base, .int .i64 x.last, .int .i64 x.src, .int .i64 x.epoch, .int .i64 x.pid, .int .i64 x.gen, .int .i64 x.seq, .bool x.txn, .int .i64 x.ctl, .slice A x.recs.length c]], []⟩ := fun e hpid e3 => by
  refine go_keep [3] ?_
  refine sJ @e3 ?_
  intros; refine gr 0 0 ?_; refine sJ c92r10.eq_1 ?_
  intros; refine gr 86 87 ?_; refine sJ c92r11.eq_1 ?_
  intros; refine gc ?_; refine sI ?_
  have hmk : ((x.ctl = 0 ∧ rowF x.last x.base x.recs = true) ∨ ((x.ctl = 1 ∨ x.ctl = 2) ∧ x.last - x.base = 0 ∧ x.recs = [] ∧ x.txn = true)) → Form x := fun h => ⟨h1, h2, ⟨by omega, by omega, by omega, by omega⟩, ⟨by omega, by omega⟩, hpid, h⟩
  refine gb (fun k1 => ?_) (fun k1 => ?_)
  ·have k1 := of_decide_eq_true k1
   intros; refine gr 88 89 ?_; refine sJ c92r12.eq_1 ?_
   intros; refine gr 0 0 ?_; refine sJ c92r13.eq_1 ?_
   (intros; try refine go_st ?_)
   refine go_loop (fun e h => ∃ (k : Nat) (nx : Int), (k ≤ x.recs.length ∧ rowF x.last x.base x.recs = rowF x.last nx (x.recs.drop k)) ∧ e 92 = .int .i64 k ∧ e 91 = .int .i64 x.recs.length ∧ e 90 = .slice A x.recs.length c ∧ e 4 = .int .i64 nx ∧ h.G = G ∧ h.D = [] ∧ [.reg 1 [.int .i64 x.base, .int .i64 x.last, .int .i64 x.src, .int .i64 x.epoch, .int .i64 x.pid, .int .i64 x.gen, .int .i64 x.seq, .bool x.txn, .int .i64 x.ctl, .slice A x.recs.length c]].Sublist h.L) (fun e h => x.recs.length - iv (e 92)) ?_ ?_
   ·exact ⟨0, x.base, ⟨Nat.zero_le _, rfl⟩, eE, eE, eE, eE, rfl, rfl, List.Sublist.refl _⟩
   ·rintro e ⟨G', L, D⟩ ⟨k, nx, ⟨hk, hrow⟩, e92, e91, e90, e4, hG, hD, hL⟩
    dsimp only at hG hD hL
    subst hG hD
    refine go_ghost (ghost_sub hL) ?_
    refine go_keep [4, 90, 91, 92] ?_
    refine sJ4 @e4 @e90 @e91 @e92 ?_
    intros; refine gr 0 0 ?_; refine sJ c92r14.eq_1 ?_
    intros; refine gc ?_; refine sI ?_
    refine gb (fun ht => ?_) (fun ht => ?_)
    ·have hkl : k < x.recs.length := by simpa using ht
     have hw3 := inc_i k c (by omega) hm
     obtain ⟨r, hr⟩ : ∃ r, x.recs[k]? = some r := ⟨x.recs[k], List.getElem?_eq_getElem (by omega)⟩
     have hdr : x.recs.drop k = r :: x.recs.drop (k + 1) := by
      have := List.getElem?_eq_some_iff.1 hr
      rw [List.drop_eq_getElem_cons hkl, this.2]
     rw [hdr] at hrow
     simp only [rowF] at hrow
     have hno : rowF x.last x.base x.recs = false → ¬ Form x := fun h h' => by
      rcases h'.2.2.2.2.2 with h9 | h9
      ·rw [h] at h9; cases h9.2
      ·omega
     intros; refine gr 94 96 ?_; refine sJ c92r15.eq_1 ?_
     refine hA.x_ld hr rfl rfl ?_
     rintro a1 ha1 cs ⟨rfl, ⟨j1, j2⟩, j3, j4⟩
     unfold cellR
     refine sI ?_
     have hck := Check_ok r
     unfold cellR at hck
     intros; refine gr 96 111 ?_; refine sJ c92r16.eq_1 ?_
     refine (hck G' _ _).mono ?_; rintro _ _ ⟨rfl, rfl⟩; refine sI ?_
     refine gd (fun k2 => ?_) (fun k2 => ?_)
     ·refine sI ?_
      intros; refine gc ?_; refine sI ?_
      exact hb17 _ _ _ (hno (by rw [hrow]; simp at k2; simp [k2]))
     have k2 : chkR r = 0 := by simpa using k2
     refine sI ?_
     refine gd (fun k3 => ?_) (fun k3 => ?_)
     ·refine sI ?_
      intros; refine gc ?_; refine sI ?_
      exact hb17 _ _ _ (hno (by rw [hrow]; have := of_decide_eq_true k3; simp; omega))
     have k3 := of_decide_eq_false k3
     refine sI ?_
     intros; refine gc ?_; refine sI ?_
     refine gb (fun k4 => ?_) (fun k4 => ?_)
     ·exact hb17 _ _ _ (hno (by rw [hrow]; have := of_decide_eq_true k4; simp; omega))
     have k4 := of_decide_eq_false k4
     have hoff := (chk_small k2).1.1
     simp [inO] at hoff
     have w5 : IntKind.i64.wrap (r.off + 1) = r.off + 1 := by rw [w64_id] <;> omega
     (repeat first | refine go_skip ?_ | refine go_b ?_)
     intros; refine gr 113 115 ?_; refine sJ2 c92r18.eq_1 @w5 ?_
     intros; refine gr 115 116 ?_; refine sJ2 c92r19.eq_1 @hw3 ?_
     (intros; try refine go_st ?_)
     refine go_l ⟨⟨k + 1, r.off + 1, ⟨by omega, by rw [hrow]; simp [k2]; omega⟩, eE, eE, eE, eE, rfl, rfl, .cons _ (List.Sublist.refl _)⟩, ?_⟩
     refine sI ?_
     omega
    ·have hkl : k = x.recs.length := by simp at ht; omega
     subst hkl
     refine go_exit ?_
     refine sI ?_
     intros; refine gr 0 0 ?_; refine sJ c92r20.eq_1 ?_
     intros; refine rV ?_; simp only [push_cast, Nat.reduceBEq]
     rw [List.drop_length] at hrow
     rw [decide_eq_true (hmk (.inl ⟨k1, hrow⟩))]
  ·have k1 := of_decide_eq_false k1
   have hb24 : ∀ (fr : List Td) (e : Env) (L : List Kx.Item), ¬ Form x → go none Tryz.prog 131 v92.1 v92.2 (retQ o92 fun v h => v = .bool (decide (Form x))) (Td.s ((SC.reg false c92r24).seq .ret) :: fr) e ⟨G, L, []⟩ := fun fr e L hx => by
    intros; refine gr 0 0 ?_; refine sJ c92r24.eq_1 ?_
    intros; refine rV ?_; simp only [push_cast, Nat.reduceBEq]
    rw [decide_eq_false hx]
   have hfin : ∀ (fr : List Td) (e : Env), (x.ctl = 1 ∨ x.ctl = 2) → e 3 = .int .i64 (x.last - x.base) → go none Tryz.prog 131 v92.1 v92.2 (retQ o92 fun v h => v = .bool (decide (Form x))) (Td.s ((SC.reg false c92r23).seq .ret) :: fr) e ⟨G, [.reg 1 [.int .i64 x.base, .int .i64 x.last, .int .i64 x.src, .int .i64 x.epoch, .int .i64 x.pid, .int .i64 x.gen, .int .i64 x.seq, .bool x.txn, .int .i64 x.ctl, .slice A x.recs.length c]], []⟩ := fun fr e hc12 e3 => by
    refine go_keep [3] ?_
    refine sJ @e3 ?_
    have hnf : ∀ (_ : ¬ (x.last - x.base = 0 ∧ x.recs = [] ∧ x.txn = true)), decide (Form x) = false := fun hn => decide_eq_false fun h => by
     rcases h.2.2.2.2.2 with h9 | h9
     ·exact k1 h9.1
     ·exact hn h9.2
    intros; refine gr 119 131 ?_; refine sJ c92r23.eq_1 ?_
    refine gd (fun k2 => ?_) (fun k2 => ?_)
    ·have k2 := of_decide_eq_true k2
     refine sI ?_
     refine gd (fun k3 => ?_) (fun k3 => ?_)
     ·have k3 : x.recs = [] := by have := of_decide_eq_true k3; exact List.eq_nil_of_length_eq_zero (by omega)
      refine sI ?_
      intros; refine rV ?_; simp only [push_cast, Nat.reduceBEq]
      cases ht : x.txn with
      | false => rw [hnf fun h => by rw [ht] at h; cases h.2.2]
      | true => rw [decide_eq_true (hmk (.inr ⟨hc12, k2, k3, ht⟩))]
     ·have k3 := of_decide_eq_false k3
      refine sI ?_
      intros; refine rV ?_; simp only [push_cast, Nat.reduceBEq]
      rw [hnf fun h => k3 (by rw [h.2.1]; rfl)]
    ·have k2 := of_decide_eq_false k2
     refine sI ?_
     intros; refine rV ?_; simp only [push_cast, Nat.reduceBEq]
     rw [hnf fun h => k2 h.1]
   intros; refine gr 117 118 ?_; refine sJ c92r21.eq_1 ?_
   intros; refine gc ?_; refine sI ?_
   refine gb (fun k2 => ?_) (fun k2 => ?_)
   ·(repeat first | refine go_skip ?_ | refine go_b ?_)
    intros; refine gc ?_; refine sI ?_
    refine gb (fun _ => ?_) (fun h => by rw [k2] at h; cases h)
    refine hfin _ _ (.inl (of_decide_eq_true k2)) ?_
    (refine sI ?_; try with_reducible exact True.intro)
   ·have k2 := of_decide_eq_false k2
    intros; refine gr 118 119 ?_; refine sJ c92r22.eq_1 ?_
    intros; refine gc ?_; refine sI ?_
    refine gb (fun k3 => ?_) (fun k3 => ?_)
    ·refine hfin _ _ (.inr (of_decide_eq_true k3)) ?_
     (refine sI ?_; try with_reducible exact True.intro)
    ·have k3 := of_decide_eq_false k3
     (repeat first | refine go_skip ?_ | refine go_b ?_)
     refine hb24 _ _ _ fun h => ?_
     rcases h.2.2.2.2.2 with h9 | h9
     ·exact k1 h9.1
     ·rcases h9.1 with h9 | h9
      ·exact k2 h9
      ·exact k3 h9
 refine gd (fun h9 => ?_) (fun h9 => ?_)
 ·have h9 := of_decide_eq_true h9
  refine sJ @w4 ?_
  refine gd (fun h10 => ?_) (fun h10 => ?_)
  ·refine sI ?_
   intros; refine gc ?_; refine sI ?_
   exact hb9 _ _ _ fun h => by have := of_decide_eq_true h10; have := h.2.2.2.2.1 h9; omega
  have h10 := of_decide_eq_false h10
  refine sI ?_
  refine gd (fun h11 => ?_) (fun h11 => ?_)
  ·refine sI ?_
   intros; refine gc ?_; refine sI ?_
   exact hb9 _ _ _ fun h => by have := (h.2.2.2.2.1 h9).2.2.1; rw [h11] at this; cases this
  refine sI ?_
  intros; refine gc ?_; refine sI ?_
  refine gb (fun h12 => ?_) (fun h12 => ?_)
  ·exact hb9 _ _ _ fun h => by have := of_decide_eq_true h12; have := (h.2.2.2.2.1 h9).2.2.2; omega
  have h12 := of_decide_eq_false h12
  (repeat first | refine go_skip ?_ | refine go_b ?_)
  refine go_ghost (ghost_sub (.cons _ (.cons _ (List.Sublist.refl _)))) ?_
  refine hrest _ (fun _ => ⟨by omega, by omega, h11, by omega⟩) ?_
  (refine sI ?_; try with_reducible exact True.intro)
 ·have h9 := of_decide_eq_false h9
  refine sI ?_
  intros; refine gc ?_; refine sI ?_
  (repeat first | refine go_skip ?_ | refine go_b ?_)
  refine go_ghost (ghost_sub (.cons _ (.cons _ (List.Sublist.refl _)))) ?_
  refine hrest _ (fun h => absurd h h9) ?_
  (refine sI ?_; try with_reducible exact True.intro)
theorem F84 : Fun Tryz.prog 84 165 v84 c84 o84 := Fun.mk' Tryz.func84 Tryz.ntmps84 (by kernel_rfl) (by kernel_rfl) s84 q84
theorem rng_f {m n : Int} (h : (!rng m n) = true) : ¬ rng m n = true := by simpa using h
theorem rng_t {m n : Int} (h : (!rng m n) = false) : 0 ≤ n ∧ n ≤ m := by simpa [rng] using h
theorem rng_i {m n : Int} (h : 0 ≤ n ∧ n ≤ m) : rng m n = true := by simp [rng, h]
theorem form_ok (x : Batch) (cs : List Value) (G : Nat → Option Obj) (hx : BE G x cs) : FnS Tryz.prog 84 #[.agg cs.toArray] G (.bool (decide (Form x))) := by
 obtain ⟨A, c, rfl, ⟨hc, hm, hA⟩, i1, i2, i3, i4, i5, i6, i7, i8⟩ := hx
 refine F84.fnS (by simp) (go_of ?_)
 unfold c84 cellH
 intros; refine gr 0 0 ?_; refine sJ c84r0.eq_1 ?_
 have hb2 : ∀ (fr : List Td) (e : Env) (L : List Kx.Item), ¬ Form x → go none Tryz.prog 165 v84.1 v84.2 (retQ o84 fun v h => v = .bool (decide (Form x))) (Td.s ((SC.reg false c84r2).seq .ret) :: fr) e ⟨G, L, []⟩ := fun fr e L hx => by
  intros; refine gr 0 0 ?_; refine sJ c84r2.eq_1 ?_
  intros; refine rV ?_; simp only [push_cast, Nat.reduceBEq]
  rw [decide_eq_false hx]
 have hb5 : ∀ (fr : List Td) (e : Env) (L : List Kx.Item), ¬ Form x → go none Tryz.prog 165 v84.1 v84.2 (retQ o84 fun v h => v = .bool (decide (Form x))) (Td.s ((SC.reg false c84r5).seq .ret) :: fr) e ⟨G, L, []⟩ := fun fr e L hx => by
  intros; refine gr 0 0 ?_; refine sJ c84r5.eq_1 ?_
  intros; refine rV ?_; simp only [push_cast, Nat.reduceBEq]
  rw [decide_eq_false hx]
 have hb7 : ∀ (fr : List Td) (e : Env) (L : List Kx.Item), ¬ Form x → go none Tryz.prog 165 v84.1 v84.2 (retQ o84 fun v h => v = .bool (decide (Form x))) (Td.s ((SC.reg false c84r7).seq .ret) :: fr) e ⟨G, L, []⟩ := fun fr e L hx => by
  intros; refine gr 0 0 ?_; refine sJ c84r7.eq_1 ?_
  intros; refine rV ?_; simp only [push_cast, Nat.reduceBEq]
  rw [decide_eq_false hx]
 have hb15 : ∀ (fr : List Td) (e : Env) (L : List Kx.Item), ¬ Form x → go none Tryz.prog 165 v84.1 v84.2 (retQ o84 fun v h => v = .bool (decide (Form x))) (Td.s ((SC.reg false c84r15).seq .ret) :: fr) e ⟨G, L, []⟩ := fun fr e L hx => by
  intros; refine gr 0 0 ?_; refine sJ c84r15.eq_1 ?_
  intros; refine rV ?_; simp only [push_cast, Nat.reduceBEq]
  rw [decide_eq_false hx]
 intros; refine gr 8 37 ?_; refine sJ c84r1.eq_1 ?_
 refine (rin_ok x.base _ G _ _).mono ?_; rintro _ _ ⟨rfl, rfl⟩; refine sI ?_
 refine gd (fun h1 => ?_) (fun h1 => ?_)
 ·refine sI ?_
  intros; refine gc ?_; refine sI ?_
  exact hb2 _ _ _ fun h => by exact rng_f h1 h.1.1
 have h1 := rng_t h1
 refine sI ?_
 refine (rin_ok x.last _ G _ _).mono ?_; rintro _ _ ⟨rfl, rfl⟩; refine sI ?_
 refine gd (fun h2 => ?_) (fun h2 => ?_)
 ·refine sI ?_
  intros; refine gc ?_; refine sI ?_
  exact hb2 _ _ _ fun h => by exact rng_f h2 h.1.2.1
 have h2 := rng_t h2
 refine sI ?_
 refine (rin_ok x.src _ G _ _).mono ?_; rintro _ _ ⟨rfl, rfl⟩; refine sI ?_
 refine gd (fun h3 => ?_) (fun h3 => ?_)
 ·refine sI ?_
  intros; refine gc ?_; refine sI ?_
  exact hb2 _ _ _ fun h => by exact rng_f h3 h.1.2.2
 have h3 := rng_t h3
 have w1 : IntKind.i64.wrap (x.last - x.base) = x.last - x.base := by rw [w64_id] <;> omega
 refine sI ?_
 refine gd (fun h4 => ?_) (fun h4 => ?_)
 ·refine sI ?_
  intros; refine gc ?_; refine sI ?_
  exact hb2 _ _ _ fun h => by have := of_decide_eq_true h4; have := h.2.2.1.1; omega
 have h4 := of_decide_eq_false h4
 refine sJ @w1 ?_
 intros; refine gc ?_; refine sI ?_
 refine gb (fun h5 => ?_) (fun h5 => ?_)
 ·exact hb2 _ _ _ fun h => by have := of_decide_eq_true h5; have := h.2.2.1.2.1; omega
 have h5 := of_decide_eq_false h5
 (repeat first | refine go_skip ?_ | refine go_b ?_)
 intros; refine gr 39 43 ?_; refine sJ2 c84r3.eq_1 @w1 ?_
 have w2 : IntKind.i64.wrap (x.src + (x.last - x.base)) = x.src + (x.last - x.base) := by rw [w64_id] <;> omega
 intros; refine gr 44 72 ?_; refine sJ2 c84r4.eq_1 @w2 ?_
 refine gd (fun h6 => ?_) (fun h6 => ?_)
 ·refine sI ?_
  intros; refine gc ?_; refine sI ?_
  exact hb5 _ _ _ fun h => by have := of_decide_eq_true h6; have := h.2.2.1.2.2.1; omega
 have h6 := of_decide_eq_false h6
 refine sI ?_
 refine (rin_ok x.epoch _ G _ _).mono ?_; rintro _ _ ⟨rfl, rfl⟩; refine sI ?_
 refine gd (fun h7 => ?_) (fun h7 => ?_)
 ·refine sI ?_
  intros; refine gc ?_; refine sI ?_
  exact hb5 _ _ _ fun h => by exact rng_f h7 h.2.1.1
 have h7 := rng_t h7
 refine sI ?_
 refine (rin_ok x.gen _ G _ _).mono ?_; rintro _ _ ⟨rfl, rfl⟩; refine sI ?_
 refine gd (fun h8 => ?_) (fun h8 => ?_)
 ·refine sI ?_
  intros; refine gc ?_; refine sI ?_
  exact hb5 _ _ _ fun h => by exact rng_f h8 h.2.1.2.1
 have h8 := rng_t h8
 refine sI ?_
 refine (rin_ok x.seq _ G _ _).mono ?_; rintro _ _ ⟨rfl, rfl⟩; refine sI ?_
 refine gd (fun h9 => ?_) (fun h9 => ?_)
 ·refine sI ?_
  intros; refine gc ?_; refine sI ?_
  exact hb5 _ _ _ fun h => by exact rng_f h9 h.2.1.2.2
 have h9 := rng_t h9
 have w3 : IntKind.i64.wrap (x.seq + (x.last - x.base)) = x.seq + (x.last - x.base) := by rw [w64_id] <;> omega
 refine sJ @w3 ?_
 intros; refine gc ?_; refine sI ?_
 refine gb (fun k1 => ?_) (fun k1 => ?_)
 ·exact hb5 _ _ _ fun h => by have := of_decide_eq_true k1; have := h.2.2.1.2.2.2; omega
 have k1 := of_decide_eq_false k1
 (repeat first | refine go_skip ?_ | refine go_b ?_)
 have hrest : ∀ (e : Env), (x.pid = -1 → x.gen = 0 ∧ x.seq = 0 ∧ x.txn = false ∧ x.ctl = 0) → (-1 ≤ x.pid ∧ x.pid ≤ 1099511627776) → e 3 = .int .i64 (x.last - x.base) →
   go none Tryz.prog 165 v84.1 v84.2 (retQ o84 fun v h => v = .bool (decide (Form x))) [Td.s (((SC.reg false c84r8).seq (SC.cond (O.t 108) ((SC.reg false c84r9).seq SC.ret) SC.skip)).seq ((SC.reg false c84r10).seq (((SC.reg false c84r11).seq (SC.blk 0 ((SC.reg false c84r12).seq ((SC.cond (O.t 143) SC.skip (SC.exit 0)).seq ((SC.blk 1 ((SC.reg false c84r13).seq (((SC.reg false c84r14).seq (SC.cond (O.t 161) ((SC.reg false c84r15).seq SC.ret) SC.skip)).seq (SC.reg false c84r16)))).seq (SC.reg false c84r17)))).loop)).seq ((SC.reg false c84r18).seq SC.ret))))] e ⟨G, [.reg 1 [.int .i64 x.base, .int .i64 x.last, .int .i64 x.src, .int .i64 x.epoch, .int .i64 x.pid, .int .i64 x.gen, .int .i64 x.seq, .bool x.txn, .int .i64 x.ctl, .slice A x.recs.length c]], []⟩ := fun e hpid hpr e3 => by
  refine go_keep [3] ?_
  refine sJ @e3 ?_
  have hmk : ((x.ctl = 0 ∧ rowF x.last x.base x.recs = true) ∨ ((x.ctl = 1 ∨ x.ctl = 2) ∧ x.last - x.base = 0 ∧ x.recs = [] ∧ x.txn = true)) → Form x := fun h => ⟨⟨rng_i h1, rng_i h2, rng_i h3⟩, ⟨rng_i h7, rng_i h8, rng_i h9⟩, ⟨by omega, by omega, by omega, by omega⟩, hpr, hpid, h⟩
  intros; refine gr 107 108 ?_; refine sJ c84r8.eq_1 ?_
  intros; refine gc ?_; refine sI ?_
  refine gb (fun k2 => ?_) (fun k2 => ?_)
  ·have k2 := of_decide_eq_true k2
   have hnf : ∀ (_ : ¬ ((x.ctl = 1 ∨ x.ctl = 2) ∧ x.last - x.base = 0 ∧ x.recs = [] ∧ x.txn = true)), decide (Form x) = false := fun hn => decide_eq_false fun h => by
    rcases h.2.2.2.2.2 with h9 | h9
    ·exact k2 h9.1
    ·exact hn h9
   have hp0 : 0 ≤ x.pid := by
    by_cases hp : x.pid = -1
    ·exact absurd (hpid hp).2.2.2 k2
    ·omega
   intros; refine gr 110 136 ?_; refine sJ c84r9.eq_1 ?_
   have hfin : ∀ (l : List SI), True := fun _ => trivial
   refine gd (fun k3 => ?_) (fun k3 => ?_)
   ·have k3 := of_decide_eq_true k3
    refine sI ?_
    refine gd (fun a1 => ?_) (fun a1 => ?_)
    ·have a1 := of_decide_eq_true a1
     refine sI ?_
     refine gd (fun a2 => ?_) (fun a2 => ?_)
     ·have a2 : x.recs = [] := by have := of_decide_eq_true a2; exact List.eq_nil_of_length_eq_zero (by omega)
      refine sI ?_
      refine gd (fun a3 => ?_) (fun a3 => ?_)
      ·refine sI ?_
       intros; refine rV ?_; simp only [push_cast, Nat.reduceBEq]
       rw [decide_eq_true hp0, decide_eq_true (hmk (.inr ⟨.inl k3, a1, a2, a3⟩))]
      ·refine sI ?_
       intros; refine rV ?_; simp only [push_cast, Nat.reduceBEq]
       rw [hnf fun h => by rw [a3] at h; cases h.2.2.2]
     ·have a2 := of_decide_eq_false a2
      refine sI ?_
      intros; refine rV ?_; simp only [push_cast, Nat.reduceBEq]
      rw [hnf fun h => a2 (by rw [h.2.2.1]; rfl)]
    ·have a1 := of_decide_eq_false a1
     refine sI ?_
     intros; refine rV ?_; simp only [push_cast, Nat.reduceBEq]
     rw [hnf fun h => a1 h.2.1]
   ·have k3 := of_decide_eq_false k3
    refine sI ?_
    refine gd (fun k4 => ?_) (fun k4 => ?_)
    ·have k4 := of_decide_eq_true k4
     refine sI ?_
     refine gd (fun a1 => ?_) (fun a1 => ?_)
     ·have a1 := of_decide_eq_true a1
      refine sI ?_
      refine gd (fun a2 => ?_) (fun a2 => ?_)
      ·have a2 : x.recs = [] := by have := of_decide_eq_true a2; exact List.eq_nil_of_length_eq_zero (by omega)
       refine sI ?_
       refine gd (fun a3 => ?_) (fun a3 => ?_)
       ·refine sI ?_
        intros; refine rV ?_; simp only [push_cast, Nat.reduceBEq]
        rw [decide_eq_true hp0, decide_eq_true (hmk (.inr ⟨.inr k4, a1, a2, a3⟩))]
       ·refine sI ?_
        intros; refine rV ?_; simp only [push_cast, Nat.reduceBEq]
        rw [hnf fun h => by rw [a3] at h; cases h.2.2.2]
      ·have a2 := of_decide_eq_false a2
       refine sI ?_
       intros; refine rV ?_; simp only [push_cast, Nat.reduceBEq]
       rw [hnf fun h => a2 (by rw [h.2.2.1]; rfl)]
     ·have a1 := of_decide_eq_false a1
      refine sI ?_
      intros; refine rV ?_; simp only [push_cast, Nat.reduceBEq]
      rw [hnf fun h => a1 h.2.1]
    ·have k4 := of_decide_eq_false k4
     refine sI ?_
     intros; refine rV ?_; simp only [push_cast, Nat.reduceBEq]
     rw [hnf fun h => by rcases h.1 with h | h; exact k3 h; exact k4 h]
  ·have k2 : x.ctl = 0 := by simpa using k2
   have w4 : IntKind.i64.wrap (x.base - 1) = x.base - 1 := by rw [w64_id] <;> omega
   (repeat first | refine go_skip ?_ | refine go_b ?_)
   intros; refine gr 137 139 ?_; refine sJ2 c84r10.eq_1 @w4 ?_
   intros; refine gr 0 0 ?_; refine sJ c84r11.eq_1 ?_
   (intros; try refine go_st ?_)
   refine go_loop (fun e h => ∃ (k : Nat) (nx : Int), (k ≤ x.recs.length ∧ rowF x.last x.base x.recs = rowF x.last nx (x.recs.drop k)) ∧ e 142 = .int .i64 k ∧ e 141 = .int .i64 x.recs.length ∧ e 140 = .slice A x.recs.length c ∧ e 4 = .int .i64 (nx - 1) ∧ h.G = G ∧ h.D = [] ∧ [.reg 1 [.int .i64 x.base, .int .i64 x.last, .int .i64 x.src, .int .i64 x.epoch, .int .i64 x.pid, .int .i64 x.gen, .int .i64 x.seq, .bool x.txn, .int .i64 x.ctl, .slice A x.recs.length c]].Sublist h.L) (fun e h => x.recs.length - iv (e 142)) ?_ ?_
   ·exact ⟨0, x.base, ⟨Nat.zero_le _, rfl⟩, eE, eE, eE, eE, rfl, rfl, List.Sublist.refl _⟩
   ·rintro e ⟨G', L, D⟩ ⟨k, nx, ⟨hk, hrow⟩, e142, e141, e140, e4, hG, hD, hL⟩
    dsimp only at hG hD hL
    subst hG hD
    refine go_ghost (ghost_sub hL) ?_
    refine go_keep [4, 140, 141, 142] ?_
    refine sJ4 @e4 @e140 @e141 @e142 ?_
    intros; refine gr 0 0 ?_; refine sJ c84r12.eq_1 ?_
    intros; refine gc ?_; refine sI ?_
    refine gb (fun ht => ?_) (fun ht => ?_)
    ·have hkl : k < x.recs.length := by simpa using ht
     have hw3 := inc_i k c (by omega) hm
     obtain ⟨r, hr⟩ : ∃ r, x.recs[k]? = some r := ⟨x.recs[k], List.getElem?_eq_getElem (by omega)⟩
     have hdr : x.recs.drop k = r :: x.recs.drop (k + 1) := by
      have := List.getElem?_eq_some_iff.1 hr
      rw [List.drop_eq_getElem_cons hkl, this.2]
     rw [hdr] at hrow
     simp only [rowF] at hrow
     have hno : rowF x.last x.base x.recs = false → ¬ Form x := fun h h' => by
      rcases h'.2.2.2.2.2 with h9 | h9
      ·rw [h] at h9; cases h9.2
      ·omega
     intros; refine gr 144 146 ?_; refine sJ c84r13.eq_1 ?_
     refine hA.x_ld hr rfl rfl ?_
     rintro a1 ha1 cs ⟨rfl, ⟨j1, j2⟩, j3, j4⟩
     unfold cellR
     refine sI ?_
     have hck := RCheck_ok r
     unfold cellR at hck
     intros; refine gr 146 161 ?_; refine sJ c84r14.eq_1 ?_
     refine (hck G' _ _).mono ?_; rintro _ _ ⟨rfl, rfl⟩; refine sI ?_
     refine gd (fun k3 => ?_) (fun k3 => ?_)
     ·refine sI ?_
      intros; refine gc ?_; refine sI ?_
      exact hb15 _ _ _ (hno (by rw [hrow]; simp at k3; simp [k3]))
     have k3 : chkR r = 0 := by simpa using k3
     refine sI ?_
     refine gd (fun k4 => ?_) (fun k4 => ?_)
     ·refine sI ?_
      intros; refine gc ?_; refine sI ?_
      exact hb15 _ _ _ (hno (by rw [hrow]; have := of_decide_eq_true k4; simp; omega))
     have k4 := of_decide_eq_false k4
     refine sI ?_
     intros; refine gc ?_; refine sI ?_
     refine gb (fun k5 => ?_) (fun k5 => ?_)
     ·exact hb15 _ _ _ (hno (by rw [hrow]; have := of_decide_eq_true k5; simp; omega))
     have k5 := of_decide_eq_false k5
     have hoff : r.off = r.off + 1 - 1 := by omega
     (repeat first | refine go_skip ?_ | refine go_b ?_)
     intros; refine gr 163 164 ?_; refine sJ c84r16.eq_1 ?_
     intros; refine gr 164 165 ?_; refine sJ2 c84r17.eq_1 @hw3 ?_
     (intros; try refine go_st ?_)
     refine go_l ⟨⟨k + 1, r.off + 1, ⟨by omega, by rw [hrow]; simp [k3]; omega⟩, eE, eE, eE, by rw [← hoff]; (refine sI ?_; try with_reducible exact True.intro), rfl, rfl, .cons _ (List.Sublist.refl _)⟩, ?_⟩
     refine sI ?_
     omega
    ·have hkl : k = x.recs.length := by simp at ht; omega
     subst hkl
     refine go_exit ?_
     refine sI ?_
     intros; refine gr 0 0 ?_; refine sJ c84r18.eq_1 ?_
     intros; refine rV ?_; simp only [push_cast, Nat.reduceBEq]
     rw [List.drop_length] at hrow
     rw [decide_eq_true (hmk (.inl ⟨k2, hrow⟩))]
 intros; refine gr 74 105 ?_; refine sJ c84r6.eq_1 ?_
 refine gd (fun q1 => ?_) (fun q1 => ?_)
 ·have q1 := of_decide_eq_true q1
  refine sI ?_
  refine gd (fun q2 => ?_) (fun q2 => ?_)
  ·refine sI ?_
   intros; refine gc ?_; refine sI ?_
   exact hb7 _ _ _ fun h => by have := of_decide_eq_true q2; exact this (h.2.2.2.2.1 q1).1
  have q2 := of_decide_eq_false q2
  refine sI ?_
  refine gd (fun q3 => ?_) (fun q3 => ?_)
  ·refine sI ?_
   intros; refine gc ?_; refine sI ?_
   exact hb7 _ _ _ fun h => by have := of_decide_eq_true q3; exact this (h.2.2.2.2.1 q1).2.1
  have q3 := of_decide_eq_false q3
  refine sI ?_
  refine gd (fun q4 => ?_) (fun q4 => ?_)
  ·refine sI ?_
   intros; refine gc ?_; refine sI ?_
   exact hb7 _ _ _ fun h => by have := (h.2.2.2.2.1 q1).2.2.1; rw [q4] at this; cases this
  refine sI ?_
  refine gd (fun q5 => ?_) (fun q5 => ?_)
  ·refine sI ?_
   intros; refine gc ?_; refine sI ?_
   exact hb7 _ _ _ fun h => by have := of_decide_eq_true q5; exact this (h.2.2.2.2.1 q1).2.2.2
  have q5 := of_decide_eq_false q5
  refine sI ?_
  refine gd (fun q6 => ?_) (fun q6 => ?_)
  ·exact absurd q1 (of_decide_eq_true q6)
  refine sI ?_
  intros; refine gc ?_; refine sI ?_
  (repeat first | refine go_skip ?_ | refine go_b ?_)
  refine hrest _ (fun _ => ⟨by omega, by omega, q4, by omega⟩) (by omega) ?_
  (refine sI ?_; try with_reducible exact True.intro)
 ·have q1 := of_decide_eq_false q1
  refine sI ?_
  refine gd (fun q6 => ?_) (fun q6 => ?_)
  ·refine sI ?_
   refine (rin_ok x.pid _ G _ _).mono ?_; rintro _ _ ⟨rfl, rfl⟩; refine sI ?_
   intros; refine gc ?_; refine sI ?_
   refine gb (fun q7 => ?_) (fun q7 => ?_)
   ·refine hb7 _ _ _ fun h => rng_f q7 (rng_i ?_)
    have := h.2.2.2.1
    omega
   have q7 := rng_t q7
   (repeat first | refine go_skip ?_ | refine go_b ?_)
   refine hrest _ (fun h => absurd h q1) (by omega) ?_
   (refine sI ?_; try with_reducible exact True.intro)
  ·exact absurd (of_decide_eq_false q6) (by simpa using q1)
abbrev W32 := BitVec 32
def vW (v : W32) : Value := .int .u32 (v.toNat : Int)
def poly : W32 := 3988292384#32
def stp (v : W32) : W32 := (v >>> 1) ^^^ (if v.getLsbD 0 = true then poly else 0#32)
def stpN : Nat → W32 → W32
 | 0, v => v
 | n + 1, v => stp (stpN n v)
theorem stp_xor (a b : W32) : stp (a ^^^ b) = stp a ^^^ stp b := by
 unfold stp
 rw [BitVec.ushiftRight_xor_distrib, BitVec.getLsbD_xor]
 generalize a >>> 1 = x
 generalize b >>> 1 = y
 cases a.getLsbD 0 <;> cases b.getLsbD 0 <;> simp
 ·rw [BitVec.xor_assoc]
 ·rw [BitVec.xor_assoc, BitVec.xor_assoc, BitVec.xor_comm poly y]
 ·rw [BitVec.xor_assoc, BitVec.xor_comm poly (y ^^^ poly), BitVec.xor_assoc, BitVec.xor_self, BitVec.xor_zero]
theorem stpN_xor (a b : W32) : ∀ n, stpN n (a ^^^ b) = stpN n a ^^^ stpN n b
 | 0 => rfl
 | n + 1 => by rw [stpN, stpN_xor a b n, stp_xor]; rfl
theorem stp_even {v : W32} (h : v.getLsbD 0 = false) : stp v = v >>> 1 := by rw [stp, if_neg (by rw [h]; simp), BitVec.xor_zero]
theorem stpN_low {v : W32} : ∀ n, (∀ i, i < n → v.getLsbD i = false) → stpN n v = v >>> n
 | 0, _ => by simp [stpN]
 | n + 1, h => by
  rw [stpN, stpN_low n fun i hi => h i (by omega), stp_even (by rw [BitVec.getLsbD_ushiftRight]; exact h _ (by omega))]
  rw [BitVec.shiftRight_add]
theorem stp_four (v : W32) : stpN 4 v = stpN 4 (v &&& 15#32) ^^^ (v >>> 4) := by
 have h1 : v = (v &&& 15#32) ^^^ (v &&& ~~~15#32) := by
  apply BitVec.eq_of_getLsbD_eq
  intro i hi
  simp only [BitVec.getLsbD_xor, BitVec.getLsbD_and, BitVec.getLsbD_not]
  cases v.getLsbD i <;> cases (15#32).getLsbD i <;> simp [hi]
 have h2 : stpN 4 (v &&& ~~~15#32) = v >>> 4 := by
  rw [stpN_low 4]
  ·apply BitVec.eq_of_getLsbD_eq
   intro i hi
   simp only [BitVec.getLsbD_ushiftRight, BitVec.getLsbD_and, BitVec.getLsbD_not]
   by_cases h : 4 + i < 32
   ·have : (15#32).getLsbD (4 + i) = false := by
     rw [BitVec.getLsbD_ofNat]
     have : Nat.testBit 15 (4 + i) = false := Nat.testBit_lt_two_pow (Nat.lt_of_lt_of_le (by decide : 15 < 2 ^ 4) (Nat.pow_le_pow_right (by decide) (by omega)))
     simp [this]
    rw [this]
    simp only [h, decide_true, Bool.not_false, Bool.and_true]
   ·rw [BitVec.getLsbD_of_ge v (4 + i) (by omega)]
    simp
  ·intro i hi
   have : (15#32).getLsbD i = true := by
    match i, hi with
    | 0, _ => rfl
    | 1, _ => rfl
    | 2, _ => rfl
    | 3, _ => rfl
   rw [BitVec.getLsbD_and, BitVec.getLsbD_not, this]
   simp
 conv => lhs; rw [h1, stpN_xor, h2]
theorem stpN_add (v : W32) : ∀ m n, stpN (m + n) v = stpN m (stpN n v)
 | 0, n => by rw [Nat.zero_add]; rfl
 | m + 1, n => by rw [Nat.succ_add, stpN, stpN_add v m n]; rfl
def ofB (b : UInt8) : W32 := BitVec.ofNat 32 b.toNat
def upd (v : W32) (c : UInt8) : W32 := stpN 8 (v ^^^ ofB c)
def half4 (v : W32) : W32 := stpN 4 (v &&& 15#32) ^^^ (v >>> 4)
theorem upd_eq (v : W32) (c : UInt8) : upd v c = half4 (half4 (v ^^^ ofB c)) := by
 rw [half4, ← stp_four, half4, ← stp_four, ← stpN_add]
 rfl
def crcB (l : List UInt8) : W32 := ~~~ (l.foldl upd 4294967295#32)
theorem ofW (a : W32) : BitVec.ofInt 32 (a.toNat : Int) = a := by
 rw [BitVec.ofInt_natCast, BitVec.ofNat_toNat]
 simp
theorem wrapW (a : W32) : IntKind.u32.wrap (a.toNat : Int) = (a.toNat : Int) := by
 have := a.isLt
 simp only [IntKind.wrap, IntKind.bits, IntKind.signed]
 simp
 omega
theorem bin_xorW (a b : W32) : binV .xor (vW a) (vW b) = some (vW (a ^^^ b)) := by
 simp only [binV, vW]
 rw [if_pos trivial]
 have : (BitVec.ofInt IntKind.u32.bits (a.toNat : Int) ^^^ BitVec.ofInt IntKind.u32.bits (b.toNat : Int)).toNat = (a ^^^ b).toNat := by
  show (BitVec.ofInt 32 (a.toNat : Int) ^^^ BitVec.ofInt 32 (b.toNat : Int)).toNat = _
  rw [ofW, ofW]
 rw [this, wrapW]
theorem bin_andW (a b : W32) : binV .and (vW a) (vW b) = some (vW (a &&& b)) := by
 simp only [binV, vW]
 rw [if_pos trivial]
 have : (BitVec.ofInt IntKind.u32.bits (a.toNat : Int) &&& BitVec.ofInt IntKind.u32.bits (b.toNat : Int)).toNat = (a &&& b).toNat := by
  show (BitVec.ofInt 32 (a.toNat : Int) &&& BitVec.ofInt 32 (b.toNat : Int)).toNat = _
  rw [ofW, ofW]
 rw [this, wrapW]
theorem bin_shrW (a : W32) (k : Nat) (hk : k ≤ 32) : binV .shr (vW a) (.int .u64 (k : Int)) = some (vW (a >>> k)) := by
 simp only [binV, vW]
 rw [if_pos (by omega)]
 congr 2
 have h1 : min ((k : Int)).toNat IntKind.u32.bits = k := by simp [IntKind.bits]; omega
 rw [h1, BitVec.toNat_ushiftRight, Nat.shiftRight_eq_div_pow]
 rw [Int.fdiv_eq_ediv_of_nonneg _ (by exact_mod_cast Nat.zero_le _)]
 exact_mod_cast rfl
theorem u8_32 (c : UInt8) : Value.int .u32 (IntKind.u32.wrap (c.toNat : Int)) = vW (ofB c) := by
 have h := c.toNat_lt
 have h2 : (ofB c).toNat = c.toNat := by simp [ofB]
 have := wrapW (ofB c)
 rw [h2] at this
 rw [vW, h2, this]
theorem F143 : Fun Tryz.prog 143 14 v143 c143 o143 := Fun.mk' Tryz.func143 Tryz.ntmps143 (by kernel_rfl) (by kernel_rfl) s143 q143
theorem F135 : Fun Tryz.prog 135 11 v135 c135 o135 := Fun.mk' Tryz.func135 Tryz.ntmps135 (by kernel_rfl) (by kernel_rfl) s135 q135
theorem F127 : Fun Tryz.prog 127 14 v127 c127 o127 := Fun.mk' Tryz.func127 Tryz.ntmps127 (by kernel_rfl) (by kernel_rfl) s127 q127
theorem bit0 (v : W32) : v.getLsbD 0 = true ↔ v.toNat % 2 = 1 := by
 rw [BitVec.getLsbD, Nat.testBit_zero]
 simp
theorem bin_quoW2 (v : W32) : binV .quo (vW v) (.int .u32 2) = some (vW (v >>> 1)) := by
 have h := v.isLt
 refine (bin_quo .u32 v.toNat 2 (by decide) (by simp [IntKind.max, IntKind.signed, IntKind.bits]; omega) rfl).trans ?_
 rw [vW, BitVec.toNat_ushiftRight, Nat.shiftRight_eq_div_pow]
theorem bin_remW2 (v : W32) : binV .rem (vW v) (.int .u32 2) = some (.int .u32 ((v.toNat % 2 : Nat) : Int)) := bin_rem .u32 v.toNat 2 (by decide)
theorem bin_xorP (v : W32) : binV .xor (vW v) (.int .u32 3988292384) = some (vW (v ^^^ poly)) := bin_xorW v poly
theorem bin_eql1 (n : Nat) : binV .eql (.int .u32 (n : Int)) (.int .u32 1) = some (.bool (decide (n = 1))) := by
 simp only [binV]
 rw [if_pos trivial]
 congr 2
 simp
 omega
theorem step_ok (v : W32) (G : Nat → Option Obj) : FnS Tryz.prog 135 #[vW v] G (vW (stp v)) := by
 refine F135.fnS (by simp) (go_of ?_)
 unfold c135
 intros; refine gr 0 0 ?_; refine sJ c135r0.eq_1 ?_
 have hr := bin_remW2 v
 generalize hn : v.toNat % 2 = n at hr
 intros; refine gr 3 5 ?_; refine sJ3 c135r1.eq_1 @hr @bin_eql1 ?_
 intros; refine gc ?_; refine sI ?_
 refine gb (fun h1 => ?_) (fun h1 => ?_)
 ·intros; refine gr 6 9 ?_; refine sJ3 c135r2.eq_1 @bin_quoW2 @bin_xorP ?_
  intros; refine rV ?_; simp only [push_cast, Nat.reduceBEq]
  rw [stp, if_pos ((bit0 v).2 (by rw [hn]; simpa using h1))]
 ·(repeat first | refine go_skip ?_ | refine go_b ?_)
  intros; refine gr 9 11 ?_; refine sJ2 c135r3.eq_1 @bin_quoW2 ?_
  intros; refine rV ?_; simp only [push_cast, Nat.reduceBEq]
  rw [stp, if_neg (fun h => by have := (bit0 v).1 h; rw [hn] at this; simp [this] at h1), BitVec.xor_zero]
theorem steps_ok (v : W32) (n : Nat) (hn : n ≤ 1000) (G : Nat → Option Obj) : FnS Tryz.prog 127 #[vW v, .int .i64 (n : Int)] G (vW (stpN n v)) := by
 refine F127.fnS (by simp) (go_of ?_)
 unfold c127
 intros; refine gr 0 0 ?_; refine sJ c127r0.eq_1 ?_
 intros; refine gr 0 0 ?_; refine sJ c127r1.eq_1 ?_
 (intros; try refine go_st ?_)
 refine go_loop (fun e h => ∃ k : Nat, k ≤ n ∧ e 5 = .int .i64 k ∧ e 1 = .int .i64 n ∧ e 0 = vW (stpN k v) ∧ h = ⟨G, [], []⟩) (fun e h => n - iv (e 5)) ?_ ?_
 ·exact ⟨0, Nat.zero_le _, eE, eE, by refine sI ?_; rfl, rfl⟩
 ·rintro e h ⟨k, hk, e5, e1, e0, rfl⟩
  refine go_keep [0, 1, 5] ?_
  refine sJ3 @e0 @e1 @e5 ?_
  intros; refine gr 6 8 ?_; refine sJ c127r2.eq_1 ?_
  intros; refine gc ?_; refine sI ?_
  refine gb (fun h1 => ?_) (fun h1 => ?_)
  ·have hkn : k < n := by simpa using h1
   have hw3 := inc_i k n (by omega) (by unfold maxLen; omega)
   intros; refine gr 11 13 ?_; refine sJ c127r3.eq_1 ?_
   refine (step_ok (stpN k v) G _ _).mono ?_; rintro _ _ ⟨rfl, rfl⟩; refine sI ?_
   intros; refine gr 9 11 ?_; refine sJ2 c127r4.eq_1 @hw3 ?_
   (intros; try refine go_st ?_)
   refine go_l ⟨⟨k + 1, by omega, eE, eE, by refine sI ?_; rfl, rfl⟩, ?_⟩
   refine sI ?_
   omega
  ·have hkn : k = n := by simp at h1; omega
   subst hkn
   refine go_exit ?_
   refine sI ?_
   intros; refine gr 13 14 ?_; refine sJ c127r5.eq_1 ?_
   intros; refine rV ?_; simp only [push_cast, Nat.reduceBEq]
theorem F134 : Fun Tryz.prog 134 13 v134 c134 o134 := Fun.mk' Tryz.func134 Tryz.ntmps134 (by kernel_rfl) (by kernel_rfl) s134 q134
theorem F144 : Fun Tryz.prog 144 24 v144 c144 o144 := Fun.mk' Tryz.func144 Tryz.ntmps144 (by kernel_rfl) (by kernel_rfl) s144 q144
theorem F126 : Fun Tryz.prog 126 21 v126 c126 o126 := Fun.mk' Tryz.func126 Tryz.ntmps126 (by kernel_rfl) (by kernel_rfl) s126 q126
theorem F116 : Fun Tryz.prog 116 21 v116 c116 o116 := Fun.mk' Tryz.func116 Tryz.ntmps116 (by kernel_rfl) (by kernel_rfl) s116 q116
theorem bin_and1 (v : W32) : binV .and (vW v) (.int .u32 1) = some (vW (v &&& 1#32)) := bin_andW v 1#32
theorem bin_and15 (v : W32) : binV .and (vW v) (.int .u32 15) = some (vW (v &&& 15#32)) := bin_andW v 15#32
theorem bin_Pand (v : W32) : binV .and (.int .u32 3988292384) (vW v) = some (vW (poly &&& v)) := bin_andW poly v
theorem bin_shr1 (v : W32) : binV .shr (vW v) (.int .u64 1) = some (vW (v >>> 1)) := bin_shrW v 1 (by omega)
theorem bin_shr4 (v : W32) : binV .shr (vW v) (.int .u64 4) = some (vW (v >>> 4)) := bin_shrW v 4 (by omega)
theorem un_negW (v : W32) : unV .neg (vW v) = some (vW (-v)) := by
 have := v.isLt
 simp only [unV, vW]
 congr 2
 rw [BitVec.toNat_neg]
 simp only [IntKind.wrap, IntKind.bits, IntKind.signed]
 simp
 omega
theorem un_notW (v : W32) : unV .xor (vW v) = some (vW (~~~v)) := by
 simp only [unV, vW]
 have : (BitVec.ofInt IntKind.u32.bits (if IntKind.u32.signed = true then -1 else IntKind.u32.max) ^^^ BitVec.ofInt IntKind.u32.bits (v.toNat : Int)).toNat = (~~~v).toNat := by
  show (BitVec.ofInt 32 4294967295 ^^^ BitVec.ofInt 32 (v.toNat : Int)).toNat = _
  have h1 : BitVec.ofInt 32 4294967295 = BitVec.allOnes 32 := by decide
  rw [ofW, h1, BitVec.allOnes_xor]
 rw [this, wrapW]
theorem bin_notW (v : W32) : binV .xor (vW v) (.int .u32 4294967295) = some (vW (~~~v)) := by
 have h := bin_xorW v 4294967295#32
 have h1 : (4294967295#32 : W32) = BitVec.allOnes 32 := by decide
 rw [h1, BitVec.xor_allOnes] at h
 exact h
theorem stp_and (v : W32) : (v >>> 1) ^^^ (poly &&& -(v &&& 1#32)) = stp v := by
 have h1 : v &&& 1#32 = if v.getLsbD 0 = true then 1#32 else 0#32 := by
  apply BitVec.eq_of_toNat_eq
  rw [BitVec.toNat_and]
  have : (1#32).toNat = 1 := rfl
  rw [this, Nat.and_one_is_mod]
  by_cases h : v.getLsbD 0 = true
  ·rw [if_pos h, (bit0 v).1 h]; rfl
  ·rw [if_neg h]
   have h3 : ¬ v.toNat % 2 = 1 := fun h9 => h ((bit0 v).2 h9)
   have h2 : v.toNat % 2 = 0 := by omega
   rw [h2]
   rfl
 rw [h1, stp]
 by_cases h : v.getLsbD 0 = true
 ·rw [if_pos h, if_pos h]
  have : poly &&& -1#32 = poly := by decide
  rw [this]
 ·rw [if_neg h, if_neg h]
  have : poly &&& -0#32 = 0#32 := by decide
  rw [this]
theorem half_ok (v : W32) (G : Nat → Option Obj) : FnS Tryz.prog 143 #[vW v] G (vW (stpN 4 v)) := by
 refine F143.fnS (by simp) (go_of ?_)
 unfold c143
 intros; refine gr 0 0 ?_; refine sJ c143r0.eq_1 ?_
 intros; refine gr 0 0 ?_; refine sJ c143r1.eq_1 ?_
 (intros; try refine go_st ?_)
 refine go_loop (fun e h => ∃ k : Nat, k ≤ 4 ∧ e 3 = .int .i64 k ∧ e 0 = vW (stpN k v) ∧ h = ⟨G, [], []⟩) (fun e h => 4 - iv (e 3)) ?_ ?_
 ·exact ⟨0, Nat.zero_le _, eE, by refine sI ?_; rfl, rfl⟩
 ·rintro e h ⟨k, hk, e3, e0, rfl⟩
  refine go_keep [0, 3] ?_
  refine sJ2 @e0 @e3 ?_
  intros; refine gr 0 0 ?_; refine sJ c143r2.eq_1 ?_
  intros; refine gc ?_; refine sI ?_
  refine gb (fun h1 => ?_) (fun h1 => ?_)
  ·have hkn : k < 4 := by simp at h1; omega
   have hw3 := inc_i k 4 (by omega) (by unfold maxLen; omega)
   intros; refine gr 5 12 ?_; refine sJ7 c143r3.eq_1 @bin_shr1 @bin_and1 @un_negW @bin_Pand @bin_xorW @stp_and ?_
   intros; refine gr 12 13 ?_; refine sJ2 c143r4.eq_1 @hw3 ?_
   (intros; try refine go_st ?_)
   refine go_l ⟨⟨k + 1, by omega, eE, by refine sI ?_; rfl, rfl⟩, ?_⟩
   refine sI ?_
   omega
  ·have hkn : k = 4 := by simp at h1; omega
   subst hkn
   refine go_exit ?_
   refine sI ?_
   intros; refine gr 13 14 ?_; refine sJ c143r5.eq_1 ?_
   intros; refine rV ?_; simp only [push_cast, Nat.reduceBEq]
def TabAt (G : Nat → Option Obj) (v : Value) : Prop := ∃ b, v = .pointer (some ⟨b, 0, none⟩) ∧ ∀ i : Nat, i < 16 → cellG G ⟨b, i, none⟩ = some (vW (stpN 4 (BitVec.ofNat 32 i)))
theorem TabAt.le {G G' : Nat → Option Obj} {v : Value} (h : TabAt G v) (hg : Gle G G') : TabAt G' v := by
 obtain ⟨b, h1, h2⟩ := h
 exact ⟨b, h1, fun i hi => cellG_le hg (h2 i hi)⟩
theorem and15 (v : W32) : (v &&& 15#32).toNat < 16 ∧ BitVec.ofNat 32 (v &&& 15#32).toNat = v &&& 15#32 := by
 refine ⟨?_, by simp⟩
 rw [BitVec.toNat_and]
 exact Nat.lt_of_le_of_lt Nat.and_le_right (by decide)
theorem ix_W {b n : Nat} {v : W32} (h : v.toNat < n) : ixPV n 1 (.pointer (some ⟨b, 0, none⟩)) (vW v) = some (.pointer (some ⟨b, v.toNat, none⟩)) := by
 simp only [ixPV, vW]
 rw [if_pos ⟨by omega, by omega⟩]
 simp [add_off]
theorem add_ok (v : W32) (c : UInt8) (p : Value) (G : Nat → Option Obj) (hp : TabAt G p) : FnS Tryz.prog 144 #[vW v, .int .u8 (c.toNat : Int), p] G (vW (upd v c)) := by
 obtain ⟨b, rfl, ht⟩ := hp
 refine F144.fnS (by simp) (go_of ?_)
 unfold c144
 intros; refine gr 0 0 ?_; refine sJ c144r0.eq_1 ?_
 intros; refine gr 6 10 ?_; refine sJ3 c144r1.eq_1 @u8_32 @bin_xorW ?_
 rw [upd_eq]
 generalize v ^^^ ofB c = x
 obtain ⟨g1, g2⟩ := and15 x
 intros; refine gr 10 17 ?_; (try simp -implicitDefEqProofs only [kR_e, kQ_e, push_cast, Nat.reduceBEq, Nat.reduceAdd, Nat.reduceSub, Nat.reduceMul, Nat.reduceLT, Nat.reduceLeDiff, Nat.reduceEqDiff, reduceIte, Bool.not_true, Bool.not_false, true_and, and_true, Option.map_some, Option.bind_some, Int.toNat_natCast, c144r2, bin_and15, ix_W g1])
 refine ⟨_, ⟨_, rfl, .g (ht _ g1)⟩, ?_⟩
 rw [g2]
 refine sJ2 @bin_shr4 @bin_xorW ?_
 rw [← half4]
 generalize half4 x = y
 obtain ⟨k1, k2⟩ := and15 y
 intros; refine gr 17 24 ?_; (try simp -implicitDefEqProofs only [kR_e, kQ_e, push_cast, Nat.reduceBEq, Nat.reduceAdd, Nat.reduceSub, Nat.reduceMul, Nat.reduceLT, Nat.reduceLeDiff, Nat.reduceEqDiff, reduceIte, Bool.not_true, Bool.not_false, true_and, and_true, Option.map_some, Option.bind_some, Int.toNat_natCast, c144r3, bin_and15, ix_W k1])
 refine ⟨_, ⟨_, rfl, .g (ht _ k1)⟩, ?_⟩
 rw [k2]
 refine sJ2 @bin_shr4 @bin_xorW ?_
 intros; refine rV ?_; simp only [push_cast, Nat.reduceBEq]
 rfl
theorem splice1 {cs : List Value} {o : Nat} (x : Value) (h : o < cs.length) : splice cs o [x] = cs.set o x := by
 rw [splice, List.set_eq_take_append_cons_drop, if_pos h]
 simp
theorem adder_ok (G : Nat → Option Obj) : FnD Tryz.prog 134 #[] G (fun G' r => ∃ p, r = .func (.func 144) #[] #[p] ∧ TabAt G' p) := by
 refine F134.fnD (by simp) (go_of ?_)
 unfold c134
 intros; refine gr 0 0 ?_; refine sJ c134r0.eq_1 ?_
 intros; refine gr 0 0 ?_; refine sJ c134r1.eq_1 ?_
 intro b hb
 refine sI ?_
 intros; refine gr 0 0 ?_; refine sJ c134r2.eq_1 ?_
 (intros; try refine go_st ?_)
 refine go_loop (fun e h => ∃ (k : Nat) (cs : List Value), (k ≤ 16 ∧ cs.length = 16 ∧ ∀ i, i < k → cs[i]? = some (vW (stpN 4 (BitVec.ofNat 32 i)))) ∧ e 3 = .int .i64 k ∧ e 1 = .pointer (some ⟨b, 0, none⟩) ∧ h = ⟨G, [.blk b cs], []⟩) (fun e h => 16 - iv (e 3)) ?_ ?_
 ·exact ⟨0, _, ⟨Nat.zero_le _, rfl, fun i hi => by omega⟩, eE, eE, rfl⟩
 ·rintro e h ⟨k, cs, ⟨hk, hl, ht⟩, e3, e1, rfl⟩
  refine go_keep [1, 3] ?_
  refine sJ2 @e1 @e3 ?_
  intros; refine gr 0 0 ?_; refine sJ c134r3.eq_1 ?_
  intros; refine gc ?_; refine sI ?_
  refine gb (fun h1 => ?_) (fun h1 => ?_)
  ·have hkn : k < 16 := by simp at h1; omega
   have hw3 := inc_i k 16 (by omega) (by unfold maxLen; omega)
   have hkw : Value.int .u32 (IntKind.u32.wrap (k : Int)) = vW (BitVec.ofNat 32 k) := by
    have h2 : (BitVec.ofNat 32 k).toNat = k := by simp; omega
    have := wrapW (BitVec.ofNat 32 k)
    rw [h2] at this
    rw [vW, h2, this]
   intros; refine gr 5 6 ?_; refine sJ c134r4.eq_1 ?_
   intros; refine gr 6 11 ?_; refine sJ2 c134r5.eq_1 @hkw ?_
   refine (half_ok (BitVec.ofNat 32 k) G _ _).mono ?_; rintro _ _ ⟨rfl, rfl⟩; refine sI ?_
   refine ⟨by omega, ?_⟩
   refine stX_blk (xs := [vW (stpN 4 (BitVec.ofNat 32 k))]) [] [] rfl (by simp; omega) ⟨rfl, rfl⟩ ?_
   rw [splice1 _ (by omega), show 0 + k * 1 = k by omega]
   refine sI ?_
   intros; refine gr 11 12 ?_; refine sJ2 c134r6.eq_1 @hw3 ?_
   (intros; try refine go_st ?_)
   refine go_l ⟨⟨k + 1, _, ⟨by omega, by simp [hl], fun i hi => ?_⟩, eE, eE, rfl⟩, ?_⟩
   ·rw [List.getElem?_set]
    by_cases hik : k = i
    ·rw [if_pos hik, if_pos (by omega), ← hik]
    ·rw [if_neg hik]; exact ht i (by omega)
   ·refine sI ?_
    omega
  ·have hkn : k = 16 := by simp at h1; omega
   subst hkn
   refine go_exit ?_
   refine sI ?_
   intros; refine gr 12 13 ?_; refine sJ c134r7.eq_1 ?_
   (intros; try refine go_st ?_)
   refine go_gx (gx_blk_at [] []) ?_
   rintro h' ⟨G2, rfl, hg2, hc⟩
   intros; refine rV ?_; simp only [push_cast, Nat.reduceBEq]
   exact ⟨_, rfl, b, rfl, fun i hi => by simpa [add_off] using hc i _ (ht i hi)⟩
theorem fold_succ {l : List UInt8} {k : Nat} {x : UInt8} (hx : l[k]? = some x) (v : W32) : (l.take (k + 1)).foldl upd v = upd ((l.take k).foldl upd v) x := by
 have hk := List.getElem?_eq_some_iff.1 hx
 rw [List.take_succ_eq_append_getElem hk.1, hk.2]
 simp
theorem Sum_ok (l : List UInt8) (v : Value) (G : Nat → Option Obj) (hl : SB G v l) : FnD Tryz.prog 126 #[v] G (fun _ r => r = vW (crcB l)) := by
 refine F126.fnD (by simp) (go_of ?_)
 obtain ⟨A, c, rfl, hc, hm, hA⟩ := hl
 unfold c126
 intros; refine gr 0 0 ?_; refine sJ c126r0.eq_1 ?_
 intros; refine gr 7 8 ?_; refine sJ c126r1.eq_1 ?_
 refine (adder_ok G _ []).mono ?_
 rintro r h' ⟨G1, rfl, hg1, p, rfl, hp⟩
 refine sI ?_
 have hA1 := hA.le hg1 (E' := UE) fun _ _ h => h
 intros; refine gr 0 0 ?_; refine sJ c126r2.eq_1 ?_
 intros; refine gr 0 0 ?_; refine sJ c126r3.eq_1 ?_
 (intros; try refine go_st ?_)
 refine go_loop (fun e h => ∃ k : Nat, k ≤ l.length ∧ e 10 = .int .i64 k ∧ e 9 = .int .i64 l.length ∧ e 8 = .slice A l.length c ∧ e 3 = .func (.func 144) #[] #[p] ∧ e 4 = vW ((l.take k).foldl upd 4294967295#32) ∧ h = ⟨G1, [], []⟩) (fun e h => l.length - iv (e 10)) ?_ ?_
 ·exact ⟨0, Nat.zero_le _, eE, eE, eE, eE, by refine sI ?_; rfl, rfl⟩
 ·rintro e h ⟨k, hk, e10, e9, e8, e3, e4, rfl⟩
  refine go_keep [3, 4, 8, 9, 10] ?_
  refine sJ5 @e3 @e4 @e8 @e9 @e10 ?_
  intros; refine gr 0 0 ?_; refine sJ c126r4.eq_1 ?_
  intros; refine gc ?_; refine sI ?_
  refine gb (fun h1 => ?_) (fun h1 => ?_)
  ·have hkn : k < l.length := by simpa using h1
   have hw3 := inc_i k c (by omega) hm
   obtain ⟨x, hx⟩ : ∃ x, l[k]? = some x := ⟨l[k], List.getElem?_eq_getElem (by omega)⟩
   intros; refine gr 12 14 ?_; refine sJ c126r5.eq_1 ?_
   refine hA1.x_l1 hx rfl rfl ?_
   rintro a1 ha1 u1 hu
   cases hu
   refine sI ?_
   intros; refine gr 14 18 ?_; refine sJ c126r6.eq_1 ?_
   refine .inl ⟨_, _, rfl, (add_ok _ x p G1 hp _ _).mono ?_⟩
   rintro _ _ ⟨rfl, rfl⟩
   refine sI ?_
   intros; refine gr 18 19 ?_; refine sJ2 c126r7.eq_1 @hw3 ?_
   (intros; try refine go_st ?_)
   refine go_l ⟨⟨k + 1, by omega, eE, eE, eE, eE, by rw [fold_succ hx]; (refine sI ?_; try with_reducible exact True.intro), rfl⟩, ?_⟩
   refine sI ?_
   omega
  ·have hkn : k = l.length := by simp at h1; omega
   subst hkn
   refine go_exit ?_
   refine sI ?_
   intros; refine gr 19 21 ?_; refine sJ2 c126r8.eq_1 @un_notW ?_
   intros; refine rV ?_; simp only [push_cast, Nat.reduceBEq]
   rw [List.take_length]
   rfl
theorem RSum_ok (l : List UInt8) (v : Value) (G : Nat → Option Obj) (hl : SB G v l) : FnS Tryz.prog 116 #[v] G (vW (crcB l)) := by
 refine F116.fnS (by simp) (go_of ?_)
 obtain ⟨A, c, rfl, hc, hm, hA⟩ := hl
 unfold c116
 intros; refine gr 0 0 ?_; refine sJ c116r0.eq_1 ?_
 intros; refine gr 0 0 ?_; refine sJ c116r1.eq_1 ?_
 intros; refine gr 0 0 ?_; refine sJ c116r2.eq_1 ?_
 (intros; try refine go_st ?_)
 refine go_loop (fun e h => ∃ k : Nat, k ≤ l.length ∧ e 4 = .int .i64 k ∧ e 0 = .slice A l.length c ∧ e 3 = vW ((l.take k).foldl upd 4294967295#32) ∧ h = ⟨G, [], []⟩) (fun e h => l.length - iv (e 4)) ?_ ?_
 ·exact ⟨0, Nat.zero_le _, eE, eE, by refine sI ?_; rfl, rfl⟩
 ·rintro e h ⟨k, hk, e4, e0, e3, rfl⟩
  refine go_keep [0, 3, 4] ?_
  refine sJ3 @e0 @e3 @e4 ?_
  intros; refine gr 5 8 ?_; refine sJ c116r3.eq_1 ?_
  intros; refine gc ?_; refine sI ?_
  refine gb (fun h1 => ?_) (fun h1 => ?_)
  ·have hkn : k < l.length := by simpa using h1
   have hw3 := inc_i k c (by omega) hm
   obtain ⟨x, hx⟩ : ∃ x, l[k]? = some x := ⟨l[k], List.getElem?_eq_getElem (by omega)⟩
   intros; refine gr 11 19 ?_; refine sJ c116r4.eq_1 ?_
   refine hA.x_l1 hx rfl rfl ?_
   rintro a1 ha1 u1 hu
   cases hu
   refine sJ2 @u8_32 @bin_xorW ?_
   refine (steps_ok _ 8 (by omega) G _ _).mono ?_; rintro _ _ ⟨rfl, rfl⟩; refine sI ?_
   intros; refine gr 9 11 ?_; refine sJ2 c116r5.eq_1 @hw3 ?_
   (intros; try refine go_st ?_)
   refine go_l ⟨⟨k + 1, by omega, eE, eE, by rw [fold_succ hx]; refine sI ?_; rfl, rfl⟩, ?_⟩
   refine sI ?_
   omega
  ·have hkn : k = l.length := by simp at h1; omega
   subst hkn
   refine go_exit ?_
   refine sI ?_
   intros; refine gr 19 21 ?_; refine sJ2 c116r6.eq_1 @bin_notW ?_
   intros; refine rV ?_; simp only [push_cast, Nat.reduceBEq]
   rw [List.take_length]
   rfl
end Go.Proofs.YtppgnokhdpaljaaGreat

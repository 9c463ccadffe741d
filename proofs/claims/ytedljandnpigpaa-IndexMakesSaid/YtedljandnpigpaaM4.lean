/- Parts of a proof, 10 texts in one file. No condition. -/
import Derived.Test.YtedljandnpigpaaRows
import Derived.Test.YtedljandnpigpaaM1
import Derived.Test.YtedljandnpigpaaM2
import Derived.Test.YtedljandnpigpaaM3
set_option linter.unusedSimpArgs false
set_option linter.unusedVariables false
namespace Go.Proofs.Ytedljandnpigpaa
open Go Go.Kx
-- watermeet/batch.parse N=155
def c67r0 : List SI := [
 ⟨none, .bx 1 (.t 0), none, 0⟩,
 ⟨none, .alR 2 [(.int .i64 0), (.int .i64 0), (.int .i64 0), (.int .i64 0), (.int .i64 0), (.int .i64 0), (.int .i64 0), (.bool false), (.int .i64 0), (.slice none 0 0)], none, 0⟩,
 ⟨none, .al 3 [(.bool false)], none, 0⟩]
def c67r1 : List SI := [
 ⟨none, .al 4 [(.int .i64 0)], none, 0⟩,
 ⟨none, .st (.t 4) 1 (.i 0), none, 0⟩]
def c67r2 : List SI := [
 ⟨none, .st (.t 3) 1 (.b true), none, 0⟩]
def c67r3 : List SI := [
 ⟨none, .mkf 15 (.func 85) [(.t 1), (.t 4), (.t 3)], none, 0⟩,
 ⟨none, .mv 5 (.t 15), none, 0⟩]
def c67r4 : List SI := [
 ⟨none, .al 6 [(.int .i64 0), (.int .i64 0), (.int .i64 0), (.int .i64 0), (.int .i64 0), (.int .i64 0), (.int .i64 0)], none, 0⟩]
def c67r5 : List SI := [
 ⟨none, .mv 16 (.i 0), none, 0⟩]
def c67r6 : List SI := [
 ⟨none, .bin 17 .lss (.t 16) (.i 7), none, 0⟩]
def c67r7 : List SI := [
 ⟨none, .mv 18 (.t 16), none, 0⟩,
 ⟨none, .mv 7 (.t 18), none, 0⟩]
def c67r8 : List SI := [
 ⟨none, .mv 19 (.t 7), none, 0⟩,
 ⟨none, .mv 20 (.t 5), none, 0⟩,
 ⟨none, .cav 21 (.t 20) [], none, 0⟩,
 ⟨none, .ixP 22 (.t 6) (.t 19) 7 1, none, 0⟩,
 ⟨none, .st (.t 22) 1 (.t 21), none, 0⟩]
def c67r9 : List SI := [
 ⟨none, .bin 23 .add (.t 16) (.i 1), none, 0⟩,
 ⟨none, .mv 16 (.t 23), none, 0⟩]
def c67r10 : List SI := [
 ⟨none, .ld 24 (.t 3) none, none, 0⟩,
 ⟨none, .un 25 .not (.t 24), none, 0⟩,
 ⟨none, .mv 26 (.t 25), none, 0⟩,
 ⟨some (26, false), .ld 27 (.t 4) none, none, 27⟩,
 ⟨some (26, false), .ld 28 (.t 1) none, none, 28⟩,
 ⟨some (26, false), .len 29 false (.t 28), none, 29⟩,
 ⟨some (26, false), .bin 30 .geq (.t 27) (.t 29), none, 30⟩,
 ⟨none, .pick 31 (.t 26) (.b true) (.t 30), none, 0⟩,
 ⟨none, .mv 32 (.t 31), none, 0⟩,
 ⟨some (32, false), .ld 33 (.t 1) none, none, 33⟩,
 ⟨some (32, false), .ld 34 (.t 4) none, none, 34⟩,
 ⟨some (32, false), .ixA 35 (.t 33) (.t 34) 1, none, 35⟩,
 ⟨some (32, false), .ld 36 (.t 35) none, none, 36⟩,
 ⟨some (32, false), .bin 37 .geq (.t 36) (.v (.int .u8 8)), none, 37⟩,
 ⟨none, .pick 38 (.t 32) (.b true) (.t 37), none, 0⟩,
 ⟨none, .mv 39 (.t 38), none, 0⟩,
 ⟨some (39, false), .ixP 40 (.t 6) (.i 0) 7 1, none, 40⟩,
 ⟨some (39, false), .ld 41 (.t 40) none, none, 41⟩,
 ⟨some (39, false), .bin 42 .lss (.t 41) (.i 0), none, 42⟩,
 ⟨none, .pick 43 (.t 39) (.b true) (.t 42), none, 0⟩,
 ⟨none, .mv 44 (.t 43), none, 0⟩,
 ⟨some (44, false), .ixP 45 (.t 6) (.i 0) 7 1, none, 45⟩,
 ⟨some (44, false), .ld 46 (.t 45) none, none, 46⟩,
 ⟨some (44, false), .bin 47 .gtr (.t 46) (.i 1099511627776), none, 47⟩,
 ⟨none, .pick 48 (.t 44) (.b true) (.t 47), none, 0⟩,
 ⟨none, .mv 49 (.t 48), none, 0⟩,
 ⟨some (49, false), .ixP 50 (.t 6) (.i 1) 7 1, none, 50⟩,
 ⟨some (49, false), .ld 51 (.t 50) none, none, 51⟩,
 ⟨some (49, false), .bin 52 .lss (.t 51) (.i 0), none, 52⟩,
 ⟨none, .pick 53 (.t 49) (.b true) (.t 52), none, 0⟩,
 ⟨none, .mv 54 (.t 53), none, 0⟩,
 ⟨some (54, false), .ixP 55 (.t 6) (.i 1) 7 1, none, 55⟩,
 ⟨some (54, false), .ld 56 (.t 55) none, none, 56⟩,
 ⟨some (54, false), .bin 57 .geq (.t 56) (.i 16), none, 57⟩,
 ⟨none, .pick 58 (.t 54) (.b true) (.t 57), none, 0⟩]
def c67r11 : List SI := [
 ⟨none, .bld 59 [(.int .i64 0), (.int .i64 0), (.int .i64 0), (.int .i64 0), (.int .i64 0), (.int .i64 0), (.int .i64 0), (.bool false), (.int .i64 0), (.slice none 0 0)] [], none, 0⟩,
 ⟨none, .stR 2 0 10 (.t 59), none, 0⟩,
 ⟨none, .st (.t 3) 1 (.b false), none, 0⟩]
def c67r12 : List SI := [
 ⟨none, .ld 60 (.t 1) none, none, 0⟩,
 ⟨none, .ld 61 (.t 4) none, none, 0⟩,
 ⟨none, .ixA 62 (.t 60) (.t 61) 1, none, 0⟩,
 ⟨none, .ld 63 (.t 62) none, none, 0⟩,
 ⟨none, .mv 8 (.t 63), none, 0⟩]
def c67r13 : List SI := [
 ⟨none, .ld 64 (.t 4) none, none, 0⟩,
 ⟨none, .bin 65 .add (.t 64) (.i 1), none, 0⟩,
 ⟨none, .st (.t 4) 1 (.t 65), none, 0⟩]
def c67r14 : List SI := [
 ⟨none, .ixP 66 (.t 6) (.i 0) 7 1, none, 0⟩,
 ⟨none, .ld 67 (.t 66) none, none, 0⟩,
 ⟨none, .ixP 68 (.t 6) (.i 0) 7 1, none, 0⟩,
 ⟨none, .ld 69 (.t 68) none, none, 0⟩,
 ⟨none, .ixP 70 (.t 6) (.i 1) 7 1, none, 0⟩,
 ⟨none, .ld 71 (.t 70) none, none, 0⟩,
 ⟨none, .bin 72 .add (.t 69) (.t 71), none, 0⟩,
 ⟨none, .ixP 73 (.t 6) (.i 2) 7 1, none, 0⟩,
 ⟨none, .ld 74 (.t 73) none, none, 0⟩,
 ⟨none, .ixP 75 (.t 6) (.i 3) 7 1, none, 0⟩,
 ⟨none, .ld 76 (.t 75) none, none, 0⟩,
 ⟨none, .ixP 77 (.t 6) (.i 4) 7 1, none, 0⟩,
 ⟨none, .ld 78 (.t 77) none, none, 0⟩,
 ⟨none, .ixP 79 (.t 6) (.i 5) 7 1, none, 0⟩,
 ⟨none, .ld 80 (.t 79) none, none, 0⟩,
 ⟨none, .ixP 81 (.t 6) (.i 6) 7 1, none, 0⟩,
 ⟨none, .ld 82 (.t 81) none, none, 0⟩,
 ⟨none, .mv 83 (.t 8), none, 0⟩,
 ⟨none, .bin 84 .and (.t 83) (.v (.int .u8 4)), none, 0⟩,
 ⟨none, .bin 85 .neq (.t 84) (.v (.int .u8 0)), none, 0⟩,
 ⟨none, .mv 86 (.t 8), none, 0⟩,
 ⟨none, .bin 87 .andNot (.t 86) (.v (.int .u8 4)), none, 0⟩,
 ⟨none, .cvI 88 .i64 (.t 87), none, 0⟩,
 ⟨none, .bld 89 [(.int .i64 0), (.int .i64 0), (.int .i64 0), (.int .i64 0), (.int .i64 0), (.int .i64 0), (.int .i64 0), (.bool false), (.int .i64 0), (.slice none 0 0)] [(0, 1, (.t 67)), (1, 1, (.t 72)), (2, 1, (.t 74)), (3, 1, (.t 76)), (4, 1, (.t 78)), (5, 1, (.t 80)), (6, 1, (.t 82)), (7, 1, (.t 85)), (8, 1, (.t 88))], none, 0⟩,
 ⟨none, .stR 2 0 10 (.t 89), none, 0⟩]
def c67r15 : List SI := [
 ⟨none, .mv 90 (.t 5), none, 0⟩,
 ⟨none, .cav 91 (.t 90) [], none, 0⟩,
 ⟨none, .mv 9 (.t 91), none, 0⟩]
def c67r16 : List SI := [
 ⟨none, .ld 92 (.t 3) none, none, 0⟩,
 ⟨none, .un 93 .not (.t 92), none, 0⟩,
 ⟨none, .mv 94 (.t 93), none, 0⟩,
 ⟨some (94, false), .mv 95 (.t 9), none, 95⟩,
 ⟨some (94, false), .bin 96 .lss (.t 95) (.i 0), none, 96⟩,
 ⟨none, .pick 97 (.t 94) (.b true) (.t 96), none, 0⟩,
 ⟨none, .mv 98 (.t 97), none, 0⟩,
 ⟨some (98, false), .mv 99 (.t 9), none, 99⟩,
 ⟨some (98, false), .bin 100 .gtr (.t 99) (.i 16), none, 100⟩,
 ⟨none, .pick 101 (.t 98) (.b true) (.t 100), none, 0⟩]
def c67r17 : List SI := [
 ⟨none, .bld 102 [(.int .i64 0), (.int .i64 0), (.int .i64 0), (.int .i64 0), (.int .i64 0), (.int .i64 0), (.int .i64 0), (.bool false), (.int .i64 0), (.slice none 0 0)] [], none, 0⟩,
 ⟨none, .stR 2 0 10 (.t 102), none, 0⟩,
 ⟨none, .st (.t 3) 1 (.b false), none, 0⟩]
def c67r18 : List SI := [
 ⟨none, .mv 10 (.i 0), none, 0⟩]
def c67r19 : List SI := [
 ⟨none, .mv 103 (.t 9), none, 0⟩,
 ⟨none, .bin 104 .gtr (.t 103) (.i 0), none, 0⟩]
def c67r20 : List SI := [
 ⟨none, .mv 105 (.t 5), none, 0⟩,
 ⟨none, .cav 106 (.t 105) [], none, 0⟩,
 ⟨none, .mv 10 (.t 106), none, 0⟩]
def c67r21 : List SI := [
 ⟨none, .mv 11 (.i 0), none, 0⟩]
def c67r22 : List SI := [
 ⟨none, .mv 107 (.t 11), none, 0⟩,
 ⟨none, .mv 108 (.t 9), none, 0⟩,
 ⟨none, .bin 109 .lss (.t 107) (.t 108), none, 0⟩,
 ⟨none, .mv 110 (.t 109), none, 0⟩,
 ⟨some (110, true), .ld 111 (.t 3) none, none, 111⟩,
 ⟨none, .pick 112 (.t 110) (.t 111) (.b false), none, 0⟩]
def c67r23 : List SI := [
 ⟨none, .ld 116 (.t 1) none, none, 0⟩,
 ⟨none, .ld 117 (.t 4) none, none, 0⟩,
 ⟨none, .nop, (some 2), 0⟩,
 ⟨none, .ldR 119 2 0 none, none, 0⟩,
 ⟨none, .mv 120 (.t 10), none, 0⟩,
 ⟨none, .call 121 87 [(.t 116), (.t 117), (.t 119), (.t 120)], none, 0⟩,
 ⟨none, .mv 115 (.t 121), none, 0⟩,
 ⟨none, .ext 122 (.t 115) 0, none, 0⟩,
 ⟨none, .ext 123 (.t 115) 1, none, 0⟩,
 ⟨none, .ext 124 (.t 115) 2, none, 0⟩,
 ⟨none, .alR 12 [(.int .i64 0), (.string ⟨#[]⟩), (.string ⟨#[]⟩), (.bool false), (.int .i64 0)], none, 0⟩,
 ⟨none, .stR 12 0 5 (.t 122), none, 0⟩,
 ⟨none, .mv 13 (.t 123), none, 0⟩,
 ⟨none, .mv 14 (.t 124), none, 0⟩]
def c67r24 : List SI := [
 ⟨none, .ld 125 (.t 3) none, none, 0⟩,
 ⟨none, .mv 126 (.t 125), none, 0⟩,
 ⟨some (126, true), .mv 127 (.t 14), none, 127⟩,
 ⟨some (126, true), .bin 128 .eql (.t 127) (.i 0), none, 128⟩,
 ⟨none, .pick 129 (.t 126) (.t 128) (.b false), none, 0⟩,
 ⟨none, .mv 130 (.t 129), none, 0⟩,
 ⟨some (130, true), .mv 131 (.t 11), none, 131⟩,
 ⟨some (130, true), .bin 132 .gtr (.t 131) (.i 0), none, 132⟩,
 ⟨some (130, true), .mv 133 (.t 132), none, 133⟩,
 ⟨some (133, false), .nop, (some 12), 99999⟩,
 ⟨some (133, false), .ldR 135 12 4 none, none, 135⟩,
 ⟨some (133, false), .mv 136 (.t 10), none, 136⟩,
 ⟨some (133, false), .bin 137 .eql (.t 135) (.t 136), none, 137⟩,
 ⟨some (130, true), .pick 138 (.t 133) (.b true) (.t 137), none, 138⟩,
 ⟨none, .pick 139 (.t 130) (.t 138) (.b false), none, 0⟩,
 ⟨none, .st (.t 3) 1 (.t 139), none, 0⟩]
def c67r25 : List SI := [
 ⟨none, .mv 140 (.t 13), none, 0⟩,
 ⟨none, .st (.t 4) 1 (.t 140), none, 0⟩]
def c67r26 : List SI := [
 ⟨none, .nop, (some 2), 0⟩,
 ⟨none, .ldR 142 2 9 none, none, 0⟩,
 ⟨none, .ldR 143 12 0 (some 5), none, 0⟩,
 ⟨none, .bls 144 49 1 5 [(.int .i64 0), (.string ⟨#[]⟩), (.string ⟨#[]⟩), (.bool false), (.int .i64 0)] [(0, 5, (.t 143))], none, 0⟩,
 ⟨none, .app 145 (.t 142) (.t 144) 49 5 56, none, 0⟩,
 ⟨none, .nop, (some 2), 0⟩,
 ⟨none, .stR 2 9 1 (.t 145), none, 0⟩]
def c67r27 : List SI := [
 ⟨none, .mv 113 (.t 11), none, 0⟩,
 ⟨none, .bin 114 .add (.t 113) (.i 1), none, 0⟩,
 ⟨none, .mv 11 (.t 114), none, 0⟩]
def c67r28 : List WI := [
 (true, false, ⟨none, .ldR 147 2 0 (some 10), none, 0⟩),
 (true, false, ⟨none, .ld 148 (.t 3) none, none, 0⟩),
 (true, false, ⟨none, .mv 149 (.t 148), none, 0⟩),
 (true, false, ⟨some (149, true), .ld 150 (.t 4) none, none, 150⟩),
 (true, false, ⟨some (149, true), .ld 151 (.t 1) none, none, 151⟩),
 (true, false, ⟨some (149, true), .len 152 false (.t 151), none, 152⟩),
 (true, false, ⟨some (149, true), .bin 153 .eql (.t 150) (.t 152), none, 153⟩),
 (true, false, ⟨none, .pick 154 (.t 149) (.t 153) (.b false), none, 0⟩),
 (false, false, ⟨none, .stR 2 0 10 (.t 147), none, 0⟩),
 (false, true, ⟨none, .st (.t 3) 1 (.t 154), none, 0⟩)]
def c67 : SC :=
 (.seq (.reg false c67r0)
 (.seq (.reg false c67r1)
 (.seq (.reg false c67r2)
 (.seq (.reg false c67r3)
 (.seq (.reg false c67r4)
 (.seq (.seq (.reg false c67r5)
 (.blk 0 (.loop (.seq (.reg false c67r6)
   (.seq (.cond (.t 17)
    .skip
    (.exit 0))
   (.seq (.blk 1 (.seq (.reg false c67r7)
    (.reg false c67r8)))
   (.reg false c67r9)))))))
 (.seq (.seq (.reg false c67r10)
 (.cond (.t 58)
  (.seq (.reg false c67r11)
  .ret)
  .skip))
 (.seq (.reg false c67r12)
 (.seq (.reg false c67r13)
 (.seq (.reg false c67r14)
 (.seq (.reg false c67r15)
 (.seq (.seq (.reg false c67r16)
 (.cond (.t 101)
  (.seq (.reg false c67r17)
  .ret)
  .skip))
 (.seq (.reg false c67r18)
 (.seq (.seq (.reg false c67r19)
 (.cond (.t 104)
  (.reg false c67r20)
  .skip))
 (.seq (.seq (.reg false c67r21)
 (.blk 2 (.loop (.seq (.seq (.reg false c67r22)
   (.cond (.t 112)
    .skip
    (.exit 2)))
   (.seq (.blk 3 (.seq (.reg false c67r23)
    (.seq (.reg false c67r24)
    (.seq (.reg false c67r25)
    (.reg false c67r26)))))
   (.reg false c67r27))))))
 (.seq (.rgW c67r28)
 .ret))))))))))))))))
def v67 : List Nat × List Nat := ([2, 12], [2, 12, 118, 134, 141, 146])
def o67 : List RS := [.r 2 (some 10), .c 3 none]
theorem s67 : slimC Try.prog Try.f67.ntmps v67.1 v67.2 ((Try.f67.body).getD .skip) = some c67 := by kernel_rfl
theorem q67 : slimR Try.prog Try.f67.ntmps v67.1 v67.2 Try.f67.results.toList = some o67 := by kernel_rfl
-- watermeet/batch.Check N=11
def c68r0 : List SI := [
 ⟨none, .bxR 1 (.t 0), none, 0⟩,
 ⟨none, .mv 2 (.i 0), none, 0⟩]
def c68r1 : List SI := [
 ⟨none, .ldR 6 1 0 (some 10), none, 0⟩,
 ⟨none, .call 7 44 [(.t 6)], none, 0⟩,
 ⟨none, .mv 5 (.t 7), none, 0⟩,
 ⟨none, .ext 8 (.t 5) 0, none, 0⟩,
 ⟨none, .ext 9 (.t 5) 1, none, 0⟩,
 ⟨none, .mv 3 (.t 8), none, 0⟩,
 ⟨none, .mv 4 (.t 9), none, 0⟩]
def c68r2 : List SI := [
 ⟨none, .mv 10 (.t 4), none, 0⟩,
 ⟨none, .mv 2 (.t 10), none, 0⟩]
def c68 : SC :=
 (.seq (.reg false c68r0)
 (.seq (.reg false c68r1)
 (.seq (.reg false c68r2)
 .ret)))
def v68 : List Nat × List Nat := ([1], [1])
def o68 : List RS := [.t 2]
theorem s68 : slimC Try.prog Try.f68.ntmps v68.1 v68.2 ((Try.f68.body).getD .skip) = some c68 := by kernel_rfl
theorem q68 : slimR Try.prog Try.f68.ntmps v68.1 v68.2 Try.f68.results.toList = some o68 := by kernel_rfl
-- watermeet/watermeetref01.Get N=48
def c69r0 : List SI := [
 ⟨none, .mv 6 (.v (.int .u64 0)), none, 0⟩,
 ⟨none, .mv 7 (.i 0), none, 0⟩]
def c69r1 : List SI := [
 ⟨none, .mv 10 (.t 2), none, 0⟩,
 ⟨none, .bin 11 .lss (.t 10) (.i 1), none, 0⟩,
 ⟨none, .mv 12 (.t 11), none, 0⟩,
 ⟨some (12, false), .mv 13 (.t 2), none, 13⟩,
 ⟨some (12, false), .bin 14 .gtr (.t 13) (.i 8), none, 14⟩,
 ⟨none, .pick 15 (.t 12) (.b true) (.t 14), none, 0⟩,
 ⟨none, .mv 16 (.t 15), none, 0⟩,
 ⟨some (16, false), .mv 17 (.t 1), none, 17⟩,
 ⟨some (16, false), .bin 18 .lss (.t 17) (.i 0), none, 18⟩,
 ⟨none, .pick 19 (.t 16) (.b true) (.t 18), none, 0⟩]
def c69r2 : List SI := [
 ⟨none, .mv 6 (.v (.int .u64 0)), none, 0⟩,
 ⟨none, .mv 7 (.i 1), none, 0⟩]
def c69r3 : List SI := [
 ⟨none, .mv 20 (.t 1), none, 0⟩,
 ⟨none, .mv 21 (.t 0), none, 0⟩,
 ⟨none, .len 22 false (.t 21), none, 0⟩,
 ⟨none, .bin 23 .gtr (.t 20) (.t 22), none, 0⟩,
 ⟨none, .mv 24 (.t 23), none, 0⟩,
 ⟨some (24, false), .mv 25 (.t 0), none, 25⟩,
 ⟨some (24, false), .len 26 false (.t 25), none, 26⟩,
 ⟨some (24, false), .mv 27 (.t 1), none, 27⟩,
 ⟨some (24, false), .bin 28 .sub (.t 26) (.t 27), none, 28⟩,
 ⟨some (24, false), .mv 29 (.t 2), none, 29⟩,
 ⟨some (24, false), .bin 30 .lss (.t 28) (.t 29), none, 30⟩,
 ⟨none, .pick 31 (.t 24) (.b true) (.t 30), none, 0⟩]
def c69r4 : List SI := [
 ⟨none, .mv 6 (.v (.int .u64 0)), none, 0⟩,
 ⟨none, .mv 7 (.i 10), none, 0⟩]
def c69r5 : List SI := [
 ⟨none, .mv 8 (.v (.int .u64 0)), none, 0⟩]
def c69r6 : List SI := [
 ⟨none, .mv 32 (.t 2), none, 0⟩,
 ⟨none, .mv 33 (.i 0), none, 0⟩]
def c69r7 : List SI := [
 ⟨none, .bin 34 .lss (.t 33) (.t 32), none, 0⟩]
def c69r8 : List SI := [
 ⟨none, .mv 35 (.t 33), none, 0⟩,
 ⟨none, .mv 9 (.t 35), none, 0⟩]
def c69r9 : List SI := [
 ⟨none, .mv 36 (.t 8), none, 0⟩,
 ⟨none, .bin 37 .mul (.t 36) (.v (.int .u64 256)), none, 0⟩,
 ⟨none, .mv 38 (.t 0), none, 0⟩,
 ⟨none, .mv 39 (.t 1), none, 0⟩,
 ⟨none, .mv 40 (.t 9), none, 0⟩,
 ⟨none, .bin 41 .add (.t 39) (.t 40), none, 0⟩,
 ⟨none, .ixA 42 (.t 38) (.t 41) 1, none, 0⟩,
 ⟨none, .ld 43 (.t 42) none, none, 0⟩,
 ⟨none, .cvI 44 .u64 (.t 43), none, 0⟩,
 ⟨none, .bin 45 .add (.t 37) (.t 44), none, 0⟩,
 ⟨none, .mv 8 (.t 45), none, 0⟩]
def c69r10 : List SI := [
 ⟨none, .bin 46 .add (.t 33) (.i 1), none, 0⟩,
 ⟨none, .mv 33 (.t 46), none, 0⟩]
def c69r11 : List SI := [
 ⟨none, .mv 47 (.t 8), none, 0⟩,
 ⟨none, .mv 6 (.t 47), none, 0⟩,
 ⟨none, .mv 7 (.i 0), none, 0⟩]
def c69 : SC :=
 (.seq (.reg false c69r0)
 (.seq (.seq (.reg false c69r1)
 (.cond (.t 19)
  (.seq (.reg false c69r2)
  .ret)
  .skip))
 (.seq (.seq (.reg false c69r3)
 (.cond (.t 31)
  (.seq (.reg false c69r4)
  .ret)
  .skip))
 (.seq (.reg false c69r5)
 (.seq (.seq (.reg false c69r6)
 (.blk 0 (.loop (.seq (.reg false c69r7)
   (.seq (.cond (.t 34)
    .skip
    (.exit 0))
   (.seq (.blk 1 (.seq (.reg false c69r8)
    (.reg false c69r9)))
   (.reg false c69r10)))))))
 (.seq (.reg false c69r11)
 .ret))))))
def v69 : List Nat × List Nat := ([], [])
def o69 : List RS := [.t 6, .t 7]
theorem s69 : slimC Try.prog Try.f69.ntmps v69.1 v69.2 ((Try.f69.body).getD .skip) = some c69 := by kernel_rfl
theorem q69 : slimR Try.prog Try.f69.ntmps v69.1 v69.2 Try.f69.results.toList = some o69 := by kernel_rfl
-- watermeet/watermeetref02.Open N=37
def c70r0 : List SI := [
 ⟨none, .mv 2 (.v (.slice none 0 0)), none, 0⟩,
 ⟨none, .mv 3 (.i 0), none, 0⟩]
def c70r1 : List SI := [
 ⟨none, .mv 7 (.t 0), none, 0⟩,
 ⟨none, .len 8 false (.t 7), none, 0⟩,
 ⟨none, .bin 9 .sub (.t 8) (.i 4), none, 0⟩,
 ⟨none, .mv 4 (.t 9), none, 0⟩]
def c70r2 : List SI := [
 ⟨none, .mv 10 (.t 4), none, 0⟩,
 ⟨none, .bin 11 .lss (.t 10) (.i 0), none, 0⟩]
def c70r3 : List SI := [
 ⟨none, .mv 2 (.v (.slice none 0 0)), none, 0⟩,
 ⟨none, .mv 3 (.i 10), none, 0⟩]
def c70r4 : List SI := [
 ⟨none, .mv 12 (.t 0), none, 0⟩,
 ⟨none, .mv 13 (.t 4), none, 0⟩,
 ⟨none, .sl 14 (.t 12) none (some (.t 13)) none 1, none, 0⟩,
 ⟨none, .call 15 89 [(.t 14)], none, 0⟩,
 ⟨none, .call 16 88 [(.t 15)], none, 0⟩,
 ⟨none, .mv 5 (.t 16), none, 0⟩]
def c70r5 : List SI := [
 ⟨none, .mv 6 (.i 0), none, 0⟩]
def c70r6 : List SI := [
 ⟨none, .mv 17 (.t 6), none, 0⟩,
 ⟨none, .bin 18 .lss (.t 17) (.i 4), none, 0⟩]
def c70r7 : List SI := [
 ⟨none, .mv 21 (.t 0), none, 0⟩,
 ⟨none, .mv 22 (.t 4), none, 0⟩,
 ⟨none, .mv 23 (.t 6), none, 0⟩,
 ⟨none, .bin 24 .add (.t 22) (.t 23), none, 0⟩,
 ⟨none, .ixA 25 (.t 21) (.t 24) 1, none, 0⟩,
 ⟨none, .ld 26 (.t 25) none, none, 0⟩,
 ⟨none, .mv 27 (.t 5), none, 0⟩,
 ⟨none, .mv 28 (.t 6), none, 0⟩,
 ⟨none, .ixA 29 (.t 27) (.t 28) 1, none, 0⟩,
 ⟨none, .ld 30 (.t 29) none, none, 0⟩,
 ⟨none, .bin 31 .neq (.t 26) (.t 30), none, 0⟩]
def c70r8 : List SI := [
 ⟨none, .mv 2 (.v (.slice none 0 0)), none, 0⟩,
 ⟨none, .mv 3 (.i 20), none, 0⟩]
def c70r9 : List SI := [
 ⟨none, .mv 19 (.t 6), none, 0⟩,
 ⟨none, .bin 20 .add (.t 19) (.i 1), none, 0⟩,
 ⟨none, .mv 6 (.t 20), none, 0⟩]
def c70r10 : List SI := [
 ⟨none, .bl0 32, none, 0⟩,
 ⟨none, .mv 33 (.t 0), none, 0⟩,
 ⟨none, .mv 34 (.t 4), none, 0⟩,
 ⟨none, .sl 35 (.t 33) none (some (.t 34)) none 1, none, 0⟩,
 ⟨none, .app 36 (.t 32) (.t 35) 5 1 1, none, 0⟩,
 ⟨none, .mv 2 (.t 36), none, 0⟩,
 ⟨none, .mv 3 (.i 0), none, 0⟩]
def c70 : SC :=
 (.seq (.reg false c70r0)
 (.seq (.reg false c70r1)
 (.seq (.seq (.reg false c70r2)
 (.cond (.t 11)
  (.seq (.reg false c70r3)
  .ret)
  .skip))
 (.seq (.reg false c70r4)
 (.seq (.seq (.reg false c70r5)
 (.blk 0 (.loop (.seq (.seq (.reg false c70r6)
   (.cond (.t 18)
    .skip
    (.exit 0)))
   (.seq (.blk 1 (.seq (.reg true c70r7)
    (.cond (.t 31)
     (.seq (.reg false c70r8)
     .ret)
     .skip)))
   (.reg false c70r9))))))
 (.seq (.reg false c70r10)
 .ret))))))
def v70 : List Nat × List Nat := ([], [])
def o70 : List RS := [.t 2, .t 3]
theorem s70 : slimC Try.prog Try.f70.ntmps v70.1 v70.2 ((Try.f70.body).getD .skip) = some c70 := by kernel_rfl
theorem q70 : slimR Try.prog Try.f70.ntmps v70.1 v70.2 Try.f70.results.toList = some o70 := by kernel_rfl
-- watermeet/watermeetref04.body N=171
def c71r0 : List SI := [
 ⟨none, .alR 2 [(.int .i64 0), (.int .i64 0), (.int .i64 0), (.int .i64 0), (.int .i64 0), (.int .i64 0), (.int .i64 0), (.bool false), (.int .i64 0), (.slice none 0 0)], none, 0⟩,
 ⟨none, .mv 3 (.b false), none, 0⟩]
def c71r1 : List SI := [
 ⟨none, .alR 4 [(.int .i64 0), (.int .i64 0), (.int .i64 0), (.int .i64 0), (.int .i64 0), (.int .i64 0), (.int .i64 0), (.bool false), (.int .i64 0), (.slice none 0 0)], none, 0⟩]
def c71r2 : List SI := [
 ⟨none, .mv 5 (.i 0), none, 0⟩]
def c71r3 : List SI := [
 ⟨none, .bld 21 [(.int .i64 0), (.int .i64 0), (.int .i64 0), (.int .i64 0), (.int .i64 0), (.int .i64 0), (.int .i64 0)] [], none, 0⟩,
 ⟨none, .al 6 [(.int .i64 0), (.int .i64 0), (.int .i64 0), (.int .i64 0), (.int .i64 0), (.int .i64 0), (.int .i64 0)], none, 0⟩,
 ⟨none, .st (.t 6) 7 (.t 21), none, 0⟩]
def c71r4 : List SI := [
 ⟨none, .mv 22 (.i 0), none, 0⟩]
def c71r5 : List SI := [
 ⟨none, .bin 23 .lss (.t 22) (.i 7), none, 0⟩]
def c71r6 : List SI := [
 ⟨none, .mv 24 (.t 22), none, 0⟩,
 ⟨none, .mv 7 (.t 24), none, 0⟩]
def c71r7 : List SI := [
 ⟨none, .mv 26 (.t 0), none, 0⟩,
 ⟨none, .mv 27 (.t 5), none, 0⟩,
 ⟨none, .call 28 90 [(.t 26), (.t 27)], none, 0⟩,
 ⟨none, .mv 25 (.t 28), none, 0⟩,
 ⟨none, .ext 29 (.t 25) 0, none, 0⟩,
 ⟨none, .ext 30 (.t 25) 1, none, 0⟩,
 ⟨none, .ext 31 (.t 25) 2, none, 0⟩,
 ⟨none, .mv 8 (.t 29), none, 0⟩,
 ⟨none, .mv 9 (.t 30), none, 0⟩,
 ⟨none, .mv 10 (.t 31), none, 0⟩]
def c71r8 : List SI := [
 ⟨none, .mv 32 (.t 10), none, 0⟩,
 ⟨none, .bin 33 .neq (.t 32) (.i 0), none, 0⟩]
def c71r9 : List SI := [
 ⟨none, .ldR 34 4 0 (some 10), none, 0⟩,
 ⟨none, .stR 2 0 10 (.t 34), none, 0⟩,
 ⟨none, .mv 3 (.b false), none, 0⟩]
def c71r10 : List SI := [
 ⟨none, .mv 35 (.t 7), none, 0⟩,
 ⟨none, .mv 36 (.t 8), none, 0⟩,
 ⟨none, .ixP 37 (.t 6) (.t 35) 7 1, none, 0⟩,
 ⟨none, .st (.t 37) 1 (.t 36), none, 0⟩]
def c71r11 : List SI := [
 ⟨none, .mv 38 (.t 9), none, 0⟩,
 ⟨none, .mv 5 (.t 38), none, 0⟩]
def c71r12 : List SI := [
 ⟨none, .bin 39 .add (.t 22) (.i 1), none, 0⟩,
 ⟨none, .mv 22 (.t 39), none, 0⟩]
def c71r13 : List SI := [
 ⟨none, .mv 41 (.t 0), none, 0⟩,
 ⟨none, .mv 42 (.t 5), none, 0⟩,
 ⟨none, .call 43 69 [(.t 41), (.t 42), (.i 1)], none, 0⟩,
 ⟨none, .mv 40 (.t 43), none, 0⟩,
 ⟨none, .ext 44 (.t 40) 0, none, 0⟩,
 ⟨none, .ext 45 (.t 40) 1, none, 0⟩,
 ⟨none, .mv 11 (.t 44), none, 0⟩,
 ⟨none, .mv 12 (.t 45), none, 0⟩]
def c71r14 : List SI := [
 ⟨none, .mv 46 (.t 12), none, 0⟩,
 ⟨none, .bin 47 .neq (.t 46) (.i 0), none, 0⟩,
 ⟨none, .mv 48 (.t 47), none, 0⟩,
 ⟨some (48, false), .mv 49 (.t 11), none, 49⟩,
 ⟨some (48, false), .bin 50 .gtr (.t 49) (.v (.int .u64 7)), none, 50⟩,
 ⟨none, .pick 51 (.t 48) (.b true) (.t 50), none, 0⟩]
def c71r15 : List SI := [
 ⟨none, .ldR 52 4 0 (some 10), none, 0⟩,
 ⟨none, .stR 2 0 10 (.t 52), none, 0⟩,
 ⟨none, .mv 3 (.b false), none, 0⟩]
def c71r16 : List SI := [
 ⟨none, .mv 54 (.t 0), none, 0⟩,
 ⟨none, .mv 55 (.t 5), none, 0⟩,
 ⟨none, .bin 56 .add (.t 55) (.i 1), none, 0⟩,
 ⟨none, .call 57 90 [(.t 54), (.t 56)], none, 0⟩,
 ⟨none, .mv 53 (.t 57), none, 0⟩,
 ⟨none, .ext 58 (.t 53) 0, none, 0⟩,
 ⟨none, .ext 59 (.t 53) 1, none, 0⟩,
 ⟨none, .ext 60 (.t 53) 2, none, 0⟩,
 ⟨none, .mv 13 (.t 58), none, 0⟩,
 ⟨none, .mv 5 (.t 59), none, 0⟩,
 ⟨none, .mv 12 (.t 60), none, 0⟩]
def c71r17 : List SI := [
 ⟨none, .mv 61 (.t 12), none, 0⟩,
 ⟨none, .bin 62 .neq (.t 61) (.i 0), none, 0⟩,
 ⟨none, .mv 63 (.t 62), none, 0⟩,
 ⟨some (63, false), .mv 64 (.t 13), none, 64⟩,
 ⟨some (63, false), .bin 65 .lss (.t 64) (.i 0), none, 65⟩,
 ⟨none, .pick 66 (.t 63) (.b true) (.t 65), none, 0⟩,
 ⟨none, .mv 67 (.t 66), none, 0⟩,
 ⟨some (67, false), .mv 68 (.t 13), none, 68⟩,
 ⟨some (67, false), .bin 69 .gtr (.t 68) (.i 16), none, 69⟩,
 ⟨none, .pick 70 (.t 67) (.b true) (.t 69), none, 0⟩,
 ⟨none, .mv 71 (.t 70), none, 0⟩,
 ⟨some (71, false), .ixP 72 (.t 6) (.i 1) 7 1, none, 72⟩,
 ⟨some (71, false), .ld 73 (.t 72) none, none, 73⟩,
 ⟨some (71, false), .bin 74 .lss (.t 73) (.i 0), none, 74⟩,
 ⟨none, .pick 75 (.t 71) (.b true) (.t 74), none, 0⟩,
 ⟨none, .mv 76 (.t 75), none, 0⟩,
 ⟨some (76, false), .ixP 77 (.t 6) (.i 1) 7 1, none, 77⟩,
 ⟨some (76, false), .ld 78 (.t 77) none, none, 78⟩,
 ⟨some (76, false), .bin 79 .gtr (.t 78) (.i 16), none, 79⟩,
 ⟨none, .pick 80 (.t 76) (.b true) (.t 79), none, 0⟩,
 ⟨none, .mv 81 (.t 80), none, 0⟩,
 ⟨some (81, false), .ixP 82 (.t 6) (.i 0) 7 1, none, 82⟩,
 ⟨some (81, false), .ld 83 (.t 82) none, none, 83⟩,
 ⟨some (81, false), .bin 84 .lss (.t 83) (.i 0), none, 84⟩,
 ⟨none, .pick 85 (.t 81) (.b true) (.t 84), none, 0⟩,
 ⟨none, .mv 86 (.t 85), none, 0⟩,
 ⟨some (86, false), .ixP 87 (.t 6) (.i 0) 7 1, none, 87⟩,
 ⟨some (86, false), .ld 88 (.t 87) none, none, 88⟩,
 ⟨some (86, false), .bin 89 .gtr (.t 88) (.i 1099511627776), none, 89⟩,
 ⟨none, .pick 90 (.t 86) (.b true) (.t 89), none, 0⟩]
def c71r18 : List SI := [
 ⟨none, .ldR 91 4 0 (some 10), none, 0⟩,
 ⟨none, .stR 2 0 10 (.t 91), none, 0⟩,
 ⟨none, .mv 3 (.b false), none, 0⟩]
def c71r19 : List SI := [
 ⟨none, .ixP 92 (.t 6) (.i 0) 7 1, none, 0⟩,
 ⟨none, .ld 93 (.t 92) none, none, 0⟩,
 ⟨none, .ixP 94 (.t 6) (.i 0) 7 1, none, 0⟩,
 ⟨none, .ld 95 (.t 94) none, none, 0⟩,
 ⟨none, .ixP 96 (.t 6) (.i 1) 7 1, none, 0⟩,
 ⟨none, .ld 97 (.t 96) none, none, 0⟩,
 ⟨none, .bin 98 .add (.t 95) (.t 97), none, 0⟩,
 ⟨none, .ixP 99 (.t 6) (.i 2) 7 1, none, 0⟩,
 ⟨none, .ld 100 (.t 99) none, none, 0⟩,
 ⟨none, .ixP 101 (.t 6) (.i 3) 7 1, none, 0⟩,
 ⟨none, .ld 102 (.t 101) none, none, 0⟩,
 ⟨none, .ixP 103 (.t 6) (.i 4) 7 1, none, 0⟩,
 ⟨none, .ld 104 (.t 103) none, none, 0⟩,
 ⟨none, .ixP 105 (.t 6) (.i 5) 7 1, none, 0⟩,
 ⟨none, .ld 106 (.t 105) none, none, 0⟩,
 ⟨none, .ixP 107 (.t 6) (.i 6) 7 1, none, 0⟩,
 ⟨none, .ld 108 (.t 107) none, none, 0⟩,
 ⟨none, .mv 109 (.t 11), none, 0⟩,
 ⟨none, .bin 110 .geq (.t 109) (.v (.int .u64 4)), none, 0⟩,
 ⟨none, .mv 111 (.t 11), none, 0⟩,
 ⟨none, .bin 112 .rem (.t 111) (.v (.int .u64 4)), none, 0⟩,
 ⟨none, .cvI 113 .i64 (.t 112), none, 0⟩,
 ⟨none, .bld 114 [(.int .i64 0), (.int .i64 0), (.int .i64 0), (.int .i64 0), (.int .i64 0), (.int .i64 0), (.int .i64 0), (.bool false), (.int .i64 0), (.slice none 0 0)] [(0, 1, (.t 93)), (1, 1, (.t 98)), (2, 1, (.t 100)), (3, 1, (.t 102)), (4, 1, (.t 104)), (5, 1, (.t 106)), (6, 1, (.t 108)), (7, 1, (.t 110)), (8, 1, (.t 113))], none, 0⟩,
 ⟨none, .stR 4 0 10 (.t 114), none, 0⟩]
def c71r20 : List SI := [
 ⟨none, .mv 14 (.i 0), none, 0⟩]
def c71r21 : List SI := [
 ⟨none, .mv 115 (.t 13), none, 0⟩,
 ⟨none, .bin 116 .gtr (.t 115) (.i 0), none, 0⟩]
def c71r22 : List SI := [
 ⟨none, .mv 118 (.t 0), none, 0⟩,
 ⟨none, .mv 119 (.t 5), none, 0⟩,
 ⟨none, .call 120 90 [(.t 118), (.t 119)], none, 0⟩,
 ⟨none, .mv 117 (.t 120), none, 0⟩,
 ⟨none, .ext 121 (.t 117) 0, none, 0⟩,
 ⟨none, .ext 122 (.t 117) 1, none, 0⟩,
 ⟨none, .ext 123 (.t 117) 2, none, 0⟩,
 ⟨none, .mv 15 (.t 121), none, 0⟩,
 ⟨none, .mv 16 (.t 122), none, 0⟩,
 ⟨none, .mv 17 (.t 123), none, 0⟩]
def c71r23 : List SI := [
 ⟨none, .mv 124 (.t 17), none, 0⟩,
 ⟨none, .bin 125 .neq (.t 124) (.i 0), none, 0⟩]
def c71r24 : List SI := [
 ⟨none, .ldR 126 4 0 (some 10), none, 0⟩,
 ⟨none, .stR 2 0 10 (.t 126), none, 0⟩,
 ⟨none, .mv 3 (.b false), none, 0⟩]
def c71r25 : List SI := [
 ⟨none, .mv 127 (.t 15), none, 0⟩,
 ⟨none, .mv 14 (.t 127), none, 0⟩]
def c71r26 : List SI := [
 ⟨none, .mv 128 (.t 16), none, 0⟩,
 ⟨none, .mv 5 (.t 128), none, 0⟩]
def c71r27 : List SI := [
 ⟨none, .mv 129 (.t 13), none, 0⟩,
 ⟨none, .mv 130 (.i 0), none, 0⟩]
def c71r28 : List SI := [
 ⟨none, .bin 131 .lss (.t 130) (.t 129), none, 0⟩]
def c71r29 : List SI := [
 ⟨none, .mv 133 (.t 0), none, 0⟩,
 ⟨none, .mv 134 (.t 5), none, 0⟩,
 ⟨none, .nop, (some 4), 0⟩,
 ⟨none, .ldR 136 4 0 none, none, 0⟩,
 ⟨none, .mv 137 (.t 14), none, 0⟩,
 ⟨none, .call 138 91 [(.t 133), (.t 134), (.t 136), (.t 137)], none, 0⟩,
 ⟨none, .mv 132 (.t 138), none, 0⟩,
 ⟨none, .ext 139 (.t 132) 0, none, 0⟩,
 ⟨none, .ext 140 (.t 132) 1, none, 0⟩,
 ⟨none, .ext 141 (.t 132) 2, none, 0⟩,
 ⟨none, .alR 18 [(.int .i64 0), (.string ⟨#[]⟩), (.string ⟨#[]⟩), (.bool false), (.int .i64 0)], none, 0⟩,
 ⟨none, .stR 18 0 5 (.t 139), none, 0⟩,
 ⟨none, .mv 19 (.t 140), none, 0⟩,
 ⟨none, .mv 20 (.t 141), none, 0⟩]
def c71r30 : List SI := [
 ⟨none, .mv 142 (.t 20), none, 0⟩,
 ⟨none, .bin 143 .neq (.t 142) (.i 0), none, 0⟩]
def c71r31 : List SI := [
 ⟨none, .ldR 144 4 0 (some 10), none, 0⟩,
 ⟨none, .stR 2 0 10 (.t 144), none, 0⟩,
 ⟨none, .mv 3 (.b false), none, 0⟩]
def c71r32 : List SI := [
 ⟨none, .nop, (some 4), 0⟩,
 ⟨none, .ldR 146 4 9 none, none, 0⟩,
 ⟨none, .ldR 147 18 0 (some 5), none, 0⟩,
 ⟨none, .bls 148 49 1 5 [(.int .i64 0), (.string ⟨#[]⟩), (.string ⟨#[]⟩), (.bool false), (.int .i64 0)] [(0, 5, (.t 147))], none, 0⟩,
 ⟨none, .app 149 (.t 146) (.t 148) 49 5 56, none, 0⟩,
 ⟨none, .nop, (some 4), 0⟩,
 ⟨none, .stR 4 9 1 (.t 149), none, 0⟩]
def c71r33 : List SI := [
 ⟨none, .mv 151 (.t 19), none, 0⟩,
 ⟨none, .mv 5 (.t 151), none, 0⟩]
def c71r34 : List SI := [
 ⟨none, .bin 152 .add (.t 130) (.i 1), none, 0⟩,
 ⟨none, .mv 130 (.t 152), none, 0⟩]
def c71r35 : List WI := [
 (true, false, ⟨none, .ldR 153 4 0 (some 10), none, 0⟩),
 (true, false, ⟨none, .mv 154 (.t 5), none, 0⟩),
 (true, false, ⟨none, .mv 155 (.t 0), none, 0⟩),
 (true, false, ⟨none, .len 156 false (.t 155), none, 0⟩),
 (true, false, ⟨none, .bin 157 .eql (.t 154) (.t 156), none, 0⟩),
 (true, false, ⟨none, .mv 158 (.t 157), none, 0⟩),
 (true, false, ⟨some (158, true), .mv 159 (.t 13), none, 159⟩),
 (true, false, ⟨some (158, true), .bin 160 .eql (.t 159) (.i 0), none, 160⟩),
 (true, false, ⟨some (158, true), .mv 161 (.t 160), none, 161⟩),
 (true, false, ⟨some (161, false), .nop, (some 4), 99999⟩),
 (true, false, ⟨some (161, false), .ldR 163 4 9 none, none, 163⟩),
 (true, false, ⟨some (161, false), .ixA 164 (.t 163) (.i 0) 5, none, 164⟩),
 (true, false, ⟨some (161, false), .flA 165 (.t 164) 4, none, 165⟩),
 (true, false, ⟨some (161, false), .ld 166 (.t 165) none, none, 166⟩),
 (true, false, ⟨some (161, false), .mv 167 (.t 14), none, 167⟩),
 (true, false, ⟨some (161, false), .bin 168 .eql (.t 166) (.t 167), none, 168⟩),
 (true, false, ⟨some (158, true), .pick 169 (.t 161) (.b true) (.t 168), none, 169⟩),
 (true, false, ⟨none, .pick 170 (.t 158) (.t 169) (.b false), none, 0⟩),
 (false, false, ⟨none, .stR 2 0 10 (.t 153), none, 0⟩),
 (true, false, ⟨none, .mv 3 (.t 170), none, 0⟩)]
def c71 : SC :=
 (.seq (.reg false c71r0)
 (.seq (.reg false c71r1)
 (.seq (.reg false c71r2)
 (.seq (.reg false c71r3)
 (.seq (.seq (.reg false c71r4)
 (.blk 0 (.loop (.seq (.reg false c71r5)
   (.seq (.cond (.t 23)
    .skip
    (.exit 0))
   (.seq (.blk 1 (.seq (.reg false c71r6)
    (.seq (.reg false c71r7)
    (.seq (.seq (.reg false c71r8)
    (.cond (.t 33)
     (.seq (.reg false c71r9)
     .ret)
     .skip))
    (.seq (.reg false c71r10)
    (.reg false c71r11))))))
   (.reg false c71r12)))))))
 (.seq (.reg false c71r13)
 (.seq (.seq (.reg false c71r14)
 (.cond (.t 51)
  (.seq (.reg false c71r15)
  .ret)
  .skip))
 (.seq (.reg false c71r16)
 (.seq (.seq (.reg false c71r17)
 (.cond (.t 90)
  (.seq (.reg false c71r18)
  .ret)
  .skip))
 (.seq (.reg false c71r19)
 (.seq (.reg false c71r20)
 (.seq (.seq (.reg false c71r21)
 (.cond (.t 116)
  (.seq (.reg false c71r22)
  (.seq (.seq (.reg false c71r23)
  (.cond (.t 125)
   (.seq (.reg false c71r24)
   .ret)
   .skip))
  (.seq (.reg false c71r25)
  (.reg false c71r26))))
  .skip))
 (.seq (.seq (.reg false c71r27)
 (.blk 2 (.loop (.seq (.reg false c71r28)
   (.seq (.cond (.t 131)
    .skip
    (.exit 2))
   (.seq (.blk 3 (.seq (.reg false c71r29)
    (.seq (.seq (.reg false c71r30)
    (.cond (.t 143)
     (.seq (.reg false c71r31)
     .ret)
     .skip))
    (.seq (.reg false c71r32)
    (.reg false c71r33)))))
   (.reg false c71r34)))))))
 (.seq (.rgW c71r35)
 .ret))))))))))))))
def v71 : List Nat × List Nat := ([2, 4, 18], [2, 4, 18, 135, 145, 150, 162])
def o71 : List RS := [.r 2 (some 10), .t 3]
theorem s71 : slimC Try.prog Try.f71.ntmps v71.1 v71.2 ((Try.f71.body).getD .skip) = some c71 := by kernel_rfl
theorem q71 : slimR Try.prog Try.f71.ntmps v71.1 v71.2 Try.f71.results.toList = some o71 := by kernel_rfl
-- watermeet/batch.within N=14
def c72r0 : List SI := [
 ⟨none, .mv 4 (.b false), none, 0⟩]
def c72r1 : List SI := [
 ⟨none, .mv 5 (.t 1), none, 0⟩,
 ⟨none, .call 6 92 [(.t 5)], none, 0⟩,
 ⟨none, .bin 7 .geq (.t 6) (.i 0), none, 0⟩,
 ⟨none, .mv 8 (.t 7), none, 0⟩,
 ⟨some (8, true), .mv 9 (.t 1), none, 9⟩,
 ⟨some (8, true), .call 10 93 [(.t 9)], none, 10⟩,
 ⟨some (8, true), .mv 11 (.t 0), none, 11⟩,
 ⟨some (8, true), .bin 12 .leq (.t 10) (.t 11), none, 12⟩,
 ⟨none, .pick 13 (.t 8) (.t 12) (.b false), none, 0⟩,
 ⟨none, .mv 4 (.t 13), none, 0⟩]
def c72 : SC :=
 (.seq (.reg false c72r0)
 (.seq (.reg false c72r1)
 .ret))
def v72 : List Nat × List Nat := ([], [])
def o72 : List RS := [.t 4]
theorem s72 : slimC Try.prog Try.f72.ntmps v72.1 v72.2 ((Try.f72.body).getD .skip) = some c72 := by kernel_rfl
theorem q72 : slimR Try.prog Try.f72.ntmps v72.1 v72.2 Try.f72.results.toList = some o72 := by kernel_rfl
-- watermeet/rec.Check N=33
def c73r0 : List SI := [
 ⟨none, .bxR 1 (.t 0), none, 0⟩,
 ⟨none, .mv 2 (.i 0), none, 0⟩]
def c73r1 : List SI := [
 ⟨none, .nop, (some 1), 0⟩,
 ⟨none, .ldR 5 1 0 none, none, 0⟩,
 ⟨none, .call 6 94 [(.t 5)], none, 0⟩,
 ⟨none, .un 7 .not (.t 6), none, 0⟩,
 ⟨none, .mv 3 (.t 7), none, 0⟩]
def c73r2 : List SI := [
 ⟨none, .nop, (some 1), 0⟩,
 ⟨none, .ldR 9 1 4 none, none, 0⟩,
 ⟨none, .call 10 94 [(.t 9)], none, 0⟩,
 ⟨none, .un 11 .not (.t 10), none, 0⟩,
 ⟨none, .mv 3 (.t 11), none, 0⟩]
def c73r3 : List SI := [
 ⟨none, .nop, (some 1), 0⟩,
 ⟨none, .ldR 13 1 1 none, none, 0⟩,
 ⟨none, .len 14 true (.t 13), none, 0⟩,
 ⟨none, .nop, (some 1), 0⟩,
 ⟨none, .ldR 16 1 2 none, none, 0⟩,
 ⟨none, .len 17 true (.t 16), none, 0⟩,
 ⟨none, .mm 18 true (.t 14) (.t 17), none, 0⟩,
 ⟨none, .bin 19 .gtr (.t 18) (.i 64), none, 0⟩,
 ⟨none, .mv 3 (.t 19), none, 0⟩]
def c73r4 : List SI := [
 ⟨none, .mv 2 (.i 1), none, 0⟩]
def c73r5 : List SI := [
 ⟨none, .nop, (some 1), 0⟩,
 ⟨none, .ldR 22 1 3 none, none, 0⟩,
 ⟨none, .mv 23 (.t 22), none, 0⟩,
 ⟨some (23, true), .nop, (some 1), 99999⟩,
 ⟨some (23, true), .ldR 25 1 1 none, none, 25⟩,
 ⟨some (23, true), .bin 26 .eql (.t 25) (.v (.string ⟨#[]⟩)), none, 26⟩,
 ⟨some (23, true), .mv 27 (.t 26), none, 27⟩,
 ⟨some (27, false), .nop, (some 1), 99999⟩,
 ⟨some (27, false), .ldR 29 1 2 none, none, 29⟩,
 ⟨some (27, false), .bin 30 .neq (.t 29) (.v (.string ⟨#[]⟩)), none, 30⟩,
 ⟨some (23, true), .pick 31 (.t 27) (.b true) (.t 30), none, 31⟩,
 ⟨none, .pick 32 (.t 23) (.t 31) (.b false), none, 0⟩,
 ⟨none, .mv 20 (.t 32), none, 0⟩]
def c73r6 : List SI := [
 ⟨none, .mv 2 (.i 1), none, 0⟩]
def c73r7 : List SI := [
 ⟨none, .mv 2 (.i 0), none, 0⟩]
def c73 : SC :=
 (.seq (.reg false c73r0)
 (.seq (.blk 0 (.seq (.seq (.reg false c73r1)
  (.cond (.t 3)
   .skip
   (.seq (.reg false c73r2)
   (.cond (.t 3)
    .skip
    (.reg false c73r3)))))
  (.cond (.t 3)
   (.seq (.reg false c73r4)
   .ret)
   (.seq (.reg false c73r5)
   (.cond (.t 20)
    (.seq (.reg false c73r6)
    .ret)
    .skip)))))
 (.seq (.reg false c73r7)
 .ret)))
def v73 : List Nat × List Nat := ([1], [1, 4, 8, 12, 15, 21, 24, 28])
def o73 : List RS := [.t 2]
theorem s73 : slimC Try.prog Try.f73.ntmps v73.1 v73.2 ((Try.f73.body).getD .skip) = some c73 := by kernel_rfl
theorem q73 : slimR Try.prog Try.f73.ntmps v73.1 v73.2 Try.f73.results.toList = some o73 := by kernel_rfl
-- watermeet/octet.PutVar N=31
def c74r0 : List SI := [
 ⟨none, .mv 4 (.v (.slice none 0 0)), none, 0⟩]
def c74r1 : List SI := [
 ⟨none, .mv 7 (.t 1), none, 0⟩,
 ⟨none, .cvI 8 .u64 (.t 7), none, 0⟩,
 ⟨none, .bin 9 .shl (.t 8) (.v (.int .u64 1)), none, 0⟩,
 ⟨none, .mv 10 (.t 1), none, 0⟩,
 ⟨none, .bin 11 .shr (.t 10) (.v (.int .u64 63)), none, 0⟩,
 ⟨none, .cvI 12 .u64 (.t 11), none, 0⟩,
 ⟨none, .bin 13 .xor (.t 9) (.t 12), none, 0⟩,
 ⟨none, .mv 5 (.t 13), none, 0⟩]
def c74r2 : List SI := [
 ⟨none, .mv 14 (.t 0), none, 0⟩,
 ⟨none, .call 15 95 [(.t 14)], none, 0⟩,
 ⟨none, .mv 6 (.t 15), none, 0⟩]
def c74r3 : List SI := [
 ⟨none, .mv 16 (.t 5), none, 0⟩,
 ⟨none, .bin 17 .geq (.t 16) (.v (.int .u64 128)), none, 0⟩]
def c74r4 : List SI := [
 ⟨none, .mv 20 (.t 6), none, 0⟩,
 ⟨none, .mv 21 (.t 5), none, 0⟩,
 ⟨none, .cvI 22 .u8 (.t 21), none, 0⟩,
 ⟨none, .bin 23 .or (.t 22) (.v (.int .u8 128)), none, 0⟩,
 ⟨none, .bls 24 5 1 1 [(.int .u8 0)] [(0, 1, (.t 23))], none, 0⟩,
 ⟨none, .app 25 (.t 20) (.t 24) 5 1 1, none, 0⟩,
 ⟨none, .mv 6 (.t 25), none, 0⟩]
def c74r5 : List SI := [
 ⟨none, .mv 18 (.t 5), none, 0⟩,
 ⟨none, .bin 19 .shr (.t 18) (.v (.int .u64 7)), none, 0⟩,
 ⟨none, .mv 5 (.t 19), none, 0⟩]
def c74r6 : List SI := [
 ⟨none, .mv 26 (.t 6), none, 0⟩,
 ⟨none, .mv 27 (.t 5), none, 0⟩,
 ⟨none, .cvI 28 .u8 (.t 27), none, 0⟩,
 ⟨none, .bls 29 5 1 1 [(.int .u8 0)] [(0, 1, (.t 28))], none, 0⟩,
 ⟨none, .app 30 (.t 26) (.t 29) 5 1 1, none, 0⟩,
 ⟨none, .mv 4 (.t 30), none, 0⟩]
def c74 : SC :=
 (.seq (.reg false c74r0)
 (.seq (.reg false c74r1)
 (.seq (.reg false c74r2)
 (.seq (.blk 0 (.loop (.seq (.seq (.reg false c74r3)
   (.cond (.t 17)
    .skip
    (.exit 0)))
   (.seq (.blk 1 (.reg false c74r4))
   (.reg false c74r5)))))
 (.seq (.reg false c74r6)
 .ret)))))
def v74 : List Nat × List Nat := ([], [])
def o74 : List RS := [.t 4]
theorem s74 : slimC Try.prog Try.f74.ntmps v74.1 v74.2 ((Try.f74.body).getD .skip) = some c74 := by kernel_rfl
theorem q74 : slimR Try.prog Try.f74.ntmps v74.1 v74.2 Try.f74.results.toList = some o74 := by kernel_rfl
-- watermeet/rec.Put N=46
def c75r0 : List SI := [
 ⟨none, .bxR 3 (.t 0), none, 0⟩,
 ⟨none, .mv 6 (.v (.slice none 0 0)), none, 0⟩,
 ⟨none, .mv 7 (.i 0), none, 0⟩]
def c75r1 : List SI := [
 ⟨none, .ldR 11 3 0 (some 5), none, 0⟩,
 ⟨none, .call 12 73 [(.t 11)], none, 0⟩,
 ⟨none, .mv 8 (.t 12), none, 0⟩]
def c75r2 : List SI := [
 ⟨none, .mv 13 (.t 8), none, 0⟩,
 ⟨none, .bin 14 .neq (.t 13) (.i 0), none, 0⟩]
def c75r3 : List SI := [
 ⟨none, .mv 15 (.t 8), none, 0⟩,
 ⟨none, .mv 6 (.v (.slice none 0 0)), none, 0⟩,
 ⟨none, .mv 7 (.t 15), none, 0⟩]
def c75r4 : List SI := [
 ⟨none, .mv 16 (.t 1), none, 0⟩,
 ⟨none, .call 17 94 [(.t 16)], none, 0⟩,
 ⟨none, .un 18 .not (.t 17), none, 0⟩,
 ⟨none, .mv 19 (.t 18), none, 0⟩,
 ⟨some (19, false), .mv 20 (.t 2), none, 20⟩,
 ⟨some (19, false), .call 21 94 [(.t 20)], none, 21⟩,
 ⟨some (19, false), .un 22 .not (.t 21), none, 22⟩,
 ⟨none, .pick 23 (.t 19) (.b true) (.t 22), none, 0⟩]
def c75r5 : List SI := [
 ⟨none, .mv 6 (.v (.slice none 0 0)), none, 0⟩,
 ⟨none, .mv 7 (.i 1), none, 0⟩]
def c75r6 : List SI := [
 ⟨none, .mv 9 (.v (.int .u8 0)), none, 0⟩]
def c75r7 : List SI := [
 ⟨none, .nop, (some 3), 0⟩,
 ⟨none, .ldR 25 3 3 none, none, 0⟩]
def c75r8 : List SI := [
 ⟨none, .mv 9 (.v (.int .u8 1)), none, 0⟩]
def c75r9 : List (Bool × SI) := [
 (true, ⟨none, .nop, (some 3), 0⟩),
 (true, ⟨none, .ldR 27 3 0 none, none, 0⟩),
 (true, ⟨none, .mv 28 (.t 1), none, 0⟩),
 (true, ⟨none, .bin 29 .sub (.t 27) (.t 28), none, 0⟩),
 (true, ⟨none, .nop, (some 3), 0⟩),
 (true, ⟨none, .ldR 32 3 4 none, none, 0⟩),
 (true, ⟨none, .mv 33 (.t 2), none, 0⟩),
 (true, ⟨none, .bin 34 .sub (.t 32) (.t 33), none, 0⟩),
 (false, ⟨none, .call 30 74 [(.v (.slice none 0 0)), (.t 29)], none, 0⟩),
 (false, ⟨none, .call 35 74 [(.t 30), (.t 34)], none, 0⟩),
 (true, ⟨none, .mv 10 (.t 35), none, 0⟩)]
def c75r10 : List (Bool × SI) := [
 (true, ⟨none, .mv 36 (.t 10), none, 0⟩),
 (true, ⟨none, .mv 37 (.t 9), none, 0⟩),
 (true, ⟨none, .nop, (some 3), 0⟩),
 (true, ⟨none, .ldR 41 3 1 none, none, 0⟩),
 (true, ⟨none, .nop, (some 3), 0⟩),
 (true, ⟨none, .ldR 44 3 2 none, none, 0⟩),
 (false, ⟨none, .bls 38 5 1 1 [(.int .u8 0)] [(0, 1, (.t 37))], none, 0⟩),
 (false, ⟨none, .app 39 (.t 36) (.t 38) 5 1 1, none, 0⟩),
 (false, ⟨none, .call 42 96 [(.t 39), (.t 41)], none, 0⟩),
 (false, ⟨none, .call 45 96 [(.t 42), (.t 44)], none, 0⟩),
 (true, ⟨none, .mv 6 (.t 45), none, 0⟩),
 (true, ⟨none, .mv 7 (.i 0), none, 0⟩)]
def c75 : SC :=
 (.seq (.reg false c75r0)
 (.seq (.seq (.reg false c75r1)
 (.seq (.reg false c75r2)
 (.cond (.t 14)
  (.seq (.reg false c75r3)
  .ret)
  .skip)))
 (.seq (.seq (.reg false c75r4)
 (.cond (.t 23)
  (.seq (.reg false c75r5)
  .ret)
  .skip))
 (.seq (.reg false c75r6)
 (.seq (.seq (.reg false c75r7)
 (.cond (.t 25)
  (.reg false c75r8)
  .skip))
 (.seq (.rgX c75r9)
 (.seq (.rgX c75r10)
 .ret)))))))
def v75 : List Nat × List Nat := ([3], [3, 24, 26, 31, 40, 43])
def o75 : List RS := [.t 6, .t 7]
theorem s75 : slimC Try.prog Try.f75.ntmps v75.1 v75.2 ((Try.f75.body).getD .skip) = some c75 := by kernel_rfl
theorem q75 : slimR Try.prog Try.f75.ntmps v75.1 v75.2 Try.f75.results.toList = some o75 := by kernel_rfl
-- watermeet/crc.Seal N=9
def c76r0 : List SI := [
 ⟨none, .mv 2 (.v (.slice none 0 0)), none, 0⟩]
def c76r1 : List SI := [
 ⟨none, .mv 3 (.t 0), none, 0⟩,
 ⟨none, .app 4 (.v (.slice none 0 0)) (.t 3) 5 1 1, none, 0⟩,
 ⟨none, .mv 5 (.t 0), none, 0⟩,
 ⟨none, .call 6 84 [(.t 5)], none, 0⟩,
 ⟨none, .cvI 7 .u64 (.t 6), none, 0⟩,
 ⟨none, .call 8 77 [(.t 4), (.t 7), (.i 4)], none, 0⟩,
 ⟨none, .mv 2 (.t 8), none, 0⟩]
def c76 : SC :=
 (.seq (.reg false c76r0)
 (.seq (.reg false c76r1)
 .ret))
def v76 : List Nat × List Nat := ([], [])
def o76 : List RS := [.t 2]
theorem s76 : slimC Try.prog Try.f76.ntmps v76.1 v76.2 ((Try.f76.body).getD .skip) = some c76 := by kernel_rfl
theorem q76 : slimR Try.prog Try.f76.ntmps v76.1 v76.2 Try.f76.results.toList = some o76 := by kernel_rfl
-- watermeet/octet.Put N=33
def c77r0 : List SI := [
 ⟨none, .mv 6 (.v (.slice none 0 0)), none, 0⟩]
def c77r1 : List SI := [
 ⟨none, .mv 9 (.t 0), none, 0⟩,
 ⟨none, .call 10 95 [(.t 9)], none, 0⟩,
 ⟨none, .mv 7 (.t 10), none, 0⟩]
def c77r2 : List SI := [
 ⟨none, .mv 11 (.t 2), none, 0⟩,
 ⟨none, .bin 12 .lss (.t 11) (.i 1), none, 0⟩,
 ⟨none, .mv 13 (.t 12), none, 0⟩,
 ⟨some (13, false), .mv 14 (.t 2), none, 14⟩,
 ⟨some (13, false), .bin 15 .gtr (.t 14) (.i 8), none, 15⟩,
 ⟨none, .pick 16 (.t 13) (.b true) (.t 15), none, 0⟩]
def c77r3 : List SI := [
 ⟨none, .mv 17 (.t 7), none, 0⟩,
 ⟨none, .mv 6 (.t 17), none, 0⟩]
def c77r4 : List SI := [
 ⟨none, .mv 18 (.t 2), none, 0⟩,
 ⟨none, .bin 19 .sub (.t 18) (.i 1), none, 0⟩,
 ⟨none, .bin 20 .mul (.i 8) (.t 19), none, 0⟩,
 ⟨none, .mv 8 (.t 20), none, 0⟩]
def c77r5 : List SI := [
 ⟨none, .mv 21 (.t 8), none, 0⟩,
 ⟨none, .bin 22 .geq (.t 21) (.i 0), none, 0⟩]
def c77r6 : List SI := [
 ⟨none, .mv 25 (.t 7), none, 0⟩,
 ⟨none, .mv 26 (.t 1), none, 0⟩,
 ⟨none, .mv 27 (.t 8), none, 0⟩,
 ⟨none, .bin 28 .shr (.t 26) (.t 27), none, 0⟩,
 ⟨none, .cvI 29 .u8 (.t 28), none, 0⟩,
 ⟨none, .bls 30 5 1 1 [(.int .u8 0)] [(0, 1, (.t 29))], none, 0⟩,
 ⟨none, .app 31 (.t 25) (.t 30) 5 1 1, none, 0⟩,
 ⟨none, .mv 7 (.t 31), none, 0⟩]
def c77r7 : List SI := [
 ⟨none, .mv 23 (.t 8), none, 0⟩,
 ⟨none, .bin 24 .sub (.t 23) (.i 8), none, 0⟩,
 ⟨none, .mv 8 (.t 24), none, 0⟩]
def c77r8 : List SI := [
 ⟨none, .mv 32 (.t 7), none, 0⟩,
 ⟨none, .mv 6 (.t 32), none, 0⟩]
def c77 : SC :=
 (.seq (.reg false c77r0)
 (.seq (.reg false c77r1)
 (.seq (.seq (.reg false c77r2)
 (.cond (.t 16)
  (.seq (.reg false c77r3)
  .ret)
  .skip))
 (.seq (.seq (.reg false c77r4)
 (.blk 0 (.loop (.seq (.seq (.reg false c77r5)
   (.cond (.t 22)
    .skip
    (.exit 0)))
   (.seq (.blk 1 (.reg false c77r6))
   (.reg false c77r7))))))
 (.seq (.reg false c77r8)
 .ret)))))
def v77 : List Nat × List Nat := ([], [])
def o77 : List RS := [.t 6]
theorem s77 : slimC Try.prog Try.f77.ntmps v77.1 v77.2 ((Try.f77.body).getD .skip) = some c77 := by kernel_rfl
theorem q77 : slimR Try.prog Try.f77.ntmps v77.1 v77.2 Try.f77.results.toList = some o77 := by kernel_rfl
-- watermeet/watermeetref04.form N=165
def c78r0 : List SI := [
 ⟨none, .bxR 1 (.t 0), none, 0⟩,
 ⟨none, .mv 2 (.b false), none, 0⟩]
def c78r1 : List SI := [
 ⟨none, .nop, (some 1), 0⟩,
 ⟨none, .ldR 8 1 0 none, none, 0⟩,
 ⟨none, .call 9 97 [(.t 8), (.i 1099511627776)], none, 0⟩,
 ⟨none, .un 10 .not (.t 9), none, 0⟩,
 ⟨none, .mv 11 (.t 10), none, 0⟩,
 ⟨some (11, false), .nop, (some 1), 99999⟩,
 ⟨some (11, false), .ldR 13 1 1 none, none, 13⟩,
 ⟨some (11, false), .call 14 97 [(.t 13), (.i 1099511627776)], none, 14⟩,
 ⟨some (11, false), .un 15 .not (.t 14), none, 15⟩,
 ⟨none, .pick 16 (.t 11) (.b true) (.t 15), none, 0⟩,
 ⟨none, .mv 17 (.t 16), none, 0⟩,
 ⟨some (17, false), .nop, (some 1), 99999⟩,
 ⟨some (17, false), .ldR 19 1 2 none, none, 19⟩,
 ⟨some (17, false), .call 20 97 [(.t 19), (.i 1099511627776)], none, 20⟩,
 ⟨some (17, false), .un 21 .not (.t 20), none, 21⟩,
 ⟨none, .pick 22 (.t 17) (.b true) (.t 21), none, 0⟩,
 ⟨none, .mv 23 (.t 22), none, 0⟩,
 ⟨some (23, false), .nop, (some 1), 99999⟩,
 ⟨some (23, false), .ldR 25 1 0 none, none, 25⟩,
 ⟨some (23, false), .nop, (some 1), 99999⟩,
 ⟨some (23, false), .ldR 27 1 1 none, none, 27⟩,
 ⟨some (23, false), .bin 28 .gtr (.t 25) (.t 27), none, 28⟩,
 ⟨none, .pick 29 (.t 23) (.b true) (.t 28), none, 0⟩,
 ⟨none, .mv 30 (.t 29), none, 0⟩,
 ⟨some (30, false), .nop, (some 1), 99999⟩,
 ⟨some (30, false), .ldR 32 1 1 none, none, 32⟩,
 ⟨some (30, false), .nop, (some 1), 99999⟩,
 ⟨some (30, false), .ldR 34 1 0 none, none, 34⟩,
 ⟨some (30, false), .bin 35 .sub (.t 32) (.t 34), none, 35⟩,
 ⟨some (30, false), .bin 36 .geq (.t 35) (.i 16), none, 36⟩,
 ⟨none, .pick 37 (.t 30) (.b true) (.t 36), none, 0⟩]
def c78r2 : List SI := [
 ⟨none, .mv 2 (.b false), none, 0⟩]
def c78r3 : List SI := [
 ⟨none, .nop, (some 1), 0⟩,
 ⟨none, .ldR 39 1 1 none, none, 0⟩,
 ⟨none, .nop, (some 1), 0⟩,
 ⟨none, .ldR 41 1 0 none, none, 0⟩,
 ⟨none, .bin 42 .sub (.t 39) (.t 41), none, 0⟩,
 ⟨none, .mv 3 (.t 42), none, 0⟩]
def c78r4 : List SI := [
 ⟨none, .nop, (some 1), 0⟩,
 ⟨none, .ldR 44 1 2 none, none, 0⟩,
 ⟨none, .mv 45 (.t 3), none, 0⟩,
 ⟨none, .bin 46 .add (.t 44) (.t 45), none, 0⟩,
 ⟨none, .bin 47 .gtr (.t 46) (.i 1099511627776), none, 0⟩,
 ⟨none, .mv 48 (.t 47), none, 0⟩,
 ⟨some (48, false), .nop, (some 1), 99999⟩,
 ⟨some (48, false), .ldR 50 1 3 none, none, 50⟩,
 ⟨some (48, false), .call 51 97 [(.t 50), (.i 1048576)], none, 51⟩,
 ⟨some (48, false), .un 52 .not (.t 51), none, 52⟩,
 ⟨none, .pick 53 (.t 48) (.b true) (.t 52), none, 0⟩,
 ⟨none, .mv 54 (.t 53), none, 0⟩,
 ⟨some (54, false), .nop, (some 1), 99999⟩,
 ⟨some (54, false), .ldR 56 1 5 none, none, 56⟩,
 ⟨some (54, false), .call 57 97 [(.t 56), (.i 1048576)], none, 57⟩,
 ⟨some (54, false), .un 58 .not (.t 57), none, 58⟩,
 ⟨none, .pick 59 (.t 54) (.b true) (.t 58), none, 0⟩,
 ⟨none, .mv 60 (.t 59), none, 0⟩,
 ⟨some (60, false), .nop, (some 1), 99999⟩,
 ⟨some (60, false), .ldR 62 1 6 none, none, 62⟩,
 ⟨some (60, false), .call 63 97 [(.t 62), (.i 1048576)], none, 63⟩,
 ⟨some (60, false), .un 64 .not (.t 63), none, 64⟩,
 ⟨none, .pick 65 (.t 60) (.b true) (.t 64), none, 0⟩,
 ⟨none, .mv 66 (.t 65), none, 0⟩,
 ⟨some (66, false), .nop, (some 1), 99999⟩,
 ⟨some (66, false), .ldR 68 1 6 none, none, 68⟩,
 ⟨some (66, false), .mv 69 (.t 3), none, 69⟩,
 ⟨some (66, false), .bin 70 .add (.t 68) (.t 69), none, 70⟩,
 ⟨some (66, false), .bin 71 .gtr (.t 70) (.i 1048576), none, 71⟩,
 ⟨none, .pick 72 (.t 66) (.b true) (.t 71), none, 0⟩]
def c78r5 : List SI := [
 ⟨none, .mv 2 (.b false), none, 0⟩]
def c78r6 : List SI := [
 ⟨none, .nop, (some 1), 0⟩,
 ⟨none, .ldR 74 1 4 none, none, 0⟩,
 ⟨none, .bin 75 .eql (.t 74) (.i (-1)), none, 0⟩,
 ⟨none, .mv 76 (.t 75), none, 0⟩,
 ⟨some (76, true), .nop, (some 1), 99999⟩,
 ⟨some (76, true), .ldR 78 1 5 none, none, 78⟩,
 ⟨some (76, true), .bin 79 .neq (.t 78) (.i 0), none, 79⟩,
 ⟨some (76, true), .mv 80 (.t 79), none, 80⟩,
 ⟨some (80, false), .nop, (some 1), 99999⟩,
 ⟨some (80, false), .ldR 82 1 6 none, none, 82⟩,
 ⟨some (80, false), .bin 83 .neq (.t 82) (.i 0), none, 83⟩,
 ⟨some (76, true), .pick 84 (.t 80) (.b true) (.t 83), none, 84⟩,
 ⟨some (76, true), .mv 85 (.t 84), none, 85⟩,
 ⟨some (85, false), .nop, (some 1), 99999⟩,
 ⟨some (85, false), .ldR 87 1 7 none, none, 87⟩,
 ⟨some (76, true), .pick 88 (.t 85) (.b true) (.t 87), none, 88⟩,
 ⟨some (76, true), .mv 89 (.t 88), none, 89⟩,
 ⟨some (89, false), .nop, (some 1), 99999⟩,
 ⟨some (89, false), .ldR 91 1 8 none, none, 91⟩,
 ⟨some (89, false), .bin 92 .neq (.t 91) (.i 0), none, 92⟩,
 ⟨some (76, true), .pick 93 (.t 89) (.b true) (.t 92), none, 93⟩,
 ⟨none, .pick 94 (.t 76) (.t 93) (.b false), none, 0⟩,
 ⟨none, .mv 95 (.t 94), none, 0⟩,
 ⟨some (95, false), .nop, (some 1), 99999⟩,
 ⟨some (95, false), .ldR 97 1 4 none, none, 97⟩,
 ⟨some (95, false), .bin 98 .neq (.t 97) (.i (-1)), none, 98⟩,
 ⟨some (95, false), .mv 99 (.t 98), none, 99⟩,
 ⟨some (99, true), .nop, (some 1), 99999⟩,
 ⟨some (99, true), .ldR 101 1 4 none, none, 101⟩,
 ⟨some (99, true), .call 102 97 [(.t 101), (.i 1099511627776)], none, 102⟩,
 ⟨some (99, true), .un 103 .not (.t 102), none, 103⟩,
 ⟨some (95, false), .pick 104 (.t 99) (.t 103) (.b false), none, 104⟩,
 ⟨none, .pick 105 (.t 95) (.b true) (.t 104), none, 0⟩]
def c78r7 : List SI := [
 ⟨none, .mv 2 (.b false), none, 0⟩]
def c78r8 : List SI := [
 ⟨none, .nop, (some 1), 0⟩,
 ⟨none, .ldR 107 1 8 none, none, 0⟩,
 ⟨none, .bin 108 .neq (.t 107) (.i 0), none, 0⟩]
def c78r9 : List SI := [
 ⟨none, .nop, (some 1), 0⟩,
 ⟨none, .ldR 110 1 8 none, none, 0⟩,
 ⟨none, .bin 111 .eql (.t 110) (.i 1), none, 0⟩,
 ⟨none, .mv 112 (.t 111), none, 0⟩,
 ⟨some (112, false), .nop, (some 1), 99999⟩,
 ⟨some (112, false), .ldR 114 1 8 none, none, 114⟩,
 ⟨some (112, false), .bin 115 .eql (.t 114) (.i 2), none, 115⟩,
 ⟨none, .pick 116 (.t 112) (.b true) (.t 115), none, 0⟩,
 ⟨none, .mv 117 (.t 116), none, 0⟩,
 ⟨some (117, true), .mv 118 (.t 3), none, 118⟩,
 ⟨some (117, true), .bin 119 .eql (.t 118) (.i 0), none, 119⟩,
 ⟨none, .pick 120 (.t 117) (.t 119) (.b false), none, 0⟩,
 ⟨none, .mv 121 (.t 120), none, 0⟩,
 ⟨some (121, true), .nop, (some 1), 99999⟩,
 ⟨some (121, true), .ldR 123 1 9 none, none, 123⟩,
 ⟨some (121, true), .len 124 false (.t 123), none, 124⟩,
 ⟨some (121, true), .bin 125 .eql (.t 124) (.i 0), none, 125⟩,
 ⟨none, .pick 126 (.t 121) (.t 125) (.b false), none, 0⟩,
 ⟨none, .mv 127 (.t 126), none, 0⟩,
 ⟨some (127, true), .nop, (some 1), 99999⟩,
 ⟨some (127, true), .ldR 129 1 7 none, none, 129⟩,
 ⟨none, .pick 130 (.t 127) (.t 129) (.b false), none, 0⟩,
 ⟨none, .mv 131 (.t 130), none, 0⟩,
 ⟨some (131, true), .nop, (some 1), 99999⟩,
 ⟨some (131, true), .ldR 133 1 4 none, none, 133⟩,
 ⟨some (131, true), .bin 134 .geq (.t 133) (.i 0), none, 134⟩,
 ⟨none, .pick 135 (.t 131) (.t 134) (.b false), none, 0⟩,
 ⟨none, .mv 2 (.t 135), none, 0⟩]
def c78r10 : List SI := [
 ⟨none, .nop, (some 1), 0⟩,
 ⟨none, .ldR 137 1 0 none, none, 0⟩,
 ⟨none, .bin 138 .sub (.t 137) (.i 1), none, 0⟩,
 ⟨none, .mv 4 (.t 138), none, 0⟩]
def c78r11 : List SI := [
 ⟨none, .nop, (some 1), 0⟩,
 ⟨none, .ldR 140 1 9 none, none, 0⟩,
 ⟨none, .len 141 false (.t 140), none, 0⟩,
 ⟨none, .mv 142 (.i 0), none, 0⟩]
def c78r12 : List SI := [
 ⟨none, .bin 143 .lss (.t 142) (.t 141), none, 0⟩]
def c78r13 : List SI := [
 ⟨none, .ixA 144 (.t 140) (.t 142) 5, none, 0⟩,
 ⟨none, .ld 145 (.t 144) (some 5), none, 0⟩,
 ⟨none, .alR 6 [(.int .i64 0), (.string ⟨#[]⟩), (.string ⟨#[]⟩), (.bool false), (.int .i64 0)], none, 0⟩,
 ⟨none, .stR 6 0 5 (.t 145), none, 0⟩]
def c78r14 : List SI := [
 ⟨none, .ldR 146 6 0 (some 5), none, 0⟩,
 ⟨none, .call 147 98 [(.t 146)], none, 0⟩,
 ⟨none, .bin 148 .neq (.t 147) (.i 0), none, 0⟩,
 ⟨none, .mv 149 (.t 148), none, 0⟩,
 ⟨some (149, false), .nop, (some 6), 99999⟩,
 ⟨some (149, false), .ldR 151 6 0 none, none, 151⟩,
 ⟨some (149, false), .mv 152 (.t 4), none, 152⟩,
 ⟨some (149, false), .bin 153 .leq (.t 151) (.t 152), none, 153⟩,
 ⟨none, .pick 154 (.t 149) (.b true) (.t 153), none, 0⟩,
 ⟨none, .mv 155 (.t 154), none, 0⟩,
 ⟨some (155, false), .nop, (some 6), 99999⟩,
 ⟨some (155, false), .ldR 157 6 0 none, none, 157⟩,
 ⟨some (155, false), .nop, (some 1), 99999⟩,
 ⟨some (155, false), .ldR 159 1 1 none, none, 159⟩,
 ⟨some (155, false), .bin 160 .gtr (.t 157) (.t 159), none, 160⟩,
 ⟨none, .pick 161 (.t 155) (.b true) (.t 160), none, 0⟩]
def c78r15 : List SI := [
 ⟨none, .mv 2 (.b false), none, 0⟩]
def c78r16 : List SI := [
 ⟨none, .nop, (some 6), 0⟩,
 ⟨none, .ldR 163 6 0 none, none, 0⟩,
 ⟨none, .mv 4 (.t 163), none, 0⟩]
def c78r17 : List SI := [
 ⟨none, .bin 164 .add (.t 142) (.i 1), none, 0⟩,
 ⟨none, .mv 142 (.t 164), none, 0⟩]
def c78r18 : List SI := [
 ⟨none, .mv 2 (.b true), none, 0⟩]
def c78 : SC :=
 (.seq (.reg false c78r0)
 (.seq (.seq (.reg false c78r1)
 (.cond (.t 37)
  (.seq (.reg false c78r2)
  .ret)
  .skip))
 (.seq (.reg false c78r3)
 (.seq (.seq (.reg false c78r4)
 (.cond (.t 72)
  (.seq (.reg false c78r5)
  .ret)
  .skip))
 (.seq (.seq (.reg false c78r6)
 (.cond (.t 105)
  (.seq (.reg false c78r7)
  .ret)
  .skip))
 (.seq (.seq (.reg false c78r8)
 (.cond (.t 108)
  (.seq (.reg false c78r9)
  .ret)
  .skip))
 (.seq (.reg false c78r10)
 (.seq (.seq (.reg false c78r11)
 (.blk 0 (.loop (.seq (.reg false c78r12)
   (.seq (.cond (.t 143)
    .skip
    (.exit 0))
   (.seq (.blk 1 (.seq (.reg false c78r13)
    (.seq (.seq (.reg false c78r14)
    (.cond (.t 161)
     (.seq (.reg false c78r15)
     .ret)
     .skip))
    (.reg false c78r16))))
   (.reg false c78r17)))))))
 (.seq (.reg false c78r18)
 .ret)))))))))
def v78 : List Nat × List Nat := ([1, 6], [1, 6, 7, 12, 18, 24, 26, 31, 33, 38, 40, 43, 49, 55, 61, 67, 73, 77, 81, 86, 90, 96, 100, 106, 109, 113, 122, 128, 132, 136, 139, 150, 156, 158, 162])
def o78 : List RS := [.t 2]
theorem s78 : slimC Try.prog Try.f78.ntmps v78.1 v78.2 ((Try.f78.body).getD .skip) = some c78 := by kernel_rfl
theorem q78 : slimR Try.prog Try.f78.ntmps v78.1 v78.2 Try.f78.results.toList = some o78 := by kernel_rfl
-- watermeet/watermeetref01.PutVar N=36
def c79r0 : List SI := [
 ⟨none, .mv 4 (.v (.slice none 0 0)), none, 0⟩]
def c79r1 : List SI := [
 ⟨none, .mv 7 (.t 1), none, 0⟩,
 ⟨none, .cvI 8 .u64 (.t 7), none, 0⟩,
 ⟨none, .bin 9 .mul (.v (.int .u64 2)) (.t 8), none, 0⟩,
 ⟨none, .mv 5 (.t 9), none, 0⟩]
def c79r2 : List SI := [
 ⟨none, .mv 10 (.t 1), none, 0⟩,
 ⟨none, .bin 11 .lss (.t 10) (.i 0), none, 0⟩]
def c79r3 : List SI := [
 ⟨none, .mv 12 (.t 1), none, 0⟩,
 ⟨none, .bin 13 .add (.t 12) (.i 1), none, 0⟩,
 ⟨none, .un 14 .neg (.t 13), none, 0⟩,
 ⟨none, .cvI 15 .u64 (.t 14), none, 0⟩,
 ⟨none, .bin 16 .mul (.v (.int .u64 2)) (.t 15), none, 0⟩,
 ⟨none, .bin 17 .add (.t 16) (.v (.int .u64 1)), none, 0⟩,
 ⟨none, .mv 5 (.t 17), none, 0⟩]
def c79r4 : List SI := [
 ⟨none, .mv 18 (.t 0), none, 0⟩,
 ⟨none, .call 19 99 [(.t 18)], none, 0⟩,
 ⟨none, .mv 6 (.t 19), none, 0⟩]
def c79r5 : List SI := [
 ⟨none, .mv 20 (.t 5), none, 0⟩,
 ⟨none, .bin 21 .geq (.t 20) (.v (.int .u64 128)), none, 0⟩]
def c79r6 : List SI := [
 ⟨none, .mv 22 (.t 6), none, 0⟩,
 ⟨none, .mv 23 (.t 5), none, 0⟩,
 ⟨none, .bin 24 .rem (.t 23) (.v (.int .u64 128)), none, 0⟩,
 ⟨none, .bin 25 .add (.v (.int .u64 128)) (.t 24), none, 0⟩,
 ⟨none, .cvI 26 .u8 (.t 25), none, 0⟩,
 ⟨none, .bls 27 5 1 1 [(.int .u8 0)] [(0, 1, (.t 26))], none, 0⟩,
 ⟨none, .app 28 (.t 22) (.t 27) 5 1 1, none, 0⟩,
 ⟨none, .mv 6 (.t 28), none, 0⟩]
def c79r7 : List SI := [
 ⟨none, .mv 29 (.t 5), none, 0⟩,
 ⟨none, .bin 30 .quo (.t 29) (.v (.int .u64 128)), none, 0⟩,
 ⟨none, .mv 5 (.t 30), none, 0⟩]
def c79r8 : List SI := [
 ⟨none, .mv 31 (.t 6), none, 0⟩,
 ⟨none, .mv 32 (.t 5), none, 0⟩,
 ⟨none, .cvI 33 .u8 (.t 32), none, 0⟩,
 ⟨none, .bls 34 5 1 1 [(.int .u8 0)] [(0, 1, (.t 33))], none, 0⟩,
 ⟨none, .app 35 (.t 31) (.t 34) 5 1 1, none, 0⟩,
 ⟨none, .mv 4 (.t 35), none, 0⟩]
def c79 : SC :=
 (.seq (.reg false c79r0)
 (.seq (.reg false c79r1)
 (.seq (.seq (.reg false c79r2)
 (.cond (.t 11)
  (.reg false c79r3)
  .skip))
 (.seq (.reg false c79r4)
 (.seq (.blk 0 (.loop (.seq (.seq (.reg false c79r5)
   (.cond (.t 21)
    .skip
    (.exit 0)))
   (.blk 1 (.seq (.reg false c79r6)
    (.reg false c79r7))))))
 (.seq (.reg false c79r8)
 .ret))))))
def v79 : List Nat × List Nat := ([], [])
def o79 : List RS := [.t 4]
theorem s79 : slimC Try.prog Try.f79.ntmps v79.1 v79.2 ((Try.f79.body).getD .skip) = some c79 := by kernel_rfl
theorem q79 : slimR Try.prog Try.f79.ntmps v79.1 v79.2 Try.f79.results.toList = some o79 := by kernel_rfl
-- watermeet/watermeetref03.Put N=50
def c80r0 : List SI := [
 ⟨none, .bxR 3 (.t 0), none, 0⟩,
 ⟨none, .mv 6 (.v (.slice none 0 0)), none, 0⟩,
 ⟨none, .mv 7 (.i 0), none, 0⟩]
def c80r1 : List SI := [
 ⟨none, .ldR 10 3 0 (some 5), none, 0⟩,
 ⟨none, .call 11 98 [(.t 10)], none, 0⟩,
 ⟨none, .mv 8 (.t 11), none, 0⟩]
def c80r2 : List SI := [
 ⟨none, .mv 12 (.t 8), none, 0⟩,
 ⟨none, .bin 13 .neq (.t 12) (.i 0), none, 0⟩]
def c80r3 : List SI := [
 ⟨none, .mv 14 (.t 8), none, 0⟩,
 ⟨none, .mv 6 (.v (.slice none 0 0)), none, 0⟩,
 ⟨none, .mv 7 (.t 14), none, 0⟩]
def c80r4 : List SI := [
 ⟨none, .mv 15 (.t 1), none, 0⟩,
 ⟨none, .call 16 100 [(.t 15)], none, 0⟩,
 ⟨none, .un 17 .not (.t 16), none, 0⟩,
 ⟨none, .mv 18 (.t 17), none, 0⟩,
 ⟨some (18, false), .mv 19 (.t 2), none, 19⟩,
 ⟨some (18, false), .call 20 100 [(.t 19)], none, 20⟩,
 ⟨some (18, false), .un 21 .not (.t 20), none, 21⟩,
 ⟨none, .pick 22 (.t 18) (.b true) (.t 21), none, 0⟩]
def c80r5 : List SI := [
 ⟨none, .mv 6 (.v (.slice none 0 0)), none, 0⟩,
 ⟨none, .mv 7 (.i 1), none, 0⟩]
def c80r6 : List SI := [
 ⟨none, .nop, (some 3), 0⟩,
 ⟨none, .ldR 24 3 0 none, none, 0⟩,
 ⟨none, .mv 25 (.t 1), none, 0⟩,
 ⟨none, .bin 26 .sub (.t 24) (.t 25), none, 0⟩,
 ⟨none, .call 27 79 [(.v (.slice none 0 0)), (.t 26)], none, 0⟩,
 ⟨none, .mv 9 (.t 27), none, 0⟩]
def c80r7 : List SI := [
 ⟨none, .mv 28 (.t 9), none, 0⟩,
 ⟨none, .nop, (some 3), 0⟩,
 ⟨none, .ldR 30 3 4 none, none, 0⟩,
 ⟨none, .mv 31 (.t 2), none, 0⟩,
 ⟨none, .bin 32 .sub (.t 30) (.t 31), none, 0⟩,
 ⟨none, .call 33 79 [(.t 28), (.t 32)], none, 0⟩,
 ⟨none, .mv 9 (.t 33), none, 0⟩]
def c80r8 : List SI := [
 ⟨none, .nop, (some 3), 0⟩,
 ⟨none, .ldR 35 3 3 none, none, 0⟩]
def c80r9 : List SI := [
 ⟨none, .mv 36 (.t 9), none, 0⟩,
 ⟨none, .bls 37 5 1 1 [(.int .u8 0)] [(0, 1, (.v (.int .u8 1)))], none, 0⟩,
 ⟨none, .app 38 (.t 36) (.t 37) 5 1 1, none, 0⟩,
 ⟨none, .mv 9 (.t 38), none, 0⟩]
def c80r10 : List SI := [
 ⟨none, .mv 39 (.t 9), none, 0⟩,
 ⟨none, .bls 40 5 1 1 [(.int .u8 0)] [(0, 1, (.v (.int .u8 0)))], none, 0⟩,
 ⟨none, .app 41 (.t 39) (.t 40) 5 1 1, none, 0⟩,
 ⟨none, .mv 9 (.t 41), none, 0⟩]
def c80r11 : List SI := [
 ⟨none, .mv 42 (.t 9), none, 0⟩,
 ⟨none, .nop, (some 3), 0⟩,
 ⟨none, .ldR 44 3 1 none, none, 0⟩,
 ⟨none, .call 45 101 [(.t 42), (.t 44)], none, 0⟩,
 ⟨none, .mv 9 (.t 45), none, 0⟩]
def c80r12 : List SI := [
 ⟨none, .mv 46 (.t 9), none, 0⟩,
 ⟨none, .nop, (some 3), 0⟩,
 ⟨none, .ldR 48 3 2 none, none, 0⟩,
 ⟨none, .call 49 101 [(.t 46), (.t 48)], none, 0⟩,
 ⟨none, .mv 6 (.t 49), none, 0⟩,
 ⟨none, .mv 7 (.i 0), none, 0⟩]
def c80 : SC :=
 (.seq (.reg false c80r0)
 (.seq (.reg false c80r1)
 (.seq (.seq (.reg false c80r2)
 (.cond (.t 13)
  (.seq (.reg false c80r3)
  .ret)
  .skip))
 (.seq (.seq (.reg false c80r4)
 (.cond (.t 22)
  (.seq (.reg false c80r5)
  .ret)
  .skip))
 (.seq (.reg false c80r6)
 (.seq (.reg false c80r7)
 (.seq (.seq (.reg false c80r8)
 (.cond (.t 35)
  (.reg false c80r9)
  (.reg false c80r10)))
 (.seq (.reg false c80r11)
 (.seq (.reg false c80r12)
 .ret)))))))))
def v80 : List Nat × List Nat := ([3], [3, 23, 29, 34, 43, 47])
def o80 : List RS := [.t 6, .t 7]
theorem s80 : slimC Try.prog Try.f80.ntmps v80.1 v80.2 ((Try.f80.body).getD .skip) = some c80 := by kernel_rfl
theorem q80 : slimR Try.prog Try.f80.ntmps v80.1 v80.2 Try.f80.results.toList = some o80 := by kernel_rfl
-- watermeet/watermeetref02.Seal N=10
def c81r0 : List SI := [
 ⟨none, .mv 2 (.v (.slice none 0 0)), none, 0⟩]
def c81r1 : List SI := [
 ⟨none, .bl0 3, none, 0⟩,
 ⟨none, .mv 4 (.t 0), none, 0⟩,
 ⟨none, .app 5 (.t 3) (.t 4) 5 1 1, none, 0⟩,
 ⟨none, .mv 6 (.t 0), none, 0⟩,
 ⟨none, .call 7 89 [(.t 6)], none, 0⟩,
 ⟨none, .call 8 88 [(.t 7)], none, 0⟩,
 ⟨none, .app 9 (.t 5) (.t 8) 5 1 1, none, 0⟩,
 ⟨none, .mv 2 (.t 9), none, 0⟩]
def c81 : SC :=
 (.seq (.reg false c81r0)
 (.seq (.reg false c81r1)
 .ret))
def v81 : List Nat × List Nat := ([], [])
def o81 : List RS := [.t 2]
theorem s81 : slimC Try.prog Try.f81.ntmps v81.1 v81.2 ((Try.f81.body).getD .skip) = some c81 := by kernel_rfl
theorem q81 : slimR Try.prog Try.f81.ntmps v81.1 v81.2 Try.f81.results.toList = some o81 := by kernel_rfl
-- watermeet/watermeetref01.Put N=41
def c82r0 : List SI := [
 ⟨none, .mv 6 (.v (.slice none 0 0)), none, 0⟩]
def c82r1 : List SI := [
 ⟨none, .mv 10 (.t 0), none, 0⟩,
 ⟨none, .call 11 99 [(.t 10)], none, 0⟩,
 ⟨none, .mv 7 (.t 11), none, 0⟩]
def c82r2 : List SI := [
 ⟨none, .mv 12 (.t 2), none, 0⟩,
 ⟨none, .bin 13 .lss (.t 12) (.i 1), none, 0⟩,
 ⟨none, .mv 14 (.t 13), none, 0⟩,
 ⟨some (14, false), .mv 15 (.t 2), none, 15⟩,
 ⟨some (14, false), .bin 16 .gtr (.t 15) (.i 8), none, 16⟩,
 ⟨none, .pick 17 (.t 14) (.b true) (.t 16), none, 0⟩]
def c82r3 : List SI := [
 ⟨none, .mv 18 (.t 7), none, 0⟩,
 ⟨none, .mv 6 (.t 18), none, 0⟩]
def c82r4 : List SI := [
 ⟨none, .mv 19 (.t 2), none, 0⟩,
 ⟨none, .mv 20 (.i 0), none, 0⟩]
def c82r5 : List SI := [
 ⟨none, .bin 21 .lss (.t 20) (.t 19), none, 0⟩]
def c82r6 : List SI := [
 ⟨none, .mv 22 (.t 20), none, 0⟩,
 ⟨none, .mv 8 (.t 22), none, 0⟩]
def c82r7 : List SI := [
 ⟨none, .mv 23 (.t 1), none, 0⟩,
 ⟨none, .mv 9 (.t 23), none, 0⟩]
def c82r8 : List SI := [
 ⟨none, .mv 24 (.t 2), none, 0⟩,
 ⟨none, .bin 25 .sub (.t 24) (.i 1), none, 0⟩,
 ⟨none, .mv 26 (.t 8), none, 0⟩,
 ⟨none, .bin 27 .sub (.t 25) (.t 26), none, 0⟩,
 ⟨none, .mv 28 (.i 0), none, 0⟩]
def c82r9 : List SI := [
 ⟨none, .bin 29 .lss (.t 28) (.t 27), none, 0⟩]
def c82r10 : List SI := [
 ⟨none, .mv 30 (.t 9), none, 0⟩,
 ⟨none, .bin 31 .quo (.t 30) (.v (.int .u64 256)), none, 0⟩,
 ⟨none, .mv 9 (.t 31), none, 0⟩]
def c82r11 : List SI := [
 ⟨none, .bin 32 .add (.t 28) (.i 1), none, 0⟩,
 ⟨none, .mv 28 (.t 32), none, 0⟩]
def c82r12 : List SI := [
 ⟨none, .mv 33 (.t 7), none, 0⟩,
 ⟨none, .mv 34 (.t 9), none, 0⟩,
 ⟨none, .bin 35 .rem (.t 34) (.v (.int .u64 256)), none, 0⟩,
 ⟨none, .cvI 36 .u8 (.t 35), none, 0⟩,
 ⟨none, .bls 37 5 1 1 [(.int .u8 0)] [(0, 1, (.t 36))], none, 0⟩,
 ⟨none, .app 38 (.t 33) (.t 37) 5 1 1, none, 0⟩,
 ⟨none, .mv 7 (.t 38), none, 0⟩]
def c82r13 : List SI := [
 ⟨none, .bin 39 .add (.t 20) (.i 1), none, 0⟩,
 ⟨none, .mv 20 (.t 39), none, 0⟩]
def c82r14 : List SI := [
 ⟨none, .mv 40 (.t 7), none, 0⟩,
 ⟨none, .mv 6 (.t 40), none, 0⟩]
def c82 : SC :=
 (.seq (.reg false c82r0)
 (.seq (.reg false c82r1)
 (.seq (.seq (.reg false c82r2)
 (.cond (.t 17)
  (.seq (.reg false c82r3)
  .ret)
  .skip))
 (.seq (.seq (.reg false c82r4)
 (.blk 0 (.loop (.seq (.reg false c82r5)
   (.seq (.cond (.t 21)
    .skip
    (.exit 0))
   (.seq (.blk 1 (.seq (.reg false c82r6)
    (.seq (.reg false c82r7)
    (.seq (.seq (.reg false c82r8)
    (.blk 2 (.loop (.seq (.reg false c82r9)
      (.seq (.cond (.t 29)
       .skip
       (.exit 2))
      (.seq (.blk 3 (.reg false c82r10))
      (.reg false c82r11)))))))
    (.reg false c82r12)))))
   (.reg false c82r13)))))))
 (.seq (.reg false c82r14)
 .ret)))))
def v82 : List Nat × List Nat := ([], [])
def o82 : List RS := [.t 6]
theorem s82 : slimC Try.prog Try.f82.ntmps v82.1 v82.2 ((Try.f82.body).getD .skip) = some c82 := by kernel_rfl
theorem q82 : slimR Try.prog Try.f82.ntmps v82.1 v82.2 Try.f82.results.toList = some o82 := by kernel_rfl
-- watermeet/octet.from N=11
def c83r0 : List SI := [
 ⟨none, .mv 4 (.v (.slice none 0 0)), none, 0⟩]
def c83r1 : List SI := [
 ⟨none, .mv 5 (.t 0), none, 0⟩,
 ⟨none, .mv 6 (.t 1), none, 0⟩,
 ⟨none, .mv 7 (.t 0), none, 0⟩,
 ⟨none, .len 8 false (.t 7), none, 0⟩,
 ⟨none, .mm 9 false (.t 6) (.t 8), none, 0⟩,
 ⟨none, .sl 10 (.t 5) (some (.t 9)) none none 1, none, 0⟩,
 ⟨none, .mv 4 (.t 10), none, 0⟩]
def c83 : SC :=
 (.seq (.reg false c83r0)
 (.seq (.reg false c83r1)
 .ret))
def v83 : List Nat × List Nat := ([], [])
def o83 : List RS := [.t 4]
theorem s83 : slimC Try.prog Try.f83.ntmps v83.1 v83.2 ((Try.f83.body).getD .skip) = some c83 := by kernel_rfl
theorem q83 : slimR Try.prog Try.f83.ntmps v83.1 v83.2 Try.f83.results.toList = some o83 := by kernel_rfl
-- watermeet/crc.Sum N=21
def c84r0 : List SI := [
 ⟨none, .mv 2 (.v (.int .u32 0)), none, 0⟩]
def c84r1 : List SI := [
 ⟨none, .call 7 102 [], none, 0⟩,
 ⟨none, .mv 3 (.t 7), none, 0⟩]
def c84r2 : List SI := [
 ⟨none, .mv 4 (.v (.int .u32 4294967295)), none, 0⟩]
def c84r3 : List SI := [
 ⟨none, .mv 8 (.t 0), none, 0⟩,
 ⟨none, .len 9 false (.t 8), none, 0⟩,
 ⟨none, .mv 10 (.i 0), none, 0⟩]
def c84r4 : List SI := [
 ⟨none, .bin 11 .lss (.t 10) (.t 9), none, 0⟩]
def c84r5 : List SI := [
 ⟨none, .ixA 12 (.t 8) (.t 10) 1, none, 0⟩,
 ⟨none, .ld 13 (.t 12) none, none, 0⟩,
 ⟨none, .mv 6 (.t 13), none, 0⟩]
def c84r6 : List SI := [
 ⟨none, .mv 14 (.t 3), none, 0⟩,
 ⟨none, .mv 15 (.t 4), none, 0⟩,
 ⟨none, .mv 16 (.t 6), none, 0⟩,
 ⟨none, .cav 17 (.t 14) [(.t 15), (.t 16)], none, 0⟩,
 ⟨none, .mv 4 (.t 17), none, 0⟩]
def c84r7 : List SI := [
 ⟨none, .bin 18 .add (.t 10) (.i 1), none, 0⟩,
 ⟨none, .mv 10 (.t 18), none, 0⟩]
def c84r8 : List SI := [
 ⟨none, .mv 19 (.t 4), none, 0⟩,
 ⟨none, .un 20 .xor (.t 19), none, 0⟩,
 ⟨none, .mv 2 (.t 20), none, 0⟩]
def c84 : SC :=
 (.seq (.reg false c84r0)
 (.seq (.reg false c84r1)
 (.seq (.reg false c84r2)
 (.seq (.seq (.reg false c84r3)
 (.blk 0 (.loop (.seq (.reg false c84r4)
   (.seq (.cond (.t 11)
    .skip
    (.exit 0))
   (.seq (.blk 1 (.seq (.reg false c84r5)
    (.reg false c84r6)))
   (.reg false c84r7)))))))
 (.seq (.reg false c84r8)
 .ret)))))
def v84 : List Nat × List Nat := ([], [])
def o84 : List RS := [.t 2]
theorem s84 : slimC Try.prog Try.f84.ntmps v84.1 v84.2 ((Try.f84.body).getD .skip) = some c84 := by kernel_rfl
theorem q84 : slimR Try.prog Try.f84.ntmps v84.1 v84.2 Try.f84.results.toList = some o84 := by kernel_rfl
-- watermeet/batch.parse$1 N=18
def c85r0 : List SI := [
 ⟨none, .mv 3 (.i 0), none, 0⟩]
def c85r1 : List SI := [
 ⟨none, .ld 8 (.t 0) none, none, 0⟩,
 ⟨none, .ld 9 (.t 1) none, none, 0⟩,
 ⟨none, .call 10 86 [(.t 8), (.t 9)], none, 0⟩,
 ⟨none, .mv 7 (.t 10), none, 0⟩,
 ⟨none, .ext 11 (.t 7) 0, none, 0⟩,
 ⟨none, .ext 12 (.t 7) 1, none, 0⟩,
 ⟨none, .ext 13 (.t 7) 2, none, 0⟩,
 ⟨none, .mv 4 (.t 11), none, 0⟩,
 ⟨none, .mv 5 (.t 12), none, 0⟩,
 ⟨none, .mv 6 (.t 13), none, 0⟩]
def c85r2 : List SI := [
 ⟨none, .mv 14 (.t 6), none, 0⟩,
 ⟨none, .bin 15 .neq (.t 14) (.i 0), none, 0⟩]
def c85r3 : List SI := [
 ⟨none, .st (.t 2) 1 (.b false), none, 0⟩]
def c85r4 : List SI := [
 ⟨none, .mv 3 (.i 0), none, 0⟩]
def c85r5 : List SI := [
 ⟨none, .mv 16 (.t 5), none, 0⟩,
 ⟨none, .st (.t 1) 1 (.t 16), none, 0⟩]
def c85r6 : List SI := [
 ⟨none, .mv 17 (.t 4), none, 0⟩,
 ⟨none, .mv 3 (.t 17), none, 0⟩]
def c85 : SC :=
 (.seq (.reg false c85r0)
 (.seq (.reg false c85r1)
 (.seq (.seq (.reg false c85r2)
 (.cond (.t 15)
  (.seq (.reg false c85r3)
  (.seq (.reg false c85r4)
  .ret))
  .skip))
 (.seq (.reg false c85r5)
 (.seq (.reg false c85r6)
 .ret)))))
def v85 : List Nat × List Nat := ([], [])
def o85 : List RS := [.t 3]
theorem s85 : slimC Try.prog Try.f85.ntmps v85.1 v85.2 ((Try.f85.body).getD .skip) = some c85 := by kernel_rfl
theorem q85 : slimR Try.prog Try.f85.ntmps v85.1 v85.2 Try.f85.results.toList = some o85 := by kernel_rfl
-- watermeet/octet.GetVar N=58
def c86r0 : List SI := [
 ⟨none, .mv 4 (.i 0), none, 0⟩,
 ⟨none, .mv 5 (.i 0), none, 0⟩,
 ⟨none, .mv 6 (.i 0), none, 0⟩]
def c86r1 : List SI := [
 ⟨none, .mv 10 (.t 1), none, 0⟩,
 ⟨none, .bin 11 .lss (.t 10) (.i 0), none, 0⟩]
def c86r2 : List SI := [
 ⟨none, .mv 4 (.i 0), none, 0⟩,
 ⟨none, .mv 5 (.i 0), none, 0⟩,
 ⟨none, .mv 6 (.i 1), none, 0⟩]
def c86r3 : List SI := [
 ⟨none, .mv 7 (.v (.int .u64 0)), none, 0⟩]
def c86r4 : List SI := [
 ⟨none, .mv 12 (.t 0), none, 0⟩,
 ⟨none, .mv 13 (.t 1), none, 0⟩,
 ⟨none, .call 14 83 [(.t 12), (.t 13)], none, 0⟩,
 ⟨none, .len 15 false (.t 14), none, 0⟩,
 ⟨none, .mv 16 (.i 0), none, 0⟩]
def c86r5 : List SI := [
 ⟨none, .bin 17 .lss (.t 16) (.t 15), none, 0⟩]
def c86r6 : List SI := [
 ⟨none, .mv 18 (.t 16), none, 0⟩,
 ⟨none, .ixA 19 (.t 14) (.t 16) 1, none, 0⟩,
 ⟨none, .ld 20 (.t 19) none, none, 0⟩,
 ⟨none, .mv 8 (.t 18), none, 0⟩,
 ⟨none, .mv 9 (.t 20), none, 0⟩]
def c86r7 : List SI := [
 ⟨none, .mv 21 (.t 8), none, 0⟩,
 ⟨none, .bin 22 .eql (.t 21) (.i 9), none, 0⟩,
 ⟨none, .mv 23 (.t 22), none, 0⟩,
 ⟨some (23, true), .mv 24 (.t 9), none, 24⟩,
 ⟨some (23, true), .bin 25 .gtr (.t 24) (.v (.int .u8 1)), none, 25⟩,
 ⟨none, .pick 26 (.t 23) (.t 25) (.b false), none, 0⟩,
 ⟨none, .mv 27 (.t 26), none, 0⟩,
 ⟨some (27, false), .mv 28 (.t 8), none, 28⟩,
 ⟨some (27, false), .bin 29 .gtr (.t 28) (.i 0), none, 29⟩,
 ⟨some (27, false), .mv 30 (.t 29), none, 30⟩,
 ⟨some (30, true), .mv 31 (.t 9), none, 31⟩,
 ⟨some (30, true), .bin 32 .eql (.t 31) (.v (.int .u8 0)), none, 32⟩,
 ⟨some (27, false), .pick 33 (.t 30) (.t 32) (.b false), none, 33⟩,
 ⟨none, .pick 34 (.t 27) (.b true) (.t 33), none, 0⟩]
def c86r8 : List SI := [
 ⟨none, .mv 4 (.i 0), none, 0⟩,
 ⟨none, .mv 5 (.i 0), none, 0⟩,
 ⟨none, .mv 6 (.i 11), none, 0⟩]
def c86r9 : List SI := [
 ⟨none, .mv 35 (.t 7), none, 0⟩,
 ⟨none, .mv 36 (.t 9), none, 0⟩,
 ⟨none, .bin 37 .and (.t 36) (.v (.int .u8 127)), none, 0⟩,
 ⟨none, .cvI 38 .u64 (.t 37), none, 0⟩,
 ⟨none, .mv 39 (.t 8), none, 0⟩,
 ⟨none, .bin 40 .mul (.i 7) (.t 39), none, 0⟩,
 ⟨none, .bin 41 .shl (.t 38) (.t 40), none, 0⟩,
 ⟨none, .bin 42 .or (.t 35) (.t 41), none, 0⟩,
 ⟨none, .mv 7 (.t 42), none, 0⟩]
def c86r10 : List SI := [
 ⟨none, .mv 43 (.t 9), none, 0⟩,
 ⟨none, .bin 44 .lss (.t 43) (.v (.int .u8 128)), none, 0⟩]
def c86r11 : List SI := [
 ⟨none, .mv 45 (.t 7), none, 0⟩,
 ⟨none, .bin 46 .shr (.t 45) (.v (.int .u64 1)), none, 0⟩,
 ⟨none, .cvI 47 .i64 (.t 46), none, 0⟩,
 ⟨none, .mv 48 (.t 7), none, 0⟩,
 ⟨none, .bin 49 .and (.t 48) (.v (.int .u64 1)), none, 0⟩,
 ⟨none, .cvI 50 .i64 (.t 49), none, 0⟩,
 ⟨none, .un 51 .neg (.t 50), none, 0⟩,
 ⟨none, .bin 52 .xor (.t 47) (.t 51), none, 0⟩,
 ⟨none, .mv 53 (.t 1), none, 0⟩,
 ⟨none, .mv 54 (.t 8), none, 0⟩,
 ⟨none, .bin 55 .add (.t 53) (.t 54), none, 0⟩,
 ⟨none, .bin 56 .add (.t 55) (.i 1), none, 0⟩,
 ⟨none, .mv 4 (.t 52), none, 0⟩,
 ⟨none, .mv 5 (.t 56), none, 0⟩,
 ⟨none, .mv 6 (.i 0), none, 0⟩]
def c86r12 : List SI := [
 ⟨none, .bin 57 .add (.t 16) (.i 1), none, 0⟩,
 ⟨none, .mv 16 (.t 57), none, 0⟩]
def c86r13 : List SI := [
 ⟨none, .mv 4 (.i 0), none, 0⟩,
 ⟨none, .mv 5 (.i 0), none, 0⟩,
 ⟨none, .mv 6 (.i 10), none, 0⟩]
def c86 : SC :=
 (.seq (.reg false c86r0)
 (.seq (.seq (.reg false c86r1)
 (.cond (.t 11)
  (.seq (.reg false c86r2)
  .ret)
  .skip))
 (.seq (.reg false c86r3)
 (.seq (.seq (.reg false c86r4)
 (.blk 0 (.loop (.seq (.reg false c86r5)
   (.seq (.cond (.t 17)
    .skip
    (.exit 0))
   (.seq (.blk 1 (.seq (.reg false c86r6)
    (.seq (.seq (.reg false c86r7)
    (.cond (.t 34)
     (.seq (.reg false c86r8)
     .ret)
     .skip))
    (.seq (.reg false c86r9)
    (.seq (.reg false c86r10)
    (.cond (.t 44)
     (.seq (.reg false c86r11)
     .ret)
     .skip))))))
   (.reg false c86r12)))))))
 (.seq (.reg false c86r13)
 .ret)))))
def v86 : List Nat × List Nat := ([], [])
def o86 : List RS := [.t 4, .t 5, .t 6]
theorem s86 : slimC Try.prog Try.f86.ntmps v86.1 v86.2 ((Try.f86.body).getD .skip) = some c86 := by kernel_rfl
theorem q86 : slimR Try.prog Try.f86.ntmps v86.1 v86.2 Try.f86.results.toList = some o86 := by kernel_rfl
-- watermeet/rec.Get N=82
def c87r0 : List SI := [
 ⟨none, .alR 8 [(.int .i64 0), (.string ⟨#[]⟩), (.string ⟨#[]⟩), (.bool false), (.int .i64 0)], none, 0⟩,
 ⟨none, .mv 9 (.i 0), none, 0⟩,
 ⟨none, .mv 10 (.i 0), none, 0⟩]
def c87r1 : List SI := [
 ⟨none, .mv 13 (.t 2), none, 0⟩,
 ⟨none, .call 14 94 [(.t 13)], none, 0⟩,
 ⟨none, .un 15 .not (.t 14), none, 0⟩,
 ⟨none, .mv 16 (.t 15), none, 0⟩,
 ⟨some (16, false), .mv 17 (.t 3), none, 17⟩,
 ⟨some (16, false), .call 18 94 [(.t 17)], none, 18⟩,
 ⟨some (16, false), .un 19 .not (.t 18), none, 19⟩,
 ⟨none, .pick 20 (.t 16) (.b true) (.t 19), none, 0⟩,
 ⟨none, .mv 21 (.t 20), none, 0⟩,
 ⟨some (21, false), .mv 22 (.t 1), none, 22⟩,
 ⟨some (21, false), .bin 23 .lss (.t 22) (.i 0), none, 23⟩,
 ⟨none, .pick 24 (.t 21) (.b true) (.t 23), none, 0⟩,
 ⟨none, .mv 25 (.t 24), none, 0⟩,
 ⟨some (25, false), .mv 26 (.t 1), none, 26⟩,
 ⟨some (25, false), .mv 27 (.t 0), none, 27⟩,
 ⟨some (25, false), .len 28 false (.t 27), none, 28⟩,
 ⟨some (25, false), .bin 29 .gtr (.t 26) (.t 28), none, 29⟩,
 ⟨none, .pick 30 (.t 25) (.b true) (.t 29), none, 0⟩]
def c87r2 : List SI := [
 ⟨none, .bld 31 [(.int .i64 0), (.string ⟨#[]⟩), (.string ⟨#[]⟩), (.bool false), (.int .i64 0)] [], none, 0⟩,
 ⟨none, .stR 8 0 5 (.t 31), none, 0⟩,
 ⟨none, .mv 9 (.i 0), none, 0⟩,
 ⟨none, .mv 10 (.i 1), none, 0⟩]
def c87r3 : List SI := [
 ⟨none, .mv 32 (.t 0), none, 0⟩,
 ⟨none, .mv 33 (.t 1), none, 0⟩,
 ⟨none, .bld 34 [(.slice none 0 0), (.int .i64 0), (.int .i64 0)] [(0, 1, (.t 32)), (1, 1, (.t 33))], none, 0⟩,
 ⟨none, .bx 35 (.t 34), none, 0⟩,
 ⟨none, .mv 11 (.t 35), none, 0⟩]
def c87r4 : List SI := [
 ⟨none, .mv 12 (.v (.func (.func 103) #[] #[])), none, 0⟩]
def c87r5 : List SI := [
 ⟨none, .mv 36 (.t 2), none, 0⟩,
 ⟨none, .mv 37 (.t 11), none, 0⟩,
 ⟨none, .call 38 106 [(.t 37), (.v (.func (.func 86) #[] #[]))], none, 0⟩,
 ⟨none, .call 39 105 [(.t 36), (.t 38)], none, 0⟩,
 ⟨none, .nop, (some 8), 0⟩,
 ⟨none, .stR 8 0 1 (.t 39), none, 0⟩]
def c87r6 : List SI := [
 ⟨none, .mv 41 (.t 3), none, 0⟩,
 ⟨none, .mv 42 (.t 11), none, 0⟩,
 ⟨none, .call 43 106 [(.t 42), (.v (.func (.func 86) #[] #[]))], none, 0⟩,
 ⟨none, .call 44 105 [(.t 41), (.t 43)], none, 0⟩,
 ⟨none, .nop, (some 8), 0⟩,
 ⟨none, .stR 8 4 1 (.t 44), none, 0⟩]
def c87r7 : List SI := [
 ⟨none, .mv 46 (.t 11), none, 0⟩,
 ⟨none, .call 47 107 [(.t 46), (.v (.func (.func 108) #[] #[]))], none, 0⟩,
 ⟨none, .nop, (some 8), 0⟩,
 ⟨none, .stR 8 3 1 (.t 47), none, 0⟩]
def c87r8 : List SI := [
 ⟨none, .mv 49 (.t 11), none, 0⟩,
 ⟨none, .mv 50 (.t 12), none, 0⟩,
 ⟨none, .call 51 109 [(.t 49), (.t 50)], none, 0⟩,
 ⟨none, .mv 52 (.t 11), none, 0⟩,
 ⟨none, .mv 53 (.t 12), none, 0⟩,
 ⟨none, .call 54 109 [(.t 52), (.t 53)], none, 0⟩,
 ⟨none, .nop, (some 8), 0⟩,
 ⟨none, .stR 8 1 1 (.t 51), none, 0⟩,
 ⟨none, .nop, (some 8), 0⟩,
 ⟨none, .stR 8 2 1 (.t 54), none, 0⟩]
def c87r9 : List SI := [
 ⟨none, .mv 57 (.t 11), none, 0⟩,
 ⟨none, .nck 58 (.t 57), none, 0⟩,
 ⟨none, .flA 59 (.t 58) 2, none, 0⟩,
 ⟨none, .ld 60 (.t 59) none, none, 0⟩,
 ⟨none, .bin 61 .eql (.t 60) (.i 0), none, 0⟩]
def c87r10 : List SI := [
 ⟨none, .mv 62 (.t 11), none, 0⟩,
 ⟨none, .ldR 63 8 0 (some 5), none, 0⟩,
 ⟨none, .call 64 73 [(.t 63)], none, 0⟩,
 ⟨none, .nck 65 (.t 62), none, 0⟩,
 ⟨none, .flA 66 (.t 65) 2, none, 0⟩,
 ⟨none, .st (.t 66) 1 (.t 64), none, 0⟩]
def c87r11 : List SI := [
 ⟨none, .mv 67 (.t 11), none, 0⟩,
 ⟨none, .nck 68 (.t 67), none, 0⟩,
 ⟨none, .flA 69 (.t 68) 2, none, 0⟩,
 ⟨none, .ld 70 (.t 69) none, none, 0⟩,
 ⟨none, .bin 71 .neq (.t 70) (.i 0), none, 0⟩]
def c87r12 : List WI := [
 (true, false, ⟨none, .bld 72 [(.int .i64 0), (.string ⟨#[]⟩), (.string ⟨#[]⟩), (.bool false), (.int .i64 0)] [], none, 0⟩),
 (true, false, ⟨none, .mv 73 (.t 11), none, 0⟩),
 (true, false, ⟨none, .nck 74 (.t 73), none, 0⟩),
 (true, false, ⟨none, .flA 75 (.t 74) 2, none, 0⟩),
 (true, false, ⟨none, .ld 76 (.t 75) none, none, 0⟩),
 (false, false, ⟨none, .stR 8 0 5 (.t 72), none, 0⟩),
 (true, false, ⟨none, .mv 9 (.i 0), none, 0⟩),
 (true, false, ⟨none, .mv 10 (.t 76), none, 0⟩)]
def c87r13 : List WI := [
 (true, false, ⟨none, .ldR 77 8 0 (some 5), none, 0⟩),
 (true, false, ⟨none, .mv 78 (.t 11), none, 0⟩),
 (true, false, ⟨none, .nck 79 (.t 78), none, 0⟩),
 (true, false, ⟨none, .flA 80 (.t 79) 1, none, 0⟩),
 (true, false, ⟨none, .ld 81 (.t 80) none, none, 0⟩),
 (false, false, ⟨none, .stR 8 0 5 (.t 77), none, 0⟩),
 (true, false, ⟨none, .mv 9 (.t 81), none, 0⟩),
 (true, false, ⟨none, .mv 10 (.i 0), none, 0⟩)]
def c87 : SC :=
 (.seq (.reg false c87r0)
 (.seq (.seq (.reg false c87r1)
 (.cond (.t 30)
  (.seq (.reg false c87r2)
  .ret)
  .skip))
 (.seq (.reg false c87r3)
 (.seq (.reg false c87r4)
 (.seq (.reg false c87r5)
 (.seq (.reg false c87r6)
 (.seq (.reg false c87r7)
 (.seq (.reg false c87r8)
 (.seq (.seq (.reg false c87r9)
 (.cond (.t 61)
  (.reg false c87r10)
  .skip))
 (.seq (.seq (.reg false c87r11)
 (.cond (.t 71)
  (.seq (.rgW c87r12)
  .ret)
  .skip))
 (.seq (.rgW c87r13)
 .ret)))))))))))
def v87 : List Nat × List Nat := ([8], [8, 40, 45, 48, 55, 56])
def o87 : List RS := [.r 8 (some 5), .t 9, .t 10]
theorem s87 : slimC Try.prog Try.f87.ntmps v87.1 v87.2 ((Try.f87.body).getD .skip) = some c87 := by kernel_rfl
theorem q87 : slimR Try.prog Try.f87.ntmps v87.1 v87.2 Try.f87.results.toList = some o87 := by kernel_rfl
-- watermeet/watermeetref02.four N=15
def c88r0 : List SI := [
 ⟨none, .mv 2 (.v (.slice none 0 0)), none, 0⟩]
def c88r1 : List SI := [
 ⟨none, .mv 3 (.t 0), none, 0⟩,
 ⟨none, .bin 4 .quo (.t 3) (.v (.int .u32 16777216)), none, 0⟩,
 ⟨none, .cvI 5 .u8 (.t 4), none, 0⟩,
 ⟨none, .mv 6 (.t 0), none, 0⟩,
 ⟨none, .bin 7 .quo (.t 6) (.v (.int .u32 65536)), none, 0⟩,
 ⟨none, .cvI 8 .u8 (.t 7), none, 0⟩,
 ⟨none, .mv 9 (.t 0), none, 0⟩,
 ⟨none, .bin 10 .quo (.t 9) (.v (.int .u32 256)), none, 0⟩,
 ⟨none, .cvI 11 .u8 (.t 10), none, 0⟩,
 ⟨none, .mv 12 (.t 0), none, 0⟩,
 ⟨none, .cvI 13 .u8 (.t 12), none, 0⟩,
 ⟨none, .bls 14 5 4 1 [(.int .u8 0), (.int .u8 0), (.int .u8 0), (.int .u8 0)] [(0, 1, (.t 5)), (1, 1, (.t 8)), (2, 1, (.t 11)), (3, 1, (.t 13))], none, 0⟩,
 ⟨none, .mv 2 (.t 14), none, 0⟩]
def c88 : SC :=
 (.seq (.reg false c88r0)
 (.seq (.reg false c88r1)
 .ret))
def v88 : List Nat × List Nat := ([], [])
def o88 : List RS := [.t 2]
theorem s88 : slimC Try.prog Try.f88.ntmps v88.1 v88.2 ((Try.f88.body).getD .skip) = some c88 := by kernel_rfl
theorem q88 : slimR Try.prog Try.f88.ntmps v88.1 v88.2 Try.f88.results.toList = some o88 := by kernel_rfl
-- watermeet/watermeetref02.Sum N=21
def c89r0 : List SI := [
 ⟨none, .mv 2 (.v (.int .u32 0)), none, 0⟩]
def c89r1 : List SI := [
 ⟨none, .mv 3 (.v (.int .u32 4294967295)), none, 0⟩]
def c89r2 : List SI := [
 ⟨none, .mv 4 (.i 0), none, 0⟩]
def c89r3 : List SI := [
 ⟨none, .mv 5 (.t 4), none, 0⟩,
 ⟨none, .mv 6 (.t 0), none, 0⟩,
 ⟨none, .len 7 false (.t 6), none, 0⟩,
 ⟨none, .bin 8 .lss (.t 5) (.t 7), none, 0⟩]
def c89r4 : List SI := [
 ⟨none, .mv 11 (.t 3), none, 0⟩,
 ⟨none, .mv 12 (.t 0), none, 0⟩,
 ⟨none, .mv 13 (.t 4), none, 0⟩,
 ⟨none, .ixA 14 (.t 12) (.t 13) 1, none, 0⟩,
 ⟨none, .ld 15 (.t 14) none, none, 0⟩,
 ⟨none, .cvI 16 .u32 (.t 15), none, 0⟩,
 ⟨none, .bin 17 .xor (.t 11) (.t 16), none, 0⟩,
 ⟨none, .call 18 110 [(.t 17), (.i 8)], none, 0⟩,
 ⟨none, .mv 3 (.t 18), none, 0⟩]
def c89r5 : List SI := [
 ⟨none, .mv 9 (.t 4), none, 0⟩,
 ⟨none, .bin 10 .add (.t 9) (.i 1), none, 0⟩,
 ⟨none, .mv 4 (.t 10), none, 0⟩]
def c89r6 : List SI := [
 ⟨none, .mv 19 (.t 3), none, 0⟩,
 ⟨none, .bin 20 .xor (.t 19) (.v (.int .u32 4294967295)), none, 0⟩,
 ⟨none, .mv 2 (.t 20), none, 0⟩]
def c89 : SC :=
 (.seq (.reg false c89r0)
 (.seq (.reg false c89r1)
 (.seq (.seq (.reg false c89r2)
 (.blk 0 (.loop (.seq (.seq (.reg false c89r3)
   (.cond (.t 8)
    .skip
    (.exit 0)))
   (.seq (.blk 1 (.reg false c89r4))
   (.reg false c89r5))))))
 (.seq (.reg false c89r6)
 .ret))))
def v89 : List Nat × List Nat := ([], [])
def o89 : List RS := [.t 2]
theorem s89 : slimC Try.prog Try.f89.ntmps v89.1 v89.2 ((Try.f89.body).getD .skip) = some c89 := by kernel_rfl
theorem q89 : slimR Try.prog Try.f89.ntmps v89.1 v89.2 Try.f89.results.toList = some o89 := by kernel_rfl
-- watermeet/watermeetref01.GetVar N=73
def c90r0 : List SI := [
 ⟨none, .mv 4 (.i 0), none, 0⟩,
 ⟨none, .mv 5 (.i 0), none, 0⟩,
 ⟨none, .mv 6 (.i 0), none, 0⟩]
def c90r1 : List SI := [
 ⟨none, .mv 12 (.t 1), none, 0⟩,
 ⟨none, .bin 13 .lss (.t 12) (.i 0), none, 0⟩]
def c90r2 : List SI := [
 ⟨none, .mv 4 (.i 0), none, 0⟩,
 ⟨none, .mv 5 (.i 0), none, 0⟩,
 ⟨none, .mv 6 (.i 1), none, 0⟩]
def c90r3 : List SI := [
 ⟨none, .mv 7 (.v (.int .u64 0)), none, 0⟩]
def c90r4 : List SI := [
 ⟨none, .mv 8 (.v (.int .u64 1)), none, 0⟩]
def c90r5 : List SI := [
 ⟨none, .mv 9 (.i 0), none, 0⟩]
def c90r6 : List SI := [
 ⟨none, .mv 16 (.t 1), none, 0⟩,
 ⟨none, .mv 17 (.t 0), none, 0⟩,
 ⟨none, .len 18 false (.t 17), none, 0⟩,
 ⟨none, .bin 19 .geq (.t 16) (.t 18), none, 0⟩,
 ⟨none, .mv 20 (.t 19), none, 0⟩,
 ⟨some (20, false), .mv 21 (.t 9), none, 21⟩,
 ⟨some (20, false), .mv 22 (.t 0), none, 22⟩,
 ⟨some (20, false), .len 23 false (.t 22), none, 23⟩,
 ⟨some (20, false), .mv 24 (.t 1), none, 24⟩,
 ⟨some (20, false), .bin 25 .sub (.t 23) (.t 24), none, 25⟩,
 ⟨some (20, false), .bin 26 .geq (.t 21) (.t 25), none, 26⟩,
 ⟨none, .pick 27 (.t 20) (.b true) (.t 26), none, 0⟩]
def c90r7 : List SI := [
 ⟨none, .mv 4 (.i 0), none, 0⟩,
 ⟨none, .mv 5 (.i 0), none, 0⟩,
 ⟨none, .mv 6 (.i 10), none, 0⟩]
def c90r8 : List SI := [
 ⟨none, .mv 28 (.t 0), none, 0⟩,
 ⟨none, .mv 29 (.t 1), none, 0⟩,
 ⟨none, .mv 30 (.t 9), none, 0⟩,
 ⟨none, .bin 31 .add (.t 29) (.t 30), none, 0⟩,
 ⟨none, .ixA 32 (.t 28) (.t 31) 1, none, 0⟩,
 ⟨none, .ld 33 (.t 32) none, none, 0⟩,
 ⟨none, .mv 10 (.t 33), none, 0⟩]
def c90r9 : List SI := [
 ⟨none, .mv 34 (.t 9), none, 0⟩,
 ⟨none, .bin 35 .eql (.t 34) (.i 9), none, 0⟩,
 ⟨none, .mv 36 (.t 35), none, 0⟩,
 ⟨some (36, true), .mv 37 (.t 10), none, 37⟩,
 ⟨some (36, true), .bin 38 .gtr (.t 37) (.v (.int .u8 1)), none, 38⟩,
 ⟨none, .pick 39 (.t 36) (.t 38) (.b false), none, 0⟩,
 ⟨none, .mv 40 (.t 39), none, 0⟩,
 ⟨some (40, false), .mv 41 (.t 9), none, 41⟩,
 ⟨some (40, false), .bin 42 .gtr (.t 41) (.i 0), none, 42⟩,
 ⟨some (40, false), .mv 43 (.t 42), none, 43⟩,
 ⟨some (43, true), .mv 44 (.t 10), none, 44⟩,
 ⟨some (43, true), .bin 45 .eql (.t 44) (.v (.int .u8 0)), none, 45⟩,
 ⟨some (40, false), .pick 46 (.t 43) (.t 45) (.b false), none, 46⟩,
 ⟨none, .pick 47 (.t 40) (.b true) (.t 46), none, 0⟩]
def c90r10 : List SI := [
 ⟨none, .mv 4 (.i 0), none, 0⟩,
 ⟨none, .mv 5 (.i 0), none, 0⟩,
 ⟨none, .mv 6 (.i 11), none, 0⟩]
def c90r11 : List SI := [
 ⟨none, .mv 48 (.t 7), none, 0⟩,
 ⟨none, .mv 49 (.t 8), none, 0⟩,
 ⟨none, .mv 50 (.t 10), none, 0⟩,
 ⟨none, .bin 51 .rem (.t 50) (.v (.int .u8 128)), none, 0⟩,
 ⟨none, .cvI 52 .u64 (.t 51), none, 0⟩,
 ⟨none, .bin 53 .mul (.t 49) (.t 52), none, 0⟩,
 ⟨none, .bin 54 .add (.t 48) (.t 53), none, 0⟩,
 ⟨none, .mv 7 (.t 54), none, 0⟩]
def c90r12 : List SI := [
 ⟨none, .mv 55 (.t 8), none, 0⟩,
 ⟨none, .bin 56 .mul (.t 55) (.v (.int .u64 128)), none, 0⟩,
 ⟨none, .mv 8 (.t 56), none, 0⟩]
def c90r13 : List SI := [
 ⟨none, .mv 57 (.t 10), none, 0⟩,
 ⟨none, .bin 58 .lss (.t 57) (.v (.int .u8 128)), none, 0⟩]
def c90r14 : List SI := [
 ⟨none, .mv 59 (.t 7), none, 0⟩,
 ⟨none, .bin 60 .quo (.t 59) (.v (.int .u64 2)), none, 0⟩,
 ⟨none, .cvI 61 .i64 (.t 60), none, 0⟩,
 ⟨none, .mv 11 (.t 61), none, 0⟩]
def c90r15 : List SI := [
 ⟨none, .mv 62 (.t 7), none, 0⟩,
 ⟨none, .bin 63 .rem (.t 62) (.v (.int .u64 2)), none, 0⟩,
 ⟨none, .bin 64 .eql (.t 63) (.v (.int .u64 1)), none, 0⟩]
def c90r16 : List SI := [
 ⟨none, .mv 65 (.t 11), none, 0⟩,
 ⟨none, .un 66 .neg (.t 65), none, 0⟩,
 ⟨none, .bin 67 .sub (.t 66) (.i 1), none, 0⟩,
 ⟨none, .mv 11 (.t 67), none, 0⟩]
def c90r17 : List SI := [
 ⟨none, .mv 68 (.t 11), none, 0⟩,
 ⟨none, .mv 69 (.t 1), none, 0⟩,
 ⟨none, .mv 70 (.t 9), none, 0⟩,
 ⟨none, .bin 71 .add (.t 69) (.t 70), none, 0⟩,
 ⟨none, .bin 72 .add (.t 71) (.i 1), none, 0⟩,
 ⟨none, .mv 4 (.t 68), none, 0⟩,
 ⟨none, .mv 5 (.t 72), none, 0⟩,
 ⟨none, .mv 6 (.i 0), none, 0⟩]
def c90r18 : List SI := [
 ⟨none, .mv 14 (.t 9), none, 0⟩,
 ⟨none, .bin 15 .add (.t 14) (.i 1), none, 0⟩,
 ⟨none, .mv 9 (.t 15), none, 0⟩]
def c90 : SC :=
 (.seq (.reg false c90r0)
 (.seq (.seq (.reg false c90r1)
 (.cond (.t 13)
  (.seq (.reg false c90r2)
  .ret)
  .skip))
 (.seq (.reg false c90r3)
 (.seq (.reg false c90r4)
 (.seq (.reg false c90r5)
 (.blk 0 (.loop (.seq (.blk 1 (.seq (.seq (.reg false c90r6)
    (.cond (.t 27)
     (.seq (.reg false c90r7)
     .ret)
     .skip))
    (.seq (.reg false c90r8)
    (.seq (.seq (.reg false c90r9)
    (.cond (.t 47)
     (.seq (.reg false c90r10)
     .ret)
     .skip))
    (.seq (.reg false c90r11)
    (.seq (.reg false c90r12)
    (.seq (.reg false c90r13)
    (.cond (.t 58)
     (.seq (.reg false c90r14)
     (.seq (.seq (.reg false c90r15)
     (.cond (.t 64)
      (.reg false c90r16)
      .skip))
     (.seq (.reg false c90r17)
     .ret)))
     .skip))))))))
   (.reg false c90r18)))))))))
def v90 : List Nat × List Nat := ([], [])
def o90 : List RS := [.t 4, .t 5, .t 6]
theorem s90 : slimC Try.prog Try.f90.ntmps v90.1 v90.2 ((Try.f90.body).getD .skip) = some c90 := by kernel_rfl
theorem q90 : slimR Try.prog Try.f90.ntmps v90.1 v90.2 Try.f90.results.toList = some o90 := by kernel_rfl
-- watermeet/watermeetref03.Get N=121
def c91r0 : List SI := [
 ⟨none, .alR 8 [(.int .i64 0), (.string ⟨#[]⟩), (.string ⟨#[]⟩), (.bool false), (.int .i64 0)], none, 0⟩,
 ⟨none, .mv 9 (.i 0), none, 0⟩,
 ⟨none, .mv 10 (.i 0), none, 0⟩]
def c91r1 : List SI := [
 ⟨none, .bld 25 [(.int .i64 0), (.string ⟨#[]⟩), (.string ⟨#[]⟩), (.bool false), (.int .i64 0)] [], none, 0⟩,
 ⟨none, .alR 11 [(.int .i64 0), (.string ⟨#[]⟩), (.string ⟨#[]⟩), (.bool false), (.int .i64 0)], none, 0⟩,
 ⟨none, .stR 11 0 5 (.t 25), none, 0⟩]
def c91r2 : List SI := [
 ⟨none, .mv 26 (.t 2), none, 0⟩,
 ⟨none, .call 27 100 [(.t 26)], none, 0⟩,
 ⟨none, .un 28 .not (.t 27), none, 0⟩,
 ⟨none, .mv 29 (.t 28), none, 0⟩,
 ⟨some (29, false), .mv 30 (.t 3), none, 30⟩,
 ⟨some (29, false), .call 31 100 [(.t 30)], none, 31⟩,
 ⟨some (29, false), .un 32 .not (.t 31), none, 32⟩,
 ⟨none, .pick 33 (.t 29) (.b true) (.t 32), none, 0⟩,
 ⟨none, .mv 34 (.t 33), none, 0⟩,
 ⟨some (34, false), .mv 35 (.t 1), none, 35⟩,
 ⟨some (34, false), .bin 36 .lss (.t 35) (.i 0), none, 36⟩,
 ⟨none, .pick 37 (.t 34) (.b true) (.t 36), none, 0⟩,
 ⟨none, .mv 38 (.t 37), none, 0⟩,
 ⟨some (38, false), .mv 39 (.t 1), none, 39⟩,
 ⟨some (38, false), .mv 40 (.t 0), none, 40⟩,
 ⟨some (38, false), .len 41 false (.t 40), none, 41⟩,
 ⟨some (38, false), .bin 42 .gtr (.t 39) (.t 41), none, 42⟩,
 ⟨none, .pick 43 (.t 38) (.b true) (.t 42), none, 0⟩]
def c91r3 : List SI := [
 ⟨none, .ldR 44 11 0 (some 5), none, 0⟩,
 ⟨none, .stR 8 0 5 (.t 44), none, 0⟩,
 ⟨none, .mv 9 (.i 0), none, 0⟩,
 ⟨none, .mv 10 (.i 1), none, 0⟩]
def c91r4 : List SI := [
 ⟨none, .mv 46 (.t 0), none, 0⟩,
 ⟨none, .mv 47 (.t 1), none, 0⟩,
 ⟨none, .call 48 90 [(.t 46), (.t 47)], none, 0⟩,
 ⟨none, .mv 45 (.t 48), none, 0⟩,
 ⟨none, .ext 49 (.t 45) 0, none, 0⟩,
 ⟨none, .ext 50 (.t 45) 1, none, 0⟩,
 ⟨none, .ext 51 (.t 45) 2, none, 0⟩,
 ⟨none, .mv 12 (.t 49), none, 0⟩,
 ⟨none, .mv 13 (.t 50), none, 0⟩,
 ⟨none, .mv 14 (.t 51), none, 0⟩]
def c91r5 : List SI := [
 ⟨none, .mv 52 (.t 14), none, 0⟩,
 ⟨none, .bin 53 .neq (.t 52) (.i 0), none, 0⟩]
def c91r6 : List SI := [
 ⟨none, .ldR 54 11 0 (some 5), none, 0⟩,
 ⟨none, .mv 55 (.t 14), none, 0⟩,
 ⟨none, .stR 8 0 5 (.t 54), none, 0⟩,
 ⟨none, .mv 9 (.i 0), none, 0⟩,
 ⟨none, .mv 10 (.t 55), none, 0⟩]
def c91r7 : List SI := [
 ⟨none, .mv 57 (.t 0), none, 0⟩,
 ⟨none, .mv 58 (.t 13), none, 0⟩,
 ⟨none, .call 59 90 [(.t 57), (.t 58)], none, 0⟩,
 ⟨none, .mv 56 (.t 59), none, 0⟩,
 ⟨none, .ext 60 (.t 56) 0, none, 0⟩,
 ⟨none, .ext 61 (.t 56) 1, none, 0⟩,
 ⟨none, .ext 62 (.t 56) 2, none, 0⟩,
 ⟨none, .mv 15 (.t 60), none, 0⟩,
 ⟨none, .mv 16 (.t 61), none, 0⟩,
 ⟨none, .mv 17 (.t 62), none, 0⟩]
def c91r8 : List SI := [
 ⟨none, .mv 63 (.t 17), none, 0⟩,
 ⟨none, .bin 64 .neq (.t 63) (.i 0), none, 0⟩]
def c91r9 : List SI := [
 ⟨none, .ldR 65 11 0 (some 5), none, 0⟩,
 ⟨none, .mv 66 (.t 17), none, 0⟩,
 ⟨none, .stR 8 0 5 (.t 65), none, 0⟩,
 ⟨none, .mv 9 (.i 0), none, 0⟩,
 ⟨none, .mv 10 (.t 66), none, 0⟩]
def c91r10 : List SI := [
 ⟨none, .mv 67 (.t 16), none, 0⟩,
 ⟨none, .mv 68 (.t 0), none, 0⟩,
 ⟨none, .len 69 false (.t 68), none, 0⟩,
 ⟨none, .bin 70 .geq (.t 67) (.t 69), none, 0⟩]
def c91r11 : List SI := [
 ⟨none, .ldR 71 11 0 (some 5), none, 0⟩,
 ⟨none, .stR 8 0 5 (.t 71), none, 0⟩,
 ⟨none, .mv 9 (.i 0), none, 0⟩,
 ⟨none, .mv 10 (.i 10), none, 0⟩]
def c91r12 : List SI := [
 ⟨none, .mv 72 (.t 0), none, 0⟩,
 ⟨none, .mv 73 (.t 16), none, 0⟩,
 ⟨none, .ixA 74 (.t 72) (.t 73) 1, none, 0⟩,
 ⟨none, .ld 75 (.t 74) none, none, 0⟩,
 ⟨none, .bin 76 .gtr (.t 75) (.v (.int .u8 1)), none, 0⟩]
def c91r13 : List SI := [
 ⟨none, .ldR 77 11 0 (some 5), none, 0⟩,
 ⟨none, .stR 8 0 5 (.t 77), none, 0⟩,
 ⟨none, .mv 9 (.i 0), none, 0⟩,
 ⟨none, .mv 10 (.i 11), none, 0⟩]
def c91r14 : List SI := [
 ⟨none, .mv 79 (.t 0), none, 0⟩,
 ⟨none, .mv 80 (.t 16), none, 0⟩,
 ⟨none, .bin 81 .add (.t 80) (.i 1), none, 0⟩,
 ⟨none, .call 82 111 [(.t 79), (.t 81), (.i 64)], none, 0⟩,
 ⟨none, .mv 78 (.t 82), none, 0⟩,
 ⟨none, .ext 83 (.t 78) 0, none, 0⟩,
 ⟨none, .ext 84 (.t 78) 1, none, 0⟩,
 ⟨none, .ext 85 (.t 78) 2, none, 0⟩,
 ⟨none, .mv 18 (.t 83), none, 0⟩,
 ⟨none, .mv 19 (.t 84), none, 0⟩,
 ⟨none, .mv 20 (.t 85), none, 0⟩]
def c91r15 : List SI := [
 ⟨none, .mv 86 (.t 20), none, 0⟩,
 ⟨none, .bin 87 .neq (.t 86) (.i 0), none, 0⟩]
def c91r16 : List SI := [
 ⟨none, .ldR 88 11 0 (some 5), none, 0⟩,
 ⟨none, .mv 89 (.t 20), none, 0⟩,
 ⟨none, .stR 8 0 5 (.t 88), none, 0⟩,
 ⟨none, .mv 9 (.i 0), none, 0⟩,
 ⟨none, .mv 10 (.t 89), none, 0⟩]
def c91r17 : List SI := [
 ⟨none, .mv 91 (.t 0), none, 0⟩,
 ⟨none, .mv 92 (.t 19), none, 0⟩,
 ⟨none, .call 93 111 [(.t 91), (.t 92), (.i 64)], none, 0⟩,
 ⟨none, .mv 90 (.t 93), none, 0⟩,
 ⟨none, .ext 94 (.t 90) 0, none, 0⟩,
 ⟨none, .ext 95 (.t 90) 1, none, 0⟩,
 ⟨none, .ext 96 (.t 90) 2, none, 0⟩,
 ⟨none, .mv 21 (.t 94), none, 0⟩,
 ⟨none, .mv 22 (.t 95), none, 0⟩,
 ⟨none, .mv 23 (.t 96), none, 0⟩]
def c91r18 : List SI := [
 ⟨none, .mv 97 (.t 23), none, 0⟩,
 ⟨none, .bin 98 .neq (.t 97) (.i 0), none, 0⟩]
def c91r19 : List SI := [
 ⟨none, .ldR 99 11 0 (some 5), none, 0⟩,
 ⟨none, .mv 100 (.t 23), none, 0⟩,
 ⟨none, .stR 8 0 5 (.t 99), none, 0⟩,
 ⟨none, .mv 9 (.i 0), none, 0⟩,
 ⟨none, .mv 10 (.t 100), none, 0⟩]
def c91r20 : RX := .br [(true, ⟨none, .mv 101 (.t 2), none, 0⟩),
 (true, ⟨none, .mv 102 (.t 12), none, 0⟩),
 (true, ⟨none, .mv 104 (.t 18), none, 0⟩),
 (true, ⟨none, .mv 105 (.t 21), none, 0⟩),
 (true, ⟨none, .mv 106 (.t 0), none, 0⟩),
 (true, ⟨none, .mv 107 (.t 16), none, 0⟩),
 (true, ⟨none, .ixA 108 (.t 106) (.t 107) 1, none, 0⟩),
 (true, ⟨none, .ld 109 (.t 108) none, none, 0⟩),
 (true, ⟨none, .bin 110 .eql (.t 109) (.v (.int .u8 1)), none, 0⟩),
 (true, ⟨none, .mv 111 (.t 3), none, 0⟩),
 (true, ⟨none, .mv 112 (.t 15), none, 0⟩)]
 ⟨none, .call 103 112 [(.t 101), (.t 102)], none, 0⟩
 (.br []
 ⟨none, .call 113 112 [(.t 111), (.t 112)], none, 0⟩
 (.leaf [(true, ⟨none, .bld 114 [(.int .i64 0), (.string ⟨#[]⟩), (.string ⟨#[]⟩), (.bool false), (.int .i64 0)] [(0, 1, (.t 103)), (1, 1, (.t 104)), (2, 1, (.t 105)), (3, 1, (.t 110)), (4, 1, (.t 113))], none, 0⟩),
 (false, ⟨none, .al 24 [(.int .i64 0), (.string ⟨#[]⟩), (.string ⟨#[]⟩), (.bool false), (.int .i64 0)], none, 0⟩),
 (false, ⟨none, .st (.t 24) 5 (.t 114), none, 0⟩)])
 ⟨none, .al 24 [(.int .i64 0), (.string ⟨#[]⟩), (.string ⟨#[]⟩), (.bool false), (.int .i64 0)], none, 0⟩
 (.leaf [(false, ⟨none, .call 113 112 [(.t 111), (.t 112)], none, 0⟩),
 (true, ⟨none, .bld 114 [(.int .i64 0), (.string ⟨#[]⟩), (.string ⟨#[]⟩), (.bool false), (.int .i64 0)] [(0, 1, (.t 103)), (1, 1, (.t 104)), (2, 1, (.t 105)), (3, 1, (.t 110)), (4, 1, (.t 113))], none, 0⟩),
 (false, ⟨none, .st (.t 24) 5 (.t 114), none, 0⟩)]))
 ⟨none, .al 24 [(.int .i64 0), (.string ⟨#[]⟩), (.string ⟨#[]⟩), (.bool false), (.int .i64 0)], none, 0⟩
 (.leaf [(false, ⟨none, .call 103 112 [(.t 101), (.t 102)], none, 0⟩),
 (false, ⟨none, .call 113 112 [(.t 111), (.t 112)], none, 0⟩),
 (true, ⟨none, .bld 114 [(.int .i64 0), (.string ⟨#[]⟩), (.string ⟨#[]⟩), (.bool false), (.int .i64 0)] [(0, 1, (.t 103)), (1, 1, (.t 104)), (2, 1, (.t 105)), (3, 1, (.t 110)), (4, 1, (.t 113))], none, 0⟩),
 (false, ⟨none, .st (.t 24) 5 (.t 114), none, 0⟩)])
def c91r21 : List SI := [
 ⟨none, .ld 115 (.t 24) (some 5), none, 0⟩,
 ⟨none, .call 116 98 [(.t 115)], none, 0⟩,
 ⟨none, .bin 117 .neq (.t 116) (.i 0), none, 0⟩]
def c91r22 : List SI := [
 ⟨none, .ldR 118 11 0 (some 5), none, 0⟩,
 ⟨none, .stR 8 0 5 (.t 118), none, 0⟩,
 ⟨none, .mv 9 (.i 0), none, 0⟩,
 ⟨none, .mv 10 (.i 1), none, 0⟩]
def c91r23 : List SI := [
 ⟨none, .ld 119 (.t 24) (some 5), none, 0⟩,
 ⟨none, .mv 120 (.t 22), none, 0⟩,
 ⟨none, .stR 8 0 5 (.t 119), none, 0⟩,
 ⟨none, .mv 9 (.t 120), none, 0⟩,
 ⟨none, .mv 10 (.i 0), none, 0⟩]
def c91 : SC :=
 (.seq (.reg false c91r0)
 (.seq (.reg false c91r1)
 (.seq (.seq (.reg false c91r2)
 (.cond (.t 43)
  (.seq (.reg false c91r3)
  .ret)
  .skip))
 (.seq (.reg false c91r4)
 (.seq (.seq (.reg false c91r5)
 (.cond (.t 53)
  (.seq (.reg false c91r6)
  .ret)
  .skip))
 (.seq (.reg false c91r7)
 (.seq (.seq (.reg false c91r8)
 (.cond (.t 64)
  (.seq (.reg false c91r9)
  .ret)
  .skip))
 (.seq (.seq (.reg false c91r10)
 (.cond (.t 70)
  (.seq (.reg false c91r11)
  .ret)
  .skip))
 (.seq (.seq (.reg false c91r12)
 (.cond (.t 76)
  (.seq (.reg false c91r13)
  .ret)
  .skip))
 (.seq (.reg false c91r14)
 (.seq (.seq (.reg false c91r15)
 (.cond (.t 87)
  (.seq (.reg false c91r16)
  .ret)
  .skip))
 (.seq (.reg false c91r17)
 (.seq (.seq (.reg false c91r18)
 (.cond (.t 98)
  (.seq (.reg false c91r19)
  .ret)
  .skip))
 (.seq (.rgZ c91r20)
 (.seq (.seq (.reg false c91r21)
 (.cond (.t 117)
  (.seq (.reg false c91r22)
  .ret)
  .skip))
 (.seq (.reg false c91r23)
 .ret))))))))))))))))
def v91 : List Nat × List Nat := ([8, 11], [8, 11])
def o91 : List RS := [.r 8 (some 5), .t 9, .t 10]
theorem s91 : slimC Try.prog Try.f91.ntmps v91.1 v91.2 ((Try.f91.body).getD .skip) = some c91 := by kernel_rfl
theorem q91 : slimR Try.prog Try.f91.ntmps v91.1 v91.2 Try.f91.results.toList = some o91 := by kernel_rfl
-- slices.Min[[]int,int] N=25
def c92r0 : List SI := [
 ⟨none, .mv 2 (.i 0), none, 0⟩]
def c92r1 : List SI := [
 ⟨none, .mv 5 (.t 0), none, 0⟩,
 ⟨none, .len 6 false (.t 5), none, 0⟩,
 ⟨none, .bin 7 .lss (.t 6) (.i 1), none, 0⟩]
def c92r2 : List SI := [
 ⟨none, .mv 9 (.t 0), none, 0⟩,
 ⟨none, .ixA 10 (.t 9) (.i 0) 1, none, 0⟩,
 ⟨none, .ld 11 (.t 10) none, none, 0⟩,
 ⟨none, .mv 3 (.t 11), none, 0⟩]
def c92r3 : List SI := [
 ⟨none, .mv 4 (.i 1), none, 0⟩]
def c92r4 : List SI := [
 ⟨none, .mv 12 (.t 4), none, 0⟩,
 ⟨none, .mv 13 (.t 0), none, 0⟩,
 ⟨none, .len 14 false (.t 13), none, 0⟩,
 ⟨none, .bin 15 .lss (.t 12) (.t 14), none, 0⟩]
def c92r5 : List SI := [
 ⟨none, .mv 18 (.t 3), none, 0⟩,
 ⟨none, .mv 19 (.t 0), none, 0⟩,
 ⟨none, .mv 20 (.t 4), none, 0⟩,
 ⟨none, .ixA 21 (.t 19) (.t 20) 1, none, 0⟩,
 ⟨none, .ld 22 (.t 21) none, none, 0⟩,
 ⟨none, .mm 23 false (.t 18) (.t 22), none, 0⟩,
 ⟨none, .mv 3 (.t 23), none, 0⟩]
def c92r6 : List SI := [
 ⟨none, .mv 16 (.t 4), none, 0⟩,
 ⟨none, .bin 17 .add (.t 16) (.i 1), none, 0⟩,
 ⟨none, .mv 4 (.t 17), none, 0⟩]
def c92r7 : List SI := [
 ⟨none, .mv 24 (.t 3), none, 0⟩,
 ⟨none, .mv 2 (.t 24), none, 0⟩]
def c92 : SC :=
 (.seq (.reg false c92r0)
 (.seq (.seq (.reg false c92r1)
 (.cond (.t 7)
  .dead
  .skip))
 (.seq (.reg false c92r2)
 (.seq (.seq (.reg false c92r3)
 (.blk 0 (.loop (.seq (.seq (.reg false c92r4)
   (.cond (.t 15)
    .skip
    (.exit 0)))
   (.seq (.blk 1 (.reg false c92r5))
   (.reg false c92r6))))))
 (.seq (.reg false c92r7)
 .ret)))))
def v92 : List Nat × List Nat := ([], [])
def o92 : List RS := [.t 2]
theorem s92 : slimC Try.prog Try.f92.ntmps v92.1 v92.2 ((Try.f92.body).getD .skip) = some c92 := by kernel_rfl
theorem q92 : slimR Try.prog Try.f92.ntmps v92.1 v92.2 Try.f92.results.toList = some o92 := by kernel_rfl
-- slices.Max[[]int,int] N=25
def c93r0 : List SI := [
 ⟨none, .mv 2 (.i 0), none, 0⟩]
def c93r1 : List SI := [
 ⟨none, .mv 5 (.t 0), none, 0⟩,
 ⟨none, .len 6 false (.t 5), none, 0⟩,
 ⟨none, .bin 7 .lss (.t 6) (.i 1), none, 0⟩]
def c93r2 : List SI := [
 ⟨none, .mv 9 (.t 0), none, 0⟩,
 ⟨none, .ixA 10 (.t 9) (.i 0) 1, none, 0⟩,
 ⟨none, .ld 11 (.t 10) none, none, 0⟩,
 ⟨none, .mv 3 (.t 11), none, 0⟩]
def c93r3 : List SI := [
 ⟨none, .mv 4 (.i 1), none, 0⟩]
def c93r4 : List SI := [
 ⟨none, .mv 12 (.t 4), none, 0⟩,
 ⟨none, .mv 13 (.t 0), none, 0⟩,
 ⟨none, .len 14 false (.t 13), none, 0⟩,
 ⟨none, .bin 15 .lss (.t 12) (.t 14), none, 0⟩]
def c93r5 : List SI := [
 ⟨none, .mv 18 (.t 3), none, 0⟩,
 ⟨none, .mv 19 (.t 0), none, 0⟩,
 ⟨none, .mv 20 (.t 4), none, 0⟩,
 ⟨none, .ixA 21 (.t 19) (.t 20) 1, none, 0⟩,
 ⟨none, .ld 22 (.t 21) none, none, 0⟩,
 ⟨none, .mm 23 true (.t 18) (.t 22), none, 0⟩,
 ⟨none, .mv 3 (.t 23), none, 0⟩]
def c93r6 : List SI := [
 ⟨none, .mv 16 (.t 4), none, 0⟩,
 ⟨none, .bin 17 .add (.t 16) (.i 1), none, 0⟩,
 ⟨none, .mv 4 (.t 17), none, 0⟩]
def c93r7 : List SI := [
 ⟨none, .mv 24 (.t 3), none, 0⟩,
 ⟨none, .mv 2 (.t 24), none, 0⟩]
def c93 : SC :=
 (.seq (.reg false c93r0)
 (.seq (.seq (.reg false c93r1)
 (.cond (.t 7)
  .dead
  .skip))
 (.seq (.reg false c93r2)
 (.seq (.seq (.reg false c93r3)
 (.blk 0 (.loop (.seq (.seq (.reg false c93r4)
   (.cond (.t 15)
    .skip
    (.exit 0)))
   (.seq (.blk 1 (.reg false c93r5))
   (.reg false c93r6))))))
 (.seq (.reg false c93r7)
 .ret)))))
def v93 : List Nat × List Nat := ([], [])
def o93 : List RS := [.t 2]
theorem s93 : slimC Try.prog Try.f93.ntmps v93.1 v93.2 ((Try.f93.body).getD .skip) = some c93 := by kernel_rfl
theorem q93 : slimR Try.prog Try.f93.ntmps v93.1 v93.2 Try.f93.results.toList = some o93 := by kernel_rfl
-- watermeet/rec.in N=9
def c94r0 : List SI := [
 ⟨none, .mv 2 (.b false), none, 0⟩]
def c94r1 : List SI := [
 ⟨none, .mv 3 (.t 0), none, 0⟩,
 ⟨none, .bin 4 .geq (.t 3) (.i 0), none, 0⟩,
 ⟨none, .mv 5 (.t 4), none, 0⟩,
 ⟨some (5, true), .mv 6 (.t 0), none, 6⟩,
 ⟨some (5, true), .bin 7 .leq (.t 6) (.i 1099511627776), none, 7⟩,
 ⟨none, .pick 8 (.t 5) (.t 7) (.b false), none, 0⟩,
 ⟨none, .mv 2 (.t 8), none, 0⟩]
def c94 : SC :=
 (.seq (.reg false c94r0)
 (.seq (.reg false c94r1)
 .ret))
def v94 : List Nat × List Nat := ([], [])
def o94 : List RS := [.t 2]
theorem s94 : slimC Try.prog Try.f94.ntmps v94.1 v94.2 ((Try.f94.body).getD .skip) = some c94 := by kernel_rfl
theorem q94 : slimR Try.prog Try.f94.ntmps v94.1 v94.2 Try.f94.results.toList = some o94 := by kernel_rfl
-- slices.Clone[[]byte,byte] N=8
def c95r0 : List SI := [
 ⟨none, .mv 2 (.v (.slice none 0 0)), none, 0⟩]
def c95r1 : List SI := [
 ⟨none, .mv 3 (.t 0), none, 0⟩,
 ⟨none, .isn 4 false (.t 3), none, 0⟩]
def c95r2 : List SI := [
 ⟨none, .mv 2 (.v (.slice none 0 0)), none, 0⟩]
def c95r3 : List SI := [
 ⟨none, .bl0 5, none, 0⟩,
 ⟨none, .mv 6 (.t 0), none, 0⟩,
 ⟨none, .app 7 (.t 5) (.t 6) 5 1 1, none, 0⟩,
 ⟨none, .mv 2 (.t 7), none, 0⟩]
def c95 : SC :=
 (.seq (.reg false c95r0)
 (.seq (.seq (.reg false c95r1)
 (.cond (.t 4)
  (.seq (.reg false c95r2)
  .ret)
  .skip))
 (.seq (.reg false c95r3)
 .ret)))
def v95 : List Nat × List Nat := ([], [])
def o95 : List RS := [.t 2]
theorem s95 : slimC Try.prog Try.f95.ntmps v95.1 v95.2 ((Try.f95.body).getD .skip) = some c95 := by kernel_rfl
theorem q95 : slimR Try.prog Try.f95.ntmps v95.1 v95.2 Try.f95.results.toList = some o95 := by kernel_rfl
-- watermeet/octet.PutText N=11
def c96r0 : List SI := [
 ⟨none, .mv 4 (.v (.slice none 0 0)), none, 0⟩]
def c96r1 : List SI := [
 ⟨none, .mv 5 (.t 0), none, 0⟩,
 ⟨none, .mv 6 (.t 1), none, 0⟩,
 ⟨none, .len 7 true (.t 6), none, 0⟩,
 ⟨none, .call 8 74 [(.t 5), (.t 7)], none, 0⟩,
 ⟨none, .mv 9 (.t 1), none, 0⟩,
 ⟨none, .app 10 (.t 8) (.t 9) 5 1 1, none, 0⟩,
 ⟨none, .mv 4 (.t 10), none, 0⟩]
def c96 : SC :=
 (.seq (.reg false c96r0)
 (.seq (.reg false c96r1)
 .ret))
def v96 : List Nat × List Nat := ([], [])
def o96 : List RS := [.t 4]
theorem s96 : slimC Try.prog Try.f96.ntmps v96.1 v96.2 ((Try.f96.body).getD .skip) = some c96 := by kernel_rfl
theorem q96 : slimR Try.prog Try.f96.ntmps v96.1 v96.2 Try.f96.results.toList = some o96 := by kernel_rfl
-- watermeet/watermeetref04.in N=12
def c97r0 : List SI := [
 ⟨none, .mv 4 (.b false), none, 0⟩]
def c97r1 : List SI := [
 ⟨none, .mv 5 (.t 0), none, 0⟩,
 ⟨none, .bin 6 .geq (.t 5) (.i 0), none, 0⟩,
 ⟨none, .mv 7 (.t 6), none, 0⟩,
 ⟨some (7, true), .mv 8 (.t 0), none, 8⟩,
 ⟨some (7, true), .mv 9 (.t 1), none, 9⟩,
 ⟨some (7, true), .bin 10 .leq (.t 8) (.t 9), none, 10⟩,
 ⟨none, .pick 11 (.t 7) (.t 10) (.b false), none, 0⟩,
 ⟨none, .mv 4 (.t 11), none, 0⟩]
def c97 : SC :=
 (.seq (.reg false c97r0)
 (.seq (.reg false c97r1)
 .ret))
def v97 : List Nat × List Nat := ([], [])
def o97 : List RS := [.t 4]
theorem s97 : slimC Try.prog Try.f97.ntmps v97.1 v97.2 ((Try.f97.body).getD .skip) = some c97 := by kernel_rfl
theorem q97 : slimR Try.prog Try.f97.ntmps v97.1 v97.2 Try.f97.results.toList = some o97 := by kernel_rfl
-- watermeet/watermeetref03.Check N=39
def c98r0 : List SI := [
 ⟨none, .bxR 1 (.t 0), none, 0⟩,
 ⟨none, .mv 2 (.i 0), none, 0⟩]
def c98r1 : List SI := [
 ⟨none, .nop, (some 1), 0⟩,
 ⟨none, .ldR 4 1 0 none, none, 0⟩,
 ⟨none, .call 5 100 [(.t 4)], none, 0⟩,
 ⟨none, .un 6 .not (.t 5), none, 0⟩,
 ⟨none, .mv 7 (.t 6), none, 0⟩,
 ⟨some (7, false), .nop, (some 1), 99999⟩,
 ⟨some (7, false), .ldR 9 1 4 none, none, 9⟩,
 ⟨some (7, false), .call 10 100 [(.t 9)], none, 10⟩,
 ⟨some (7, false), .un 11 .not (.t 10), none, 11⟩,
 ⟨none, .pick 12 (.t 7) (.b true) (.t 11), none, 0⟩,
 ⟨none, .mv 13 (.t 12), none, 0⟩,
 ⟨some (13, false), .nop, (some 1), 99999⟩,
 ⟨some (13, false), .ldR 15 1 1 none, none, 15⟩,
 ⟨some (13, false), .len 16 true (.t 15), none, 16⟩,
 ⟨some (13, false), .bin 17 .gtr (.t 16) (.i 64), none, 17⟩,
 ⟨none, .pick 18 (.t 13) (.b true) (.t 17), none, 0⟩,
 ⟨none, .mv 19 (.t 18), none, 0⟩,
 ⟨some (19, false), .nop, (some 1), 99999⟩,
 ⟨some (19, false), .ldR 21 1 2 none, none, 21⟩,
 ⟨some (19, false), .len 22 true (.t 21), none, 22⟩,
 ⟨some (19, false), .bin 23 .gtr (.t 22) (.i 64), none, 23⟩,
 ⟨none, .pick 24 (.t 19) (.b true) (.t 23), none, 0⟩,
 ⟨none, .mv 25 (.t 24), none, 0⟩,
 ⟨some (25, false), .nop, (some 1), 99999⟩,
 ⟨some (25, false), .ldR 27 1 3 none, none, 27⟩,
 ⟨some (25, false), .mv 28 (.t 27), none, 28⟩,
 ⟨some (28, true), .nop, (some 1), 99999⟩,
 ⟨some (28, true), .ldR 30 1 1 none, none, 30⟩,
 ⟨some (28, true), .bin 31 .eql (.t 30) (.v (.string ⟨#[]⟩)), none, 31⟩,
 ⟨some (28, true), .mv 32 (.t 31), none, 32⟩,
 ⟨some (32, false), .nop, (some 1), 99999⟩,
 ⟨some (32, false), .ldR 34 1 2 none, none, 34⟩,
 ⟨some (32, false), .bin 35 .neq (.t 34) (.v (.string ⟨#[]⟩)), none, 35⟩,
 ⟨some (28, true), .pick 36 (.t 32) (.b true) (.t 35), none, 36⟩,
 ⟨some (25, false), .pick 37 (.t 28) (.t 36) (.b false), none, 37⟩,
 ⟨none, .pick 38 (.t 25) (.b true) (.t 37), none, 0⟩]
def c98r2 : List SI := [
 ⟨none, .mv 2 (.i 1), none, 0⟩]
def c98r3 : List SI := [
 ⟨none, .mv 2 (.i 0), none, 0⟩]
def c98 : SC :=
 (.seq (.reg false c98r0)
 (.seq (.seq (.reg false c98r1)
 (.cond (.t 38)
  (.seq (.reg false c98r2)
  .ret)
  .skip))
 (.seq (.reg false c98r3)
 .ret)))
def v98 : List Nat × List Nat := ([1], [1, 3, 8, 14, 20, 26, 29, 33])
def o98 : List RS := [.t 2]
theorem s98 : slimC Try.prog Try.f98.ntmps v98.1 v98.2 ((Try.f98.body).getD .skip) = some c98 := by kernel_rfl
theorem q98 : slimR Try.prog Try.f98.ntmps v98.1 v98.2 Try.f98.results.toList = some o98 := by kernel_rfl
-- watermeet/watermeetref01.Copy N=5
def c99r0 : List SI := [
 ⟨none, .mv 2 (.v (.slice none 0 0)), none, 0⟩]
def c99r1 : List SI := [
 ⟨none, .mv 3 (.t 0), none, 0⟩,
 ⟨none, .app 4 (.v (.slice none 0 0)) (.t 3) 5 1 1, none, 0⟩,
 ⟨none, .mv 2 (.t 4), none, 0⟩]
def c99 : SC :=
 (.seq (.reg false c99r0)
 (.seq (.reg false c99r1)
 .ret))
def v99 : List Nat × List Nat := ([], [])
def o99 : List RS := [.t 2]
theorem s99 : slimC Try.prog Try.f99.ntmps v99.1 v99.2 ((Try.f99.body).getD .skip) = some c99 := by kernel_rfl
theorem q99 : slimR Try.prog Try.f99.ntmps v99.1 v99.2 Try.f99.results.toList = some o99 := by kernel_rfl
-- watermeet/watermeetref03.In N=9
def c100r0 : List SI := [
 ⟨none, .mv 2 (.b false), none, 0⟩]
def c100r1 : List SI := [
 ⟨none, .mv 3 (.t 0), none, 0⟩,
 ⟨none, .bin 4 .geq (.t 3) (.i 0), none, 0⟩,
 ⟨none, .mv 5 (.t 4), none, 0⟩,
 ⟨some (5, true), .mv 6 (.t 0), none, 6⟩,
 ⟨some (5, true), .bin 7 .leq (.t 6) (.i 1099511627776), none, 7⟩,
 ⟨none, .pick 8 (.t 5) (.t 7) (.b false), none, 0⟩,
 ⟨none, .mv 2 (.t 8), none, 0⟩]
def c100 : SC :=
 (.seq (.reg false c100r0)
 (.seq (.reg false c100r1)
 .ret))
def v100 : List Nat × List Nat := ([], [])
def o100 : List RS := [.t 2]
theorem s100 : slimC Try.prog Try.f100.ntmps v100.1 v100.2 ((Try.f100.body).getD .skip) = some c100 := by kernel_rfl
theorem q100 : slimR Try.prog Try.f100.ntmps v100.1 v100.2 Try.f100.results.toList = some o100 := by kernel_rfl
-- watermeet/watermeetref01.PutText N=11
def c101r0 : List SI := [
 ⟨none, .mv 4 (.v (.slice none 0 0)), none, 0⟩]
def c101r1 : List SI := [
 ⟨none, .mv 5 (.t 0), none, 0⟩,
 ⟨none, .mv 6 (.t 1), none, 0⟩,
 ⟨none, .len 7 true (.t 6), none, 0⟩,
 ⟨none, .call 8 79 [(.t 5), (.t 7)], none, 0⟩,
 ⟨none, .mv 9 (.t 1), none, 0⟩,
 ⟨none, .app 10 (.t 8) (.t 9) 5 1 1, none, 0⟩,
 ⟨none, .mv 4 (.t 10), none, 0⟩]
def c101 : SC :=
 (.seq (.reg false c101r0)
 (.seq (.reg false c101r1)
 .ret))
def v101 : List Nat × List Nat := ([], [])
def o101 : List RS := [.t 4]
theorem s101 : slimC Try.prog Try.f101.ntmps v101.1 v101.2 ((Try.f101.body).getD .skip) = some c101 := by kernel_rfl
theorem q101 : slimR Try.prog Try.f101.ntmps v101.1 v101.2 Try.f101.results.toList = some o101 := by kernel_rfl
-- watermeet/crc.adder N=13
def c102r0 : List SI := [
 ⟨none, .mv 0 (.v .nilFunc), none, 0⟩]
def c102r1 : List SI := [
 ⟨none, .al 1 [(.int .u32 0), (.int .u32 0), (.int .u32 0), (.int .u32 0), (.int .u32 0), (.int .u32 0), (.int .u32 0), (.int .u32 0), (.int .u32 0), (.int .u32 0), (.int .u32 0), (.int .u32 0), (.int .u32 0), (.int .u32 0), (.int .u32 0), (.int .u32 0)], none, 0⟩]
def c102r2 : List SI := [
 ⟨none, .mv 3 (.i 0), none, 0⟩]
def c102r3 : List SI := [
 ⟨none, .bin 4 .lss (.t 3) (.i 16), none, 0⟩]
def c102r4 : List SI := [
 ⟨none, .mv 5 (.t 3), none, 0⟩,
 ⟨none, .mv 2 (.t 5), none, 0⟩]
def c102r5 : List SI := [
 ⟨none, .mv 6 (.t 2), none, 0⟩,
 ⟨none, .mv 7 (.t 2), none, 0⟩,
 ⟨none, .cvI 8 .u32 (.t 7), none, 0⟩,
 ⟨none, .call 9 113 [(.t 8)], none, 0⟩,
 ⟨none, .ixP 10 (.t 1) (.t 6) 16 1, none, 0⟩,
 ⟨none, .st (.t 10) 1 (.t 9), none, 0⟩]
def c102r6 : List SI := [
 ⟨none, .bin 11 .add (.t 3) (.i 1), none, 0⟩,
 ⟨none, .mv 3 (.t 11), none, 0⟩]
def c102r7 : List SI := [
 ⟨none, .mkf 12 (.func 114) [(.t 1)], none, 0⟩,
 ⟨none, .mv 0 (.t 12), none, 0⟩]
def c102 : SC :=
 (.seq (.reg false c102r0)
 (.seq (.reg false c102r1)
 (.seq (.seq (.reg false c102r2)
 (.blk 0 (.loop (.seq (.reg false c102r3)
   (.seq (.cond (.t 4)
    .skip
    (.exit 0))
   (.seq (.blk 1 (.seq (.reg false c102r4)
    (.reg false c102r5)))
   (.reg false c102r6)))))))
 (.seq (.reg false c102r7)
 .ret))))
def v102 : List Nat × List Nat := ([], [])
def o102 : List RS := [.t 0]
theorem s102 : slimC Try.prog Try.f102.ntmps v102.1 v102.2 ((Try.f102.body).getD .skip) = some c102 := by kernel_rfl
theorem q102 : slimR Try.prog Try.f102.ntmps v102.1 v102.2 Try.f102.results.toList = some o102 := by kernel_rfl
-- watermeet/rec.Get$1 N=13
def c103r0 : List SI := [
 ⟨none, .mv 4 (.v (.string ⟨#[]⟩)), none, 0⟩,
 ⟨none, .mv 5 (.i 0), none, 0⟩,
 ⟨none, .mv 6 (.i 0), none, 0⟩]
def c103r1 : List SI := [
 ⟨none, .mv 7 (.t 0), none, 0⟩,
 ⟨none, .mv 8 (.t 1), none, 0⟩,
 ⟨none, .call 9 104 [(.t 7), (.t 8), (.i 64)], none, 0⟩,
 ⟨none, .ext 10 (.t 9) 0, none, 0⟩,
 ⟨none, .ext 11 (.t 9) 1, none, 0⟩,
 ⟨none, .ext 12 (.t 9) 2, none, 0⟩,
 ⟨none, .mv 4 (.t 10), none, 0⟩,
 ⟨none, .mv 5 (.t 11), none, 0⟩,
 ⟨none, .mv 6 (.t 12), none, 0⟩]
def c103 : SC :=
 (.seq (.reg false c103r0)
 (.seq (.reg false c103r1)
 .ret))
def v103 : List Nat × List Nat := ([], [])
def o103 : List RS := [.t 4, .t 5, .t 6]
theorem s103 : slimC Try.prog Try.f103.ntmps v103.1 v103.2 ((Try.f103.body).getD .skip) = some c103 := by kernel_rfl
theorem q103 : slimR Try.prog Try.f103.ntmps v103.1 v103.2 Try.f103.results.toList = some o103 := by kernel_rfl
-- watermeet/octet.GetText N=45
def c104r0 : List SI := [
 ⟨none, .mv 6 (.v (.string ⟨#[]⟩)), none, 0⟩,
 ⟨none, .mv 7 (.i 0), none, 0⟩,
 ⟨none, .mv 8 (.i 0), none, 0⟩]
def c104r1 : List SI := [
 ⟨none, .mv 11 (.t 0), none, 0⟩,
 ⟨none, .mv 12 (.t 1), none, 0⟩,
 ⟨none, .call 13 86 [(.t 11), (.t 12)], none, 0⟩,
 ⟨none, .mv 10 (.t 13), none, 0⟩,
 ⟨none, .ext 14 (.t 10) 0, none, 0⟩,
 ⟨none, .ext 15 (.t 10) 1, none, 0⟩,
 ⟨none, .ext 16 (.t 10) 2, none, 0⟩,
 ⟨none, .mv 9 (.t 14), none, 0⟩,
 ⟨none, .mv 7 (.t 15), none, 0⟩,
 ⟨none, .mv 8 (.t 16), none, 0⟩]
def c104r2 : List SI := [
 ⟨none, .mv 18 (.t 8), none, 0⟩,
 ⟨none, .bin 19 .neq (.t 18) (.i 0), none, 0⟩,
 ⟨none, .mv 17 (.t 19), none, 0⟩]
def c104r3 : List SI := [
 ⟨none, .mv 20 (.t 8), none, 0⟩,
 ⟨none, .mv 6 (.v (.string ⟨#[]⟩)), none, 0⟩,
 ⟨none, .mv 7 (.i 0), none, 0⟩,
 ⟨none, .mv 8 (.t 20), none, 0⟩]
def c104r4 : List SI := [
 ⟨none, .mv 22 (.t 9), none, 0⟩,
 ⟨none, .bin 23 .lss (.t 22) (.i 0), none, 0⟩,
 ⟨none, .mv 21 (.t 23), none, 0⟩]
def c104r5 : List SI := [
 ⟨none, .mv 6 (.v (.string ⟨#[]⟩)), none, 0⟩,
 ⟨none, .mv 7 (.i 0), none, 0⟩,
 ⟨none, .mv 8 (.i 11), none, 0⟩]
def c104r6 : List SI := [
 ⟨none, .mv 25 (.t 9), none, 0⟩,
 ⟨none, .mv 26 (.t 2), none, 0⟩,
 ⟨none, .bin 27 .gtr (.t 25) (.t 26), none, 0⟩,
 ⟨none, .mv 24 (.t 27), none, 0⟩]
def c104r7 : List SI := [
 ⟨none, .mv 6 (.v (.string ⟨#[]⟩)), none, 0⟩,
 ⟨none, .mv 7 (.i 0), none, 0⟩,
 ⟨none, .mv 8 (.i 2), none, 0⟩]
def c104r8 : List SI := [
 ⟨none, .mv 29 (.t 9), none, 0⟩,
 ⟨none, .mv 30 (.t 0), none, 0⟩,
 ⟨none, .len 31 false (.t 30), none, 0⟩,
 ⟨none, .mv 32 (.t 7), none, 0⟩,
 ⟨none, .bin 33 .sub (.t 31) (.t 32), none, 0⟩,
 ⟨none, .bin 34 .gtr (.t 29) (.t 33), none, 0⟩,
 ⟨none, .mv 28 (.t 34), none, 0⟩]
def c104r9 : List SI := [
 ⟨none, .mv 6 (.v (.string ⟨#[]⟩)), none, 0⟩,
 ⟨none, .mv 7 (.i 0), none, 0⟩,
 ⟨none, .mv 8 (.i 10), none, 0⟩]
def c104r10 : List SI := [
 ⟨none, .mv 35 (.t 0), none, 0⟩,
 ⟨none, .mv 36 (.t 7), none, 0⟩,
 ⟨none, .mv 37 (.t 7), none, 0⟩,
 ⟨none, .mv 38 (.t 9), none, 0⟩,
 ⟨none, .bin 39 .add (.t 37) (.t 38), none, 0⟩,
 ⟨none, .sl 40 (.t 35) (some (.t 36)) (some (.t 39)) none 1, none, 0⟩,
 ⟨none, .cvS 41 (.t 40), none, 0⟩,
 ⟨none, .mv 42 (.t 7), none, 0⟩,
 ⟨none, .mv 43 (.t 9), none, 0⟩,
 ⟨none, .bin 44 .add (.t 42) (.t 43), none, 0⟩,
 ⟨none, .mv 6 (.t 41), none, 0⟩,
 ⟨none, .mv 7 (.t 44), none, 0⟩,
 ⟨none, .mv 8 (.i 0), none, 0⟩]
def c104 : SC :=
 (.seq (.reg false c104r0)
 (.seq (.reg false c104r1)
 (.seq (.blk 0 (.seq (.reg false c104r2)
  (.cond (.t 17)
   (.seq (.reg false c104r3)
   .ret)
   (.seq (.reg false c104r4)
   (.cond (.t 21)
    (.seq (.reg false c104r5)
    .ret)
    (.seq (.reg false c104r6)
    (.cond (.t 24)
     (.seq (.reg false c104r7)
     .ret)
     (.seq (.reg false c104r8)
     (.cond (.t 28)
      (.seq (.reg false c104r9)
      .ret)
      .skip)))))))))
 (.seq (.reg false c104r10)
 .ret))))
def v104 : List Nat × List Nat := ([], [])
def o104 : List RS := [.t 6, .t 7, .t 8]
theorem s104 : slimC Try.prog Try.f104.ntmps v104.1 v104.2 ((Try.f104.body).getD .skip) = some c104 := by kernel_rfl
theorem q104 : slimR Try.prog Try.f104.ntmps v104.1 v104.2 Try.f104.results.toList = some o104 := by kernel_rfl
-- watermeet/rec.beside N=14
def c105r0 : List SI := [
 ⟨none, .mv 4 (.i 0), none, 0⟩]
def c105r1 : List SI := [
 ⟨none, .mv 5 (.t 1), none, 0⟩,
 ⟨none, .bin 6 .lss (.t 5) (.i (-1099511627776)), none, 0⟩,
 ⟨none, .mv 7 (.t 6), none, 0⟩,
 ⟨some (7, false), .mv 8 (.t 1), none, 8⟩,
 ⟨some (7, false), .bin 9 .gtr (.t 8) (.i 1099511627776), none, 9⟩,
 ⟨none, .pick 10 (.t 7) (.b true) (.t 9), none, 0⟩]
def c105r2 : List SI := [
 ⟨none, .mv 4 (.i (-1)), none, 0⟩]
def c105r3 : List SI := [
 ⟨none, .mv 11 (.t 0), none, 0⟩,
 ⟨none, .mv 12 (.t 1), none, 0⟩,
 ⟨none, .bin 13 .add (.t 11) (.t 12), none, 0⟩,
 ⟨none, .mv 4 (.t 13), none, 0⟩]
def c105 : SC :=
 (.seq (.reg false c105r0)
 (.seq (.seq (.reg false c105r1)
 (.cond (.t 10)
  (.seq (.reg false c105r2)
  .ret)
  .skip))
 (.seq (.reg false c105r3)
 .ret)))
def v105 : List Nat × List Nat := ([], [])
def o105 : List RS := [.t 4]
theorem s105 : slimC Try.prog Try.f105.ntmps v105.1 v105.2 ((Try.f105.body).getD .skip) = some c105 := by kernel_rfl
theorem q105 : slimR Try.prog Try.f105.ntmps v105.1 v105.2 Try.f105.results.toList = some o105 := by kernel_rfl
-- watermeet/rec.field[int] N=32
def c106r0 : List SI := [
 ⟨none, .mv 4 (.i 0), none, 0⟩]
def c106r1 : List SI := [
 ⟨none, .mv 5 (.i 0), none, 0⟩]
def c106r2 : List SI := [
 ⟨none, .mv 6 (.t 0), none, 0⟩,
 ⟨none, .nck 7 (.t 6), none, 0⟩,
 ⟨none, .flA 8 (.t 7) 2, none, 0⟩,
 ⟨none, .ld 9 (.t 8) none, none, 0⟩,
 ⟨none, .bin 10 .eql (.t 9) (.i 0), none, 0⟩]
def c106r3 : List WI := [
 (true, false, ⟨none, .mv 12 (.t 0), none, 0⟩),
 (true, false, ⟨none, .mv 13 (.t 0), none, 0⟩),
 (true, false, ⟨none, .mv 14 (.t 1), none, 0⟩),
 (true, false, ⟨none, .mv 15 (.t 0), none, 0⟩),
 (true, false, ⟨none, .nck 16 (.t 15), none, 0⟩),
 (true, false, ⟨none, .flA 17 (.t 16) 0, none, 0⟩),
 (true, false, ⟨none, .ld 18 (.t 17) none, none, 0⟩),
 (true, false, ⟨none, .mv 19 (.t 0), none, 0⟩),
 (true, false, ⟨none, .nck 20 (.t 19), none, 0⟩),
 (true, false, ⟨none, .flA 21 (.t 20) 1, none, 0⟩),
 (true, false, ⟨none, .ld 22 (.t 21) none, none, 0⟩),
 (false, true, ⟨none, .cav 23 (.t 14) [(.t 18), (.t 22)], none, 0⟩),
 (true, false, ⟨none, .mv 11 (.t 23), none, 0⟩),
 (true, false, ⟨none, .ext 24 (.t 11) 0, none, 0⟩),
 (true, false, ⟨none, .ext 25 (.t 11) 1, none, 0⟩),
 (true, false, ⟨none, .ext 26 (.t 11) 2, none, 0⟩),
 (true, false, ⟨none, .mv 5 (.t 24), none, 0⟩),
 (true, false, ⟨none, .nck 27 (.t 12), none, 0⟩),
 (true, false, ⟨none, .flA 28 (.t 27) 1, none, 0⟩),
 (false, true, ⟨none, .st (.t 28) 1 (.t 25), none, 0⟩),
 (true, false, ⟨none, .nck 29 (.t 13), none, 0⟩),
 (true, false, ⟨none, .flA 30 (.t 29) 2, none, 0⟩),
 (false, true, ⟨none, .st (.t 30) 1 (.t 26), none, 0⟩)]
def c106r4 : List SI := [
 ⟨none, .mv 31 (.t 5), none, 0⟩,
 ⟨none, .mv 4 (.t 31), none, 0⟩]
def c106 : SC :=
 (.seq (.reg false c106r0)
 (.seq (.reg false c106r1)
 (.seq (.seq (.reg false c106r2)
 (.cond (.t 10)
  (.rgW c106r3)
  .skip))
 (.seq (.reg false c106r4)
 .ret))))
def v106 : List Nat × List Nat := ([], [])
def o106 : List RS := [.t 4]
theorem s106 : slimC Try.prog Try.f106.ntmps v106.1 v106.2 ((Try.f106.body).getD .skip) = some c106 := by kernel_rfl
theorem q106 : slimR Try.prog Try.f106.ntmps v106.1 v106.2 Try.f106.results.toList = some o106 := by kernel_rfl
-- watermeet/rec.field[bool] N=32
def c107r0 : List SI := [
 ⟨none, .mv 4 (.b false), none, 0⟩]
def c107r1 : List SI := [
 ⟨none, .mv 5 (.b false), none, 0⟩]
def c107r2 : List SI := [
 ⟨none, .mv 6 (.t 0), none, 0⟩,
 ⟨none, .nck 7 (.t 6), none, 0⟩,
 ⟨none, .flA 8 (.t 7) 2, none, 0⟩,
 ⟨none, .ld 9 (.t 8) none, none, 0⟩,
 ⟨none, .bin 10 .eql (.t 9) (.i 0), none, 0⟩]
def c107r3 : List WI := [
 (true, false, ⟨none, .mv 12 (.t 0), none, 0⟩),
 (true, false, ⟨none, .mv 13 (.t 0), none, 0⟩),
 (true, false, ⟨none, .mv 14 (.t 1), none, 0⟩),
 (true, false, ⟨none, .mv 15 (.t 0), none, 0⟩),
 (true, false, ⟨none, .nck 16 (.t 15), none, 0⟩),
 (true, false, ⟨none, .flA 17 (.t 16) 0, none, 0⟩),
 (true, false, ⟨none, .ld 18 (.t 17) none, none, 0⟩),
 (true, false, ⟨none, .mv 19 (.t 0), none, 0⟩),
 (true, false, ⟨none, .nck 20 (.t 19), none, 0⟩),
 (true, false, ⟨none, .flA 21 (.t 20) 1, none, 0⟩),
 (true, false, ⟨none, .ld 22 (.t 21) none, none, 0⟩),
 (false, true, ⟨none, .cav 23 (.t 14) [(.t 18), (.t 22)], none, 0⟩),
 (true, false, ⟨none, .mv 11 (.t 23), none, 0⟩),
 (true, false, ⟨none, .ext 24 (.t 11) 0, none, 0⟩),
 (true, false, ⟨none, .ext 25 (.t 11) 1, none, 0⟩),
 (true, false, ⟨none, .ext 26 (.t 11) 2, none, 0⟩),
 (true, false, ⟨none, .mv 5 (.t 24), none, 0⟩),
 (true, false, ⟨none, .nck 27 (.t 12), none, 0⟩),
 (true, false, ⟨none, .flA 28 (.t 27) 1, none, 0⟩),
 (false, true, ⟨none, .st (.t 28) 1 (.t 25), none, 0⟩),
 (true, false, ⟨none, .nck 29 (.t 13), none, 0⟩),
 (true, false, ⟨none, .flA 30 (.t 29) 2, none, 0⟩),
 (false, true, ⟨none, .st (.t 30) 1 (.t 26), none, 0⟩)]
def c107r4 : List SI := [
 ⟨none, .mv 31 (.t 5), none, 0⟩,
 ⟨none, .mv 4 (.t 31), none, 0⟩]
def c107 : SC :=
 (.seq (.reg false c107r0)
 (.seq (.reg false c107r1)
 (.seq (.seq (.reg false c107r2)
 (.cond (.t 10)
  (.rgW c107r3)
  .skip))
 (.seq (.reg false c107r4)
 .ret))))
def v107 : List Nat × List Nat := ([], [])
def o107 : List RS := [.t 4]
theorem s107 : slimC Try.prog Try.f107.ntmps v107.1 v107.2 ((Try.f107.body).getD .skip) = some c107 := by kernel_rfl
theorem q107 : slimR Try.prog Try.f107.ntmps v107.1 v107.2 Try.f107.results.toList = some o107 := by kernel_rfl
-- watermeet/rec.flag N=25
def c108r0 : List SI := [
 ⟨none, .mv 4 (.b false), none, 0⟩,
 ⟨none, .mv 5 (.i 0), none, 0⟩,
 ⟨none, .mv 6 (.i 0), none, 0⟩]
def c108r1 : List SI := [
 ⟨none, .mv 8 (.t 1), none, 0⟩,
 ⟨none, .mv 9 (.t 0), none, 0⟩,
 ⟨none, .len 10 false (.t 9), none, 0⟩,
 ⟨none, .bin 11 .geq (.t 8) (.t 10), none, 0⟩,
 ⟨none, .mv 7 (.t 11), none, 0⟩]
def c108r2 : List SI := [
 ⟨none, .mv 4 (.b false), none, 0⟩,
 ⟨none, .mv 5 (.i 0), none, 0⟩,
 ⟨none, .mv 6 (.i 10), none, 0⟩]
def c108r3 : List SI := [
 ⟨none, .mv 13 (.t 0), none, 0⟩,
 ⟨none, .mv 14 (.t 1), none, 0⟩,
 ⟨none, .ixA 15 (.t 13) (.t 14) 1, none, 0⟩,
 ⟨none, .ld 16 (.t 15) none, none, 0⟩,
 ⟨none, .bin 17 .gtr (.t 16) (.v (.int .u8 1)), none, 0⟩,
 ⟨none, .mv 12 (.t 17), none, 0⟩]
def c108r4 : List SI := [
 ⟨none, .mv 4 (.b false), none, 0⟩,
 ⟨none, .mv 5 (.i 0), none, 0⟩,
 ⟨none, .mv 6 (.i 11), none, 0⟩]
def c108r5 : List SI := [
 ⟨none, .mv 18 (.t 0), none, 0⟩,
 ⟨none, .mv 19 (.t 1), none, 0⟩,
 ⟨none, .ixA 20 (.t 18) (.t 19) 1, none, 0⟩,
 ⟨none, .ld 21 (.t 20) none, none, 0⟩,
 ⟨none, .bin 22 .eql (.t 21) (.v (.int .u8 1)), none, 0⟩,
 ⟨none, .mv 23 (.t 1), none, 0⟩,
 ⟨none, .bin 24 .add (.t 23) (.i 1), none, 0⟩,
 ⟨none, .mv 4 (.t 22), none, 0⟩,
 ⟨none, .mv 5 (.t 24), none, 0⟩,
 ⟨none, .mv 6 (.i 0), none, 0⟩]
def c108 : SC :=
 (.seq (.reg false c108r0)
 (.seq (.blk 0 (.seq (.reg false c108r1)
  (.cond (.t 7)
   (.seq (.reg false c108r2)
   .ret)
   (.seq (.reg false c108r3)
   (.cond (.t 12)
    (.seq (.reg false c108r4)
    .ret)
    .skip)))))
 (.seq (.reg false c108r5)
 .ret)))
def v108 : List Nat × List Nat := ([], [])
def o108 : List RS := [.t 4, .t 5, .t 6]
theorem s108 : slimC Try.prog Try.f108.ntmps v108.1 v108.2 ((Try.f108.body).getD .skip) = some c108 := by kernel_rfl
theorem q108 : slimR Try.prog Try.f108.ntmps v108.1 v108.2 Try.f108.results.toList = some o108 := by kernel_rfl
-- watermeet/rec.field[string] N=32
def c109r0 : List SI := [
 ⟨none, .mv 4 (.v (.string ⟨#[]⟩)), none, 0⟩]
def c109r1 : List SI := [
 ⟨none, .mv 5 (.v (.string ⟨#[]⟩)), none, 0⟩]
def c109r2 : List SI := [
 ⟨none, .mv 6 (.t 0), none, 0⟩,
 ⟨none, .nck 7 (.t 6), none, 0⟩,
 ⟨none, .flA 8 (.t 7) 2, none, 0⟩,
 ⟨none, .ld 9 (.t 8) none, none, 0⟩,
 ⟨none, .bin 10 .eql (.t 9) (.i 0), none, 0⟩]
def c109r3 : List WI := [
 (true, false, ⟨none, .mv 12 (.t 0), none, 0⟩),
 (true, false, ⟨none, .mv 13 (.t 0), none, 0⟩),
 (true, false, ⟨none, .mv 14 (.t 1), none, 0⟩),
 (true, false, ⟨none, .mv 15 (.t 0), none, 0⟩),
 (true, false, ⟨none, .nck 16 (.t 15), none, 0⟩),
 (true, false, ⟨none, .flA 17 (.t 16) 0, none, 0⟩),
 (true, false, ⟨none, .ld 18 (.t 17) none, none, 0⟩),
 (true, false, ⟨none, .mv 19 (.t 0), none, 0⟩),
 (true, false, ⟨none, .nck 20 (.t 19), none, 0⟩),
 (true, false, ⟨none, .flA 21 (.t 20) 1, none, 0⟩),
 (true, false, ⟨none, .ld 22 (.t 21) none, none, 0⟩),
 (false, true, ⟨none, .cav 23 (.t 14) [(.t 18), (.t 22)], none, 0⟩),
 (true, false, ⟨none, .mv 11 (.t 23), none, 0⟩),
 (true, false, ⟨none, .ext 24 (.t 11) 0, none, 0⟩),
 (true, false, ⟨none, .ext 25 (.t 11) 1, none, 0⟩),
 (true, false, ⟨none, .ext 26 (.t 11) 2, none, 0⟩),
 (true, false, ⟨none, .mv 5 (.t 24), none, 0⟩),
 (true, false, ⟨none, .nck 27 (.t 12), none, 0⟩),
 (true, false, ⟨none, .flA 28 (.t 27) 1, none, 0⟩),
 (false, true, ⟨none, .st (.t 28) 1 (.t 25), none, 0⟩),
 (true, false, ⟨none, .nck 29 (.t 13), none, 0⟩),
 (true, false, ⟨none, .flA 30 (.t 29) 2, none, 0⟩),
 (false, true, ⟨none, .st (.t 30) 1 (.t 26), none, 0⟩)]
def c109r4 : List SI := [
 ⟨none, .mv 31 (.t 5), none, 0⟩,
 ⟨none, .mv 4 (.t 31), none, 0⟩]
def c109 : SC :=
 (.seq (.reg false c109r0)
 (.seq (.reg false c109r1)
 (.seq (.seq (.reg false c109r2)
 (.cond (.t 10)
  (.rgW c109r3)
  .skip))
 (.seq (.reg false c109r4)
 .ret))))
def v109 : List Nat × List Nat := ([], [])
def o109 : List RS := [.t 4]
theorem s109 : slimC Try.prog Try.f109.ntmps v109.1 v109.2 ((Try.f109.body).getD .skip) = some c109 := by kernel_rfl
theorem q109 : slimR Try.prog Try.f109.ntmps v109.1 v109.2 Try.f109.results.toList = some o109 := by kernel_rfl
-- watermeet/watermeetref02.steps N=14
def c110r0 : List SI := [
 ⟨none, .mv 4 (.v (.int .u32 0)), none, 0⟩]
def c110r1 : List SI := [
 ⟨none, .mv 5 (.i 0), none, 0⟩]
def c110r2 : List SI := [
 ⟨none, .mv 6 (.t 5), none, 0⟩,
 ⟨none, .mv 7 (.t 1), none, 0⟩,
 ⟨none, .bin 8 .lss (.t 6) (.t 7), none, 0⟩]
def c110r3 : List SI := [
 ⟨none, .mv 11 (.t 0), none, 0⟩,
 ⟨none, .call 12 115 [(.t 11)], none, 0⟩,
 ⟨none, .mv 0 (.t 12), none, 0⟩]
def c110r4 : List SI := [
 ⟨none, .mv 9 (.t 5), none, 0⟩,
 ⟨none, .bin 10 .add (.t 9) (.i 1), none, 0⟩,
 ⟨none, .mv 5 (.t 10), none, 0⟩]
def c110r5 : List SI := [
 ⟨none, .mv 13 (.t 0), none, 0⟩,
 ⟨none, .mv 4 (.t 13), none, 0⟩]
def c110 : SC :=
 (.seq (.reg false c110r0)
 (.seq (.seq (.reg false c110r1)
 (.blk 0 (.loop (.seq (.seq (.reg false c110r2)
   (.cond (.t 8)
    .skip
    (.exit 0)))
   (.seq (.blk 1 (.reg false c110r3))
   (.reg false c110r4))))))
 (.seq (.reg false c110r5)
 .ret)))
def v110 : List Nat × List Nat := ([], [])
def o110 : List RS := [.t 4]
theorem s110 : slimC Try.prog Try.f110.ntmps v110.1 v110.2 ((Try.f110.body).getD .skip) = some c110 := by kernel_rfl
theorem q110 : slimR Try.prog Try.f110.ntmps v110.1 v110.2 Try.f110.results.toList = some o110 := by kernel_rfl
-- watermeet/watermeetref01.GetText N=43
def c111r0 : List SI := [
 ⟨none, .mv 6 (.v (.string ⟨#[]⟩)), none, 0⟩,
 ⟨none, .mv 7 (.i 0), none, 0⟩,
 ⟨none, .mv 8 (.i 0), none, 0⟩]
def c111r1 : List SI := [
 ⟨none, .mv 13 (.t 0), none, 0⟩,
 ⟨none, .mv 14 (.t 1), none, 0⟩,
 ⟨none, .call 15 90 [(.t 13), (.t 14)], none, 0⟩,
 ⟨none, .mv 12 (.t 15), none, 0⟩,
 ⟨none, .ext 16 (.t 12) 0, none, 0⟩,
 ⟨none, .ext 17 (.t 12) 1, none, 0⟩,
 ⟨none, .ext 18 (.t 12) 2, none, 0⟩,
 ⟨none, .mv 9 (.t 16), none, 0⟩,
 ⟨none, .mv 10 (.t 17), none, 0⟩,
 ⟨none, .mv 11 (.t 18), none, 0⟩]
def c111r2 : List SI := [
 ⟨none, .mv 19 (.t 11), none, 0⟩,
 ⟨none, .bin 20 .neq (.t 19) (.i 0), none, 0⟩]
def c111r3 : List SI := [
 ⟨none, .mv 21 (.t 11), none, 0⟩,
 ⟨none, .mv 6 (.v (.string ⟨#[]⟩)), none, 0⟩,
 ⟨none, .mv 7 (.i 0), none, 0⟩,
 ⟨none, .mv 8 (.t 21), none, 0⟩]
def c111r4 : List SI := [
 ⟨none, .mv 22 (.t 9), none, 0⟩,
 ⟨none, .bin 23 .lss (.t 22) (.i 0), none, 0⟩]
def c111r5 : List SI := [
 ⟨none, .mv 6 (.v (.string ⟨#[]⟩)), none, 0⟩,
 ⟨none, .mv 7 (.i 0), none, 0⟩,
 ⟨none, .mv 8 (.i 11), none, 0⟩]
def c111r6 : List SI := [
 ⟨none, .mv 24 (.t 9), none, 0⟩,
 ⟨none, .mv 25 (.t 2), none, 0⟩,
 ⟨none, .bin 26 .gtr (.t 24) (.t 25), none, 0⟩]
def c111r7 : List SI := [
 ⟨none, .mv 6 (.v (.string ⟨#[]⟩)), none, 0⟩,
 ⟨none, .mv 7 (.i 0), none, 0⟩,
 ⟨none, .mv 8 (.i 2), none, 0⟩]
def c111r8 : List SI := [
 ⟨none, .mv 27 (.t 0), none, 0⟩,
 ⟨none, .len 28 false (.t 27), none, 0⟩,
 ⟨none, .mv 29 (.t 10), none, 0⟩,
 ⟨none, .bin 30 .sub (.t 28) (.t 29), none, 0⟩,
 ⟨none, .mv 31 (.t 9), none, 0⟩,
 ⟨none, .bin 32 .lss (.t 30) (.t 31), none, 0⟩]
def c111r9 : List SI := [
 ⟨none, .mv 6 (.v (.string ⟨#[]⟩)), none, 0⟩,
 ⟨none, .mv 7 (.i 0), none, 0⟩,
 ⟨none, .mv 8 (.i 10), none, 0⟩]
def c111r10 : List SI := [
 ⟨none, .mv 33 (.t 0), none, 0⟩,
 ⟨none, .mv 34 (.t 10), none, 0⟩,
 ⟨none, .mv 35 (.t 10), none, 0⟩,
 ⟨none, .mv 36 (.t 9), none, 0⟩,
 ⟨none, .bin 37 .add (.t 35) (.t 36), none, 0⟩,
 ⟨none, .sl 38 (.t 33) (some (.t 34)) (some (.t 37)) none 1, none, 0⟩,
 ⟨none, .cvS 39 (.t 38), none, 0⟩,
 ⟨none, .mv 40 (.t 10), none, 0⟩,
 ⟨none, .mv 41 (.t 9), none, 0⟩,
 ⟨none, .bin 42 .add (.t 40) (.t 41), none, 0⟩,
 ⟨none, .mv 6 (.t 39), none, 0⟩,
 ⟨none, .mv 7 (.t 42), none, 0⟩,
 ⟨none, .mv 8 (.i 0), none, 0⟩]
def c111 : SC :=
 (.seq (.reg false c111r0)
 (.seq (.reg false c111r1)
 (.seq (.seq (.reg false c111r2)
 (.cond (.t 20)
  (.seq (.reg false c111r3)
  .ret)
  .skip))
 (.seq (.seq (.reg false c111r4)
 (.cond (.t 23)
  (.seq (.reg false c111r5)
  .ret)
  .skip))
 (.seq (.seq (.reg false c111r6)
 (.cond (.t 26)
  (.seq (.reg false c111r7)
  .ret)
  .skip))
 (.seq (.seq (.reg false c111r8)
 (.cond (.t 32)
  (.seq (.reg false c111r9)
  .ret)
  .skip))
 (.seq (.reg false c111r10)
 .ret)))))))
def v111 : List Nat × List Nat := ([], [])
def o111 : List RS := [.t 6, .t 7, .t 8]
theorem s111 : slimC Try.prog Try.f111.ntmps v111.1 v111.2 ((Try.f111.body).getD .skip) = some c111 := by kernel_rfl
theorem q111 : slimR Try.prog Try.f111.ntmps v111.1 v111.2 Try.f111.results.toList = some o111 := by kernel_rfl
-- watermeet/watermeetref03.beside N=21
def c112r0 : List SI := [
 ⟨none, .mv 4 (.i 0), none, 0⟩]
def c112r1 : List SI := [
 ⟨none, .mv 5 (.t 1), none, 0⟩,
 ⟨none, .bin 6 .lss (.t 5) (.i (-1099511627776)), none, 0⟩,
 ⟨none, .mv 7 (.t 6), none, 0⟩,
 ⟨some (7, false), .mv 8 (.t 1), none, 8⟩,
 ⟨some (7, false), .bin 9 .gtr (.t 8) (.i 1099511627776), none, 9⟩,
 ⟨none, .pick 10 (.t 7) (.b true) (.t 9), none, 0⟩,
 ⟨none, .mv 11 (.t 10), none, 0⟩,
 ⟨some (11, false), .mv 12 (.t 0), none, 12⟩,
 ⟨some (11, false), .mv 13 (.t 1), none, 13⟩,
 ⟨some (11, false), .bin 14 .add (.t 12) (.t 13), none, 14⟩,
 ⟨some (11, false), .call 15 100 [(.t 14)], none, 15⟩,
 ⟨some (11, false), .un 16 .not (.t 15), none, 16⟩,
 ⟨none, .pick 17 (.t 11) (.b true) (.t 16), none, 0⟩]
def c112r2 : List SI := [
 ⟨none, .mv 4 (.i (-1)), none, 0⟩]
def c112r3 : List SI := [
 ⟨none, .mv 18 (.t 0), none, 0⟩,
 ⟨none, .mv 19 (.t 1), none, 0⟩,
 ⟨none, .bin 20 .add (.t 18) (.t 19), none, 0⟩,
 ⟨none, .mv 4 (.t 20), none, 0⟩]
def c112 : SC :=
 (.seq (.reg false c112r0)
 (.seq (.seq (.reg false c112r1)
 (.cond (.t 17)
  (.seq (.reg false c112r2)
  .ret)
  .skip))
 (.seq (.reg false c112r3)
 .ret)))
def v112 : List Nat × List Nat := ([], [])
def o112 : List RS := [.t 4]
theorem s112 : slimC Try.prog Try.f112.ntmps v112.1 v112.2 ((Try.f112.body).getD .skip) = some c112 := by kernel_rfl
theorem q112 : slimR Try.prog Try.f112.ntmps v112.1 v112.2 Try.f112.results.toList = some o112 := by kernel_rfl
-- watermeet/crc.half N=14
def c113r0 : List SI := [
 ⟨none, .mv 2 (.v (.int .u32 0)), none, 0⟩]
def c113r1 : List SI := [
 ⟨none, .mv 3 (.i 0), none, 0⟩]
def c113r2 : List SI := [
 ⟨none, .bin 4 .lss (.t 3) (.i 4), none, 0⟩]
def c113r3 : List SI := [
 ⟨none, .mv 5 (.t 0), none, 0⟩,
 ⟨none, .bin 6 .shr (.t 5) (.v (.int .u64 1)), none, 0⟩,
 ⟨none, .mv 7 (.t 0), none, 0⟩,
 ⟨none, .bin 8 .and (.t 7) (.v (.int .u32 1)), none, 0⟩,
 ⟨none, .un 9 .neg (.t 8), none, 0⟩,
 ⟨none, .bin 10 .and (.v (.int .u32 3988292384)) (.t 9), none, 0⟩,
 ⟨none, .bin 11 .xor (.t 6) (.t 10), none, 0⟩,
 ⟨none, .mv 0 (.t 11), none, 0⟩]
def c113r4 : List SI := [
 ⟨none, .bin 12 .add (.t 3) (.i 1), none, 0⟩,
 ⟨none, .mv 3 (.t 12), none, 0⟩]
def c113r5 : List SI := [
 ⟨none, .mv 13 (.t 0), none, 0⟩,
 ⟨none, .mv 2 (.t 13), none, 0⟩]
def c113 : SC :=
 (.seq (.reg false c113r0)
 (.seq (.seq (.reg false c113r1)
 (.blk 0 (.loop (.seq (.reg false c113r2)
   (.seq (.cond (.t 4)
    .skip
    (.exit 0))
   (.seq (.blk 1 (.reg false c113r3))
   (.reg false c113r4)))))))
 (.seq (.reg false c113r5)
 .ret)))
def v113 : List Nat × List Nat := ([], [])
def o113 : List RS := [.t 2]
theorem s113 : slimC Try.prog Try.f113.ntmps v113.1 v113.2 ((Try.f113.body).getD .skip) = some c113 := by kernel_rfl
theorem q113 : slimR Try.prog Try.f113.ntmps v113.1 v113.2 Try.f113.results.toList = some o113 := by kernel_rfl
-- watermeet/crc.adder$1 N=24
def c114r0 : List SI := [
 ⟨none, .mv 5 (.v (.int .u32 0)), none, 0⟩]
def c114r1 : List SI := [
 ⟨none, .mv 6 (.t 0), none, 0⟩,
 ⟨none, .mv 7 (.t 1), none, 0⟩,
 ⟨none, .cvI 8 .u32 (.t 7), none, 0⟩,
 ⟨none, .bin 9 .xor (.t 6) (.t 8), none, 0⟩,
 ⟨none, .mv 0 (.t 9), none, 0⟩]
def c114r2 : List SI := [
 ⟨none, .mv 10 (.t 0), none, 0⟩,
 ⟨none, .bin 11 .and (.t 10) (.v (.int .u32 15)), none, 0⟩,
 ⟨none, .ixP 12 (.t 2) (.t 11) 16 1, none, 0⟩,
 ⟨none, .ld 13 (.t 12) none, none, 0⟩,
 ⟨none, .mv 14 (.t 0), none, 0⟩,
 ⟨none, .bin 15 .shr (.t 14) (.v (.int .u64 4)), none, 0⟩,
 ⟨none, .bin 16 .xor (.t 13) (.t 15), none, 0⟩,
 ⟨none, .mv 0 (.t 16), none, 0⟩]
def c114r3 : List SI := [
 ⟨none, .mv 17 (.t 0), none, 0⟩,
 ⟨none, .bin 18 .and (.t 17) (.v (.int .u32 15)), none, 0⟩,
 ⟨none, .ixP 19 (.t 2) (.t 18) 16 1, none, 0⟩,
 ⟨none, .ld 20 (.t 19) none, none, 0⟩,
 ⟨none, .mv 21 (.t 0), none, 0⟩,
 ⟨none, .bin 22 .shr (.t 21) (.v (.int .u64 4)), none, 0⟩,
 ⟨none, .bin 23 .xor (.t 20) (.t 22), none, 0⟩,
 ⟨none, .mv 5 (.t 23), none, 0⟩]
def c114 : SC :=
 (.seq (.reg false c114r0)
 (.seq (.reg false c114r1)
 (.seq (.reg false c114r2)
 (.seq (.reg false c114r3)
 .ret))))
def v114 : List Nat × List Nat := ([], [])
def o114 : List RS := [.t 5]
theorem s114 : slimC Try.prog Try.f114.ntmps v114.1 v114.2 ((Try.f114.body).getD .skip) = some c114 := by kernel_rfl
theorem q114 : slimR Try.prog Try.f114.ntmps v114.1 v114.2 Try.f114.results.toList = some o114 := by kernel_rfl
-- watermeet/watermeetref02.step N=11
def c115r0 : List SI := [
 ⟨none, .mv 2 (.v (.int .u32 0)), none, 0⟩]
def c115r1 : List SI := [
 ⟨none, .mv 3 (.t 0), none, 0⟩,
 ⟨none, .bin 4 .rem (.t 3) (.v (.int .u32 2)), none, 0⟩,
 ⟨none, .bin 5 .eql (.t 4) (.v (.int .u32 1)), none, 0⟩]
def c115r2 : List SI := [
 ⟨none, .mv 6 (.t 0), none, 0⟩,
 ⟨none, .bin 7 .quo (.t 6) (.v (.int .u32 2)), none, 0⟩,
 ⟨none, .bin 8 .xor (.t 7) (.v (.int .u32 3988292384)), none, 0⟩,
 ⟨none, .mv 2 (.t 8), none, 0⟩]
def c115r3 : List SI := [
 ⟨none, .mv 9 (.t 0), none, 0⟩,
 ⟨none, .bin 10 .quo (.t 9) (.v (.int .u32 2)), none, 0⟩,
 ⟨none, .mv 2 (.t 10), none, 0⟩]
def c115 : SC :=
 (.seq (.reg false c115r0)
 (.seq (.seq (.reg false c115r1)
 (.cond (.t 5)
  (.seq (.reg false c115r2)
  .ret)
  .skip))
 (.seq (.reg false c115r3)
 .ret)))
def v115 : List Nat × List Nat := ([], [])
def o115 : List RS := [.t 2]
theorem s115 : slimC Try.prog Try.f115.ntmps v115.1 v115.2 ((Try.f115.body).getD .skip) = some c115 := by kernel_rfl
theorem q115 : slimR Try.prog Try.f115.ntmps v115.1 v115.2 Try.f115.results.toList = some o115 := by kernel_rfl
theorem F99 : Fun Try.prog 99 5 v99 c99 o99 := Fun.mk' Try.func99 Try.ntmps99 (by kernel_rfl) (by kernel_rfl) s99 q99
theorem F95 : Fun Try.prog 95 8 v95 c95 o95 := Fun.mk' Try.func95 Try.ntmps95 (by kernel_rfl) (by kernel_rfl) s95 q95
def UE (x : UInt8) (cs : List Value) : Prop := cs = [.int .u8 (x.toNat : Int)]
theorem UE1 : ∀ (x : UInt8) cs, UE x cs → ∀ u ∈ cs, u.oneCell' = true := fun x cs h u hu => by
 rw [h] at hu
 simp at hu
 subst hu
 rfl
abbrev SB (G : Nat → Option Obj) (v : Value) (l : List UInt8) : Prop := SlV G UE 1 v l
abbrev OwnB (zs : List UInt8) (L' : List Kx.Item) (r : Value) : Prop := OwnL UE 5 1 zs L' r
theorem SB.le {G G' : Nat → Option Obj} {v : Value} {l : List UInt8} (h : SB G v l) (hg : Gle G G') : SB G' v l := SlV.le h hg fun _ _ h => h
def cellB (l : List UInt8) : List Value := l.map fun b => .int .u8 (b.toNat : Int)
theorem cells_b : ∀ (l : List UInt8), Cells UE 1 l (cellB l)
 | [] => .nil
 | b :: l => .cons (cs := [.int .u8 (b.toNat : Int)]) rfl rfl (cells_b l)
theorem byteCells_b (s : ByteArray) : byteCells s = cellB s.data.toList := rfl
theorem app8 {P : Program} {h : H} {d : Nat} {l : List SI} {e : Env} {K : Env → H → Prop} {u : Value} {b : Nat} {zs : List UInt8} {zc : List Value} {L1 L2 : List Kx.Item} {x : UInt8} {y : Int} (hL : h.L = .row (.slice (some ⟨b, 0, none⟩) 1 1) 5 1 1 [.int .u8 y] :: L1 ++ .row u 5 1 zs.length zc :: L2) (hy : y = (x.toNat : Int))
   (hc : Cells UE 1 zs zc) (hz : zs.length ≤ 10000000)
   (hk : ∀ A' c' zc', Cells UE 1 (zs ++ [x]) zc' → kR P l d e K (.slice A' (zs ++ [x]).length c') ⟨h.G, .row (.slice (some ⟨b, 0, none⟩) 1 1) 5 1 1 [.int .u8 y] :: L1 ++ .row (.slice A' (zs ++ [x]).length c') 5 1 (zs ++ [x]).length zc' :: L2, h.D⟩) :
   apX P u (.slice (some ⟨b, 0, none⟩) 1 1) 5 1 1 d l e h K := by
 subst hy
 refine ⟨.row (.slice (some ⟨b, 0, none⟩) 1 1) 5 1 1 [.int .u8 (x.toNat : Int)] :: L1, zs.length, zc, L2, 1, [.int .u8 (x.toNat : Int)], .inl hL, srcH_row (h := h) (by rw [hL]; exact .head _) (UE1 x _ rfl) rfl, by unfold maxLen; omega, fun A' c' => ?_⟩
 have := hk A' c' (zc ++ [.int .u8 (x.toNat : Int)]) (hc.app (.one (show UE x [.int .u8 (x.toNat : Int)] from rfl) rfl))
 simp only [List.length_append, List.length_cons, List.length_nil, Nat.zero_add] at this
 exact this
theorem apX_s {P : Program} {h : H} {d : Nat} {l : List SI} {e : Env} {K : Env → H → Prop} {u : Value} {s : ByteArray} {zs : List UInt8} {zc : List Value} {L1 L2 : List Kx.Item} (hr : RowAt h.L u 5 1 L1 zs.length zc L2) (hc : Cells UE 1 zs zc) (hz : zs.length + s.size ≤ 10000000)
   (hk : ∀ A' c' zc', Cells UE 1 (zs ++ s.data.toList) zc' → kR P l d e K (.slice A' (zs ++ s.data.toList).length c') { h with L := L1 ++ .row (.slice A' (zs ++ s.data.toList).length c') 5 1 (zs ++ s.data.toList).length zc' :: L2 }) :
   apX P u (.string s) 5 1 1 d l e h K := by
 refine ⟨L1, zs.length, zc, L2, s.size, cellB s.data.toList, hr, ⟨fun u hu => ?_, ?_, .inr (.inr ⟨s, rfl, rfl, byteCells_b s, rfl⟩)⟩, by unfold maxLen; omega, fun A' c' => ?_⟩
 · simp [cellB] at hu; obtain ⟨_, _, rfl⟩ := hu; rfl
 · simp [cellB]
 · have := hk A' c' (zc ++ cellB s.data.toList) (hc.app (cells_b _))
   rw [List.length_append] at this
   exact this
theorem bin_mul (k : IntKind) (a b : Int) : binV .mul (.int k a) (.int k b) = some (.int k (k.wrap (a * b))) := by simp [binV]
theorem bin_add (k : IntKind) (a b : Int) : binV .add (.int k a) (.int k b) = some (.int k (k.wrap (a + b))) := by simp [binV]
theorem bin_quo (k : IntKind) (a b : Nat) (hb : b ≠ 0) (ha : (a : Int) ≤ k.max) (hk : k.signed = false) : binV .quo (.int k a) (.int k b) = some (.int k ((a / b : Nat) : Int)) := by
 have h1 : ¬ (b : Int) = 0 := by omega
 have h2 : k.wrap (((a / b : Nat) : Int)) = ((a / b : Nat) : Int) := by
   have hq := Nat.div_le_self a b
   generalize a / b = q at hq ⊢
   cases k <;> simp [IntKind.signed] at hk <;> simp [IntKind.max, IntKind.signed, IntKind.bits] at ha <;> simp only [IntKind.wrap, IntKind.signed, IntKind.bits] <;> simp <;> omega
 simp only [binV]
 rw [if_pos trivial, if_neg h1]
 have : (a : Int).tdiv (b : Int) = ((a / b : Nat) : Int) := by rw [Int.tdiv_eq_ediv_of_nonneg (by omega)]; rfl
 rw [this, h2]
theorem bin_rem (k : IntKind) (a b : Nat) (hb : b ≠ 0) : binV .rem (.int k a) (.int k b) = some (.int k ((a % b : Nat) : Int)) := by
 have h1 : ¬ (b : Int) = 0 := by omega
 simp only [binV]
 rw [if_pos trivial, if_neg h1]
 have : (a : Int).tmod (b : Int) = ((a % b : Nat) : Int) := by rw [Int.tmod_eq_emod_of_nonneg (by omega)]; rfl
 rw [this]
theorem callsH_gx {P : Program} {f : FuncId} {args : Array Value} {h : H} {M : H → Prop} {R : Value → H → Prop} (hE : Enters P f) (hg : GhostX h M) (hc : ∀ h', M h' → CallsH P f args h' R) : CallsH P f args h R :=
 ⟨hE, fun β w hs => by
   obtain ⟨h1, m, s1, t1, d1, r1⟩ := hg β w hs
   exact ((hc h1 m).2 β w s1).mono fun _ _ ⟨v, h2, a, ⟨b1, b2⟩, c, d, r⟩ => ⟨v, h2, a, ⟨b1.trans d1, r1.trans b2⟩, c, t1.trans d, r⟩⟩
theorem SB.nil {G : Nat → Option Obj} : SB G (.slice none 0 0) [] := ⟨none, 0, rfl, Nat.le_refl _, Nat.zero_le _, fun i x hx => by simp at hx⟩
theorem Copy_ok (l : List UInt8) (v : Value) (G : Nat → Option Obj) (hl : SB G v l) (hb : l.length ≤ 1000000) :
   FnO Try.prog 99 #[v] G [] (fun _ L' r => OwnB l L' r) := by
 refine F99.fnO (by simp) noRegs_nil (go_of ?_)
 unfold c99
 (intros; try refine go_st ?_); refine go_r 0 0 (by decide) ?_; (refine sJ c99r0.eq_1 ?_; try with_reducible exact True.intro)
 (intros; try refine go_st ?_); refine go_r 3 5 (by decide) ?_; (refine sJ c99r1.eq_1 ?_; try with_reducible exact True.intro)
 refine apX_v (.inr ⟨⟨none, rfl⟩, rfl, rfl, rfl, rfl⟩) hl rfl UE1 (by unfold maxLen; omega) fun ys A c hc => ?_
 simp only [Nat.zero_add]
 (refine sI ?_; try with_reducible exact True.intro)
 (intros; try refine go_st ?_)
 refine go_ret (retQ_o _ rfl (List.Sublist.refl _) (noRegs_row noRegs_nil) ?_)
 exact ⟨ys, hc, rfl⟩
theorem Clone_ok (l : List UInt8) (v : Value) (G : Nat → Option Obj) (hl : SB G v l) (hb : l.length ≤ 1000000) :
   FnO Try.prog 95 #[v] G [] (fun _ L' r => OwnB l L' r) := by
 refine F95.fnO (by simp) noRegs_nil (go_of ?_)
 have hl0 := hl
 obtain ⟨A, c, rfl, hc, hm, hA⟩ := hl
 unfold c95
 (intros; try refine go_st ?_); refine go_r 0 0 (by decide) ?_; (refine sJ c95r0.eq_1 ?_; try with_reducible exact True.intro)
 (intros; try refine go_st ?_); refine go_r 3 4 (by decide) ?_; (refine sJ c95r1.eq_1 ?_; try with_reducible exact True.intro)
 (intros; try refine go_st ?_); refine go_c ?_; (refine sI ?_; try with_reducible exact True.intro)
 refine gb (fun ht => ?_) (fun ht => ?_)
 · (intros; try refine go_st ?_); refine go_r 0 0 (by decide) ?_; (refine sJ c95r2.eq_1 ?_; try with_reducible exact True.intro)
   (intros; try refine go_st ?_)
   have hA0 : l = [] := by
     match l, hA with
     | [], _ => rfl
     | x :: xs, hA => obtain ⟨a, _, ha, _⟩ := hA 0 x rfl; subst ha; cases ht
   subst hA0
   refine go_ghost (ghost_nil none 5 1) ?_
   refine go_ret (retQ_o _ rfl (List.Sublist.refl _) (noRegs_row noRegs_nil) ?_)
   exact ⟨[], .nil, rfl⟩
 · (intros; try refine go_st ?_); refine go_r 5 8 (by decide) ?_; (refine sJ c95r3.eq_1 ?_; try with_reducible exact True.intro)
   intro b hb'
   refine apX_v (.inr ⟨⟨_, rfl⟩, rfl, rfl, rfl, rfl⟩) hl0 rfl UE1 (by unfold maxLen; omega) fun ys A c hc => ?_
   simp only [Nat.zero_add]
   (refine sI ?_; try with_reducible exact True.intro)
   (intros; try refine go_st ?_)
   refine go_ret (retQ_o _ rfl (List.Sublist.refl _) (noRegs_row noRegs_nil) ?_)
   exact ⟨ys, hc, rfl⟩
theorem F74 : Fun Try.prog 74 31 v74 c74 o74 := Fun.mk' Try.func74 Try.ntmps74 (by kernel_rfl) (by kernel_rfl) s74 q74
theorem F79 : Fun Try.prog 79 36 v79 c79 o79 := Fun.mk' Try.func79 Try.ntmps79 (by kernel_rfl) (by kernel_rfl) s79 q79
def zig (n : Int) : Nat := if 0 ≤ n then (2 * n).toNat else (-2 * n - 1).toNat
def vnat : Nat → Nat → List UInt8
 | 0, z => [UInt8.ofNat z]
 | f + 1, z => if z < 128 then [UInt8.ofNat z] else UInt8.ofNat (128 + z % 128) :: vnat f (z / 128)
def pvB (n : Int) : List UInt8 := vnat 9 (zig n)
theorem vnat_len : ∀ f z, (vnat f z).length ≤ f + 1 ∧ 1 ≤ (vnat f z).length
 | 0, z => by simp [vnat]
 | f + 1, z => by
   unfold vnat
   split
   · simp
   · have := vnat_len f (z / 128)
     simp
     omega
theorem pvB_len (n : Int) : (pvB n).length ≤ 10 := (vnat_len 9 _).1
theorem zig_lt {n : Int} (h : I64 n) : zig n < 18446744073709551616 := by
 unfold zig I64 at *
 split <;> omega
theorem vnat_lt {f z : Nat} (h : z < 128) : vnat f z = [UInt8.ofNat z] := by
 cases f with
 | zero => rfl
 | succ f => exact if_pos h
def Puts (p : List UInt8) (z0 : Nat) (zs : List UInt8) (z : Nat) : Prop := ∃ f, f ≤ 9 ∧ zs.length + f = p.length + 9 ∧ z < 2 * 128 ^ f ∧ zs ++ vnat f z = p ++ vnat 9 z0
theorem puts_zero (p : List UInt8) {z0 : Nat} (h : z0 < 18446744073709551616) : Puts p z0 p z0 := ⟨9, Nat.le_refl _, rfl, by omega, rfl⟩
theorem puts_end {p zs : List UInt8} {z0 z : Nat} (h : Puts p z0 zs z) (hz : z < 128) : zs ++ [UInt8.ofNat z] = p ++ vnat 9 z0 := by
 obtain ⟨f, _, _, _, h⟩ := h
 rw [← h, vnat_lt hz]
theorem puts_more {p zs : List UInt8} {z0 z : Nat} (h : Puts p z0 zs z) (hz : ¬ z < 128) : Puts p z0 (zs ++ [UInt8.ofNat (128 + z % 128)]) (z / 128) := by
 obtain ⟨f, h1, h2, h3, h4⟩ := h
 cases f with
 | zero => simp at h3; omega
 | succ f =>
   refine ⟨f, by omega, by simp; omega, by rw [Nat.pow_succ] at h3; omega, ?_⟩
   rw [← h4, vnat, if_neg hz]
   simp
theorem puts_len {p zs : List UInt8} {z0 z : Nat} (h : Puts p z0 zs z) : zs.length ≤ p.length + 9 := by
 obtain ⟨f, h1, h2, _⟩ := h
 omega
theorem or_128 (z : Nat) : binV .or (.int .u8 (IntKind.u8.wrap (z : Int))) (.int .u8 128) = some (.int .u8 ((UInt8.ofNat (128 + z % 128)).toNat : Int)) := by
 have key : ∀ b : Fin 256, (BitVec.ofInt 8 ((b.val : Nat) : Int) ||| BitVec.ofInt 8 128).toNat = 128 + b.val % 128 := by decide +kernel
 have h1 : IntKind.u8.wrap (z : Int) = ((z % 256 : Nat) : Int) := by rw [IntKind.wrap_u8]; omega
 have h2 := key ⟨z % 256, Nat.mod_lt _ (by omega)⟩
 rw [h1]
 simp only [binV]
 rw [if_pos trivial]
 have h3 : (BitVec.ofInt IntKind.u8.bits ((z % 256 : Nat) : Int) ||| BitVec.ofInt IntKind.u8.bits 128).toNat = 128 + z % 128 := by
   refine h2.trans ?_
   dsimp only
   omega
 rw [h3]
 simp [IntKind.wrap_u8]
theorem u8_nat (z : Nat) : IntKind.u8.wrap (z : Int) = ((UInt8.ofNat z).toNat : Int) := by
 rw [IntKind.wrap_u8]
 simp
theorem shr_7 (z : Nat) : binV .shr (.int .u64 (z : Int)) (.int .u64 7) = some (.int .u64 ((z / 128 : Nat) : Int)) := by
 simp [binV, IntKind.bits]
 rw [Int.fdiv_eq_ediv_of_nonneg _ (by omega)]
theorem shl_1 (n : Int) : binV .shl (.int .u64 (IntKind.u64.wrap n)) (.int .u64 1) = some (.int .u64 (IntKind.u64.wrap (IntKind.u64.wrap n * 2))) := by
 simp [binV, IntKind.bits]
def sgn (n : Int) : Int := if 0 ≤ n then 0 else -1
theorem shr_63 {n : Int} (h : I64 n) : binV .shr (.int .i64 n) (.int .u64 63) = some (.int .i64 (sgn n)) := by
 have h1 : n.fdiv 9223372036854775808 = sgn n := by
   rw [Int.fdiv_eq_ediv_of_nonneg _ (by omega)]
   unfold sgn I64 at *
   split <;> omega
 simp [binV, IntKind.bits, h1]
theorem xor_zig {n : Int} (h : I64 n) : binV .xor (.int .u64 (IntKind.u64.wrap (IntKind.u64.wrap n * 2))) (.int .u64 (IntKind.u64.wrap (sgn n))) = some (.int .u64 (zig n : Int)) := by
 have hz := zig_lt h
 have key : (BitVec.ofInt 64 (IntKind.u64.wrap (IntKind.u64.wrap n * 2)) ^^^ BitVec.ofInt 64 (IntKind.u64.wrap (sgn n))).toNat = zig n := by
   unfold I64 at h
   by_cases h0 : 0 ≤ n
   · have e1 : IntKind.u64.wrap (IntKind.u64.wrap n * 2) = 2 * n := by rw [IntKind.wrap_u64, IntKind.wrap_u64]; omega
     have e2 : IntKind.u64.wrap (sgn n) = 0 := by rw [sgn, if_pos h0]; rfl
     rw [e1, e2]
     have : BitVec.ofInt 64 0 = 0#64 := rfl
     rw [this, BitVec.xor_zero, BitVec.toNat_ofInt]
     simp [zig, h0]
     omega
   · have e1 : IntKind.u64.wrap (IntKind.u64.wrap n * 2) = (2 * n) % 18446744073709551616 := by rw [IntKind.wrap_u64, IntKind.wrap_u64]; omega
     have e2 : IntKind.u64.wrap (sgn n) = 18446744073709551615 := by rw [sgn, if_neg h0]; rfl
     rw [e1, e2]
     have : BitVec.ofInt 64 18446744073709551615 = BitVec.allOnes 64 := by decide
     rw [this, BitVec.xor_allOnes, BitVec.toNat_not, BitVec.toNat_ofInt]
     simp [zig, h0]
     omega
 simp only [binV]
 rw [if_pos trivial]
 have e3 : (BitVec.ofInt IntKind.u64.bits (IntKind.u64.wrap (IntKind.u64.wrap n * 2)) ^^^ BitVec.ofInt IntKind.u64.bits (IntKind.u64.wrap (sgn n))).toNat = zig n := key
 rw [e3, IntKind.wrap_u64]
 congr 2
 omega
theorem PutVar_ok (l : List UInt8) (n : Int) (hn : I64 n) (v : Value) (G : Nat → Option Obj) (hl : SB G v l) (hb : l.length ≤ 100000) :
   FnO Try.prog 74 #[v, .int .i64 n] G [] (fun _ L' r => OwnB (l ++ pvB n) L' r) := by
 refine F74.fnO (by simp) noRegs_nil (go_of ?_)
 have hl0 := hl
 obtain ⟨A, c, rfl, hc, hm, hA⟩ := hl
 unfold c74
 (intros; try refine go_st ?_); refine go_r 0 0 (by decide) ?_; (refine sJ c74r0.eq_1 ?_; try with_reducible exact True.intro)
 (intros; try refine go_st ?_); refine go_r 7 14 (by decide) ?_; (refine sJ4 c74r1.eq_1 @shl_1 (shr_63 hn) (xor_zig hn) ?_; try with_reducible exact True.intro)
 (intros; try refine go_st ?_); refine go_r 14 16 (by decide) ?_; (refine sJ c74r2.eq_1 ?_; try with_reducible exact True.intro)
 refine (Clone_ok l _ G hl0 (by omega) _ []).mono ?_
 rintro r h' ⟨G1, L', rfl, hg1, ys, hys, rfl⟩
 (refine sI ?_; try with_reducible exact True.intro)
 (intros; try refine go_st ?_)
 refine go_loop (fun e h => ∃ (z : Nat) (zs : List UInt8) (zc : List Value) (u : Value), (Puts l (zig n) zs z ∧ Cells UE 1 zs zc) ∧ e 5 = .int .u64 (z : Int) ∧ e 6 = u ∧ h.G = G1 ∧ h.D = [] ∧ [Item.row u 5 1 zs.length zc].Sublist h.L) (fun e h => iv (e 5)) ?_ ?_
 · exact ⟨zig n, l, ys, _, ⟨puts_zero l (zig_lt hn), hys⟩, eE, eE, rfl, rfl, List.Sublist.refl _⟩
 · rintro e ⟨G', L, D⟩ ⟨z, zs, zc, u, ⟨hp, hcs⟩, e5, e6, hG, hD, hL⟩
   dsimp only at hG hD hL
   subst hG hD
   refine go_ghost (ghost_sub hL) ?_
   refine go_keep [5, 6] ?_
   (refine sJ2 @e5 @e6 ?_; try with_reducible exact True.intro)
   have hlen := puts_len hp
   (intros; try refine go_st ?_); refine go_r 16 17 (by decide) ?_; (refine sJ c74r3.eq_1 ?_; try with_reducible exact True.intro)
   (intros; try refine go_st ?_); refine go_c ?_; (refine sI ?_; try with_reducible exact True.intro)
   refine gb (fun ht => ?_) (fun ht => ?_)
   · have hz : ¬ z < 128 := by simp at ht; omega
     (intros; try refine go_st ?_); refine go_r 20 26 (by decide) ?_; (refine sJ2 c74r4.eq_1 @or_128 ?_; try with_reducible exact True.intro)
     intro bk hbk
     refine app8 (L1 := []) (L2 := []) rfl rfl hcs (by omega) fun A' c' zc' hzc => ?_
     (refine sI ?_; try with_reducible exact True.intro)
     (intros; try refine go_st ?_); refine go_r 18 20 (by decide) ?_; (refine sJ2 c74r5.eq_1 @shr_7 ?_; try with_reducible exact True.intro)
     (intros; try refine go_st ?_)
     refine go_l ⟨⟨z / 128, _, zc', _, ⟨puts_more hp hz, hzc⟩, eE, eE, rfl, rfl, .cons _ (List.Sublist.refl _)⟩, ?_⟩
     (refine sI ?_; try with_reducible exact True.intro)
     simp [iv]
     omega
   · have hz : z < 128 := by simp at ht; omega
     refine go_exit ?_
     (refine sI ?_; try with_reducible exact True.intro)
     (intros; try refine go_st ?_); refine go_r 26 31 (by decide) ?_; (refine sJ2 c74r6.eq_1 @u8_nat ?_; try with_reducible exact True.intro)
     intro bk hbk
     refine app8 (L1 := []) (L2 := []) rfl rfl hcs (by omega) fun A' c' zc' hzc => ?_
     (refine sI ?_; try with_reducible exact True.intro)
     (intros; try refine go_st ?_)
     rw [puts_end hp hz] at hzc ⊢
     refine go_ret (retQ_o _ rfl (.cons _ (List.Sublist.refl _)) (noRegs_row noRegs_nil) ?_)
     exact ⟨zc', hzc, rfl⟩
theorem RPutVar_ok (l : List UInt8) (n : Int) (hn : I64 n) (v : Value) (G : Nat → Option Obj) (hl : SB G v l) (hb : l.length ≤ 100000) :
   FnO Try.prog 79 #[v, .int .i64 n] G [] (fun _ L' r => OwnB (l ++ pvB n) L' r) := by
 refine F79.fnO (by simp) noRegs_nil (go_of ?_)
 have hl0 := hl
 have hn0 := hn
 unfold I64 at hn
 obtain ⟨A, c, rfl, hc, hm, hA⟩ := hl
 unfold c79
 (intros; try refine go_st ?_); refine go_r 0 0 (by decide) ?_; (refine sJ c79r0.eq_1 ?_; try with_reducible exact True.intro)
 (intros; try refine go_st ?_); refine go_r 7 10 (by decide) ?_; (refine sJ2 c79r1.eq_1 @bin_mul ?_; try with_reducible exact True.intro)
 have hrest : ∀ (e : Env), e 0 = .slice A l.length c → e 5 = .int .u64 (zig n : Int) → go none Try.prog 36 v79.1 v79.2 (retQ o79 fun v h => OwnB (l ++ pvB n) h.L v) [Td.s ((SC.reg false c79r4).seq ((SC.blk 0 (((SC.reg false c79r5).seq (SC.cond (O.t 21) SC.skip (SC.exit 0))).seq (SC.blk 1 ((SC.reg false c79r6).seq (SC.reg false c79r7)))).loop).seq ((SC.reg false c79r8).seq SC.ret)))] e ⟨G, [], []⟩ := fun e e0 e5 => by
   refine go_keep [0, 5] ?_
   (refine sJ2 @e0 @e5 ?_; try with_reducible exact True.intro)
   (intros; try refine go_st ?_); refine go_r 18 20 (by decide) ?_; (refine sJ c79r4.eq_1 ?_; try with_reducible exact True.intro)
   refine (Copy_ok l _ G hl0 (by omega) _ []).mono ?_
   rintro r h' ⟨G1, L', rfl, hg1, ys, hys, rfl⟩
   (refine sI ?_; try with_reducible exact True.intro)
   (intros; try refine go_st ?_)
   refine go_loop (fun e h => ∃ (z : Nat) (zs : List UInt8) (zc : List Value) (u : Value), (Puts l (zig n) zs z ∧ Cells UE 1 zs zc ∧ z < 18446744073709551616) ∧ e 5 = .int .u64 (z : Int) ∧ e 6 = u ∧ h.G = G1 ∧ h.D = [] ∧ [Item.row u 5 1 zs.length zc].Sublist h.L) (fun e h => iv (e 5)) ?_ ?_
   · exact ⟨zig n, l, ys, _, ⟨puts_zero l (zig_lt hn0), hys, zig_lt hn0⟩, eE, eE, rfl, rfl, List.Sublist.refl _⟩
   · rintro e ⟨G', L, D⟩ ⟨z, zs, zc, u, ⟨hp, hcs, hzb⟩, e5, e6, hG, hD, hL⟩
     dsimp only at hG hD hL
     subst hG hD
     refine go_ghost (ghost_sub hL) ?_
     refine go_keep [5, 6] ?_
     (refine sJ2 @e5 @e6 ?_; try with_reducible exact True.intro)
     have hlen := puts_len hp
     (intros; try refine go_st ?_); refine go_r 20 21 (by decide) ?_; (refine sJ c79r5.eq_1 ?_; try with_reducible exact True.intro)
     (intros; try refine go_st ?_); refine go_c ?_; (refine sI ?_; try with_reducible exact True.intro)
     refine gb (fun ht => ?_) (fun ht => ?_)
     · have hz : ¬ z < 128 := by simp at ht; omega
       have hpm := puts_more hp hz
       have hdz : z / 128 < z := by omega
       have hq : binV .quo (.int .u64 (z : Int)) (.int .u64 128) = some (.int .u64 ((z / 128 : Nat) : Int)) := bin_quo .u64 z 128 (by decide) (by simp [IntKind.max, IntKind.signed, IntKind.bits]; omega) rfl
       generalize z / 128 = q at hq hpm hdz
       have hr : binV .rem (.int .u64 (z : Int)) (.int .u64 128) = some (.int .u64 ((z : Int) % 128)) := bin_rem .u64 z 128 (by decide)
       have hw : IntKind.u8.wrap (IntKind.u64.wrap (128 + (z : Int) % 128)) = ((UInt8.ofNat (128 + z % 128)).toNat : Int) := by
         rw [← u8_nat, IntKind.wrap_u64]
         congr 1
         omega
       (intros; try refine go_st ?_); refine go_r 22 29 (by decide) ?_; (refine sJ3 c79r6.eq_1 @hr @bin_add ?_; try with_reducible exact True.intro)
       intro bk hbk
       refine app8 (L1 := []) (L2 := []) rfl hw hcs (by omega) fun A' c' zc' hzc => ?_
       (refine sI ?_; try with_reducible exact True.intro)
       (intros; try refine go_st ?_); refine go_r 29 31 (by decide) ?_; (refine sJ2 c79r7.eq_1 @hq ?_; try with_reducible exact True.intro)
       (intros; try refine go_st ?_)
       refine go_l ⟨⟨q, _, zc', _, ⟨hpm, hzc, by omega⟩, eE, eE, rfl, rfl, .cons _ (List.Sublist.refl _)⟩, ?_⟩
       (refine sI ?_; try with_reducible exact True.intro)
       omega
     · have hz : z < 128 := by simp at ht; omega
       refine go_exit ?_
       (refine sI ?_; try with_reducible exact True.intro)
       (intros; try refine go_st ?_); refine go_r 31 36 (by decide) ?_; (refine sJ2 c79r8.eq_1 @u8_nat ?_; try with_reducible exact True.intro)
       intro bk hbk
       refine app8 (L1 := []) (L2 := []) rfl rfl hcs (by omega) fun A' c' zc' hzc => ?_
       (refine sI ?_; try with_reducible exact True.intro)
       (intros; try refine go_st ?_)
       rw [puts_end hp hz] at hzc ⊢
       refine go_ret (retQ_o _ rfl (.cons _ (List.Sublist.refl _)) (noRegs_row noRegs_nil) ?_)
       exact ⟨zc', hzc, rfl⟩
 (intros; try refine go_st ?_); refine go_r 10 11 (by decide) ?_; (refine sJ c79r2.eq_1 ?_; try with_reducible exact True.intro)
 (intros; try refine go_st ?_); refine go_c ?_; (refine sI ?_; try with_reducible exact True.intro)
 refine gb (fun ht => ?_) (fun ht => ?_)
 · have hz : IntKind.u64.wrap (IntKind.u64.wrap (2 * IntKind.u64.wrap (IntKind.i64.wrap (0 - IntKind.i64.wrap (n + 1)))) + 1) = (zig n : Int) := by
     have h0 : n < 0 := by simpa using ht
     have e1 : IntKind.i64.wrap (n + 1) = n + 1 := by rw [w64_id] <;> omega
     have e2 : IntKind.i64.wrap (0 - (n + 1)) = 0 - (n + 1) := by rw [w64_id] <;> omega
     rw [e1, e2]
     simp only [IntKind.wrap_u64, zig, if_neg (show ¬ 0 ≤ n by omega)]
     omega
   (intros; try refine go_st ?_); refine go_r 12 18 (by decide) ?_; (refine sJ4 c79r3.eq_1 @bin_mul @bin_add @hz ?_; try with_reducible exact True.intro)
   intro _
   (repeat first | refine go_skip ?_ | refine go_b ?_)
   refine hrest _ ?_ ?_ <;> (refine sI ?_; try with_reducible exact True.intro)
 · have hz : IntKind.u64.wrap (2 * IntKind.u64.wrap n) = (zig n : Int) := by
     have h0 : ¬ n < 0 := by simpa using ht
     simp only [IntKind.wrap_u64, zig, if_pos (show 0 ≤ n by omega)]
     omega
   (repeat first | refine go_skip ?_ | refine go_b ?_)
   refine hrest _ ?_ ?_ <;> (refine sJ @hz ?_; try with_reducible exact True.intro)
theorem F94 : Fun Try.prog 94 9 v94 c94 o94 := Fun.mk' Try.func94 Try.ntmps94 (by kernel_rfl) (by kernel_rfl) s94 q94
theorem F100 : Fun Try.prog 100 9 v100 c100 o100 := Fun.mk' Try.func100 Try.ntmps100 (by kernel_rfl) (by kernel_rfl) s100 q100
theorem F96 : Fun Try.prog 96 11 v96 c96 o96 := Fun.mk' Try.func96 Try.ntmps96 (by kernel_rfl) (by kernel_rfl) s96 q96
theorem F101 : Fun Try.prog 101 11 v101 c101 o101 := Fun.mk' Try.func101 Try.ntmps101 (by kernel_rfl) (by kernel_rfl) s101 q101
theorem F73 : Fun Try.prog 73 33 v73 c73 o73 := Fun.mk' Try.func73 Try.ntmps73 (by kernel_rfl) (by kernel_rfl) s73 q73
theorem F98 : Fun Try.prog 98 39 v98 c98 o98 := Fun.mk' Try.func98 Try.ntmps98 (by kernel_rfl) (by kernel_rfl) s98 q98
def inO (n : Int) : Bool := decide (0 ≤ n) && decide (n ≤ 1099511627776)
theorem in_ok (n : Int) (G : Nat → Option Obj) : FnS Try.prog 94 #[.int .i64 n] G (.bool (inO n)) := by
 refine F94.fnS (by simp) (go_of ?_)
 unfold c94
 (intros; try refine go_st ?_); refine go_r 0 0 (by decide) ?_; (refine sJ c94r0.eq_1 ?_; try with_reducible exact True.intro)
 (intros; try refine go_st ?_); refine go_r 3 9 (by decide) ?_; (refine sJ c94r1.eq_1 ?_; try with_reducible exact True.intro)
 refine gd (fun h1 => ?_) (fun h1 => ?_)
 · (refine sI ?_; try with_reducible exact True.intro)
   (intros; try refine go_st ?_)
   refine go_ret (retQ_v rfl ?_); simp only [push_cast, Nat.reduceBEq]
   have : 0 ≤ n := by simpa using h1
   simp [inO, this]
 · (refine sI ?_; try with_reducible exact True.intro)
   (intros; try refine go_st ?_)
   refine go_ret (retQ_v rfl ?_); simp only [push_cast, Nat.reduceBEq]
   have : ¬ 0 ≤ n := by simpa using h1
   simp [inO, this]
theorem In_ok (n : Int) (G : Nat → Option Obj) : FnS Try.prog 100 #[.int .i64 n] G (.bool (inO n)) := by
 refine F100.fnS (by simp) (go_of ?_)
 unfold c100
 (intros; try refine go_st ?_); refine go_r 0 0 (by decide) ?_; (refine sJ c100r0.eq_1 ?_; try with_reducible exact True.intro)
 (intros; try refine go_st ?_); refine go_r 3 9 (by decide) ?_; (refine sJ c100r1.eq_1 ?_; try with_reducible exact True.intro)
 refine gd (fun h1 => ?_) (fun h1 => ?_)
 · (refine sI ?_; try with_reducible exact True.intro)
   (intros; try refine go_st ?_)
   refine go_ret (retQ_v rfl ?_); simp only [push_cast, Nat.reduceBEq]
   have : 0 ≤ n := by simpa using h1
   simp [inO, this]
 · (refine sI ?_; try with_reducible exact True.intro)
   (intros; try refine go_st ?_)
   refine go_ret (retQ_v rfl ?_); simp only [push_cast, Nat.reduceBEq]
   have : ¬ 0 ≤ n := by simpa using h1
   simp [inO, this]
def ptB (s : ByteArray) : List UInt8 := pvB s.size ++ s.data.toList
theorem ptB_len (s : ByteArray) : (ptB s).length ≤ 10 + s.size := by
 have := pvB_len s.size
 simp [ptB]
 omega
theorem PutText_ok (l : List UInt8) (s : ByteArray) (v : Value) (G : Nat → Option Obj) (hl : SB G v l) (hb : l.length ≤ 100000) (hs : s.size ≤ 100000) :
   FnO Try.prog 96 #[v, .string s] G [] (fun _ L' r => OwnB (l ++ ptB s) L' r) := by
 refine F96.fnO (by simp) noRegs_nil (go_of ?_)
 unfold c96
 (intros; try refine go_st ?_); refine go_r 0 0 (by decide) ?_; (refine sJ c96r0.eq_1 ?_; try with_reducible exact True.intro)
 (intros; try refine go_st ?_); refine go_r 5 11 (by decide) ?_; (refine sJ c96r1.eq_1 ?_; try with_reducible exact True.intro)
 refine (PutVar_ok l s.size (by unfold I64; omega) v G hl hb _ []).mono ?_
 rintro r h' ⟨G1, L', rfl, hg1, ys, hys, rfl⟩
 (refine sI ?_; try with_reducible exact True.intro)
 have hpl := pvB_len s.size
 refine apX_s (L1 := []) (.inl rfl) hys (by rw [List.length_append]; omega) fun A' c' zc' hzc => ?_
 (refine sI ?_; try with_reducible exact True.intro)
 (intros; try refine go_st ?_)
 refine go_ret (retQ_o _ rfl (List.Sublist.refl _) (noRegs_row noRegs_nil) ?_)
 rw [List.append_assoc] at hzc ⊢
 exact ⟨zc', hzc, rfl⟩
theorem RPutText_ok (l : List UInt8) (s : ByteArray) (v : Value) (G : Nat → Option Obj) (hl : SB G v l) (hb : l.length ≤ 100000) (hs : s.size ≤ 100000) :
   FnO Try.prog 101 #[v, .string s] G [] (fun _ L' r => OwnB (l ++ ptB s) L' r) := by
 refine F101.fnO (by simp) noRegs_nil (go_of ?_)
 unfold c101
 (intros; try refine go_st ?_); refine go_r 0 0 (by decide) ?_; (refine sJ c101r0.eq_1 ?_; try with_reducible exact True.intro)
 (intros; try refine go_st ?_); refine go_r 5 11 (by decide) ?_; (refine sJ c101r1.eq_1 ?_; try with_reducible exact True.intro)
 refine (RPutVar_ok l s.size (by unfold I64; omega) v G hl hb _ []).mono ?_
 rintro r h' ⟨G1, L', rfl, hg1, ys, hys, rfl⟩
 (refine sI ?_; try with_reducible exact True.intro)
 have hpl := pvB_len s.size
 refine apX_s (L1 := []) (.inl rfl) hys (by rw [List.length_append]; omega) fun A' c' zc' hzc => ?_
 (refine sI ?_; try with_reducible exact True.intro)
 (intros; try refine go_st ?_)
 refine go_ret (retQ_o _ rfl (List.Sublist.refl _) (noRegs_row noRegs_nil) ?_)
 rw [List.append_assoc] at hzc ⊢
 exact ⟨zc', hzc, rfl⟩
structure Rec where
 off : Int
 key : ByteArray
 val : ByteArray
 dead : Bool
 stamp : Int
def cellR (x : Rec) : List Value := [.int .i64 x.off, .string x.key, .string x.val, .bool x.dead, .int .i64 x.stamp]
def RR (x : Rec) (cs : List Value) : Prop := cs = cellR x ∧ (I64 x.off ∧ I64 x.stamp) ∧ x.key.size ≤ maxLen ∧ x.val.size ≤ maxLen
def isE (s : ByteArray) : Bool := s.toList == ByteArray.toList ⟨#[]⟩
def chkR (x : Rec) : Int := if inO x.off = true ∧ inO x.stamp = true ∧ x.key.size ≤ 64 ∧ x.val.size ≤ 64 ∧ ¬ (x.dead = true ∧ (isE x.key = true ∨ isE x.val = false)) then 0 else 1
theorem bin_seq (a : ByteArray) : binV .eql (.string a) (.string ⟨#[]⟩) = some (.bool (isE a)) := rfl
theorem bin_sne (a : ByteArray) : binV .neq (.string a) (.string ⟨#[]⟩) = some (.bool (!isE a)) := rfl
theorem chkR_1 {x : Rec} (h : inO x.off = false ∨ inO x.stamp = false ∨ 64 < x.key.size ∨ 64 < x.val.size ∨ (x.dead = true ∧ (isE x.key = true ∨ isE x.val = false))) : chkR x = 1 := by
 refine if_neg fun ⟨h1, h2, h3, h4, h5⟩ => ?_
 rcases h with h | h | h | h | h
 · rw [h1] at h; cases h
 · rw [h2] at h; cases h
 · omega
 · omega
 · exact h5 h
theorem RCheck_ok (x : Rec) (G : Nat → Option Obj) : FnS Try.prog 98 #[.agg (cellR x).toArray] G (.int .i64 (chkR x)) := by
 refine F98.fnS (by simp) (go_of ?_)
 unfold c98 cellR
 (intros; try refine go_st ?_); refine go_r 0 0 (by decide) ?_; (refine sJ c98r0.eq_1 ?_; try with_reducible exact True.intro)
 have hbad : ∀ (fr : List Td) (e : Env) (L : List Kx.Item), chkR x = 1 → go none Try.prog 39 v98.1 v98.2 (retQ o98 fun v h => v = .int .i64 (chkR x)) (Td.s ((SC.reg false c98r2).seq .ret) :: fr) e ⟨G, L, []⟩ := fun fr e L hx => by
   (intros; try refine go_st ?_); refine go_r 0 0 (by decide) ?_; (refine sJ c98r2.eq_1 ?_; try with_reducible exact True.intro)
   (intros; try refine go_st ?_)
   refine go_ret (retQ_v rfl ?_); simp only [push_cast, Nat.reduceBEq]
   rw [hx]
 have hgood : ∀ (e : Env) (L : List Kx.Item), chkR x = 0 → go none Try.prog 39 v98.1 v98.2 (retQ o98 fun v h => v = .int .i64 (chkR x)) [Td.s ((SC.reg false c98r3).seq .ret)] e ⟨G, L, []⟩ := fun e L hx => by
   (intros; try refine go_st ?_); refine go_r 0 0 (by decide) ?_; (refine sJ c98r3.eq_1 ?_; try with_reducible exact True.intro)
   (intros; try refine go_st ?_)
   refine go_ret (retQ_v rfl ?_); simp only [push_cast, Nat.reduceBEq]
   rw [hx]
 (intros; try refine go_st ?_); refine go_r 4 38 (by decide) ?_; (refine sJ c98r1.eq_1 ?_; try with_reducible exact True.intro)
 refine (In_ok x.off G _ _).mono ?_; rintro _ _ ⟨rfl, rfl⟩; (refine sI ?_; try with_reducible exact True.intro)
 refine gd (fun h1 => ?_) (fun h1 => ?_)
 · (refine sI ?_; try with_reducible exact True.intro)
   (intros; try refine go_st ?_); refine go_c ?_; (refine sI ?_; try with_reducible exact True.intro)
   exact hbad _ _ _ (chkR_1 (.inl (by simpa using h1)))
 (refine sI ?_; try with_reducible exact True.intro)
 refine (In_ok x.stamp G _ _).mono ?_; rintro _ _ ⟨rfl, rfl⟩; (refine sI ?_; try with_reducible exact True.intro)
 refine gd (fun h2 => ?_) (fun h2 => ?_)
 · (refine sI ?_; try with_reducible exact True.intro)
   (intros; try refine go_st ?_); refine go_c ?_; (refine sI ?_; try with_reducible exact True.intro)
   exact hbad _ _ _ (chkR_1 (.inr (.inl (by simpa using h2))))
 (refine sI ?_; try with_reducible exact True.intro)
 refine gd (fun h3 => ?_) (fun h3 => ?_)
 · (refine sI ?_; try with_reducible exact True.intro)
   (intros; try refine go_st ?_); refine go_c ?_; (refine sI ?_; try with_reducible exact True.intro)
   exact hbad _ _ _ (chkR_1 (.inr (.inr (.inl (by simp at h3; omega)))))
 (refine sI ?_; try with_reducible exact True.intro)
 refine gd (fun h4 => ?_) (fun h4 => ?_)
 · (refine sI ?_; try with_reducible exact True.intro)
   (intros; try refine go_st ?_); refine go_c ?_; (refine sI ?_; try with_reducible exact True.intro)
   exact hbad _ _ _ (chkR_1 (.inr (.inr (.inr (.inl (by simp at h4; omega))))))
 (refine sI ?_; try with_reducible exact True.intro)
 have h1' : inO x.off = true := by simpa using h1
 have h2' : inO x.stamp = true := by simpa using h2
 have h3' : x.key.size ≤ 64 := by simp at h3; omega
 have h4' : x.val.size ≤ 64 := by simp at h4; omega
 refine gd (fun h5 => ?_) (fun h5 => ?_)
 · (refine sJ @bin_seq ?_; try with_reducible exact True.intro)
   refine gd (fun h6 => ?_) (fun h6 => ?_)
   · (refine sI ?_; try with_reducible exact True.intro)
     (intros; try refine go_st ?_); refine go_c ?_; (refine sI ?_; try with_reducible exact True.intro)
     exact hbad _ _ _ (chkR_1 (.inr (.inr (.inr (.inr ⟨h5, .inl h6⟩)))))
   (refine sJ @bin_sne ?_; try with_reducible exact True.intro)
   (intros; try refine go_st ?_); refine go_c ?_; (refine sI ?_; try with_reducible exact True.intro)
   refine gb (fun h7 => ?_) (fun h7 => ?_)
   · exact hbad _ _ _ (chkR_1 (.inr (.inr (.inr (.inr ⟨h5, .inr (by simpa using h7)⟩)))))
   · (repeat first | refine go_skip ?_ | refine go_b ?_)
     refine hgood _ _ (if_pos ⟨h1', h2', h3', h4', fun h => ?_⟩)
     rcases h.2 with h | h
     · rw [h6] at h; cases h
     · simp [h] at h7
 · (refine sI ?_; try with_reducible exact True.intro)
   (intros; try refine go_st ?_); refine go_c ?_; (refine sI ?_; try with_reducible exact True.intro)
   (repeat first | refine go_skip ?_ | refine go_b ?_)
   exact hgood _ _ (if_pos ⟨h1', h2', h3', h4', fun h => by rw [h5] at h; cases h.1⟩)
theorem Check_ok (x : Rec) (G : Nat → Option Obj) : FnS Try.prog 73 #[.agg (cellR x).toArray] G (.int .i64 (chkR x)) := by
 refine F73.fnS (by simp) (go_of ?_)
 unfold c73 cellR
 (intros; try refine go_st ?_); refine go_r 0 0 (by decide) ?_; (refine sJ c73r0.eq_1 ?_; try with_reducible exact True.intro)
 have hbad : ∀ (fr : List Td) (e : Env) (L : List Kx.Item), chkR x = 1 → go none Try.prog 33 v73.1 v73.2 (retQ o73 fun v h => v = .int .i64 (chkR x)) (Td.s ((SC.reg false c73r4).seq .ret) :: fr) e ⟨G, L, []⟩ := fun fr e L hx => by
   (intros; try refine go_st ?_); refine go_r 0 0 (by decide) ?_; (refine sJ c73r4.eq_1 ?_; try with_reducible exact True.intro)
   (intros; try refine go_st ?_)
   refine go_ret (retQ_v rfl ?_); simp only [push_cast, Nat.reduceBEq]
   rw [hx]
 (intros; try refine go_st ?_); refine go_r 5 8 (by decide) ?_; (refine sJ c73r1.eq_1 ?_; try with_reducible exact True.intro)
 refine (in_ok x.off G _ _).mono ?_; rintro _ _ ⟨rfl, rfl⟩; (refine sI ?_; try with_reducible exact True.intro)
 (intros; try refine go_st ?_); refine go_c ?_; (refine sI ?_; try with_reducible exact True.intro)
 refine gb (fun h1 => ?_) (fun h1 => ?_)
 · (repeat first | refine go_skip ?_ | refine go_b ?_)
   (intros; try refine go_st ?_); refine go_c ?_; (refine sI ?_; try with_reducible exact True.intro)
   refine gb (fun _ => ?_) (fun h => by rw [h1] at h; cases h)
   exact hbad _ _ _ (chkR_1 (.inl (by simpa using h1)))
 (intros; try refine go_st ?_); refine go_r 9 12 (by decide) ?_; (refine sJ c73r2.eq_1 ?_; try with_reducible exact True.intro)
 refine (in_ok x.stamp G _ _).mono ?_; rintro _ _ ⟨rfl, rfl⟩; (refine sI ?_; try with_reducible exact True.intro)
 (intros; try refine go_st ?_); refine go_c ?_; (refine sI ?_; try with_reducible exact True.intro)
 refine gb (fun h2 => ?_) (fun h2 => ?_)
 · (repeat first | refine go_skip ?_ | refine go_b ?_)
   (intros; try refine go_st ?_); refine go_c ?_; (refine sI ?_; try with_reducible exact True.intro)
   refine gb (fun _ => ?_) (fun h => by rw [h2] at h; cases h)
   exact hbad _ _ _ (chkR_1 (.inr (.inl (by simpa using h2))))
 have h1' : inO x.off = true := by simpa using h1
 have h2' : inO x.stamp = true := by simpa using h2
 (intros; try refine go_st ?_); refine go_r 13 20 (by decide) ?_; (refine sJ c73r3.eq_1 ?_; try with_reducible exact True.intro)
 (intros; try refine go_st ?_); refine go_c ?_; (refine sI ?_; try with_reducible exact True.intro)
 refine gb (fun h3 => ?_) (fun h3 => ?_)
 · have h3 := of_decide_eq_true h3
   by_cases h4 : 64 < x.key.size
   · exact hbad _ _ _ (chkR_1 (.inr (.inr (.inl h4))))
   · exact hbad _ _ _ (chkR_1 (.inr (.inr (.inr (.inl (by omega))))))
 have h3 := of_decide_eq_false h3
 have h3' : x.key.size ≤ 64 := by omega
 have h4' : x.val.size ≤ 64 := by omega
 have hbad2 : ∀ (fr : List Td) (e : Env) (L : List Kx.Item), chkR x = 1 → go none Try.prog 33 v73.1 v73.2 (retQ o73 fun v h => v = .int .i64 (chkR x)) (Td.s ((SC.reg false c73r6).seq .ret) :: fr) e ⟨G, L, []⟩ := fun fr e L hx => by
   (intros; try refine go_st ?_); refine go_r 0 0 (by decide) ?_; (refine sJ c73r6.eq_1 ?_; try with_reducible exact True.intro)
   (intros; try refine go_st ?_)
   refine go_ret (retQ_v rfl ?_); simp only [push_cast, Nat.reduceBEq]
   rw [hx]
 have hgood : ∀ (e : Env) (L : List Kx.Item), chkR x = 0 → go none Try.prog 33 v73.1 v73.2 (retQ o73 fun v h => v = .int .i64 (chkR x)) [Td.s ((SC.reg false c73r7).seq .ret)] e ⟨G, L, []⟩ := fun e L hx => by
   (intros; try refine go_st ?_); refine go_r 0 0 (by decide) ?_; (refine sJ c73r7.eq_1 ?_; try with_reducible exact True.intro)
   (intros; try refine go_st ?_)
   refine go_ret (retQ_v rfl ?_); simp only [push_cast, Nat.reduceBEq]
   rw [hx]
 (intros; try refine go_st ?_); refine go_r 22 33 (by decide) ?_; (refine sJ c73r5.eq_1 ?_; try with_reducible exact True.intro)
 refine gd (fun h5 => ?_) (fun h5 => ?_)
 · (refine sJ @bin_seq ?_; try with_reducible exact True.intro)
   refine gd (fun h6 => ?_) (fun h6 => ?_)
   · (refine sI ?_; try with_reducible exact True.intro)
     (intros; try refine go_st ?_); refine go_c ?_; (refine sI ?_; try with_reducible exact True.intro)
     exact hbad2 _ _ _ (chkR_1 (.inr (.inr (.inr (.inr ⟨h5, .inl h6⟩)))))
   (refine sJ @bin_sne ?_; try with_reducible exact True.intro)
   (intros; try refine go_st ?_); refine go_c ?_; (refine sI ?_; try with_reducible exact True.intro)
   refine gb (fun h7 => ?_) (fun h7 => ?_)
   · exact hbad2 _ _ _ (chkR_1 (.inr (.inr (.inr (.inr ⟨h5, .inr (by simpa using h7)⟩)))))
   · (repeat first | refine go_skip ?_ | refine go_b ?_)
     refine hgood _ _ (if_pos ⟨h1', h2', h3', h4', fun h => ?_⟩)
     rcases h.2 with h | h
     · rw [h6] at h; cases h
     · simp [h] at h7
 · (refine sI ?_; try with_reducible exact True.intro)
   (intros; try refine go_st ?_); refine go_c ?_; (refine sI ?_; try with_reducible exact True.intro)
   (repeat first | refine go_skip ?_ | refine go_b ?_)
   exact hgood _ _ (if_pos ⟨h1', h2', h3', h4', fun h => by rw [h5] at h; cases h.1⟩)
theorem F75 : Fun Try.prog 75 46 v75 c75 o75 := Fun.mk' Try.func75 Try.ntmps75 (by kernel_rfl) (by kernel_rfl) s75 q75
theorem F80 : Fun Try.prog 80 50 v80 c80 o80 := Fun.mk' Try.func80 Try.ntmps80 (by kernel_rfl) (by kernel_rfl) s80 q80
def prB (x : Rec) (base stamp : Int) : List UInt8 := pvB (x.off - base) ++ pvB (x.stamp - stamp) ++ [if x.dead = true then 1 else 0] ++ ptB x.key ++ ptB x.val
def putR (x : Rec) (base stamp : Int) : List UInt8 × Int := if chkR x ≠ 0 then ([], chkR x) else if ¬ (inO base = true ∧ inO stamp = true) then ([], 1) else (prB x base stamp, 0)
def OwnE (p : List UInt8 × Int) (L' : List Kx.Item) (r : Value) : Prop := ∃ u, r = .tuple #[u, .int .i64 p.2] ∧ OwnB p.1 L' u
theorem chk_small {x : Rec} (h : chkR x = 0) : (inO x.off = true ∧ inO x.stamp = true) ∧ x.key.size ≤ 64 ∧ x.val.size ≤ 64 := by
 by_cases h0 : inO x.off = true ∧ inO x.stamp = true ∧ x.key.size ≤ 64 ∧ x.val.size ≤ 64 ∧ ¬ (x.dead = true ∧ (isE x.key = true ∨ isE x.val = false))
 · exact ⟨⟨h0.1, h0.2.1⟩, h0.2.2.1, h0.2.2.2.1⟩
 · rw [chkR, if_neg h0] at h; cases h
theorem RPut_ok (x : Rec) (base stamp : Int) (G : Nat → Option Obj) : FnO Try.prog 80 #[.agg (cellR x).toArray, .int .i64 base, .int .i64 stamp] G [] (fun _ L' r => OwnE (putR x base stamp) L' r) := by
 refine F80.fnO (by simp) noRegs_nil (go_of ?_)
 unfold c80
 have hck := RCheck_ok x
 unfold cellR at hck ⊢
 (intros; try refine go_st ?_); refine go_r 0 0 (by decide) ?_; (refine sJ c80r0.eq_1 ?_; try with_reducible exact True.intro)
 (intros; try refine go_st ?_); refine go_r 10 12 (by decide) ?_; (refine sJ c80r1.eq_1 ?_; try with_reducible exact True.intro)
 refine (hck G _ _).mono ?_; rintro _ _ ⟨rfl, rfl⟩; (refine sI ?_; try with_reducible exact True.intro)
 (intros; try refine go_st ?_); refine go_r 12 13 (by decide) ?_; (refine sJ c80r2.eq_1 ?_; try with_reducible exact True.intro)
 (intros; try refine go_st ?_); refine go_c ?_; (refine sI ?_; try with_reducible exact True.intro)
 refine gb (fun h1 => ?_) (fun h1 => ?_)
 · (intros; try refine go_st ?_); refine go_r 14 15 (by decide) ?_; (refine sJ c80r3.eq_1 ?_; try with_reducible exact True.intro)
   (intros; try refine go_st ?_)
   refine go_ghost (ghost_nil none 5 1) ?_
   refine go_ret (retQ_o _ rfl (.cons_cons _ (List.nil_sublist _)) (noRegs_row noRegs_nil) ?_)
   rw [putR, if_pos (by simpa using h1)]
   exact ⟨_, rfl, [], .nil, rfl⟩
 have h1 : chkR x = 0 := by simpa using h1
 have hbad : ∀ (fr : List Td) (e : Env) (L : List Kx.Item), putR x base stamp = ([], 1) → go none Try.prog 50 v80.1 v80.2 (retQ o80 fun v h => OwnE (putR x base stamp) h.L v) (Td.s ((SC.reg false c80r5).seq .ret) :: fr) e ⟨G, L, []⟩ := fun fr e L hx => by
   (intros; try refine go_st ?_); refine go_r 0 0 (by decide) ?_; (refine sJ c80r5.eq_1 ?_; try with_reducible exact True.intro)
   (intros; try refine go_st ?_)
   refine go_ghost (ghost_nil none 5 1) ?_
   refine go_ret (retQ_o _ rfl (.cons_cons _ (List.nil_sublist _)) (noRegs_row noRegs_nil) ?_)
   rw [hx]
   exact ⟨_, rfl, [], .nil, rfl⟩
 have hpb : ∀ (h : ¬ (inO base = true ∧ inO stamp = true)), putR x base stamp = ([], 1) := fun h => by rw [putR, if_neg (by simp [h1]), if_pos h]
 (intros; try refine go_st ?_); refine go_r 15 22 (by decide) ?_; (refine sJ c80r4.eq_1 ?_; try with_reducible exact True.intro)
 refine (In_ok base G _ _).mono ?_; rintro _ _ ⟨rfl, rfl⟩; (refine sI ?_; try with_reducible exact True.intro)
 refine gd (fun h2 => ?_) (fun h2 => ?_)
 · (refine sI ?_; try with_reducible exact True.intro)
   (intros; try refine go_st ?_); refine go_c ?_; (refine sI ?_; try with_reducible exact True.intro)
   exact hbad _ _ _ (hpb fun h => by rw [h.1] at h2; cases h2)
 (refine sI ?_; try with_reducible exact True.intro)
 refine (In_ok stamp G _ _).mono ?_; rintro _ _ ⟨rfl, rfl⟩; (refine sI ?_; try with_reducible exact True.intro)
 (intros; try refine go_st ?_); refine go_c ?_; (refine sI ?_; try with_reducible exact True.intro)
 refine gb (fun h3 => ?_) (fun h3 => ?_)
 · exact hbad _ _ _ (hpb fun h => by rw [h.2] at h3; cases h3)
 have h2 : inO base = true := by simpa using h2
 have h3 : inO stamp = true := by simpa using h3
 obtain ⟨⟨ho, hst⟩, hk, hv⟩ := chk_small h1
 have hput : putR x base stamp = (prB x base stamp, 0) := by rw [putR, if_neg (by simp [h1]), if_neg (by simp [h2, h3])]
 simp [inO] at h2 h3 ho hst
 have w1 : IntKind.i64.wrap (x.off - base) = x.off - base := by rw [w64_id] <;> omega
 have w2 : IntKind.i64.wrap (x.stamp - stamp) = x.stamp - stamp := by rw [w64_id] <;> omega
 have i1 : I64 (x.off - base) := by unfold I64; omega
 have i2 : I64 (x.stamp - stamp) := by unfold I64; omega
 have l1 := pvB_len (x.off - base)
 have l2 := pvB_len (x.stamp - stamp)
 (repeat first | refine go_skip ?_ | refine go_b ?_)
 (intros; try refine go_st ?_); refine go_r 24 28 (by decide) ?_; (refine sJ2 c80r6.eq_1 @w1 ?_; try with_reducible exact True.intro)
 refine (RPutVar_ok [] (x.off - base) i1 _ G SB.nil (by simp) _ []).mono ?_
 rintro r h' ⟨G1, L', rfl, hg1, ys, hys, rfl⟩
 simp only [List.nil_append] at hys ⊢
 (refine sI ?_; try with_reducible exact True.intro)
 (intros; try refine go_st ?_); refine go_r 28 34 (by decide) ?_; (refine sJ2 c80r7.eq_1 @w2 ?_; try with_reducible exact True.intro)
 refine callsH_gx F79.enters (gx_slv_at [] _ (by decide) hys) ?_
 rintro h' ⟨G2, rfl, hg2, hv2⟩
 refine (RPutVar_ok _ (x.stamp - stamp) i2 _ G2 hv2 (by omega) _ []).mono ?_
 rintro r h' ⟨G3, L', rfl, hg3, ys3, hys3, rfl⟩
 (refine sI ?_; try with_reducible exact True.intro)
 have hrest : ∀ (e : Env) (L : List Kx.Item) (u : Value) (zc : List Value) (b : UInt8), b = (if x.dead = true then 1 else 0) → Cells UE 1 (pvB (x.off - base) ++ pvB (x.stamp - stamp) ++ [b]) zc → e 9 = u →
     go none Try.prog 50 v80.1 v80.2 (retQ o80 fun v h => OwnE (putR x base stamp) h.L v) [Td.s ((SC.reg false c80r11).seq ((SC.reg false c80r12).seq .ret))] e ⟨G3, [.row u 5 1 (pvB (x.off - base) ++ pvB (x.stamp - stamp) ++ [b]).length zc, .reg 3 [.int .i64 x.off, .string x.key, .string x.val, .bool x.dead, .int .i64 x.stamp]], []⟩ := fun e L u zc b hb hzc e9 => by
   refine go_keep [9] ?_
   (refine sJ @e9 ?_; try with_reducible exact True.intro)
   (intros; try refine go_st ?_); refine go_r 42 46 (by decide) ?_; (refine sJ c80r11.eq_1 ?_; try with_reducible exact True.intro)
   refine callsH_gx F101.enters (gx_slv_at [] _ (by decide) hzc) ?_
   rintro h' ⟨G4, rfl, hg4, hv4⟩
   refine (RPutText_ok _ x.key _ G4 hv4 (by simp; omega) (by omega) _ []).mono ?_
   rintro r h' ⟨G5, L', rfl, hg5, ys5, hys5, rfl⟩
   (refine sI ?_; try with_reducible exact True.intro)
   have l3 := ptB_len x.key
   (intros; try refine go_st ?_); refine go_r 46 50 (by decide) ?_; (refine sJ c80r12.eq_1 ?_; try with_reducible exact True.intro)
   refine callsH_gx F101.enters (gx_slv_at [] _ (by decide) hys5) ?_
   rintro h' ⟨G6, rfl, hg6, hv6⟩
   refine (RPutText_ok _ x.val _ G6 hv6 (by simp; omega) (by omega) _ []).mono ?_
   rintro r h' ⟨G7, L', rfl, hg7, ys7, hys7, rfl⟩
   (refine sI ?_; try with_reducible exact True.intro)
   (intros; try refine go_st ?_)
   refine go_ret (retQ_o _ rfl (.cons_cons _ (List.nil_sublist _)) (noRegs_row noRegs_nil) ?_)
   rw [hput]
   subst hb
   exact ⟨_, rfl, ys7, hys7, rfl⟩
 (intros; try refine go_st ?_); refine go_r 0 0 (by decide) ?_; (refine sJ c80r8.eq_1 ?_; try with_reducible exact True.intro)
 (intros; try refine go_st ?_); refine go_c ?_; (refine sI ?_; try with_reducible exact True.intro)
 refine gb (fun h5 => ?_) (fun h5 => ?_)
 · (intros; try refine go_st ?_); refine go_r 36 39 (by decide) ?_; (refine sJ c80r9.eq_1 ?_; try with_reducible exact True.intro)
   intro bk hbk
   refine app8 (L1 := []) (L2 := [_]) (x := 1) rfl rfl hys3 (by simp; omega) fun A' c' zc' hzc => ?_
   (refine sI ?_; try with_reducible exact True.intro)
   intro _
   refine go_ghost (ghost_sub (.cons _ (List.Sublist.refl _))) ?_
   (repeat first | refine go_skip ?_ | refine go_b ?_)
   refine hrest _ [] _ _ 1 (by rw [if_pos h5]) hzc ?_
   (refine sI ?_; try with_reducible exact True.intro)
 · (intros; try refine go_st ?_); refine go_r 39 42 (by decide) ?_; (refine sJ c80r10.eq_1 ?_; try with_reducible exact True.intro)
   intro bk hbk
   refine app8 (L1 := []) (L2 := [_]) (x := 0) rfl rfl hys3 (by simp; omega) fun A' c' zc' hzc => ?_
   (refine sI ?_; try with_reducible exact True.intro)
   intro _
   refine go_ghost (ghost_sub (.cons _ (List.Sublist.refl _))) ?_
   (repeat first | refine go_skip ?_ | refine go_b ?_)
   refine hrest _ [] _ _ 0 (by rw [if_neg (by rw [h5]; simp)]) hzc ?_
   (refine sI ?_; try with_reducible exact True.intro)
theorem Put_ok (x : Rec) (base stamp : Int) (G : Nat → Option Obj) : FnO Try.prog 75 #[.agg (cellR x).toArray, .int .i64 base, .int .i64 stamp] G [] (fun _ L' r => OwnE (putR x base stamp) L' r) := by
 refine F75.fnO (by simp) noRegs_nil (go_of ?_)
 unfold c75
 have hck := Check_ok x
 unfold cellR at hck ⊢
 (intros; try refine go_st ?_); refine go_r 0 0 (by decide) ?_; (refine sJ c75r0.eq_1 ?_; try with_reducible exact True.intro)
 (intros; try refine go_st ?_); refine go_r 11 13 (by decide) ?_; (refine sJ c75r1.eq_1 ?_; try with_reducible exact True.intro)
 refine (hck G _ _).mono ?_; rintro _ _ ⟨rfl, rfl⟩; (refine sI ?_; try with_reducible exact True.intro)
 (intros; try refine go_st ?_); refine go_r 13 14 (by decide) ?_; (refine sJ c75r2.eq_1 ?_; try with_reducible exact True.intro)
 (intros; try refine go_st ?_); refine go_c ?_; (refine sI ?_; try with_reducible exact True.intro)
 refine gb (fun h1 => ?_) (fun h1 => ?_)
 · (intros; try refine go_st ?_); refine go_r 15 16 (by decide) ?_; (refine sJ c75r3.eq_1 ?_; try with_reducible exact True.intro)
   (intros; try refine go_st ?_)
   refine go_ghost (ghost_nil none 5 1) ?_
   refine go_ret (retQ_o _ rfl (.cons_cons _ (List.nil_sublist _)) (noRegs_row noRegs_nil) ?_)
   rw [putR, if_pos (by simpa using h1)]
   exact ⟨_, rfl, [], .nil, rfl⟩
 have h1 : chkR x = 0 := by simpa using h1
 have hbad : ∀ (fr : List Td) (e : Env) (L : List Kx.Item), putR x base stamp = ([], 1) → go none Try.prog 46 v75.1 v75.2 (retQ o75 fun v h => OwnE (putR x base stamp) h.L v) (Td.s ((SC.reg false c75r5).seq .ret) :: fr) e ⟨G, L, []⟩ := fun fr e L hx => by
   (intros; try refine go_st ?_); refine go_r 0 0 (by decide) ?_; (refine sJ c75r5.eq_1 ?_; try with_reducible exact True.intro)
   (intros; try refine go_st ?_)
   refine go_ghost (ghost_nil none 5 1) ?_
   refine go_ret (retQ_o _ rfl (.cons_cons _ (List.nil_sublist _)) (noRegs_row noRegs_nil) ?_)
   rw [hx]
   exact ⟨_, rfl, [], .nil, rfl⟩
 have hpb : ∀ (h : ¬ (inO base = true ∧ inO stamp = true)), putR x base stamp = ([], 1) := fun h => by rw [putR, if_neg (by simp [h1]), if_pos h]
 (repeat first | refine go_skip ?_ | refine go_b ?_)
 (intros; try refine go_st ?_); refine go_r 16 23 (by decide) ?_; (refine sJ c75r4.eq_1 ?_; try with_reducible exact True.intro)
 refine (in_ok base G _ _).mono ?_; rintro _ _ ⟨rfl, rfl⟩; (refine sI ?_; try with_reducible exact True.intro)
 refine gd (fun h2 => ?_) (fun h2 => ?_)
 · (refine sI ?_; try with_reducible exact True.intro)
   (intros; try refine go_st ?_); refine go_c ?_; (refine sI ?_; try with_reducible exact True.intro)
   exact hbad _ _ _ (hpb fun h => by rw [h.1] at h2; cases h2)
 (refine sI ?_; try with_reducible exact True.intro)
 refine (in_ok stamp G _ _).mono ?_; rintro _ _ ⟨rfl, rfl⟩; (refine sI ?_; try with_reducible exact True.intro)
 (intros; try refine go_st ?_); refine go_c ?_; (refine sI ?_; try with_reducible exact True.intro)
 refine gb (fun h3 => ?_) (fun h3 => ?_)
 · exact hbad _ _ _ (hpb fun h => by rw [h.2] at h3; cases h3)
 have h2 : inO base = true := by simpa using h2
 have h3 : inO stamp = true := by simpa using h3
 obtain ⟨⟨ho, hst⟩, hk, hv⟩ := chk_small h1
 have hput : putR x base stamp = (prB x base stamp, 0) := by rw [putR, if_neg (by simp [h1]), if_neg (by simp [h2, h3])]
 simp [inO] at h2 h3 ho hst
 have w1 : IntKind.i64.wrap (x.off - base) = x.off - base := by rw [w64_id] <;> omega
 have w2 : IntKind.i64.wrap (x.stamp - stamp) = x.stamp - stamp := by rw [w64_id] <;> omega
 have i1 : I64 (x.off - base) := by unfold I64; omega
 have i2 : I64 (x.stamp - stamp) := by unfold I64; omega
 have l1 := pvB_len (x.off - base)
 have l2 := pvB_len (x.stamp - stamp)
 (repeat first | refine go_skip ?_ | refine go_b ?_)
 have hrest : ∀ (e : Env) (b : UInt8), b = (if x.dead = true then 1 else 0) → e 1 = .int .i64 base → e 2 = .int .i64 stamp → e 9 = .int .u8 (b.toNat : Int) →
     go none Try.prog 46 v75.1 v75.2 (retQ o75 fun v h => OwnE (putR x base stamp) h.L v) [Td.s ((SC.rgX c75r9).seq ((SC.rgX c75r10).seq .ret))] e ⟨G, [.reg 3 [.int .i64 x.off, .string x.key, .string x.val, .bool x.dead, .int .i64 x.stamp]], []⟩ := fun e b hb e1 e2 e9 => by
   refine go_keep [1, 2, 9] ?_
   (refine sJ3 @e1 @e2 @e9 ?_; try with_reducible exact True.intro)
   (intros; try refine go_st ?_); refine go_x _ (List.Sublist.refl _) (by decide) ?_; (refine sJ3 c75r9.eq_1 @w1 @w2 ?_; try with_reducible exact True.intro)
   refine (PutVar_ok [] (x.off - base) i1 _ G SB.nil (by simp) _ []).mono ?_
   rintro r h' ⟨G1, L', rfl, hg1, ys, hys, rfl⟩
   simp only [List.nil_append] at hys ⊢
   refine ⟨grow_L hg1 (.cons _ (List.Sublist.refl _)), ?_⟩
   (refine sI ?_; try with_reducible exact True.intro)
   refine callsH_gx F74.enters (gx_slv_at [] _ (by decide) hys) ?_
   rintro h' ⟨G2, rfl, hg2, hv2⟩
   refine (PutVar_ok _ (x.stamp - stamp) i2 _ G2 hv2 (by omega) _ []).mono ?_
   rintro r h' ⟨G3, L', rfl, hg3, ys3, hys3, rfl⟩
   refine ⟨grow_L (hg1.trans (hg2.trans hg3)) (.cons _ (List.Sublist.refl _)), ?_⟩
   (refine sI ?_; try with_reducible exact True.intro)
   (intros; try refine go_st ?_); refine go_x _ (.cons _ (List.Sublist.refl _)) (by decide) ?_; (refine sJ c75r10.eq_1 ?_; try with_reducible exact True.intro)
   intro bk hbk
   refine ⟨grow_L (fun _ _ h => h) (.cons _ (.cons _ (List.Sublist.refl _))), ?_⟩
   (refine sI ?_; try with_reducible exact True.intro)
   refine app8 (L1 := []) (L2 := [_]) (x := b) rfl rfl hys3 (by simp; omega) fun A' c' zc' hzc => ?_
   (refine sI ?_; try with_reducible exact True.intro)
   refine ⟨grow_L (fun _ _ h => h) (.cons _ (.cons _ (List.Sublist.refl _))), ?_⟩
   (refine sI ?_; try with_reducible exact True.intro)
   refine callsH_gx F96.enters (gx_slv_at [_] _ (by decide) hzc) ?_
   rintro h' ⟨G4, rfl, hg4, hv4⟩
   refine (PutText_ok _ x.key _ G4 hv4 (by simp; omega) (by omega) _ []).mono ?_
   rintro r h' ⟨G5, L', rfl, hg5, ys5, hys5, rfl⟩
   refine ⟨grow_L (hg4.trans hg5) (.cons _ (.cons _ (List.Sublist.refl _))), ?_⟩
   (refine sI ?_; try with_reducible exact True.intro)
   have l3 := ptB_len x.key
   refine callsH_gx F96.enters (gx_slv_at [] _ (by decide) hys5) ?_
   rintro h' ⟨G6, rfl, hg6, hv6⟩
   refine (PutText_ok _ x.val _ G6 hv6 (by simp; omega) (by omega) _ []).mono ?_
   rintro r h' ⟨G7, L', rfl, hg7, ys7, hys7, rfl⟩
   refine ⟨grow_L (hg4.trans (hg5.trans (hg6.trans hg7))) (.cons _ (.cons _ (List.Sublist.refl _))), ?_⟩
   (refine sI ?_; try with_reducible exact True.intro)
   (intros; try refine go_st ?_)
   refine go_ret (retQ_o _ rfl (.cons_cons _ (List.nil_sublist _)) (noRegs_row noRegs_nil) ?_)
   rw [hput]
   subst hb
   exact ⟨_, rfl, ys7, hys7, rfl⟩
 (intros; try refine go_st ?_); refine go_r 0 0 (by decide) ?_; (refine sJ c75r6.eq_1 ?_; try with_reducible exact True.intro)
 (intros; try refine go_st ?_); refine go_r 0 0 (by decide) ?_; (refine sJ c75r7.eq_1 ?_; try with_reducible exact True.intro)
 (intros; try refine go_st ?_); refine go_c ?_; (refine sI ?_; try with_reducible exact True.intro)
 refine gb (fun h5 => ?_) (fun h5 => ?_)
 · (intros; try refine go_st ?_); refine go_r 0 0 (by decide) ?_; (refine sJ c75r8.eq_1 ?_; try with_reducible exact True.intro)
   (repeat first | (with_reducible intro _) | refine go_skip ?_ | refine go_b ?_)
   refine hrest _ 1 (by rw [if_pos h5]) ?_ ?_ ?_ <;> (refine sI ?_; try with_reducible exact True.intro)
   rfl
 · (repeat first | refine go_skip ?_ | refine go_b ?_)
   refine hrest _ 0 (by rw [if_neg (by rw [h5]; simp)]) ?_ ?_ ?_ <;> (refine sI ?_; try with_reducible exact True.intro)
   rfl
theorem F72 : Fun Try.prog 72 14 v72 c72 o72 := Fun.mk' Try.func72 Try.ntmps72 (by kernel_rfl) (by kernel_rfl) s72 q72
theorem F92 : Fun Try.prog 92 25 v92 c92 o92 := Fun.mk' Try.func92 Try.ntmps92 (by kernel_rfl) (by kernel_rfl) s92 q92
theorem F93 : Fun Try.prog 93 25 v93 c93 o93 := Fun.mk' Try.func93 Try.ntmps93 (by kernel_rfl) (by kernel_rfl) s93 q93
theorem F97 : Fun Try.prog 97 12 v97 c97 o97 := Fun.mk' Try.func97 Try.ntmps97 (by kernel_rfl) (by kernel_rfl) s97 q97
def IE (x : Int) (cs : List Value) : Prop := cs = [.int .i64 x] ∧ I64 x
def rng (m n : Int) : Bool := decide (0 ≤ n) && decide (n ≤ m)
theorem rin_ok (n m : Int) (G : Nat → Option Obj) : FnS Try.prog 97 #[.int .i64 n, .int .i64 m] G (.bool (rng m n)) := by
 refine F97.fnS (by simp) (go_of ?_)
 unfold c97
 (intros; try refine go_st ?_); refine go_r 0 0 (by decide) ?_; (refine sJ c97r0.eq_1 ?_; try with_reducible exact True.intro)
 (intros; try refine go_st ?_); refine go_r 5 12 (by decide) ?_; (refine sJ c97r1.eq_1 ?_; try with_reducible exact True.intro)
 refine gd (fun h1 => ?_) (fun h1 => ?_)
 · (refine sI ?_; try with_reducible exact True.intro)
   (intros; try refine go_st ?_)
   refine go_ret (retQ_v rfl ?_); simp only [push_cast, Nat.reduceBEq]
   have : 0 ≤ n := by simpa using h1
   simp [rng, this]
 · (refine sI ?_; try with_reducible exact True.intro)
   (intros; try refine go_st ?_)
   refine go_ret (retQ_v rfl ?_); simp only [push_cast, Nat.reduceBEq]
   have : ¬ 0 ≤ n := by simpa using h1
   simp [rng, this]
theorem take1 {l : List Int} {k : Nat} {x y : Int} (h0 : l[0]? = some y) (hx : l[k]? = some x) (f : Int → Int → Int) (hk : 0 < k) : ((l.drop 1).take k).foldl f y = f (((l.drop 1).take (k - 1)).foldl f y) x := by
 have hl := List.getElem?_eq_some_iff.1 hx
 obtain ⟨k, rfl⟩ : ∃ j, k = j + 1 := ⟨k - 1, by omega⟩
 have h1 : (l.drop 1)[k]? = some x := by rw [List.getElem?_drop, Nat.add_comm]; exact hx
 have h2 := List.getElem?_eq_some_iff.1 h1
 rw [List.take_succ_eq_append_getElem h2.1, h2.2]
 simp
theorem Min_ok (l : List Int) (y : Int) (h0 : l[0]? = some y) (v : Value) (G : Nat → Option Obj) (hl : SlV G IE 1 v l) : FnS Try.prog 92 #[v] G (.int .i64 ((l.drop 1).foldl min y)) := by
 refine F92.fnS (by simp) (go_of ?_)
 obtain ⟨A, c, rfl, hc, hm, hA⟩ := hl
 have hpos := (List.getElem?_eq_some_iff.1 h0).1
 unfold c92
 (intros; try refine go_st ?_); refine go_r 0 0 (by decide) ?_; (refine sJ c92r0.eq_1 ?_; try with_reducible exact True.intro)
 (intros; try refine go_st ?_); refine go_r 5 7 (by decide) ?_; (refine sJ c92r1.eq_1 ?_; try with_reducible exact True.intro)
 (intros; try refine go_st ?_); refine go_c ?_; (refine sI ?_; try with_reducible exact True.intro)
 refine gb (fun h1 => by simp at h1; omega) (fun h1 => ?_)
 (repeat first | refine go_skip ?_ | refine go_b ?_)
 (intros; try refine go_st ?_); refine go_r 9 12 (by decide) ?_; (refine sJ c92r2.eq_1 ?_; try with_reducible exact True.intro)
 refine hA.x_l1 h0 rfl rfl ?_
 rintro a1 ha1 u1 ⟨hu, -⟩
 cases hu
 (refine sI ?_; try with_reducible exact True.intro)
 (intros; try refine go_st ?_); refine go_r 0 0 (by decide) ?_; (refine sJ c92r3.eq_1 ?_; try with_reducible exact True.intro)
 (intros; try refine go_st ?_)
 refine go_loop (fun e h => ∃ k : Nat, (0 < k ∧ k ≤ l.length) ∧ e 4 = .int .i64 k ∧ e 0 = .slice A l.length c ∧ e 3 = .int .i64 (((l.drop 1).take (k - 1)).foldl min y) ∧ h = ⟨G, [], []⟩) (fun e h => l.length - iv (e 4)) ?_ ?_
 · exact ⟨1, ⟨by omega, by omega⟩, by (refine sI ?_; try with_reducible exact True.intro); rfl, eE, by (refine sI ?_; try with_reducible exact True.intro); rfl, rfl⟩
 · rintro e h ⟨k, ⟨hk0, hk⟩, e4, e0, e3, rfl⟩
   refine go_keep [0, 3, 4] ?_
   (refine sJ3 @e0 @e3 @e4 ?_; try with_reducible exact True.intro)
   (intros; try refine go_st ?_); refine go_r 12 15 (by decide) ?_; (refine sJ c92r4.eq_1 ?_; try with_reducible exact True.intro)
   (intros; try refine go_st ?_); refine go_c ?_; (refine sI ?_; try with_reducible exact True.intro)
   refine gb (fun ht => ?_) (fun ht => ?_)
   · have hkl : k < l.length := by simpa using ht
     have hw3 := inc_i k c (by omega) hm
     obtain ⟨x, hx⟩ : ∃ x, l[k]? = some x := ⟨l[k], List.getElem?_eq_getElem (by omega)⟩
     (repeat first | refine go_skip ?_ | refine go_b ?_)
     (intros; try refine go_st ?_); refine go_r 18 24 (by decide) ?_; (refine sJ c92r5.eq_1 ?_; try with_reducible exact True.intro)
     refine hA.x_l1 hx rfl rfl ?_
     rintro a1 ha1 u1 ⟨hu, -⟩
     cases hu
     (refine sI ?_; try with_reducible exact True.intro)
     (intros; try refine go_st ?_); refine go_r 16 18 (by decide) ?_; (refine sJ2 c92r6.eq_1 @hw3 ?_; try with_reducible exact True.intro)
     (intros; try refine go_st ?_)
     refine go_l ⟨⟨k + 1, ⟨by omega, by omega⟩, eE, eE, by rw [Nat.add_sub_cancel, take1 h0 hx min hk0]; (refine sI ?_; try with_reducible exact True.intro), rfl⟩, ?_⟩
     (refine sI ?_; try with_reducible exact True.intro)
     omega
   · have hkl : k = l.length := by simp at ht; omega
     subst hkl
     refine go_exit ?_
     (refine sI ?_; try with_reducible exact True.intro)
     (intros; try refine go_st ?_); refine go_r 24 25 (by decide) ?_; (refine sJ c92r7.eq_1 ?_; try with_reducible exact True.intro)
     (intros; try refine go_st ?_)
     refine go_ret (retQ_v rfl ?_); simp only [push_cast, Nat.reduceBEq]
     rw [List.take_of_length_le (by simp)]
theorem Max_ok (l : List Int) (y : Int) (h0 : l[0]? = some y) (v : Value) (G : Nat → Option Obj) (hl : SlV G IE 1 v l) : FnS Try.prog 93 #[v] G (.int .i64 ((l.drop 1).foldl max y)) := by
 refine F93.fnS (by simp) (go_of ?_)
 obtain ⟨A, c, rfl, hc, hm, hA⟩ := hl
 have hpos := (List.getElem?_eq_some_iff.1 h0).1
 unfold c93
 (intros; try refine go_st ?_); refine go_r 0 0 (by decide) ?_; (refine sJ c93r0.eq_1 ?_; try with_reducible exact True.intro)
 (intros; try refine go_st ?_); refine go_r 5 7 (by decide) ?_; (refine sJ c93r1.eq_1 ?_; try with_reducible exact True.intro)
 (intros; try refine go_st ?_); refine go_c ?_; (refine sI ?_; try with_reducible exact True.intro)
 refine gb (fun h1 => by simp at h1; omega) (fun h1 => ?_)
 (repeat first | refine go_skip ?_ | refine go_b ?_)
 (intros; try refine go_st ?_); refine go_r 9 12 (by decide) ?_; (refine sJ c93r2.eq_1 ?_; try with_reducible exact True.intro)
 refine hA.x_l1 h0 rfl rfl ?_
 rintro a1 ha1 u1 ⟨hu, -⟩
 cases hu
 (refine sI ?_; try with_reducible exact True.intro)
 (intros; try refine go_st ?_); refine go_r 0 0 (by decide) ?_; (refine sJ c93r3.eq_1 ?_; try with_reducible exact True.intro)
 (intros; try refine go_st ?_)
 refine go_loop (fun e h => ∃ k : Nat, (0 < k ∧ k ≤ l.length) ∧ e 4 = .int .i64 k ∧ e 0 = .slice A l.length c ∧ e 3 = .int .i64 (((l.drop 1).take (k - 1)).foldl max y) ∧ h = ⟨G, [], []⟩) (fun e h => l.length - iv (e 4)) ?_ ?_
 · exact ⟨1, ⟨by omega, by omega⟩, by (refine sI ?_; try with_reducible exact True.intro); rfl, eE, by (refine sI ?_; try with_reducible exact True.intro); rfl, rfl⟩
 · rintro e h ⟨k, ⟨hk0, hk⟩, e4, e0, e3, rfl⟩
   refine go_keep [0, 3, 4] ?_
   (refine sJ3 @e0 @e3 @e4 ?_; try with_reducible exact True.intro)
   (intros; try refine go_st ?_); refine go_r 12 15 (by decide) ?_; (refine sJ c93r4.eq_1 ?_; try with_reducible exact True.intro)
   (intros; try refine go_st ?_); refine go_c ?_; (refine sI ?_; try with_reducible exact True.intro)
   refine gb (fun ht => ?_) (fun ht => ?_)
   · have hkl : k < l.length := by simpa using ht
     have hw3 := inc_i k c (by omega) hm
     obtain ⟨x, hx⟩ : ∃ x, l[k]? = some x := ⟨l[k], List.getElem?_eq_getElem (by omega)⟩
     (repeat first | refine go_skip ?_ | refine go_b ?_)
     (intros; try refine go_st ?_); refine go_r 18 24 (by decide) ?_; (refine sJ c93r5.eq_1 ?_; try with_reducible exact True.intro)
     refine hA.x_l1 hx rfl rfl ?_
     rintro a1 ha1 u1 ⟨hu, -⟩
     cases hu
     (refine sI ?_; try with_reducible exact True.intro)
     (intros; try refine go_st ?_); refine go_r 16 18 (by decide) ?_; (refine sJ2 c93r6.eq_1 @hw3 ?_; try with_reducible exact True.intro)
     (intros; try refine go_st ?_)
     refine go_l ⟨⟨k + 1, ⟨by omega, by omega⟩, eE, eE, by rw [Nat.add_sub_cancel, take1 h0 hx max hk0]; (refine sI ?_; try with_reducible exact True.intro), rfl⟩, ?_⟩
     (refine sI ?_; try with_reducible exact True.intro)
     omega
   · have hkl : k = l.length := by simp at ht; omega
     subst hkl
     refine go_exit ?_
     (refine sI ?_; try with_reducible exact True.intro)
     (intros; try refine go_st ?_); refine go_r 24 25 (by decide) ?_; (refine sJ c93r7.eq_1 ?_; try with_reducible exact True.intro)
     (intros; try refine go_st ?_)
     refine go_ret (retQ_v rfl ?_); simp only [push_cast, Nat.reduceBEq]
     rw [List.take_of_length_le (by simp)]
theorem min_all (m : Int) : ∀ (l : List Int) (y : Int), m ≤ l.foldl min y ↔ m ≤ y ∧ ∀ x ∈ l, m ≤ x
 | [], y => by simp
 | x :: l, y => by
   have h1 : m ≤ min y x ↔ m ≤ y ∧ m ≤ x := by omega
   rw [List.foldl_cons, min_all m l, h1, and_assoc]
   simp
theorem max_all (m : Int) : ∀ (l : List Int) (y : Int), l.foldl max y ≤ m ↔ y ≤ m ∧ ∀ x ∈ l, x ≤ m
 | [], y => by simp
 | x :: l, y => by
   have h1 : max y x ≤ m ↔ y ≤ m ∧ x ≤ m := by omega
   rw [List.foldl_cons, max_all m l, h1, and_assoc]
   simp
theorem within_all (m : Int) (l : List Int) (y : Int) : (decide (0 ≤ l.foldl min y) && decide (l.foldl max y ≤ m)) = (y :: l).all (rng m) := by
 rw [Bool.eq_iff_iff]
 simp only [Bool.and_eq_true, decide_eq_true_eq, min_all, max_all, List.all_eq_true, rng, List.mem_cons]
 constructor
 · rintro ⟨⟨h1, h2⟩, h3, h4⟩ x (rfl | hx)
   · exact ⟨h1, h3⟩
   · exact ⟨h2 x hx, h4 x hx⟩
 · intro h
   exact ⟨⟨(h y (.inl rfl)).1, fun x hx => (h x (.inr hx)).1⟩, (h y (.inl rfl)).2, fun x hx => (h x (.inr hx)).2⟩
theorem within_ok (m : Int) (y : Int) (l : List Int) (v : Value) (G : Nat → Option Obj) (hl : SlV G IE 1 v (y :: l)) : FnS Try.prog 72 #[.int .i64 m, v] G (.bool ((y :: l).all (rng m))) := by
 refine F72.fnS (by simp) (go_of ?_)
 rw [← within_all]
 unfold c72
 (intros; try refine go_st ?_); refine go_r 0 0 (by decide) ?_; (refine sJ c72r0.eq_1 ?_; try with_reducible exact True.intro)
 (intros; try refine go_st ?_); refine go_r 5 14 (by decide) ?_; (refine sJ c72r1.eq_1 ?_; try with_reducible exact True.intro)
 refine (Min_ok (y :: l) y rfl v G hl _ _).mono ?_; rintro _ _ ⟨rfl, rfl⟩; (refine sI ?_; try with_reducible exact True.intro)
 refine gd (fun h1 => ?_) (fun h1 => ?_)
 · (refine sI ?_; try with_reducible exact True.intro)
   refine (Max_ok (y :: l) y rfl v G hl _ _).mono ?_; rintro _ _ ⟨rfl, rfl⟩; (refine sI ?_; try with_reducible exact True.intro)
   (intros; try refine go_st ?_)
   refine go_ret (retQ_v rfl ?_); simp only [push_cast, Nat.reduceBEq]
   have h1 : 0 ≤ l.foldl min y := by simpa using h1
   simp [h1]
 · (refine sI ?_; try with_reducible exact True.intro)
   (intros; try refine go_st ?_)
   refine go_ret (retQ_v rfl ?_); simp only [push_cast, Nat.reduceBEq]
   have h1 : ¬ 0 ≤ l.foldl min y := by simpa using h1
   simp [h1]
theorem F59 : Fun Try.prog 59 131 v59 c59 o59 := Fun.mk' Try.func59 Try.ntmps59 (by kernel_rfl) (by kernel_rfl) s59 q59
structure Batch where
 base : Int
 last : Int
 src : Int
 epoch : Int
 pid : Int
 gen : Int
 seq : Int
 txn : Bool
 ctl : Int
 recs : List Rec
def cellH (x : Batch) (v : Value) : List Value := [.int .i64 x.base, .int .i64 x.last, .int .i64 x.src, .int .i64 x.epoch, .int .i64 x.pid, .int .i64 x.gen, .int .i64 x.seq, .bool x.txn, .int .i64 x.ctl, v]
def BE (G : Nat → Option Obj) (x : Batch) (cs : List Value) : Prop :=
 ∃ A c, cs = cellH x (.slice A x.recs.length c) ∧ (x.recs.length ≤ c ∧ c ≤ maxLen ∧ SlA G RR 5 A x.recs) ∧ I64 x.base ∧ I64 x.last ∧ I64 x.src ∧ I64 x.epoch ∧ I64 x.pid ∧ I64 x.gen ∧ I64 x.seq ∧ I64 x.ctl
theorem BE.le {G G' : Nat → Option Obj} (hg : Gle G G') {x : Batch} {cs : List Value} (h : BE G x cs) : BE G' x cs := by
 obtain ⟨A, c, h1, ⟨h2, h3, h4⟩, h5⟩ := h
 exact ⟨A, c, h1, ⟨h2, h3, h4.le hg fun _ _ h => h⟩, h5⟩
def rowF (last : Int) : Int → List Rec → Bool
 | _, [] => true
 | next, r :: rs => decide (chkR r = 0) && decide (next ≤ r.off) && decide (r.off ≤ last) && rowF last (r.off + 1) rs
def Form (b : Batch) : Prop :=
 (rng 1099511627776 b.base = true ∧ rng 1099511627776 b.last = true ∧ rng 1099511627776 b.src = true) ∧ (rng 1048576 b.epoch = true ∧ rng 1048576 b.gen = true ∧ rng 1048576 b.seq = true) ∧
   (b.base ≤ b.last ∧ b.last - b.base < 16 ∧ b.src + (b.last - b.base) ≤ 1099511627776 ∧ b.seq + (b.last - b.base) ≤ 1048576) ∧ (-1 ≤ b.pid ∧ b.pid ≤ 1099511627776) ∧ (b.pid = -1 → b.gen = 0 ∧ b.seq = 0 ∧ b.txn = false ∧ b.ctl = 0) ∧
   ((b.ctl = 0 ∧ rowF b.last b.base b.recs = true) ∨ ((b.ctl = 1 ∨ b.ctl = 2) ∧ b.last - b.base = 0 ∧ b.recs = [] ∧ b.txn = true))
instance decForm (b : Batch) : Decidable (Form b) := by
 unfold Form
 infer_instance
theorem within_row (m : Int) (y : Int) (l : List Int) (v : Value) (n : Nat) (ys : List Value) (hc : Cells IE 1 (y :: l) ys) (G : Nat → Option Obj) (L : List Kx.Item) (D : List Nat) :
   CallsH Try.prog 72 #[.int .i64 m, v] ⟨G, .row v 3 1 n ys :: L, D⟩ fun r h' => r = .bool ((y :: l).all (rng m)) ∧ h' = ⟨G, .row v 3 1 n ys :: L, D⟩ :=
 lend1 (E := IE) (xs := y :: l) (R := fun r => r = .bool ((y :: l).all (rng m))) F72.enters (by decide) hc fun G' hg hx => by
   have := within_ok m y l v G' hx L D
   simpa using this
theorem cells3 {a b c : Int} (ha : I64 a) (hb : I64 b) (hc : I64 c) : Cells IE 1 [a, b, c] [.int .i64 a, .int .i64 b, .int .i64 c] :=
 .cons (cs := [.int .i64 a]) ⟨rfl, ha⟩ rfl (.cons (cs := [.int .i64 b]) ⟨rfl, hb⟩ rfl (.one (cs := [.int .i64 c]) ⟨rfl, hc⟩ rfl))
theorem formed_ok (x : Batch) (cs : List Value) (G : Nat → Option Obj) (hx : BE G x cs) : FnS Try.prog 59 #[.agg cs.toArray] G (.bool (decide (Form x))) := by
 obtain ⟨A, c, rfl, ⟨hc, hm, hA⟩, i1, i2, i3, i4, i5, i6, i7, i8⟩ := hx
 refine F59.fnS (by simp) (go_of ?_)
 unfold c59 cellH
 (intros; try refine go_st ?_); refine go_r 0 0 (by decide) ?_; (refine sJ c59r0.eq_1 ?_; try with_reducible exact True.intro)
 have hbad : ∀ (fr : List Td) (e : Env) (L : List Kx.Item), ¬ Form x → go none Try.prog 131 v59.1 v59.2 (retQ o59 fun v h => v = .bool (decide (Form x))) (Td.s ((SC.reg false c59r2).seq .ret) :: fr) e ⟨G, L, []⟩ := fun fr e L hx => by
   (intros; try refine go_st ?_); refine go_r 0 0 (by decide) ?_; (refine sJ c59r2.eq_1 ?_; try with_reducible exact True.intro)
   (intros; try refine go_st ?_)
   refine go_ret (retQ_v rfl ?_); simp only [push_cast, Nat.reduceBEq]
   rw [decide_eq_false hx]
 (intros; try refine go_st ?_); refine go_r 8 26 (by decide) ?_; (refine sJ c59r1.eq_1 ?_; try with_reducible exact True.intro)
 intro b1 hb1
 refine (within_row 1099511627776 _ _ _ _ _ (cells3 i1 i2 i3) _ _ _).mono ?_; rintro _ _ ⟨rfl, rfl⟩; (refine sI ?_; try with_reducible exact True.intro)
 refine gd (fun h1 => ?_) (fun h1 => ?_)
 · (refine sI ?_; try with_reducible exact True.intro)
   (intros; try refine go_st ?_); refine go_c ?_; (refine sI ?_; try with_reducible exact True.intro)
   refine hbad _ _ _ fun h => ?_
   simp [h.1.1, h.1.2.1, h.1.2.2] at h1
 (refine sI ?_; try with_reducible exact True.intro)
 intro b2 hb2
 refine (within_row 1048576 _ _ _ _ _ (cells3 i4 i6 i7) _ _ _).mono ?_; rintro _ _ ⟨rfl, rfl⟩; (refine sI ?_; try with_reducible exact True.intro)
 (intros; try refine go_st ?_); refine go_c ?_; (refine sI ?_; try with_reducible exact True.intro)
 refine gb (fun h2 => ?_) (fun h2 => ?_)
 · refine hbad _ _ _ fun h => ?_
   simp [h.2.1.1, h.2.1.2.1, h.2.1.2.2] at h2
 have h1 : rng 1099511627776 x.base = true ∧ rng 1099511627776 x.last = true ∧ rng 1099511627776 x.src = true := by simpa using h1
 have h2 : rng 1048576 x.epoch = true ∧ rng 1048576 x.gen = true ∧ rng 1048576 x.seq = true := by simpa using h2
 have h1' := h1
 have h2' := h2
 simp [rng] at h1' h2'
 have w1 : IntKind.i64.wrap (x.last - x.base) = x.last - x.base := by rw [w64_id] <;> omega
 (repeat first | refine go_skip ?_ | refine go_b ?_)
 (intros; try refine go_st ?_); refine go_r 28 32 (by decide) ?_; (refine sJ2 c59r3.eq_1 @w1 ?_; try with_reducible exact True.intro)
 have hb5 : ∀ (fr : List Td) (e : Env) (L : List Kx.Item), ¬ Form x → go none Try.prog 131 v59.1 v59.2 (retQ o59 fun v h => v = .bool (decide (Form x))) (Td.s ((SC.reg false c59r5).seq .ret) :: fr) e ⟨G, L, []⟩ := fun fr e L hx => by
   (intros; try refine go_st ?_); refine go_r 0 0 (by decide) ?_; (refine sJ c59r5.eq_1 ?_; try with_reducible exact True.intro)
   (intros; try refine go_st ?_)
   refine go_ret (retQ_v rfl ?_); simp only [push_cast, Nat.reduceBEq]
   rw [decide_eq_false hx]
 have hb7 : ∀ (fr : List Td) (e : Env) (L : List Kx.Item), ¬ Form x → go none Try.prog 131 v59.1 v59.2 (retQ o59 fun v h => v = .bool (decide (Form x))) (Td.s ((SC.reg false c59r7).seq .ret) :: fr) e ⟨G, L, []⟩ := fun fr e L hx => by
   (intros; try refine go_st ?_); refine go_r 0 0 (by decide) ?_; (refine sJ c59r7.eq_1 ?_; try with_reducible exact True.intro)
   (intros; try refine go_st ?_)
   refine go_ret (retQ_v rfl ?_); simp only [push_cast, Nat.reduceBEq]
   rw [decide_eq_false hx]
 have hb9 : ∀ (fr : List Td) (e : Env) (L : List Kx.Item), ¬ Form x → go none Try.prog 131 v59.1 v59.2 (retQ o59 fun v h => v = .bool (decide (Form x))) (Td.s ((SC.reg false c59r9).seq .ret) :: fr) e ⟨G, L, []⟩ := fun fr e L hx => by
   (intros; try refine go_st ?_); refine go_r 0 0 (by decide) ?_; (refine sJ c59r9.eq_1 ?_; try with_reducible exact True.intro)
   (intros; try refine go_st ?_)
   refine go_ret (retQ_v rfl ?_); simp only [push_cast, Nat.reduceBEq]
   rw [decide_eq_false hx]
 have hb17 : ∀ (fr : List Td) (e : Env) (L : List Kx.Item), ¬ Form x → go none Try.prog 131 v59.1 v59.2 (retQ o59 fun v h => v = .bool (decide (Form x))) (Td.s ((SC.reg false c59r17).seq .ret) :: fr) e ⟨G, L, []⟩ := fun fr e L hx => by
   (intros; try refine go_st ?_); refine go_r 0 0 (by decide) ?_; (refine sJ c59r17.eq_1 ?_; try with_reducible exact True.intro)
   (intros; try refine go_st ?_)
   refine go_ret (retQ_v rfl ?_); simp only [push_cast, Nat.reduceBEq]
   rw [decide_eq_false hx]
 have w2 : ∀ (h : 0 ≤ x.last - x.base), IntKind.i64.wrap (x.src + (x.last - x.base)) = x.src + (x.last - x.base) := fun h => by rw [w64_id] <;> omega
 have w3 : ∀ (h : 0 ≤ x.last - x.base), IntKind.i64.wrap (x.seq + (x.last - x.base)) = x.seq + (x.last - x.base) := fun h => by rw [w64_id] <;> omega
 have w4 : IntKind.i64.wrap (x.gen + x.seq) = x.gen + x.seq := by rw [w64_id] <;> omega
 (intros; try refine go_st ?_); refine go_r 33 53 (by decide) ?_; (refine sJ c59r4.eq_1 ?_; try with_reducible exact True.intro)
 refine gd (fun h3 => ?_) (fun h3 => ?_)
 · (refine sI ?_; try with_reducible exact True.intro)
   (intros; try refine go_st ?_); refine go_c ?_; (refine sI ?_; try with_reducible exact True.intro)
   exact hb5 _ _ _ fun h => by have := of_decide_eq_true h3; have := h.2.2.1.1; omega
 have h3 := of_decide_eq_false h3
 (refine sI ?_; try with_reducible exact True.intro)
 refine gd (fun h4 => ?_) (fun h4 => ?_)
 · (refine sI ?_; try with_reducible exact True.intro)
   (intros; try refine go_st ?_); refine go_c ?_; (refine sI ?_; try with_reducible exact True.intro)
   exact hb5 _ _ _ fun h => by have := of_decide_eq_true h4; have := h.2.2.1.2.1; omega
 have h4 := of_decide_eq_false h4
 (refine sJ (w2 (by omega)) ?_; try with_reducible exact True.intro)
 refine gd (fun h5 => ?_) (fun h5 => ?_)
 · (refine sI ?_; try with_reducible exact True.intro)
   (intros; try refine go_st ?_); refine go_c ?_; (refine sI ?_; try with_reducible exact True.intro)
   exact hb5 _ _ _ fun h => by have := of_decide_eq_true h5; have := h.2.2.1.2.2.1; omega
 have h5 := of_decide_eq_false h5
 (refine sJ (w3 (by omega)) ?_; try with_reducible exact True.intro)
 (intros; try refine go_st ?_); refine go_c ?_; (refine sI ?_; try with_reducible exact True.intro)
 refine gb (fun h6 => ?_) (fun h6 => ?_)
 · exact hb5 _ _ _ fun h => by have := of_decide_eq_true h6; have := h.2.2.1.2.2.2; omega
 have h6 := of_decide_eq_false h6
 (intros; try refine go_st ?_); refine go_r 55 62 (by decide) ?_; (refine sJ c59r6.eq_1 ?_; try with_reducible exact True.intro)
 refine gd (fun h7 => ?_) (fun h7 => ?_)
 · (refine sI ?_; try with_reducible exact True.intro)
   (intros; try refine go_st ?_); refine go_c ?_; (refine sI ?_; try with_reducible exact True.intro)
   exact hb7 _ _ _ fun h => by have := of_decide_eq_true h7; have := h.2.2.2.1.1; omega
 have h7 := of_decide_eq_false h7
 (refine sI ?_; try with_reducible exact True.intro)
 (intros; try refine go_st ?_); refine go_c ?_; (refine sI ?_; try with_reducible exact True.intro)
 refine gb (fun h8 => ?_) (fun h8 => ?_)
 · exact hb7 _ _ _ fun h => by have := of_decide_eq_true h8; have := h.2.2.2.1.2; omega
 have h8 := of_decide_eq_false h8
 (intros; try refine go_st ?_); refine go_r 64 83 (by decide) ?_; (refine sJ c59r8.eq_1 ?_; try with_reducible exact True.intro)
 have hrest : ∀ (e : Env), (x.pid = -1 → x.gen = 0 ∧ x.seq = 0 ∧ x.txn = false ∧ x.ctl = 0) → e 3 = .int .i64 (x.last - x.base) →
     go none Try.prog 131 v59.1 v59.2 (retQ o59 fun v h => v = .bool (decide (Form x))) [Td.s (((SC.reg false c59r10).seq (SC.blk 1 ((SC.reg false c59r11).seq (SC.cond (O.t 85) ((SC.reg false c59r12).seq (((SC.reg false c59r13).seq (SC.blk 2 ((SC.reg false c59r14).seq ((SC.cond (O.t 93) SC.skip (SC.exit 2)).seq ((SC.blk 3 ((SC.reg false c59r15).seq (((SC.reg false c59r16).seq (SC.cond (O.t 111) ((SC.reg false c59r17).seq SC.ret) SC.skip)).seq (SC.reg false c59r18)))).seq (SC.reg false c59r19)))).loop)).seq ((SC.reg false c59r20).seq SC.ret))) (((SC.reg false c59r21).seq (SC.cond (O.t 116) SC.skip (SC.reg false c59r22))).seq (SC.cond (O.t 116) ((SC.reg false c59r23).seq SC.ret) SC.skip)))))).seq ((SC.reg false c59r24).seq SC.ret))] e ⟨G, [.reg 1 [.int .i64 x.base, .int .i64 x.last, .int .i64 x.src, .int .i64 x.epoch, .int .i64 x.pid, .int .i64 x.gen, .int .i64 x.seq, .bool x.txn, .int .i64 x.ctl, .slice A x.recs.length c]], []⟩ := fun e hpid e3 => by
   refine go_keep [3] ?_
   (refine sJ @e3 ?_; try with_reducible exact True.intro)
   (intros; try refine go_st ?_); refine go_r 0 0 (by decide) ?_; (refine sJ c59r10.eq_1 ?_; try with_reducible exact True.intro)
   (intros; try refine go_st ?_); refine go_r 86 87 (by decide) ?_; (refine sJ c59r11.eq_1 ?_; try with_reducible exact True.intro)
   (intros; try refine go_st ?_); refine go_c ?_; (refine sI ?_; try with_reducible exact True.intro)
   have hmk : ((x.ctl = 0 ∧ rowF x.last x.base x.recs = true) ∨ ((x.ctl = 1 ∨ x.ctl = 2) ∧ x.last - x.base = 0 ∧ x.recs = [] ∧ x.txn = true)) → Form x := fun h => ⟨h1, h2, ⟨by omega, by omega, by omega, by omega⟩, ⟨by omega, by omega⟩, hpid, h⟩
   refine gb (fun k1 => ?_) (fun k1 => ?_)
   · have k1 := of_decide_eq_true k1
     (intros; try refine go_st ?_); refine go_r 88 89 (by decide) ?_; (refine sJ c59r12.eq_1 ?_; try with_reducible exact True.intro)
     (intros; try refine go_st ?_); refine go_r 0 0 (by decide) ?_; (refine sJ c59r13.eq_1 ?_; try with_reducible exact True.intro)
     (intros; try refine go_st ?_)
     refine go_loop (fun e h => ∃ (k : Nat) (nx : Int), (k ≤ x.recs.length ∧ rowF x.last x.base x.recs = rowF x.last nx (x.recs.drop k)) ∧ e 92 = .int .i64 k ∧ e 91 = .int .i64 x.recs.length ∧ e 90 = .slice A x.recs.length c ∧ e 4 = .int .i64 nx ∧ h.G = G ∧ h.D = [] ∧ [.reg 1 [.int .i64 x.base, .int .i64 x.last, .int .i64 x.src, .int .i64 x.epoch, .int .i64 x.pid, .int .i64 x.gen, .int .i64 x.seq, .bool x.txn, .int .i64 x.ctl, .slice A x.recs.length c]].Sublist h.L) (fun e h => x.recs.length - iv (e 92)) ?_ ?_
     · exact ⟨0, x.base, ⟨Nat.zero_le _, rfl⟩, eE, eE, eE, eE, rfl, rfl, List.Sublist.refl _⟩
     · rintro e ⟨G', L, D⟩ ⟨k, nx, ⟨hk, hrow⟩, e92, e91, e90, e4, hG, hD, hL⟩
       dsimp only at hG hD hL
       subst hG hD
       refine go_ghost (ghost_sub hL) ?_
       refine go_keep [4, 90, 91, 92] ?_
       (refine sJ4 @e4 @e90 @e91 @e92 ?_; try with_reducible exact True.intro)
       (intros; try refine go_st ?_); refine go_r 0 0 (by decide) ?_; (refine sJ c59r14.eq_1 ?_; try with_reducible exact True.intro)
       (intros; try refine go_st ?_); refine go_c ?_; (refine sI ?_; try with_reducible exact True.intro)
       refine gb (fun ht => ?_) (fun ht => ?_)
       · have hkl : k < x.recs.length := by simpa using ht
         have hw3 := inc_i k c (by omega) hm
         obtain ⟨r, hr⟩ : ∃ r, x.recs[k]? = some r := ⟨x.recs[k], List.getElem?_eq_getElem (by omega)⟩
         have hdr : x.recs.drop k = r :: x.recs.drop (k + 1) := by
           have := List.getElem?_eq_some_iff.1 hr
           rw [List.drop_eq_getElem_cons hkl, this.2]
         rw [hdr] at hrow
         simp only [rowF] at hrow
         have hno : rowF x.last x.base x.recs = false → ¬ Form x := fun h h' => by
           rcases h'.2.2.2.2.2 with h9 | h9
           · rw [h] at h9; cases h9.2
           · omega
         (intros; try refine go_st ?_); refine go_r 94 96 (by decide) ?_; (refine sJ c59r15.eq_1 ?_; try with_reducible exact True.intro)
         refine hA.x_ld hr rfl rfl ?_
         rintro a1 ha1 cs ⟨rfl, ⟨j1, j2⟩, j3, j4⟩
         unfold cellR
         (refine sI ?_; try with_reducible exact True.intro)
         have hck := Check_ok r
         unfold cellR at hck
         (intros; try refine go_st ?_); refine go_r 96 111 (by decide) ?_; (refine sJ c59r16.eq_1 ?_; try with_reducible exact True.intro)
         refine (hck G' _ _).mono ?_; rintro _ _ ⟨rfl, rfl⟩; (refine sI ?_; try with_reducible exact True.intro)
         refine gd (fun k2 => ?_) (fun k2 => ?_)
         · (refine sI ?_; try with_reducible exact True.intro)
           (intros; try refine go_st ?_); refine go_c ?_; (refine sI ?_; try with_reducible exact True.intro)
           exact hb17 _ _ _ (hno (by rw [hrow]; simp at k2; simp [k2]))
         have k2 : chkR r = 0 := by simpa using k2
         (refine sI ?_; try with_reducible exact True.intro)
         refine gd (fun k3 => ?_) (fun k3 => ?_)
         · (refine sI ?_; try with_reducible exact True.intro)
           (intros; try refine go_st ?_); refine go_c ?_; (refine sI ?_; try with_reducible exact True.intro)
           exact hb17 _ _ _ (hno (by rw [hrow]; have := of_decide_eq_true k3; simp; omega))
         have k3 := of_decide_eq_false k3
         (refine sI ?_; try with_reducible exact True.intro)
         (intros; try refine go_st ?_); refine go_c ?_; (refine sI ?_; try with_reducible exact True.intro)
         refine gb (fun k4 => ?_) (fun k4 => ?_)
         · exact hb17 _ _ _ (hno (by rw [hrow]; have := of_decide_eq_true k4; simp; omega))
         have k4 := of_decide_eq_false k4
         have hoff := (chk_small k2).1.1
         simp [inO] at hoff
         have w5 : IntKind.i64.wrap (r.off + 1) = r.off + 1 := by rw [w64_id] <;> omega
         (repeat first | refine go_skip ?_ | refine go_b ?_)
         (intros; try refine go_st ?_); refine go_r 113 115 (by decide) ?_; (refine sJ2 c59r18.eq_1 @w5 ?_; try with_reducible exact True.intro)
         (intros; try refine go_st ?_); refine go_r 115 116 (by decide) ?_; (refine sJ2 c59r19.eq_1 @hw3 ?_; try with_reducible exact True.intro)
         (intros; try refine go_st ?_)
         refine go_l ⟨⟨k + 1, r.off + 1, ⟨by omega, by rw [hrow]; simp [k2]; omega⟩, eE, eE, eE, eE, rfl, rfl, .cons _ (List.Sublist.refl _)⟩, ?_⟩
         (refine sI ?_; try with_reducible exact True.intro)
         omega
       · have hkl : k = x.recs.length := by simp at ht; omega
         subst hkl
         refine go_exit ?_
         (refine sI ?_; try with_reducible exact True.intro)
         (intros; try refine go_st ?_); refine go_r 0 0 (by decide) ?_; (refine sJ c59r20.eq_1 ?_; try with_reducible exact True.intro)
         (intros; try refine go_st ?_)
         refine go_ret (retQ_v rfl ?_); simp only [push_cast, Nat.reduceBEq]
         rw [List.drop_length] at hrow
         rw [decide_eq_true (hmk (.inl ⟨k1, hrow⟩))]
   · have k1 := of_decide_eq_false k1
     have hb24 : ∀ (fr : List Td) (e : Env) (L : List Kx.Item), ¬ Form x → go none Try.prog 131 v59.1 v59.2 (retQ o59 fun v h => v = .bool (decide (Form x))) (Td.s ((SC.reg false c59r24).seq .ret) :: fr) e ⟨G, L, []⟩ := fun fr e L hx => by
       (intros; try refine go_st ?_); refine go_r 0 0 (by decide) ?_; (refine sJ c59r24.eq_1 ?_; try with_reducible exact True.intro)
       (intros; try refine go_st ?_)
       refine go_ret (retQ_v rfl ?_); simp only [push_cast, Nat.reduceBEq]
       rw [decide_eq_false hx]
     have hfin : ∀ (fr : List Td) (e : Env), (x.ctl = 1 ∨ x.ctl = 2) → e 3 = .int .i64 (x.last - x.base) → go none Try.prog 131 v59.1 v59.2 (retQ o59 fun v h => v = .bool (decide (Form x))) (Td.s ((SC.reg false c59r23).seq .ret) :: fr) e ⟨G, [.reg 1 [.int .i64 x.base, .int .i64 x.last, .int .i64 x.src, .int .i64 x.epoch, .int .i64 x.pid, .int .i64 x.gen, .int .i64 x.seq, .bool x.txn, .int .i64 x.ctl, .slice A x.recs.length c]], []⟩ := fun fr e hc12 e3 => by
       refine go_keep [3] ?_
       (refine sJ @e3 ?_; try with_reducible exact True.intro)
       have hnf : ∀ (_ : ¬ (x.last - x.base = 0 ∧ x.recs = [] ∧ x.txn = true)), decide (Form x) = false := fun hn => decide_eq_false fun h => by
         rcases h.2.2.2.2.2 with h9 | h9
         · exact k1 h9.1
         · exact hn h9.2
       (intros; try refine go_st ?_); refine go_r 119 131 (by decide) ?_; (refine sJ c59r23.eq_1 ?_; try with_reducible exact True.intro)
       refine gd (fun k2 => ?_) (fun k2 => ?_)
       · have k2 := of_decide_eq_true k2
         (refine sI ?_; try with_reducible exact True.intro)
         refine gd (fun k3 => ?_) (fun k3 => ?_)
         · have k3 : x.recs = [] := by have := of_decide_eq_true k3; exact List.eq_nil_of_length_eq_zero (by omega)
           (refine sI ?_; try with_reducible exact True.intro)
           (intros; try refine go_st ?_)
           refine go_ret (retQ_v rfl ?_); simp only [push_cast, Nat.reduceBEq]
           cases ht : x.txn with
           | false => rw [hnf fun h => by rw [ht] at h; cases h.2.2]
           | true => rw [decide_eq_true (hmk (.inr ⟨hc12, k2, k3, ht⟩))]
         · have k3 := of_decide_eq_false k3
           (refine sI ?_; try with_reducible exact True.intro)
           (intros; try refine go_st ?_)
           refine go_ret (retQ_v rfl ?_); simp only [push_cast, Nat.reduceBEq]
           rw [hnf fun h => k3 (by rw [h.2.1]; rfl)]
       · have k2 := of_decide_eq_false k2
         (refine sI ?_; try with_reducible exact True.intro)
         (intros; try refine go_st ?_)
         refine go_ret (retQ_v rfl ?_); simp only [push_cast, Nat.reduceBEq]
         rw [hnf fun h => k2 h.1]
     (intros; try refine go_st ?_); refine go_r 117 118 (by decide) ?_; (refine sJ c59r21.eq_1 ?_; try with_reducible exact True.intro)
     (intros; try refine go_st ?_); refine go_c ?_; (refine sI ?_; try with_reducible exact True.intro)
     refine gb (fun k2 => ?_) (fun k2 => ?_)
     · (repeat first | refine go_skip ?_ | refine go_b ?_)
       (intros; try refine go_st ?_); refine go_c ?_; (refine sI ?_; try with_reducible exact True.intro)
       refine gb (fun _ => ?_) (fun h => by rw [k2] at h; cases h)
       refine hfin _ _ (.inl (of_decide_eq_true k2)) ?_
       (refine sI ?_; try with_reducible exact True.intro)
     · have k2 := of_decide_eq_false k2
       (intros; try refine go_st ?_); refine go_r 118 119 (by decide) ?_; (refine sJ c59r22.eq_1 ?_; try with_reducible exact True.intro)
       (intros; try refine go_st ?_); refine go_c ?_; (refine sI ?_; try with_reducible exact True.intro)
       refine gb (fun k3 => ?_) (fun k3 => ?_)
       · refine hfin _ _ (.inr (of_decide_eq_true k3)) ?_
         (refine sI ?_; try with_reducible exact True.intro)
       · have k3 := of_decide_eq_false k3
         (repeat first | refine go_skip ?_ | refine go_b ?_)
         refine hb24 _ _ _ fun h => ?_
         rcases h.2.2.2.2.2 with h9 | h9
         · exact k1 h9.1
         · rcases h9.1 with h9 | h9
           · exact k2 h9
           · exact k3 h9
 refine gd (fun h9 => ?_) (fun h9 => ?_)
 · have h9 := of_decide_eq_true h9
   (refine sJ @w4 ?_; try with_reducible exact True.intro)
   refine gd (fun h10 => ?_) (fun h10 => ?_)
   · (refine sI ?_; try with_reducible exact True.intro)
     (intros; try refine go_st ?_); refine go_c ?_; (refine sI ?_; try with_reducible exact True.intro)
     exact hb9 _ _ _ fun h => by have := of_decide_eq_true h10; have := h.2.2.2.2.1 h9; omega
   have h10 := of_decide_eq_false h10
   (refine sI ?_; try with_reducible exact True.intro)
   refine gd (fun h11 => ?_) (fun h11 => ?_)
   · (refine sI ?_; try with_reducible exact True.intro)
     (intros; try refine go_st ?_); refine go_c ?_; (refine sI ?_; try with_reducible exact True.intro)
     exact hb9 _ _ _ fun h => by have := (h.2.2.2.2.1 h9).2.2.1; rw [h11] at this; cases this
   (refine sI ?_; try with_reducible exact True.intro)
   (intros; try refine go_st ?_); refine go_c ?_; (refine sI ?_; try with_reducible exact True.intro)
   refine gb (fun h12 => ?_) (fun h12 => ?_)
   · exact hb9 _ _ _ fun h => by have := of_decide_eq_true h12; have := (h.2.2.2.2.1 h9).2.2.2; omega
   have h12 := of_decide_eq_false h12
   (repeat first | refine go_skip ?_ | refine go_b ?_)
   refine go_ghost (ghost_sub (.cons _ (.cons _ (List.Sublist.refl _)))) ?_
   refine hrest _ (fun _ => ⟨by omega, by omega, h11, by omega⟩) ?_
   (refine sI ?_; try with_reducible exact True.intro)
 · have h9 := of_decide_eq_false h9
   (refine sI ?_; try with_reducible exact True.intro)
   (intros; try refine go_st ?_); refine go_c ?_; (refine sI ?_; try with_reducible exact True.intro)
   (repeat first | refine go_skip ?_ | refine go_b ?_)
   refine go_ghost (ghost_sub (.cons _ (.cons _ (List.Sublist.refl _)))) ?_
   refine hrest _ (fun h => absurd h h9) ?_
   (refine sI ?_; try with_reducible exact True.intro)
theorem F78 : Fun Try.prog 78 165 v78 c78 o78 := Fun.mk' Try.func78 Try.ntmps78 (by kernel_rfl) (by kernel_rfl) s78 q78
theorem rng_f {m n : Int} (h : (!rng m n) = true) : ¬ rng m n = true := by simpa using h
theorem rng_t {m n : Int} (h : (!rng m n) = false) : 0 ≤ n ∧ n ≤ m := by simpa [rng] using h
theorem rng_i {m n : Int} (h : 0 ≤ n ∧ n ≤ m) : rng m n = true := by simp [rng, h]
theorem form_ok (x : Batch) (cs : List Value) (G : Nat → Option Obj) (hx : BE G x cs) : FnS Try.prog 78 #[.agg cs.toArray] G (.bool (decide (Form x))) := by
 obtain ⟨A, c, rfl, ⟨hc, hm, hA⟩, i1, i2, i3, i4, i5, i6, i7, i8⟩ := hx
 refine F78.fnS (by simp) (go_of ?_)
 unfold c78 cellH
 (intros; try refine go_st ?_); refine go_r 0 0 (by decide) ?_; (refine sJ c78r0.eq_1 ?_; try with_reducible exact True.intro)
 have hb2 : ∀ (fr : List Td) (e : Env) (L : List Kx.Item), ¬ Form x → go none Try.prog 165 v78.1 v78.2 (retQ o78 fun v h => v = .bool (decide (Form x))) (Td.s ((SC.reg false c78r2).seq .ret) :: fr) e ⟨G, L, []⟩ := fun fr e L hx => by
   (intros; try refine go_st ?_); refine go_r 0 0 (by decide) ?_; (refine sJ c78r2.eq_1 ?_; try with_reducible exact True.intro)
   (intros; try refine go_st ?_)
   refine go_ret (retQ_v rfl ?_); simp only [push_cast, Nat.reduceBEq]
   rw [decide_eq_false hx]
 have hb5 : ∀ (fr : List Td) (e : Env) (L : List Kx.Item), ¬ Form x → go none Try.prog 165 v78.1 v78.2 (retQ o78 fun v h => v = .bool (decide (Form x))) (Td.s ((SC.reg false c78r5).seq .ret) :: fr) e ⟨G, L, []⟩ := fun fr e L hx => by
   (intros; try refine go_st ?_); refine go_r 0 0 (by decide) ?_; (refine sJ c78r5.eq_1 ?_; try with_reducible exact True.intro)
   (intros; try refine go_st ?_)
   refine go_ret (retQ_v rfl ?_); simp only [push_cast, Nat.reduceBEq]
   rw [decide_eq_false hx]
 have hb7 : ∀ (fr : List Td) (e : Env) (L : List Kx.Item), ¬ Form x → go none Try.prog 165 v78.1 v78.2 (retQ o78 fun v h => v = .bool (decide (Form x))) (Td.s ((SC.reg false c78r7).seq .ret) :: fr) e ⟨G, L, []⟩ := fun fr e L hx => by
   (intros; try refine go_st ?_); refine go_r 0 0 (by decide) ?_; (refine sJ c78r7.eq_1 ?_; try with_reducible exact True.intro)
   (intros; try refine go_st ?_)
   refine go_ret (retQ_v rfl ?_); simp only [push_cast, Nat.reduceBEq]
   rw [decide_eq_false hx]
 have hb15 : ∀ (fr : List Td) (e : Env) (L : List Kx.Item), ¬ Form x → go none Try.prog 165 v78.1 v78.2 (retQ o78 fun v h => v = .bool (decide (Form x))) (Td.s ((SC.reg false c78r15).seq .ret) :: fr) e ⟨G, L, []⟩ := fun fr e L hx => by
   (intros; try refine go_st ?_); refine go_r 0 0 (by decide) ?_; (refine sJ c78r15.eq_1 ?_; try with_reducible exact True.intro)
   (intros; try refine go_st ?_)
   refine go_ret (retQ_v rfl ?_); simp only [push_cast, Nat.reduceBEq]
   rw [decide_eq_false hx]
 (intros; try refine go_st ?_); refine go_r 8 37 (by decide) ?_; (refine sJ c78r1.eq_1 ?_; try with_reducible exact True.intro)
 refine (rin_ok x.base _ G _ _).mono ?_; rintro _ _ ⟨rfl, rfl⟩; (refine sI ?_; try with_reducible exact True.intro)
 refine gd (fun h1 => ?_) (fun h1 => ?_)
 · (refine sI ?_; try with_reducible exact True.intro)
   (intros; try refine go_st ?_); refine go_c ?_; (refine sI ?_; try with_reducible exact True.intro)
   exact hb2 _ _ _ fun h => by exact rng_f h1 h.1.1
 have h1 := rng_t h1
 (refine sI ?_; try with_reducible exact True.intro)
 refine (rin_ok x.last _ G _ _).mono ?_; rintro _ _ ⟨rfl, rfl⟩; (refine sI ?_; try with_reducible exact True.intro)
 refine gd (fun h2 => ?_) (fun h2 => ?_)
 · (refine sI ?_; try with_reducible exact True.intro)
   (intros; try refine go_st ?_); refine go_c ?_; (refine sI ?_; try with_reducible exact True.intro)
   exact hb2 _ _ _ fun h => by exact rng_f h2 h.1.2.1
 have h2 := rng_t h2
 (refine sI ?_; try with_reducible exact True.intro)
 refine (rin_ok x.src _ G _ _).mono ?_; rintro _ _ ⟨rfl, rfl⟩; (refine sI ?_; try with_reducible exact True.intro)
 refine gd (fun h3 => ?_) (fun h3 => ?_)
 · (refine sI ?_; try with_reducible exact True.intro)
   (intros; try refine go_st ?_); refine go_c ?_; (refine sI ?_; try with_reducible exact True.intro)
   exact hb2 _ _ _ fun h => by exact rng_f h3 h.1.2.2
 have h3 := rng_t h3
 have w1 : IntKind.i64.wrap (x.last - x.base) = x.last - x.base := by rw [w64_id] <;> omega
 (refine sI ?_; try with_reducible exact True.intro)
 refine gd (fun h4 => ?_) (fun h4 => ?_)
 · (refine sI ?_; try with_reducible exact True.intro)
   (intros; try refine go_st ?_); refine go_c ?_; (refine sI ?_; try with_reducible exact True.intro)
   exact hb2 _ _ _ fun h => by have := of_decide_eq_true h4; have := h.2.2.1.1; omega
 have h4 := of_decide_eq_false h4
 (refine sJ @w1 ?_; try with_reducible exact True.intro)
 (intros; try refine go_st ?_); refine go_c ?_; (refine sI ?_; try with_reducible exact True.intro)
 refine gb (fun h5 => ?_) (fun h5 => ?_)
 · exact hb2 _ _ _ fun h => by have := of_decide_eq_true h5; have := h.2.2.1.2.1; omega
 have h5 := of_decide_eq_false h5
 (repeat first | refine go_skip ?_ | refine go_b ?_)
 (intros; try refine go_st ?_); refine go_r 39 43 (by decide) ?_; (refine sJ2 c78r3.eq_1 @w1 ?_; try with_reducible exact True.intro)
 have w2 : IntKind.i64.wrap (x.src + (x.last - x.base)) = x.src + (x.last - x.base) := by rw [w64_id] <;> omega
 (intros; try refine go_st ?_); refine go_r 44 72 (by decide) ?_; (refine sJ2 c78r4.eq_1 @w2 ?_; try with_reducible exact True.intro)
 refine gd (fun h6 => ?_) (fun h6 => ?_)
 · (refine sI ?_; try with_reducible exact True.intro)
   (intros; try refine go_st ?_); refine go_c ?_; (refine sI ?_; try with_reducible exact True.intro)
   exact hb5 _ _ _ fun h => by have := of_decide_eq_true h6; have := h.2.2.1.2.2.1; omega
 have h6 := of_decide_eq_false h6
 (refine sI ?_; try with_reducible exact True.intro)
 refine (rin_ok x.epoch _ G _ _).mono ?_; rintro _ _ ⟨rfl, rfl⟩; (refine sI ?_; try with_reducible exact True.intro)
 refine gd (fun h7 => ?_) (fun h7 => ?_)
 · (refine sI ?_; try with_reducible exact True.intro)
   (intros; try refine go_st ?_); refine go_c ?_; (refine sI ?_; try with_reducible exact True.intro)
   exact hb5 _ _ _ fun h => by exact rng_f h7 h.2.1.1
 have h7 := rng_t h7
 (refine sI ?_; try with_reducible exact True.intro)
 refine (rin_ok x.gen _ G _ _).mono ?_; rintro _ _ ⟨rfl, rfl⟩; (refine sI ?_; try with_reducible exact True.intro)
 refine gd (fun h8 => ?_) (fun h8 => ?_)
 · (refine sI ?_; try with_reducible exact True.intro)
   (intros; try refine go_st ?_); refine go_c ?_; (refine sI ?_; try with_reducible exact True.intro)
   exact hb5 _ _ _ fun h => by exact rng_f h8 h.2.1.2.1
 have h8 := rng_t h8
 (refine sI ?_; try with_reducible exact True.intro)
 refine (rin_ok x.seq _ G _ _).mono ?_; rintro _ _ ⟨rfl, rfl⟩; (refine sI ?_; try with_reducible exact True.intro)
 refine gd (fun h9 => ?_) (fun h9 => ?_)
 · (refine sI ?_; try with_reducible exact True.intro)
   (intros; try refine go_st ?_); refine go_c ?_; (refine sI ?_; try with_reducible exact True.intro)
   exact hb5 _ _ _ fun h => by exact rng_f h9 h.2.1.2.2
 have h9 := rng_t h9
 have w3 : IntKind.i64.wrap (x.seq + (x.last - x.base)) = x.seq + (x.last - x.base) := by rw [w64_id] <;> omega
 (refine sJ @w3 ?_; try with_reducible exact True.intro)
 (intros; try refine go_st ?_); refine go_c ?_; (refine sI ?_; try with_reducible exact True.intro)
 refine gb (fun k1 => ?_) (fun k1 => ?_)
 · exact hb5 _ _ _ fun h => by have := of_decide_eq_true k1; have := h.2.2.1.2.2.2; omega
 have k1 := of_decide_eq_false k1
 (repeat first | refine go_skip ?_ | refine go_b ?_)
 have hrest : ∀ (e : Env), (x.pid = -1 → x.gen = 0 ∧ x.seq = 0 ∧ x.txn = false ∧ x.ctl = 0) → (-1 ≤ x.pid ∧ x.pid ≤ 1099511627776) → e 3 = .int .i64 (x.last - x.base) →
     go none Try.prog 165 v78.1 v78.2 (retQ o78 fun v h => v = .bool (decide (Form x))) [Td.s (((SC.reg false c78r8).seq (SC.cond (O.t 108) ((SC.reg false c78r9).seq SC.ret) SC.skip)).seq ((SC.reg false c78r10).seq (((SC.reg false c78r11).seq (SC.blk 0 ((SC.reg false c78r12).seq ((SC.cond (O.t 143) SC.skip (SC.exit 0)).seq ((SC.blk 1 ((SC.reg false c78r13).seq (((SC.reg false c78r14).seq (SC.cond (O.t 161) ((SC.reg false c78r15).seq SC.ret) SC.skip)).seq (SC.reg false c78r16)))).seq (SC.reg false c78r17)))).loop)).seq ((SC.reg false c78r18).seq SC.ret))))] e ⟨G, [.reg 1 [.int .i64 x.base, .int .i64 x.last, .int .i64 x.src, .int .i64 x.epoch, .int .i64 x.pid, .int .i64 x.gen, .int .i64 x.seq, .bool x.txn, .int .i64 x.ctl, .slice A x.recs.length c]], []⟩ := fun e hpid hpr e3 => by
   refine go_keep [3] ?_
   (refine sJ @e3 ?_; try with_reducible exact True.intro)
   have hmk : ((x.ctl = 0 ∧ rowF x.last x.base x.recs = true) ∨ ((x.ctl = 1 ∨ x.ctl = 2) ∧ x.last - x.base = 0 ∧ x.recs = [] ∧ x.txn = true)) → Form x := fun h => ⟨⟨rng_i h1, rng_i h2, rng_i h3⟩, ⟨rng_i h7, rng_i h8, rng_i h9⟩, ⟨by omega, by omega, by omega, by omega⟩, hpr, hpid, h⟩
   (intros; try refine go_st ?_); refine go_r 107 108 (by decide) ?_; (refine sJ c78r8.eq_1 ?_; try with_reducible exact True.intro)
   (intros; try refine go_st ?_); refine go_c ?_; (refine sI ?_; try with_reducible exact True.intro)
   refine gb (fun k2 => ?_) (fun k2 => ?_)
   · have k2 := of_decide_eq_true k2
     have hnf : ∀ (_ : ¬ ((x.ctl = 1 ∨ x.ctl = 2) ∧ x.last - x.base = 0 ∧ x.recs = [] ∧ x.txn = true)), decide (Form x) = false := fun hn => decide_eq_false fun h => by
       rcases h.2.2.2.2.2 with h9 | h9
       · exact k2 h9.1
       · exact hn h9
     have hp0 : 0 ≤ x.pid := by
       by_cases hp : x.pid = -1
       · exact absurd (hpid hp).2.2.2 k2
       · omega
     (intros; try refine go_st ?_); refine go_r 110 136 (by decide) ?_; (refine sJ c78r9.eq_1 ?_; try with_reducible exact True.intro)
     have hfin : ∀ (l : List SI), True := fun _ => trivial
     refine gd (fun k3 => ?_) (fun k3 => ?_)
     · have k3 := of_decide_eq_true k3
       (refine sI ?_; try with_reducible exact True.intro)
       refine gd (fun a1 => ?_) (fun a1 => ?_)
       · have a1 := of_decide_eq_true a1
         (refine sI ?_; try with_reducible exact True.intro)
         refine gd (fun a2 => ?_) (fun a2 => ?_)
         · have a2 : x.recs = [] := by have := of_decide_eq_true a2; exact List.eq_nil_of_length_eq_zero (by omega)
           (refine sI ?_; try with_reducible exact True.intro)
           refine gd (fun a3 => ?_) (fun a3 => ?_)
           · (refine sI ?_; try with_reducible exact True.intro)
             (intros; try refine go_st ?_)
             refine go_ret (retQ_v rfl ?_); simp only [push_cast, Nat.reduceBEq]
             rw [decide_eq_true hp0, decide_eq_true (hmk (.inr ⟨.inl k3, a1, a2, a3⟩))]
           · (refine sI ?_; try with_reducible exact True.intro)
             (intros; try refine go_st ?_)
             refine go_ret (retQ_v rfl ?_); simp only [push_cast, Nat.reduceBEq]
             rw [hnf fun h => by rw [a3] at h; cases h.2.2.2]
         · have a2 := of_decide_eq_false a2
           (refine sI ?_; try with_reducible exact True.intro)
           (intros; try refine go_st ?_)
           refine go_ret (retQ_v rfl ?_); simp only [push_cast, Nat.reduceBEq]
           rw [hnf fun h => a2 (by rw [h.2.2.1]; rfl)]
       · have a1 := of_decide_eq_false a1
         (refine sI ?_; try with_reducible exact True.intro)
         (intros; try refine go_st ?_)
         refine go_ret (retQ_v rfl ?_); simp only [push_cast, Nat.reduceBEq]
         rw [hnf fun h => a1 h.2.1]
     · have k3 := of_decide_eq_false k3
       (refine sI ?_; try with_reducible exact True.intro)
       refine gd (fun k4 => ?_) (fun k4 => ?_)
       · have k4 := of_decide_eq_true k4
         (refine sI ?_; try with_reducible exact True.intro)
         refine gd (fun a1 => ?_) (fun a1 => ?_)
         · have a1 := of_decide_eq_true a1
           (refine sI ?_; try with_reducible exact True.intro)
           refine gd (fun a2 => ?_) (fun a2 => ?_)
           · have a2 : x.recs = [] := by have := of_decide_eq_true a2; exact List.eq_nil_of_length_eq_zero (by omega)
             (refine sI ?_; try with_reducible exact True.intro)
             refine gd (fun a3 => ?_) (fun a3 => ?_)
             · (refine sI ?_; try with_reducible exact True.intro)
               (intros; try refine go_st ?_)
               refine go_ret (retQ_v rfl ?_); simp only [push_cast, Nat.reduceBEq]
               rw [decide_eq_true hp0, decide_eq_true (hmk (.inr ⟨.inr k4, a1, a2, a3⟩))]
             · (refine sI ?_; try with_reducible exact True.intro)
               (intros; try refine go_st ?_)
               refine go_ret (retQ_v rfl ?_); simp only [push_cast, Nat.reduceBEq]
               rw [hnf fun h => by rw [a3] at h; cases h.2.2.2]
           · have a2 := of_decide_eq_false a2
             (refine sI ?_; try with_reducible exact True.intro)
             (intros; try refine go_st ?_)
             refine go_ret (retQ_v rfl ?_); simp only [push_cast, Nat.reduceBEq]
             rw [hnf fun h => a2 (by rw [h.2.2.1]; rfl)]
         · have a1 := of_decide_eq_false a1
           (refine sI ?_; try with_reducible exact True.intro)
           (intros; try refine go_st ?_)
           refine go_ret (retQ_v rfl ?_); simp only [push_cast, Nat.reduceBEq]
           rw [hnf fun h => a1 h.2.1]
       · have k4 := of_decide_eq_false k4
         (refine sI ?_; try with_reducible exact True.intro)
         (intros; try refine go_st ?_)
         refine go_ret (retQ_v rfl ?_); simp only [push_cast, Nat.reduceBEq]
         rw [hnf fun h => by rcases h.1 with h | h; exact k3 h; exact k4 h]
   · have k2 : x.ctl = 0 := by simpa using k2
     have w4 : IntKind.i64.wrap (x.base - 1) = x.base - 1 := by rw [w64_id] <;> omega
     (repeat first | refine go_skip ?_ | refine go_b ?_)
     (intros; try refine go_st ?_); refine go_r 137 139 (by decide) ?_; (refine sJ2 c78r10.eq_1 @w4 ?_; try with_reducible exact True.intro)
     (intros; try refine go_st ?_); refine go_r 0 0 (by decide) ?_; (refine sJ c78r11.eq_1 ?_; try with_reducible exact True.intro)
     (intros; try refine go_st ?_)
     refine go_loop (fun e h => ∃ (k : Nat) (nx : Int), (k ≤ x.recs.length ∧ rowF x.last x.base x.recs = rowF x.last nx (x.recs.drop k)) ∧ e 142 = .int .i64 k ∧ e 141 = .int .i64 x.recs.length ∧ e 140 = .slice A x.recs.length c ∧ e 4 = .int .i64 (nx - 1) ∧ h.G = G ∧ h.D = [] ∧ [.reg 1 [.int .i64 x.base, .int .i64 x.last, .int .i64 x.src, .int .i64 x.epoch, .int .i64 x.pid, .int .i64 x.gen, .int .i64 x.seq, .bool x.txn, .int .i64 x.ctl, .slice A x.recs.length c]].Sublist h.L) (fun e h => x.recs.length - iv (e 142)) ?_ ?_
     · exact ⟨0, x.base, ⟨Nat.zero_le _, rfl⟩, eE, eE, eE, eE, rfl, rfl, List.Sublist.refl _⟩
     · rintro e ⟨G', L, D⟩ ⟨k, nx, ⟨hk, hrow⟩, e142, e141, e140, e4, hG, hD, hL⟩
       dsimp only at hG hD hL
       subst hG hD
       refine go_ghost (ghost_sub hL) ?_
       refine go_keep [4, 140, 141, 142] ?_
       (refine sJ4 @e4 @e140 @e141 @e142 ?_; try with_reducible exact True.intro)
       (intros; try refine go_st ?_); refine go_r 0 0 (by decide) ?_; (refine sJ c78r12.eq_1 ?_; try with_reducible exact True.intro)
       (intros; try refine go_st ?_); refine go_c ?_; (refine sI ?_; try with_reducible exact True.intro)
       refine gb (fun ht => ?_) (fun ht => ?_)
       · have hkl : k < x.recs.length := by simpa using ht
         have hw3 := inc_i k c (by omega) hm
         obtain ⟨r, hr⟩ : ∃ r, x.recs[k]? = some r := ⟨x.recs[k], List.getElem?_eq_getElem (by omega)⟩
         have hdr : x.recs.drop k = r :: x.recs.drop (k + 1) := by
           have := List.getElem?_eq_some_iff.1 hr
           rw [List.drop_eq_getElem_cons hkl, this.2]
         rw [hdr] at hrow
         simp only [rowF] at hrow
         have hno : rowF x.last x.base x.recs = false → ¬ Form x := fun h h' => by
           rcases h'.2.2.2.2.2 with h9 | h9
           · rw [h] at h9; cases h9.2
           · omega
         (intros; try refine go_st ?_); refine go_r 144 146 (by decide) ?_; (refine sJ c78r13.eq_1 ?_; try with_reducible exact True.intro)
         refine hA.x_ld hr rfl rfl ?_
         rintro a1 ha1 cs ⟨rfl, ⟨j1, j2⟩, j3, j4⟩
         unfold cellR
         (refine sI ?_; try with_reducible exact True.intro)
         have hck := RCheck_ok r
         unfold cellR at hck
         (intros; try refine go_st ?_); refine go_r 146 161 (by decide) ?_; (refine sJ c78r14.eq_1 ?_; try with_reducible exact True.intro)
         refine (hck G' _ _).mono ?_; rintro _ _ ⟨rfl, rfl⟩; (refine sI ?_; try with_reducible exact True.intro)
         refine gd (fun k3 => ?_) (fun k3 => ?_)
         · (refine sI ?_; try with_reducible exact True.intro)
           (intros; try refine go_st ?_); refine go_c ?_; (refine sI ?_; try with_reducible exact True.intro)
           exact hb15 _ _ _ (hno (by rw [hrow]; simp at k3; simp [k3]))
         have k3 : chkR r = 0 := by simpa using k3
         (refine sI ?_; try with_reducible exact True.intro)
         refine gd (fun k4 => ?_) (fun k4 => ?_)
         · (refine sI ?_; try with_reducible exact True.intro)
           (intros; try refine go_st ?_); refine go_c ?_; (refine sI ?_; try with_reducible exact True.intro)
           exact hb15 _ _ _ (hno (by rw [hrow]; have := of_decide_eq_true k4; simp; omega))
         have k4 := of_decide_eq_false k4
         (refine sI ?_; try with_reducible exact True.intro)
         (intros; try refine go_st ?_); refine go_c ?_; (refine sI ?_; try with_reducible exact True.intro)
         refine gb (fun k5 => ?_) (fun k5 => ?_)
         · exact hb15 _ _ _ (hno (by rw [hrow]; have := of_decide_eq_true k5; simp; omega))
         have k5 := of_decide_eq_false k5
         have hoff : r.off = r.off + 1 - 1 := by omega
         (repeat first | refine go_skip ?_ | refine go_b ?_)
         (intros; try refine go_st ?_); refine go_r 163 164 (by decide) ?_; (refine sJ c78r16.eq_1 ?_; try with_reducible exact True.intro)
         (intros; try refine go_st ?_); refine go_r 164 165 (by decide) ?_; (refine sJ2 c78r17.eq_1 @hw3 ?_; try with_reducible exact True.intro)
         (intros; try refine go_st ?_)
         refine go_l ⟨⟨k + 1, r.off + 1, ⟨by omega, by rw [hrow]; simp [k3]; omega⟩, eE, eE, eE, by rw [← hoff]; (refine sI ?_; try with_reducible exact True.intro), rfl, rfl, .cons _ (List.Sublist.refl _)⟩, ?_⟩
         (refine sI ?_; try with_reducible exact True.intro)
         omega
       · have hkl : k = x.recs.length := by simp at ht; omega
         subst hkl
         refine go_exit ?_
         (refine sI ?_; try with_reducible exact True.intro)
         (intros; try refine go_st ?_); refine go_r 0 0 (by decide) ?_; (refine sJ c78r18.eq_1 ?_; try with_reducible exact True.intro)
         (intros; try refine go_st ?_)
         refine go_ret (retQ_v rfl ?_); simp only [push_cast, Nat.reduceBEq]
         rw [List.drop_length] at hrow
         rw [decide_eq_true (hmk (.inl ⟨k2, hrow⟩))]
 (intros; try refine go_st ?_); refine go_r 74 105 (by decide) ?_; (refine sJ c78r6.eq_1 ?_; try with_reducible exact True.intro)
 refine gd (fun q1 => ?_) (fun q1 => ?_)
 · have q1 := of_decide_eq_true q1
   (refine sI ?_; try with_reducible exact True.intro)
   refine gd (fun q2 => ?_) (fun q2 => ?_)
   · (refine sI ?_; try with_reducible exact True.intro)
     (intros; try refine go_st ?_); refine go_c ?_; (refine sI ?_; try with_reducible exact True.intro)
     exact hb7 _ _ _ fun h => by have := of_decide_eq_true q2; exact this (h.2.2.2.2.1 q1).1
   have q2 := of_decide_eq_false q2
   (refine sI ?_; try with_reducible exact True.intro)
   refine gd (fun q3 => ?_) (fun q3 => ?_)
   · (refine sI ?_; try with_reducible exact True.intro)
     (intros; try refine go_st ?_); refine go_c ?_; (refine sI ?_; try with_reducible exact True.intro)
     exact hb7 _ _ _ fun h => by have := of_decide_eq_true q3; exact this (h.2.2.2.2.1 q1).2.1
   have q3 := of_decide_eq_false q3
   (refine sI ?_; try with_reducible exact True.intro)
   refine gd (fun q4 => ?_) (fun q4 => ?_)
   · (refine sI ?_; try with_reducible exact True.intro)
     (intros; try refine go_st ?_); refine go_c ?_; (refine sI ?_; try with_reducible exact True.intro)
     exact hb7 _ _ _ fun h => by have := (h.2.2.2.2.1 q1).2.2.1; rw [q4] at this; cases this
   (refine sI ?_; try with_reducible exact True.intro)
   refine gd (fun q5 => ?_) (fun q5 => ?_)
   · (refine sI ?_; try with_reducible exact True.intro)
     (intros; try refine go_st ?_); refine go_c ?_; (refine sI ?_; try with_reducible exact True.intro)
     exact hb7 _ _ _ fun h => by have := of_decide_eq_true q5; exact this (h.2.2.2.2.1 q1).2.2.2
   have q5 := of_decide_eq_false q5
   (refine sI ?_; try with_reducible exact True.intro)
   refine gd (fun q6 => ?_) (fun q6 => ?_)
   · exact absurd q1 (of_decide_eq_true q6)
   (refine sI ?_; try with_reducible exact True.intro)
   (intros; try refine go_st ?_); refine go_c ?_; (refine sI ?_; try with_reducible exact True.intro)
   (repeat first | refine go_skip ?_ | refine go_b ?_)
   refine hrest _ (fun _ => ⟨by omega, by omega, q4, by omega⟩) (by omega) ?_
   (refine sI ?_; try with_reducible exact True.intro)
 · have q1 := of_decide_eq_false q1
   (refine sI ?_; try with_reducible exact True.intro)
   refine gd (fun q6 => ?_) (fun q6 => ?_)
   · (refine sI ?_; try with_reducible exact True.intro)
     refine (rin_ok x.pid _ G _ _).mono ?_; rintro _ _ ⟨rfl, rfl⟩; (refine sI ?_; try with_reducible exact True.intro)
     (intros; try refine go_st ?_); refine go_c ?_; (refine sI ?_; try with_reducible exact True.intro)
     refine gb (fun q7 => ?_) (fun q7 => ?_)
     · refine hb7 _ _ _ fun h => rng_f q7 (rng_i ?_)
       have := h.2.2.2.1
       omega
     have q7 := rng_t q7
     (repeat first | refine go_skip ?_ | refine go_b ?_)
     refine hrest _ (fun h => absurd h q1) (by omega) ?_
     (refine sI ?_; try with_reducible exact True.intro)
   · exact absurd (of_decide_eq_false q6) (by simpa using q1)
abbrev W32 := BitVec 32
def vW (v : W32) : Value := .int .u32 (v.toNat : Int)
def poly : W32 := 3988292384#32
def stp (v : W32) : W32 := (v >>> 1) ^^^ (if v.getLsbD 0 = true then poly else 0#32)
def stpN : Nat → W32 → W32
 | 0, v => v
 | n + 1, v => stp (stpN n v)
theorem stp_xor (a b : W32) : stp (a ^^^ b) = stp a ^^^ stp b := by
 unfold stp
 rw [BitVec.ushiftRight_xor_distrib, BitVec.getLsbD_xor]
 generalize a >>> 1 = x
 generalize b >>> 1 = y
 cases a.getLsbD 0 <;> cases b.getLsbD 0 <;> simp
 · rw [BitVec.xor_assoc]
 · rw [BitVec.xor_assoc, BitVec.xor_assoc, BitVec.xor_comm poly y]
 · rw [BitVec.xor_assoc, BitVec.xor_comm poly (y ^^^ poly), BitVec.xor_assoc, BitVec.xor_self, BitVec.xor_zero]
theorem stpN_xor (a b : W32) : ∀ n, stpN n (a ^^^ b) = stpN n a ^^^ stpN n b
 | 0 => rfl
 | n + 1 => by rw [stpN, stpN_xor a b n, stp_xor]; rfl
theorem stp_even {v : W32} (h : v.getLsbD 0 = false) : stp v = v >>> 1 := by rw [stp, if_neg (by rw [h]; simp), BitVec.xor_zero]
theorem stpN_low {v : W32} : ∀ n, (∀ i, i < n → v.getLsbD i = false) → stpN n v = v >>> n
 | 0, _ => by simp [stpN]
 | n + 1, h => by
   rw [stpN, stpN_low n fun i hi => h i (by omega), stp_even (by rw [BitVec.getLsbD_ushiftRight]; exact h _ (by omega))]
   rw [BitVec.shiftRight_add]
theorem stp_four (v : W32) : stpN 4 v = stpN 4 (v &&& 15#32) ^^^ (v >>> 4) := by
 have h1 : v = (v &&& 15#32) ^^^ (v &&& ~~~15#32) := by
   apply BitVec.eq_of_getLsbD_eq
   intro i hi
   simp only [BitVec.getLsbD_xor, BitVec.getLsbD_and, BitVec.getLsbD_not]
   cases v.getLsbD i <;> cases (15#32).getLsbD i <;> simp [hi]
 have h2 : stpN 4 (v &&& ~~~15#32) = v >>> 4 := by
   rw [stpN_low 4]
   · apply BitVec.eq_of_getLsbD_eq
     intro i hi
     simp only [BitVec.getLsbD_ushiftRight, BitVec.getLsbD_and, BitVec.getLsbD_not]
     by_cases h : 4 + i < 32
     · have : (15#32).getLsbD (4 + i) = false := by
         rw [BitVec.getLsbD_ofNat]
         have : Nat.testBit 15 (4 + i) = false := Nat.testBit_lt_two_pow (Nat.lt_of_lt_of_le (by decide : 15 < 2 ^ 4) (Nat.pow_le_pow_right (by decide) (by omega)))
         simp [this]
       rw [this]
       simp only [h, decide_true, Bool.not_false, Bool.and_true]
     · rw [BitVec.getLsbD_of_ge v (4 + i) (by omega)]
       simp
   · intro i hi
     have : (15#32).getLsbD i = true := by
       match i, hi with
       | 0, _ => rfl
       | 1, _ => rfl
       | 2, _ => rfl
       | 3, _ => rfl
     rw [BitVec.getLsbD_and, BitVec.getLsbD_not, this]
     simp
 conv => lhs; rw [h1, stpN_xor, h2]
theorem stpN_add (v : W32) : ∀ m n, stpN (m + n) v = stpN m (stpN n v)
 | 0, n => by rw [Nat.zero_add]; rfl
 | m + 1, n => by rw [Nat.succ_add, stpN, stpN_add v m n]; rfl
def ofB (b : UInt8) : W32 := BitVec.ofNat 32 b.toNat
def upd (v : W32) (c : UInt8) : W32 := stpN 8 (v ^^^ ofB c)
def half4 (v : W32) : W32 := stpN 4 (v &&& 15#32) ^^^ (v >>> 4)
theorem upd_eq (v : W32) (c : UInt8) : upd v c = half4 (half4 (v ^^^ ofB c)) := by
 rw [half4, ← stp_four, half4, ← stp_four, ← stpN_add]
 rfl
def crcB (l : List UInt8) : W32 := ~~~ (l.foldl upd 4294967295#32)
theorem ofW (a : W32) : BitVec.ofInt 32 (a.toNat : Int) = a := by
 rw [BitVec.ofInt_natCast, BitVec.ofNat_toNat]
 simp
theorem wrapW (a : W32) : IntKind.u32.wrap (a.toNat : Int) = (a.toNat : Int) := by
 have := a.isLt
 simp only [IntKind.wrap, IntKind.bits, IntKind.signed]
 simp
 omega
theorem bin_xorW (a b : W32) : binV .xor (vW a) (vW b) = some (vW (a ^^^ b)) := by
 simp only [binV, vW]
 rw [if_pos trivial]
 have : (BitVec.ofInt IntKind.u32.bits (a.toNat : Int) ^^^ BitVec.ofInt IntKind.u32.bits (b.toNat : Int)).toNat = (a ^^^ b).toNat := by
   show (BitVec.ofInt 32 (a.toNat : Int) ^^^ BitVec.ofInt 32 (b.toNat : Int)).toNat = _
   rw [ofW, ofW]
 rw [this, wrapW]
theorem bin_andW (a b : W32) : binV .and (vW a) (vW b) = some (vW (a &&& b)) := by
 simp only [binV, vW]
 rw [if_pos trivial]
 have : (BitVec.ofInt IntKind.u32.bits (a.toNat : Int) &&& BitVec.ofInt IntKind.u32.bits (b.toNat : Int)).toNat = (a &&& b).toNat := by
   show (BitVec.ofInt 32 (a.toNat : Int) &&& BitVec.ofInt 32 (b.toNat : Int)).toNat = _
   rw [ofW, ofW]
 rw [this, wrapW]
theorem bin_shrW (a : W32) (k : Nat) (hk : k ≤ 32) : binV .shr (vW a) (.int .u64 (k : Int)) = some (vW (a >>> k)) := by
 simp only [binV, vW]
 rw [if_pos (by omega)]
 congr 2
 have h1 : min ((k : Int)).toNat IntKind.u32.bits = k := by simp [IntKind.bits]; omega
 rw [h1, BitVec.toNat_ushiftRight, Nat.shiftRight_eq_div_pow]
 rw [Int.fdiv_eq_ediv_of_nonneg _ (by exact_mod_cast Nat.zero_le _)]
 exact_mod_cast rfl
theorem u8_32 (c : UInt8) : Value.int .u32 (IntKind.u32.wrap (c.toNat : Int)) = vW (ofB c) := by
 have h := c.toNat_lt
 have h2 : (ofB c).toNat = c.toNat := by simp [ofB]
 have := wrapW (ofB c)
 rw [h2] at this
 rw [vW, h2, this]
theorem F113 : Fun Try.prog 113 14 v113 c113 o113 := Fun.mk' Try.func113 Try.ntmps113 (by kernel_rfl) (by kernel_rfl) s113 q113
theorem F115 : Fun Try.prog 115 11 v115 c115 o115 := Fun.mk' Try.func115 Try.ntmps115 (by kernel_rfl) (by kernel_rfl) s115 q115
theorem F110 : Fun Try.prog 110 14 v110 c110 o110 := Fun.mk' Try.func110 Try.ntmps110 (by kernel_rfl) (by kernel_rfl) s110 q110
theorem bit0 (v : W32) : v.getLsbD 0 = true ↔ v.toNat % 2 = 1 := by
 rw [BitVec.getLsbD, Nat.testBit_zero]
 simp
theorem bin_quoW2 (v : W32) : binV .quo (vW v) (.int .u32 2) = some (vW (v >>> 1)) := by
 have h := v.isLt
 refine (bin_quo .u32 v.toNat 2 (by decide) (by simp [IntKind.max, IntKind.signed, IntKind.bits]; omega) rfl).trans ?_
 rw [vW, BitVec.toNat_ushiftRight, Nat.shiftRight_eq_div_pow]
theorem bin_remW2 (v : W32) : binV .rem (vW v) (.int .u32 2) = some (.int .u32 ((v.toNat % 2 : Nat) : Int)) := bin_rem .u32 v.toNat 2 (by decide)
theorem bin_xorP (v : W32) : binV .xor (vW v) (.int .u32 3988292384) = some (vW (v ^^^ poly)) := bin_xorW v poly
theorem bin_eql1 (n : Nat) : binV .eql (.int .u32 (n : Int)) (.int .u32 1) = some (.bool (decide (n = 1))) := by
 simp only [binV]
 rw [if_pos trivial]
 congr 2
 simp
 omega
theorem step_ok (v : W32) (G : Nat → Option Obj) : FnS Try.prog 115 #[vW v] G (vW (stp v)) := by
 refine F115.fnS (by simp) (go_of ?_)
 unfold c115
 (intros; try refine go_st ?_); refine go_r 0 0 (by decide) ?_; (refine sJ c115r0.eq_1 ?_; try with_reducible exact True.intro)
 have hr := bin_remW2 v
 generalize hn : v.toNat % 2 = n at hr
 (intros; try refine go_st ?_); refine go_r 3 5 (by decide) ?_; (refine sJ3 c115r1.eq_1 @hr @bin_eql1 ?_; try with_reducible exact True.intro)
 (intros; try refine go_st ?_); refine go_c ?_; (refine sI ?_; try with_reducible exact True.intro)
 refine gb (fun h1 => ?_) (fun h1 => ?_)
 · (intros; try refine go_st ?_); refine go_r 6 9 (by decide) ?_; (refine sJ3 c115r2.eq_1 @bin_quoW2 @bin_xorP ?_; try with_reducible exact True.intro)
   (intros; try refine go_st ?_)
   refine go_ret (retQ_v rfl ?_); simp only [push_cast, Nat.reduceBEq]
   rw [stp, if_pos ((bit0 v).2 (by rw [hn]; simpa using h1))]
 · (repeat first | refine go_skip ?_ | refine go_b ?_)
   (intros; try refine go_st ?_); refine go_r 9 11 (by decide) ?_; (refine sJ2 c115r3.eq_1 @bin_quoW2 ?_; try with_reducible exact True.intro)
   (intros; try refine go_st ?_)
   refine go_ret (retQ_v rfl ?_); simp only [push_cast, Nat.reduceBEq]
   rw [stp, if_neg (fun h => by have := (bit0 v).1 h; rw [hn] at this; simp [this] at h1), BitVec.xor_zero]
theorem steps_ok (v : W32) (n : Nat) (hn : n ≤ 1000) (G : Nat → Option Obj) : FnS Try.prog 110 #[vW v, .int .i64 (n : Int)] G (vW (stpN n v)) := by
 refine F110.fnS (by simp) (go_of ?_)
 unfold c110
 (intros; try refine go_st ?_); refine go_r 0 0 (by decide) ?_; (refine sJ c110r0.eq_1 ?_; try with_reducible exact True.intro)
 (intros; try refine go_st ?_); refine go_r 0 0 (by decide) ?_; (refine sJ c110r1.eq_1 ?_; try with_reducible exact True.intro)
 (intros; try refine go_st ?_)
 refine go_loop (fun e h => ∃ k : Nat, k ≤ n ∧ e 5 = .int .i64 k ∧ e 1 = .int .i64 n ∧ e 0 = vW (stpN k v) ∧ h = ⟨G, [], []⟩) (fun e h => n - iv (e 5)) ?_ ?_
 · exact ⟨0, Nat.zero_le _, eE, eE, by (refine sI ?_; try with_reducible exact True.intro); rfl, rfl⟩
 · rintro e h ⟨k, hk, e5, e1, e0, rfl⟩
   refine go_keep [0, 1, 5] ?_
   (refine sJ3 @e0 @e1 @e5 ?_; try with_reducible exact True.intro)
   (intros; try refine go_st ?_); refine go_r 6 8 (by decide) ?_; (refine sJ c110r2.eq_1 ?_; try with_reducible exact True.intro)
   (intros; try refine go_st ?_); refine go_c ?_; (refine sI ?_; try with_reducible exact True.intro)
   refine gb (fun h1 => ?_) (fun h1 => ?_)
   · have hkn : k < n := by simpa using h1
     have hw3 := inc_i k n (by omega) (by unfold maxLen; omega)
     (intros; try refine go_st ?_); refine go_r 11 13 (by decide) ?_; (refine sJ c110r3.eq_1 ?_; try with_reducible exact True.intro)
     refine (step_ok (stpN k v) G _ _).mono ?_; rintro _ _ ⟨rfl, rfl⟩; (refine sI ?_; try with_reducible exact True.intro)
     (intros; try refine go_st ?_); refine go_r 9 11 (by decide) ?_; (refine sJ2 c110r4.eq_1 @hw3 ?_; try with_reducible exact True.intro)
     (intros; try refine go_st ?_)
     refine go_l ⟨⟨k + 1, by omega, eE, eE, by (refine sI ?_; try with_reducible exact True.intro); rfl, rfl⟩, ?_⟩
     (refine sI ?_; try with_reducible exact True.intro)
     omega
   · have hkn : k = n := by simp at h1; omega
     subst hkn
     refine go_exit ?_
     (refine sI ?_; try with_reducible exact True.intro)
     (intros; try refine go_st ?_); refine go_r 13 14 (by decide) ?_; (refine sJ c110r5.eq_1 ?_; try with_reducible exact True.intro)
     (intros; try refine go_st ?_)
     refine go_ret (retQ_v rfl ?_); simp only [push_cast, Nat.reduceBEq]
theorem F102 : Fun Try.prog 102 13 v102 c102 o102 := Fun.mk' Try.func102 Try.ntmps102 (by kernel_rfl) (by kernel_rfl) s102 q102
theorem F114 : Fun Try.prog 114 24 v114 c114 o114 := Fun.mk' Try.func114 Try.ntmps114 (by kernel_rfl) (by kernel_rfl) s114 q114
theorem F84 : Fun Try.prog 84 21 v84 c84 o84 := Fun.mk' Try.func84 Try.ntmps84 (by kernel_rfl) (by kernel_rfl) s84 q84
theorem F89 : Fun Try.prog 89 21 v89 c89 o89 := Fun.mk' Try.func89 Try.ntmps89 (by kernel_rfl) (by kernel_rfl) s89 q89
theorem bin_and1 (v : W32) : binV .and (vW v) (.int .u32 1) = some (vW (v &&& 1#32)) := bin_andW v 1#32
theorem bin_and15 (v : W32) : binV .and (vW v) (.int .u32 15) = some (vW (v &&& 15#32)) := bin_andW v 15#32
theorem bin_Pand (v : W32) : binV .and (.int .u32 3988292384) (vW v) = some (vW (poly &&& v)) := bin_andW poly v
theorem bin_shr1 (v : W32) : binV .shr (vW v) (.int .u64 1) = some (vW (v >>> 1)) := bin_shrW v 1 (by omega)
theorem bin_shr4 (v : W32) : binV .shr (vW v) (.int .u64 4) = some (vW (v >>> 4)) := bin_shrW v 4 (by omega)
theorem un_negW (v : W32) : unV .neg (vW v) = some (vW (-v)) := by
 have := v.isLt
 simp only [unV, vW]
 congr 2
 rw [BitVec.toNat_neg]
 simp only [IntKind.wrap, IntKind.bits, IntKind.signed]
 simp
 omega
theorem un_notW (v : W32) : unV .xor (vW v) = some (vW (~~~v)) := by
 simp only [unV, vW]
 have : (BitVec.ofInt IntKind.u32.bits (if IntKind.u32.signed = true then -1 else IntKind.u32.max) ^^^ BitVec.ofInt IntKind.u32.bits (v.toNat : Int)).toNat = (~~~v).toNat := by
   show (BitVec.ofInt 32 4294967295 ^^^ BitVec.ofInt 32 (v.toNat : Int)).toNat = _
   have h1 : BitVec.ofInt 32 4294967295 = BitVec.allOnes 32 := by decide
   rw [ofW, h1, BitVec.allOnes_xor]
 rw [this, wrapW]
theorem bin_notW (v : W32) : binV .xor (vW v) (.int .u32 4294967295) = some (vW (~~~v)) := by
 have h := bin_xorW v 4294967295#32
 have h1 : (4294967295#32 : W32) = BitVec.allOnes 32 := by decide
 rw [h1, BitVec.xor_allOnes] at h
 exact h
theorem stp_and (v : W32) : (v >>> 1) ^^^ (poly &&& -(v &&& 1#32)) = stp v := by
 have h1 : v &&& 1#32 = if v.getLsbD 0 = true then 1#32 else 0#32 := by
   apply BitVec.eq_of_toNat_eq
   rw [BitVec.toNat_and]
   have : (1#32).toNat = 1 := rfl
   rw [this, Nat.and_one_is_mod]
   by_cases h : v.getLsbD 0 = true
   · rw [if_pos h, (bit0 v).1 h]; rfl
   · rw [if_neg h]
     have h3 : ¬ v.toNat % 2 = 1 := fun h9 => h ((bit0 v).2 h9)
     have h2 : v.toNat % 2 = 0 := by omega
     rw [h2]
     rfl
 rw [h1, stp]
 by_cases h : v.getLsbD 0 = true
 · rw [if_pos h, if_pos h]
   have : poly &&& -1#32 = poly := by decide
   rw [this]
 · rw [if_neg h, if_neg h]
   have : poly &&& -0#32 = 0#32 := by decide
   rw [this]
theorem half_ok (v : W32) (G : Nat → Option Obj) : FnS Try.prog 113 #[vW v] G (vW (stpN 4 v)) := by
 refine F113.fnS (by simp) (go_of ?_)
 unfold c113
 (intros; try refine go_st ?_); refine go_r 0 0 (by decide) ?_; (refine sJ c113r0.eq_1 ?_; try with_reducible exact True.intro)
 (intros; try refine go_st ?_); refine go_r 0 0 (by decide) ?_; (refine sJ c113r1.eq_1 ?_; try with_reducible exact True.intro)
 (intros; try refine go_st ?_)
 refine go_loop (fun e h => ∃ k : Nat, k ≤ 4 ∧ e 3 = .int .i64 k ∧ e 0 = vW (stpN k v) ∧ h = ⟨G, [], []⟩) (fun e h => 4 - iv (e 3)) ?_ ?_
 · exact ⟨0, Nat.zero_le _, eE, by (refine sI ?_; try with_reducible exact True.intro); rfl, rfl⟩
 · rintro e h ⟨k, hk, e3, e0, rfl⟩
   refine go_keep [0, 3] ?_
   (refine sJ2 @e0 @e3 ?_; try with_reducible exact True.intro)
   (intros; try refine go_st ?_); refine go_r 0 0 (by decide) ?_; (refine sJ c113r2.eq_1 ?_; try with_reducible exact True.intro)
   (intros; try refine go_st ?_); refine go_c ?_; (refine sI ?_; try with_reducible exact True.intro)
   refine gb (fun h1 => ?_) (fun h1 => ?_)
   · have hkn : k < 4 := by simp at h1; omega
     have hw3 := inc_i k 4 (by omega) (by unfold maxLen; omega)
     (intros; try refine go_st ?_); refine go_r 5 12 (by decide) ?_; (refine sJ7 c113r3.eq_1 @bin_shr1 @bin_and1 @un_negW @bin_Pand @bin_xorW @stp_and ?_; try with_reducible exact True.intro)
     (intros; try refine go_st ?_); refine go_r 12 13 (by decide) ?_; (refine sJ2 c113r4.eq_1 @hw3 ?_; try with_reducible exact True.intro)
     (intros; try refine go_st ?_)
     refine go_l ⟨⟨k + 1, by omega, eE, by (refine sI ?_; try with_reducible exact True.intro); rfl, rfl⟩, ?_⟩
     (refine sI ?_; try with_reducible exact True.intro)
     omega
   · have hkn : k = 4 := by simp at h1; omega
     subst hkn
     refine go_exit ?_
     (refine sI ?_; try with_reducible exact True.intro)
     (intros; try refine go_st ?_); refine go_r 13 14 (by decide) ?_; (refine sJ c113r5.eq_1 ?_; try with_reducible exact True.intro)
     (intros; try refine go_st ?_)
     refine go_ret (retQ_v rfl ?_); simp only [push_cast, Nat.reduceBEq]
def TabAt (G : Nat → Option Obj) (v : Value) : Prop := ∃ b, v = .pointer (some ⟨b, 0, none⟩) ∧ ∀ i : Nat, i < 16 → cellG G ⟨b, i, none⟩ = some (vW (stpN 4 (BitVec.ofNat 32 i)))
theorem TabAt.le {G G' : Nat → Option Obj} {v : Value} (h : TabAt G v) (hg : Gle G G') : TabAt G' v := by
 obtain ⟨b, h1, h2⟩ := h
 exact ⟨b, h1, fun i hi => cellG_le hg (h2 i hi)⟩
theorem and15 (v : W32) : (v &&& 15#32).toNat < 16 ∧ BitVec.ofNat 32 (v &&& 15#32).toNat = v &&& 15#32 := by
 refine ⟨?_, by simp⟩
 rw [BitVec.toNat_and]
 exact Nat.lt_of_le_of_lt Nat.and_le_right (by decide)
theorem ix_W {b n : Nat} {v : W32} (h : v.toNat < n) : ixPV n 1 (.pointer (some ⟨b, 0, none⟩)) (vW v) = some (.pointer (some ⟨b, v.toNat, none⟩)) := by
 simp only [ixPV, vW]
 rw [if_pos ⟨by omega, by omega⟩]
 simp [add_off]
theorem add_ok (v : W32) (c : UInt8) (p : Value) (G : Nat → Option Obj) (hp : TabAt G p) : FnS Try.prog 114 #[vW v, .int .u8 (c.toNat : Int), p] G (vW (upd v c)) := by
 obtain ⟨b, rfl, ht⟩ := hp
 refine F114.fnS (by simp) (go_of ?_)
 unfold c114
 (intros; try refine go_st ?_); refine go_r 0 0 (by decide) ?_; (refine sJ c114r0.eq_1 ?_; try with_reducible exact True.intro)
 (intros; try refine go_st ?_); refine go_r 6 10 (by decide) ?_; (refine sJ3 c114r1.eq_1 @u8_32 @bin_xorW ?_; try with_reducible exact True.intro)
 rw [upd_eq]
 generalize v ^^^ ofB c = x
 obtain ⟨g1, g2⟩ := and15 x
 (intros; try refine go_st ?_); refine go_r 10 17 (by decide) ?_; (try simp -implicitDefEqProofs only [kR_e, kQ_e, push_cast, Nat.reduceBEq, Nat.reduceAdd, Nat.reduceSub, Nat.reduceMul, Nat.reduceLT, Nat.reduceLeDiff, Nat.reduceEqDiff, reduceIte, Bool.not_true, Bool.not_false, true_and, and_true, Option.map_some, Option.bind_some, Int.toNat_natCast, c114r2, bin_and15, ix_W g1])
 refine ⟨_, ⟨_, rfl, .g (ht _ g1)⟩, ?_⟩
 rw [g2]
 (refine sJ2 @bin_shr4 @bin_xorW ?_; try with_reducible exact True.intro)
 rw [← half4]
 generalize half4 x = y
 obtain ⟨k1, k2⟩ := and15 y
 (intros; try refine go_st ?_); refine go_r 17 24 (by decide) ?_; (try simp -implicitDefEqProofs only [kR_e, kQ_e, push_cast, Nat.reduceBEq, Nat.reduceAdd, Nat.reduceSub, Nat.reduceMul, Nat.reduceLT, Nat.reduceLeDiff, Nat.reduceEqDiff, reduceIte, Bool.not_true, Bool.not_false, true_and, and_true, Option.map_some, Option.bind_some, Int.toNat_natCast, c114r3, bin_and15, ix_W k1])
 refine ⟨_, ⟨_, rfl, .g (ht _ k1)⟩, ?_⟩
 rw [k2]
 (refine sJ2 @bin_shr4 @bin_xorW ?_; try with_reducible exact True.intro)
 (intros; try refine go_st ?_)
 refine go_ret (retQ_v rfl ?_); simp only [push_cast, Nat.reduceBEq]
 rfl
theorem splice1 {cs : List Value} {o : Nat} (x : Value) (h : o < cs.length) : splice cs o [x] = cs.set o x := by
 rw [splice, List.set_eq_take_append_cons_drop, if_pos h]
 simp
theorem adder_ok (G : Nat → Option Obj) : FnD Try.prog 102 #[] G (fun G' r => ∃ p, r = .func (.func 114) #[] #[p] ∧ TabAt G' p) := by
 refine F102.fnD (by simp) (go_of ?_)
 unfold c102
 (intros; try refine go_st ?_); refine go_r 0 0 (by decide) ?_; (refine sJ c102r0.eq_1 ?_; try with_reducible exact True.intro)
 (intros; try refine go_st ?_); refine go_r 0 0 (by decide) ?_; (refine sJ c102r1.eq_1 ?_; try with_reducible exact True.intro)
 intro b hb
 (refine sI ?_; try with_reducible exact True.intro)
 (intros; try refine go_st ?_); refine go_r 0 0 (by decide) ?_; (refine sJ c102r2.eq_1 ?_; try with_reducible exact True.intro)
 (intros; try refine go_st ?_)
 refine go_loop (fun e h => ∃ (k : Nat) (cs : List Value), (k ≤ 16 ∧ cs.length = 16 ∧ ∀ i, i < k → cs[i]? = some (vW (stpN 4 (BitVec.ofNat 32 i)))) ∧ e 3 = .int .i64 k ∧ e 1 = .pointer (some ⟨b, 0, none⟩) ∧ h = ⟨G, [.blk b cs], []⟩) (fun e h => 16 - iv (e 3)) ?_ ?_
 · exact ⟨0, _, ⟨Nat.zero_le _, rfl, fun i hi => by omega⟩, eE, eE, rfl⟩
 · rintro e h ⟨k, cs, ⟨hk, hl, ht⟩, e3, e1, rfl⟩
   refine go_keep [1, 3] ?_
   (refine sJ2 @e1 @e3 ?_; try with_reducible exact True.intro)
   (intros; try refine go_st ?_); refine go_r 0 0 (by decide) ?_; (refine sJ c102r3.eq_1 ?_; try with_reducible exact True.intro)
   (intros; try refine go_st ?_); refine go_c ?_; (refine sI ?_; try with_reducible exact True.intro)
   refine gb (fun h1 => ?_) (fun h1 => ?_)
   · have hkn : k < 16 := by simp at h1; omega
     have hw3 := inc_i k 16 (by omega) (by unfold maxLen; omega)
     have hkw : Value.int .u32 (IntKind.u32.wrap (k : Int)) = vW (BitVec.ofNat 32 k) := by
       have h2 : (BitVec.ofNat 32 k).toNat = k := by simp; omega
       have := wrapW (BitVec.ofNat 32 k)
       rw [h2] at this
       rw [vW, h2, this]
     (intros; try refine go_st ?_); refine go_r 5 6 (by decide) ?_; (refine sJ c102r4.eq_1 ?_; try with_reducible exact True.intro)
     (intros; try refine go_st ?_); refine go_r 6 11 (by decide) ?_; (refine sJ2 c102r5.eq_1 @hkw ?_; try with_reducible exact True.intro)
     refine (half_ok (BitVec.ofNat 32 k) G _ _).mono ?_; rintro _ _ ⟨rfl, rfl⟩; (refine sI ?_; try with_reducible exact True.intro)
     refine ⟨by omega, ?_⟩
     refine stX_blk (xs := [vW (stpN 4 (BitVec.ofNat 32 k))]) [] [] rfl (by simp; omega) ⟨rfl, rfl⟩ ?_
     rw [splice1 _ (by omega), show 0 + k * 1 = k by omega]
     (refine sI ?_; try with_reducible exact True.intro)
     (intros; try refine go_st ?_); refine go_r 11 12 (by decide) ?_; (refine sJ2 c102r6.eq_1 @hw3 ?_; try with_reducible exact True.intro)
     (intros; try refine go_st ?_)
     refine go_l ⟨⟨k + 1, _, ⟨by omega, by simp [hl], fun i hi => ?_⟩, eE, eE, rfl⟩, ?_⟩
     · rw [List.getElem?_set]
       by_cases hik : k = i
       · rw [if_pos hik, if_pos (by omega), ← hik]
       · rw [if_neg hik]; exact ht i (by omega)
     · (refine sI ?_; try with_reducible exact True.intro)
       omega
   · have hkn : k = 16 := by simp at h1; omega
     subst hkn
     refine go_exit ?_
     (refine sI ?_; try with_reducible exact True.intro)
     (intros; try refine go_st ?_); refine go_r 12 13 (by decide) ?_; (refine sJ c102r7.eq_1 ?_; try with_reducible exact True.intro)
     (intros; try refine go_st ?_)
     refine go_gx (gx_blk_at [] []) ?_
     rintro h' ⟨G2, rfl, hg2, hc⟩
     refine go_ret (retQ_v rfl ?_); simp only [push_cast, Nat.reduceBEq]
     exact ⟨_, rfl, b, rfl, fun i hi => by simpa [add_off] using hc i _ (ht i hi)⟩
theorem fold_succ {l : List UInt8} {k : Nat} {x : UInt8} (hx : l[k]? = some x) (v : W32) : (l.take (k + 1)).foldl upd v = upd ((l.take k).foldl upd v) x := by
 have hk := List.getElem?_eq_some_iff.1 hx
 rw [List.take_succ_eq_append_getElem hk.1, hk.2]
 simp
theorem Sum_ok (l : List UInt8) (v : Value) (G : Nat → Option Obj) (hl : SB G v l) : FnD Try.prog 84 #[v] G (fun _ r => r = vW (crcB l)) := by
 refine F84.fnD (by simp) (go_of ?_)
 obtain ⟨A, c, rfl, hc, hm, hA⟩ := hl
 unfold c84
 (intros; try refine go_st ?_); refine go_r 0 0 (by decide) ?_; (refine sJ c84r0.eq_1 ?_; try with_reducible exact True.intro)
 (intros; try refine go_st ?_); refine go_r 7 8 (by decide) ?_; (refine sJ c84r1.eq_1 ?_; try with_reducible exact True.intro)
 refine (adder_ok G _ []).mono ?_
 rintro r h' ⟨G1, rfl, hg1, p, rfl, hp⟩
 (refine sI ?_; try with_reducible exact True.intro)
 have hA1 := hA.le hg1 (E' := UE) fun _ _ h => h
 (intros; try refine go_st ?_); refine go_r 0 0 (by decide) ?_; (refine sJ c84r2.eq_1 ?_; try with_reducible exact True.intro)
 (intros; try refine go_st ?_); refine go_r 0 0 (by decide) ?_; (refine sJ c84r3.eq_1 ?_; try with_reducible exact True.intro)
 (intros; try refine go_st ?_)
 refine go_loop (fun e h => ∃ k : Nat, k ≤ l.length ∧ e 10 = .int .i64 k ∧ e 9 = .int .i64 l.length ∧ e 8 = .slice A l.length c ∧ e 3 = .func (.func 114) #[] #[p] ∧ e 4 = vW ((l.take k).foldl upd 4294967295#32) ∧ h = ⟨G1, [], []⟩) (fun e h => l.length - iv (e 10)) ?_ ?_
 · exact ⟨0, Nat.zero_le _, eE, eE, eE, eE, by (refine sI ?_; try with_reducible exact True.intro); rfl, rfl⟩
 · rintro e h ⟨k, hk, e10, e9, e8, e3, e4, rfl⟩
   refine go_keep [3, 4, 8, 9, 10] ?_
   (refine sJ5 @e3 @e4 @e8 @e9 @e10 ?_; try with_reducible exact True.intro)
   (intros; try refine go_st ?_); refine go_r 0 0 (by decide) ?_; (refine sJ c84r4.eq_1 ?_; try with_reducible exact True.intro)
   (intros; try refine go_st ?_); refine go_c ?_; (refine sI ?_; try with_reducible exact True.intro)
   refine gb (fun h1 => ?_) (fun h1 => ?_)
   · have hkn : k < l.length := by simpa using h1
     have hw3 := inc_i k c (by omega) hm
     obtain ⟨x, hx⟩ : ∃ x, l[k]? = some x := ⟨l[k], List.getElem?_eq_getElem (by omega)⟩
     (intros; try refine go_st ?_); refine go_r 12 14 (by decide) ?_; (refine sJ c84r5.eq_1 ?_; try with_reducible exact True.intro)
     refine hA1.x_l1 hx rfl rfl ?_
     rintro a1 ha1 u1 hu
     cases hu
     (refine sI ?_; try with_reducible exact True.intro)
     (intros; try refine go_st ?_); refine go_r 14 18 (by decide) ?_; (refine sJ c84r6.eq_1 ?_; try with_reducible exact True.intro)
     refine .inl ⟨_, _, rfl, (add_ok _ x p G1 hp _ _).mono ?_⟩
     rintro _ _ ⟨rfl, rfl⟩
     (refine sI ?_; try with_reducible exact True.intro)
     (intros; try refine go_st ?_); refine go_r 18 19 (by decide) ?_; (refine sJ2 c84r7.eq_1 @hw3 ?_; try with_reducible exact True.intro)
     (intros; try refine go_st ?_)
     refine go_l ⟨⟨k + 1, by omega, eE, eE, eE, eE, by rw [fold_succ hx]; (refine sI ?_; try with_reducible exact True.intro), rfl⟩, ?_⟩
     (refine sI ?_; try with_reducible exact True.intro)
     omega
   · have hkn : k = l.length := by simp at h1; omega
     subst hkn
     refine go_exit ?_
     (refine sI ?_; try with_reducible exact True.intro)
     (intros; try refine go_st ?_); refine go_r 19 21 (by decide) ?_; (refine sJ2 c84r8.eq_1 @un_notW ?_; try with_reducible exact True.intro)
     (intros; try refine go_st ?_)
     refine go_ret (retQ_v rfl ?_); simp only [push_cast, Nat.reduceBEq]
     rw [List.take_length]
     rfl
theorem RSum_ok (l : List UInt8) (v : Value) (G : Nat → Option Obj) (hl : SB G v l) : FnS Try.prog 89 #[v] G (vW (crcB l)) := by
 refine F89.fnS (by simp) (go_of ?_)
 obtain ⟨A, c, rfl, hc, hm, hA⟩ := hl
 unfold c89
 (intros; try refine go_st ?_); refine go_r 0 0 (by decide) ?_; (refine sJ c89r0.eq_1 ?_; try with_reducible exact True.intro)
 (intros; try refine go_st ?_); refine go_r 0 0 (by decide) ?_; (refine sJ c89r1.eq_1 ?_; try with_reducible exact True.intro)
 (intros; try refine go_st ?_); refine go_r 0 0 (by decide) ?_; (refine sJ c89r2.eq_1 ?_; try with_reducible exact True.intro)
 (intros; try refine go_st ?_)
 refine go_loop (fun e h => ∃ k : Nat, k ≤ l.length ∧ e 4 = .int .i64 k ∧ e 0 = .slice A l.length c ∧ e 3 = vW ((l.take k).foldl upd 4294967295#32) ∧ h = ⟨G, [], []⟩) (fun e h => l.length - iv (e 4)) ?_ ?_
 · exact ⟨0, Nat.zero_le _, eE, eE, by (refine sI ?_; try with_reducible exact True.intro); rfl, rfl⟩
 · rintro e h ⟨k, hk, e4, e0, e3, rfl⟩
   refine go_keep [0, 3, 4] ?_
   (refine sJ3 @e0 @e3 @e4 ?_; try with_reducible exact True.intro)
   (intros; try refine go_st ?_); refine go_r 5 8 (by decide) ?_; (refine sJ c89r3.eq_1 ?_; try with_reducible exact True.intro)
   (intros; try refine go_st ?_); refine go_c ?_; (refine sI ?_; try with_reducible exact True.intro)
   refine gb (fun h1 => ?_) (fun h1 => ?_)
   · have hkn : k < l.length := by simpa using h1
     have hw3 := inc_i k c (by omega) hm
     obtain ⟨x, hx⟩ : ∃ x, l[k]? = some x := ⟨l[k], List.getElem?_eq_getElem (by omega)⟩
     (intros; try refine go_st ?_); refine go_r 11 19 (by decide) ?_; (refine sJ c89r4.eq_1 ?_; try with_reducible exact True.intro)
     refine hA.x_l1 hx rfl rfl ?_
     rintro a1 ha1 u1 hu
     cases hu
     (refine sJ2 @u8_32 @bin_xorW ?_; try with_reducible exact True.intro)
     refine (steps_ok _ 8 (by omega) G _ _).mono ?_; rintro _ _ ⟨rfl, rfl⟩; (refine sI ?_; try with_reducible exact True.intro)
     (intros; try refine go_st ?_); refine go_r 9 11 (by decide) ?_; (refine sJ2 c89r5.eq_1 @hw3 ?_; try with_reducible exact True.intro)
     (intros; try refine go_st ?_)
     refine go_l ⟨⟨k + 1, by omega, eE, eE, by rw [fold_succ hx]; (refine sI ?_; try with_reducible exact True.intro); rfl, rfl⟩, ?_⟩
     (refine sI ?_; try with_reducible exact True.intro)
     omega
   · have hkn : k = l.length := by simp at h1; omega
     subst hkn
     refine go_exit ?_
     (refine sI ?_; try with_reducible exact True.intro)
     (intros; try refine go_st ?_); refine go_r 19 21 (by decide) ?_; (refine sJ2 c89r6.eq_1 @bin_notW ?_; try with_reducible exact True.intro)
     (intros; try refine go_st ?_)
     refine go_ret (retQ_v rfl ?_); simp only [push_cast, Nat.reduceBEq]
     rw [List.take_length]
     rfl
end Go.Proofs.Ytedljandnpigpaa

/- Parts of a proof, 7 texts in one file. No condition. -/
import Derived.Test.YtedljandnpigpaaRows
import Derived.Test.YtedljandnpigpaaM1
import Derived.Test.YtedljandnpigpaaM2
set_option linter.unusedSimpArgs false
set_option linter.unusedVariables false
namespace Go.Proofs.Ytedljandnpigpaa
open Go Go.Kx
-- watermeet/watermeetlaw08.IndexMakes N=54
def c3r0 : List SI := [
 ⟨none, .bxR 3 (.t 0), none, 0⟩,
 ⟨none, .mv 6 (.b false), none, 0⟩]
def c3r1 : List SI := [
 ⟨none, .call 13 11 [], none, 0⟩,
 ⟨none, .mv 7 (.t 13), none, 0⟩]
def c3r2 : List SI := [
 ⟨none, .mv 14 (.t 7), none, 0⟩,
 ⟨none, .un 15 .not (.t 14), none, 0⟩]
def c3r3 : List SI := [
 ⟨none, .mv 6 (.b false), none, 0⟩]
def c3r4 : List SI := [
 ⟨none, .ldR 16 3 0 (some 2), none, 0⟩,
 ⟨none, .mv 17 (.t 2), none, 0⟩,
 ⟨none, .call 18 12 [(.t 16), (.t 17)], none, 0⟩,
 ⟨none, .un 19 .not (.t 18), none, 0⟩]
def c3r5 : List SI := [
 ⟨none, .mv 20 (.t 7), none, 0⟩,
 ⟨none, .mv 6 (.t 20), none, 0⟩]
def c3r6 : List SI := [
 ⟨none, .ldR 22 3 0 (some 2), none, 0⟩,
 ⟨none, .mv 23 (.t 1), none, 0⟩,
 ⟨none, .call 24 13 [(.t 22), (.t 23)], none, 0⟩,
 ⟨none, .mv 21 (.t 24), none, 0⟩,
 ⟨none, .ext 25 (.t 21) 0, none, 0⟩,
 ⟨none, .ext 26 (.t 21) 1, none, 0⟩,
 ⟨none, .mv 8 (.t 25), none, 0⟩,
 ⟨none, .mv 9 (.t 26), none, 0⟩]
def c3r7 : List SI := [
 ⟨none, .ldR 28 3 0 (some 2), none, 0⟩,
 ⟨none, .mv 29 (.t 1), none, 0⟩,
 ⟨none, .call 30 14 [(.t 28), (.t 29)], none, 0⟩,
 ⟨none, .mv 27 (.t 30), none, 0⟩,
 ⟨none, .ext 31 (.t 27) 0, none, 0⟩,
 ⟨none, .ext 32 (.t 27) 1, none, 0⟩,
 ⟨none, .mv 10 (.t 31), none, 0⟩,
 ⟨none, .mv 11 (.t 32), none, 0⟩]
def c3r8 : List SI := [
 ⟨none, .mv 33 (.t 8), none, 0⟩,
 ⟨none, .mv 34 (.t 10), none, 0⟩,
 ⟨none, .call 35 15 [(.t 33), (.t 34)], none, 0⟩,
 ⟨none, .mv 12 (.t 35), none, 0⟩]
def c3r9 : List (Bool × SI) := [
 (true, ⟨none, .mv 36 (.t 7), none, 0⟩),
 (true, ⟨none, .mv 37 (.t 36), none, 0⟩),
 (true, ⟨some (37, true), .mv 38 (.t 12), none, 38⟩),
 (true, ⟨none, .pick 39 (.t 37) (.t 38) (.b false), none, 0⟩),
 (true, ⟨none, .mv 40 (.t 39), none, 0⟩),
 (true, ⟨some (40, true), .mv 41 (.t 9), none, 41⟩),
 (true, ⟨some (40, true), .mv 42 (.t 11), none, 42⟩),
 (true, ⟨some (40, true), .bin 43 .eql (.t 41) (.t 42), none, 43⟩),
 (true, ⟨none, .pick 44 (.t 40) (.t 43) (.b false), none, 0⟩),
 (true, ⟨none, .mv 45 (.t 44), none, 0⟩),
 (true, ⟨some (45, true), .ldR 46 3 0 (some 2), none, 46⟩),
 (true, ⟨some (45, true), .mv 47 (.t 2), none, 47⟩),
 (true, ⟨some (45, true), .ldR 49 3 0 (some 2), none, 49⟩),
 (true, ⟨some (45, true), .mv 50 (.t 2), none, 50⟩),
 (false, ⟨some (45, true), .call 48 16 [(.t 46), (.t 47)], none, 48⟩),
 (false, ⟨some (45, true), .call 51 17 [(.t 49), (.t 50)], none, 51⟩),
 (true, ⟨some (45, true), .bin 52 .eql (.t 48) (.t 51), none, 52⟩),
 (true, ⟨none, .pick 53 (.t 45) (.t 52) (.b false), none, 0⟩),
 (true, ⟨none, .mv 6 (.t 53), none, 0⟩)]
def c3 : SC :=
 (.seq (.reg false c3r0)
 (.seq (.reg false c3r1)
 (.seq (.seq (.reg false c3r2)
 (.cond (.t 15)
  (.seq (.reg false c3r3)
  .ret)
  .skip))
 (.seq (.seq (.reg false c3r4)
 (.cond (.t 19)
  (.seq (.reg false c3r5)
  .ret)
  .skip))
 (.seq (.reg false c3r6)
 (.seq (.reg false c3r7)
 (.seq (.reg false c3r8)
 (.seq (.rgX c3r9)
 .ret))))))))
def v3 : List Nat × List Nat := ([3], [3])
def o3 : List RS := [.t 6]
theorem s3 : slimC Try.prog Try.f3.ntmps v3.1 v3.2 ((Try.f3.body).getD .skip) = some c3 := by kernel_rfl
theorem q3 : slimR Try.prog Try.f3.ntmps v3.1 v3.2 Try.f3.results.toList = some o3 := by kernel_rfl
-- watermeet/watermeetlaw08.IndexPlaces N=34
def c4r0 : List SI := [
 ⟨none, .mv 6 (.b false), none, 0⟩]
def c4r1 : List SI := [
 ⟨none, .call 8 11 [], none, 0⟩,
 ⟨none, .mv 7 (.t 8), none, 0⟩]
def c4r2 : List SI := [
 ⟨none, .mv 9 (.t 7), none, 0⟩,
 ⟨none, .un 10 .not (.t 9), none, 0⟩]
def c4r3 : List SI := [
 ⟨none, .mv 6 (.b false), none, 0⟩]
def c4r4 : List SI := [
 ⟨none, .mv 11 (.t 0), none, 0⟩,
 ⟨none, .len 12 false (.t 11), none, 0⟩,
 ⟨none, .bin 13 .gtr (.t 12) (.i 200), none, 0⟩]
def c4r5 : List SI := [
 ⟨none, .mv 14 (.t 7), none, 0⟩,
 ⟨none, .mv 6 (.t 14), none, 0⟩]
def c4r6 : List SI := [
 ⟨none, .mv 15 (.t 7), none, 0⟩,
 ⟨none, .mv 16 (.t 15), none, 0⟩,
 ⟨some (16, true), .mv 17 (.t 0), none, 17⟩,
 ⟨some (16, true), .mv 18 (.t 1), none, 18⟩,
 ⟨some (16, true), .call 19 18 [(.t 17), (.t 18)], none, 19⟩,
 ⟨some (16, true), .mv 20 (.t 0), none, 20⟩,
 ⟨some (16, true), .mv 21 (.t 1), none, 21⟩,
 ⟨some (16, true), .call 22 19 [(.t 20), (.t 21)], none, 22⟩,
 ⟨some (16, true), .bin 23 .eql (.t 19) (.t 22), none, 23⟩,
 ⟨none, .pick 24 (.t 16) (.t 23) (.b false), none, 0⟩,
 ⟨none, .mv 25 (.t 24), none, 0⟩,
 ⟨some (25, true), .mv 26 (.t 0), none, 26⟩,
 ⟨some (25, true), .mv 27 (.t 2), none, 27⟩,
 ⟨some (25, true), .call 28 20 [(.t 26), (.t 27)], none, 28⟩,
 ⟨some (25, true), .mv 29 (.t 0), none, 29⟩,
 ⟨some (25, true), .mv 30 (.t 2), none, 30⟩,
 ⟨some (25, true), .call 31 21 [(.t 29), (.t 30)], none, 31⟩,
 ⟨some (25, true), .bin 32 .eql (.t 28) (.t 31), none, 32⟩,
 ⟨none, .pick 33 (.t 25) (.t 32) (.b false), none, 0⟩,
 ⟨none, .mv 6 (.t 33), none, 0⟩]
def c4 : SC :=
 (.seq (.reg false c4r0)
 (.seq (.reg false c4r1)
 (.seq (.seq (.reg false c4r2)
 (.cond (.t 10)
  (.seq (.reg false c4r3)
  .ret)
  .skip))
 (.seq (.seq (.reg false c4r4)
 (.cond (.t 13)
  (.seq (.reg false c4r5)
  .ret)
  .skip))
 (.seq (.reg false c4r6)
 .ret)))))
def v4 : List Nat × List Nat := ([], [])
def o4 : List RS := [.t 6]
theorem s4 : slimC Try.prog Try.f4.ntmps v4.1 v4.2 ((Try.f4.body).getD .skip) = some c4 := by kernel_rfl
theorem q4 : slimR Try.prog Try.f4.ntmps v4.1 v4.2 Try.f4.results.toList = some o4 := by kernel_rfl
-- watermeet/watermeetlaw08.IndexFinds N=77
def c5r0 : List SI := [
 ⟨none, .bxR 4 (.t 0), none, 0⟩,
 ⟨none, .mv 8 (.b false), none, 0⟩]
def c5r1 : List SI := [
 ⟨none, .call 19 11 [], none, 0⟩,
 ⟨none, .mv 9 (.t 19), none, 0⟩]
def c5r2 : List SI := [
 ⟨none, .mv 20 (.t 9), none, 0⟩,
 ⟨none, .un 21 .not (.t 20), none, 0⟩]
def c5r3 : List SI := [
 ⟨none, .mv 8 (.b false), none, 0⟩]
def c5r4 : List SI := [
 ⟨none, .ldR 22 4 0 (some 2), none, 0⟩,
 ⟨none, .mv 23 (.t 1), none, 0⟩,
 ⟨none, .call 24 12 [(.t 22), (.t 23)], none, 0⟩,
 ⟨none, .un 25 .not (.t 24), none, 0⟩]
def c5r5 : List SI := [
 ⟨none, .mv 26 (.t 9), none, 0⟩,
 ⟨none, .mv 8 (.t 26), none, 0⟩]
def c5r6 : List SI := [
 ⟨none, .ldR 28 4 0 (some 2), none, 0⟩,
 ⟨none, .mv 29 (.t 1), none, 0⟩,
 ⟨none, .mv 30 (.t 2), none, 0⟩,
 ⟨none, .call 31 22 [(.t 28), (.t 29), (.t 30)], none, 0⟩,
 ⟨none, .mv 27 (.t 31), none, 0⟩,
 ⟨none, .ext 32 (.t 27) 0, none, 0⟩,
 ⟨none, .ext 33 (.t 27) 1, none, 0⟩,
 ⟨none, .alR 10 [(.int .i64 0), (.int .i64 0), (.int .i64 0), (.int .i64 0), (.int .i64 0), (.int .i64 0), (.int .i64 0), (.bool false), (.int .i64 0), (.slice none 0 0)], none, 0⟩,
 ⟨none, .stR 10 0 10 (.t 32), none, 0⟩,
 ⟨none, .mv 11 (.t 33), none, 0⟩]
def c5r7 : List SI := [
 ⟨none, .ldR 35 4 0 (some 2), none, 0⟩,
 ⟨none, .mv 36 (.t 1), none, 0⟩,
 ⟨none, .mv 37 (.t 2), none, 0⟩,
 ⟨none, .call 38 23 [(.t 35), (.t 36), (.t 37)], none, 0⟩,
 ⟨none, .mv 34 (.t 38), none, 0⟩,
 ⟨none, .ext 39 (.t 34) 0, none, 0⟩,
 ⟨none, .ext 40 (.t 34) 1, none, 0⟩,
 ⟨none, .alR 12 [(.int .i64 0), (.int .i64 0), (.int .i64 0), (.int .i64 0), (.int .i64 0), (.int .i64 0), (.int .i64 0), (.bool false), (.int .i64 0), (.slice none 0 0)], none, 0⟩,
 ⟨none, .stR 12 0 10 (.t 39), none, 0⟩,
 ⟨none, .mv 13 (.t 40), none, 0⟩]
def c5r8 : List SI := [
 ⟨none, .ldR 42 4 0 (some 2), none, 0⟩,
 ⟨none, .mv 43 (.t 1), none, 0⟩,
 ⟨none, .mv 44 (.t 3), none, 0⟩,
 ⟨none, .call 45 24 [(.t 42), (.t 43), (.t 44)], none, 0⟩,
 ⟨none, .mv 41 (.t 45), none, 0⟩,
 ⟨none, .ext 46 (.t 41) 0, none, 0⟩,
 ⟨none, .ext 47 (.t 41) 1, none, 0⟩,
 ⟨none, .mv 14 (.t 46), none, 0⟩,
 ⟨none, .mv 15 (.t 47), none, 0⟩]
def c5r9 : List SI := [
 ⟨none, .ldR 49 4 0 (some 2), none, 0⟩,
 ⟨none, .mv 50 (.t 1), none, 0⟩,
 ⟨none, .mv 51 (.t 3), none, 0⟩,
 ⟨none, .call 52 25 [(.t 49), (.t 50), (.t 51)], none, 0⟩,
 ⟨none, .mv 48 (.t 52), none, 0⟩,
 ⟨none, .ext 53 (.t 48) 0, none, 0⟩,
 ⟨none, .ext 54 (.t 48) 1, none, 0⟩,
 ⟨none, .mv 16 (.t 53), none, 0⟩,
 ⟨none, .mv 17 (.t 54), none, 0⟩]
def c5r10 : List SI := [
 ⟨none, .ldR 55 10 0 (some 10), none, 0⟩,
 ⟨none, .ldR 56 12 0 (some 10), none, 0⟩,
 ⟨none, .call 57 26 [(.t 55), (.t 56)], none, 0⟩,
 ⟨none, .mv 18 (.t 57), none, 0⟩]
def c5r11 : List SI := [
 ⟨none, .mv 58 (.t 9), none, 0⟩,
 ⟨none, .mv 59 (.t 58), none, 0⟩,
 ⟨some (59, true), .mv 60 (.t 18), none, 60⟩,
 ⟨none, .pick 61 (.t 59) (.t 60) (.b false), none, 0⟩,
 ⟨none, .mv 62 (.t 61), none, 0⟩,
 ⟨some (62, true), .mv 63 (.t 11), none, 63⟩,
 ⟨some (62, true), .mv 64 (.t 13), none, 64⟩,
 ⟨some (62, true), .bin 65 .eql (.t 63) (.t 64), none, 65⟩,
 ⟨none, .pick 66 (.t 62) (.t 65) (.b false), none, 0⟩,
 ⟨none, .mv 67 (.t 66), none, 0⟩,
 ⟨some (67, true), .mv 68 (.t 14), none, 68⟩,
 ⟨some (67, true), .mv 69 (.t 16), none, 69⟩,
 ⟨some (67, true), .bin 70 .eql (.t 68) (.t 69), none, 70⟩,
 ⟨none, .pick 71 (.t 67) (.t 70) (.b false), none, 0⟩,
 ⟨none, .mv 72 (.t 71), none, 0⟩,
 ⟨some (72, true), .mv 73 (.t 15), none, 73⟩,
 ⟨some (72, true), .mv 74 (.t 17), none, 74⟩,
 ⟨some (72, true), .bin 75 .eql (.t 73) (.t 74), none, 75⟩,
 ⟨none, .pick 76 (.t 72) (.t 75) (.b false), none, 0⟩,
 ⟨none, .mv 8 (.t 76), none, 0⟩]
def c5 : SC :=
 (.seq (.reg false c5r0)
 (.seq (.reg false c5r1)
 (.seq (.seq (.reg false c5r2)
 (.cond (.t 21)
  (.seq (.reg false c5r3)
  .ret)
  .skip))
 (.seq (.seq (.reg false c5r4)
 (.cond (.t 25)
  (.seq (.reg false c5r5)
  .ret)
  .skip))
 (.seq (.reg false c5r6)
 (.seq (.reg false c5r7)
 (.seq (.reg false c5r8)
 (.seq (.reg false c5r9)
 (.seq (.reg false c5r10)
 (.seq (.reg false c5r11)
 .ret))))))))))
def v5 : List Nat × List Nat := ([4, 10, 12], [4, 10, 12])
def o5 : List RS := [.t 8]
theorem s5 : slimC Try.prog Try.f5.ntmps v5.1 v5.2 ((Try.f5.body).getD .skip) = some c5 := by kernel_rfl
theorem q5 : slimR Try.prog Try.f5.ntmps v5.1 v5.2 Try.f5.results.toList = some o5 := by kernel_rfl
-- watermeet/watermeetlaw08.IndexNever N=126
def c6r0 : List SI := [
 ⟨none, .bxR 4 (.t 0), none, 0⟩,
 ⟨none, .mv 8 (.b false), none, 0⟩]
def c6r1 : List SI := [
 ⟨none, .call 19 11 [], none, 0⟩,
 ⟨none, .mv 9 (.t 19), none, 0⟩]
def c6r2 : List SI := [
 ⟨none, .mv 20 (.t 9), none, 0⟩,
 ⟨none, .un 21 .not (.t 20), none, 0⟩]
def c6r3 : List SI := [
 ⟨none, .mv 8 (.b false), none, 0⟩]
def c6r4 : List SI := [
 ⟨none, .ldR 22 4 0 (some 2), none, 0⟩,
 ⟨none, .call 23 12 [(.t 22), (.v (.slice none 0 0))], none, 0⟩,
 ⟨none, .un 24 .not (.t 23), none, 0⟩]
def c6r5 : List SI := [
 ⟨none, .mv 25 (.t 9), none, 0⟩,
 ⟨none, .mv 8 (.t 25), none, 0⟩]
def c6r6 : List SI := [
 ⟨none, .ldR 27 4 0 (some 2), none, 0⟩,
 ⟨none, .mv 28 (.t 1), none, 0⟩,
 ⟨none, .call 29 13 [(.t 27), (.t 28)], none, 0⟩,
 ⟨none, .mv 26 (.t 29), none, 0⟩,
 ⟨none, .ext 30 (.t 26) 0, none, 0⟩,
 ⟨none, .ext 31 (.t 26) 1, none, 0⟩,
 ⟨none, .mv 10 (.t 30), none, 0⟩,
 ⟨none, .mv 11 (.t 31), none, 0⟩]
def c6r7 : List SI := [
 ⟨none, .mv 32 (.t 11), none, 0⟩,
 ⟨none, .bin 33 .neq (.t 32) (.i 0), none, 0⟩]
def c6r8 : List SI := [
 ⟨none, .mv 34 (.t 9), none, 0⟩,
 ⟨none, .mv 35 (.t 34), none, 0⟩,
 ⟨some (35, true), .mv 36 (.t 10), none, 36⟩,
 ⟨some (35, true), .len 37 false (.t 36), none, 37⟩,
 ⟨some (35, true), .bin 38 .eql (.t 37) (.i 0), none, 38⟩,
 ⟨none, .pick 39 (.t 35) (.t 38) (.b false), none, 0⟩,
 ⟨none, .mv 8 (.t 39), none, 0⟩]
def c6r9 : List SI := [
 ⟨none, .ldR 41 4 0 (some 2), none, 0⟩,
 ⟨none, .call 42 27 [(.t 41)], none, 0⟩,
 ⟨none, .mv 40 (.t 42), none, 0⟩,
 ⟨none, .ext 43 (.t 40) 0, none, 0⟩,
 ⟨none, .ext 44 (.t 40) 1, none, 0⟩,
 ⟨none, .mv 12 (.t 43), none, 0⟩,
 ⟨none, .mv 13 (.t 44), none, 0⟩]
def c6r10 : List SI := [
 ⟨none, .mv 45 (.t 13), none, 0⟩,
 ⟨none, .nop, (some 4), 0⟩,
 ⟨none, .ldR 47 4 1 none, none, 0⟩,
 ⟨none, .len 48 false (.t 47), none, 0⟩,
 ⟨none, .bin 49 .neq (.t 45) (.t 48), none, 0⟩]
def c6r11 : List SI := [
 ⟨none, .mv 8 (.b false), none, 0⟩]
def c6r12 : List SI := [
 ⟨none, .mv 50 (.t 10), none, 0⟩,
 ⟨none, .mv 51 (.t 2), none, 0⟩,
 ⟨none, .call 52 18 [(.t 50), (.t 51)], none, 0⟩,
 ⟨none, .mv 53 (.t 10), none, 0⟩,
 ⟨none, .mv 54 (.t 3), none, 0⟩,
 ⟨none, .call 55 20 [(.t 53), (.t 54)], none, 0⟩,
 ⟨none, .mv 14 (.t 52), none, 0⟩,
 ⟨none, .mv 15 (.t 55), none, 0⟩]
def c6r13 : List SI := [
 ⟨none, .mv 16 (.i 0), none, 0⟩]
def c6r14 : List SI := [
 ⟨none, .mv 17 (.i 0), none, 0⟩]
def c6r15 : List SI := [
 ⟨none, .mv 56 (.t 17), none, 0⟩,
 ⟨none, .mv 57 (.t 12), none, 0⟩,
 ⟨none, .len 58 false (.t 57), none, 0⟩,
 ⟨none, .bin 59 .lss (.t 56) (.t 58), none, 0⟩]
def c6r16 : List SI := [
 ⟨none, .mv 62 (.t 16), none, 0⟩,
 ⟨none, .mv 63 (.t 14), none, 0⟩,
 ⟨none, .bin 64 .lss (.t 62) (.t 63), none, 0⟩,
 ⟨none, .mv 65 (.t 64), none, 0⟩,
 ⟨some (65, true), .mv 66 (.t 12), none, 66⟩,
 ⟨some (65, true), .mv 67 (.t 17), none, 67⟩,
 ⟨some (65, true), .ixA 68 (.t 66) (.t 67) 10, none, 68⟩,
 ⟨some (65, true), .flA 69 (.t 68) 1, none, 69⟩,
 ⟨some (65, true), .ld 70 (.t 69) none, none, 70⟩,
 ⟨some (65, true), .mv 71 (.t 2), none, 71⟩,
 ⟨some (65, true), .bin 72 .geq (.t 70) (.t 71), none, 72⟩,
 ⟨none, .pick 73 (.t 65) (.t 72) (.b false), none, 0⟩]
def c6r17 : List SI := [
 ⟨none, .mv 8 (.b false), none, 0⟩]
def c6r18 : List SI := [
 ⟨none, .mv 18 (.i 0), none, 0⟩]
def c6r19 : List SI := [
 ⟨none, .mv 74 (.t 18), none, 0⟩,
 ⟨none, .mv 75 (.t 12), none, 0⟩,
 ⟨none, .mv 76 (.t 17), none, 0⟩,
 ⟨none, .ixA 77 (.t 75) (.t 76) 10, none, 0⟩,
 ⟨none, .flA 78 (.t 77) 9, none, 0⟩,
 ⟨none, .ld 79 (.t 78) none, none, 0⟩,
 ⟨none, .len 80 false (.t 79), none, 0⟩,
 ⟨none, .bin 81 .lss (.t 74) (.t 80), none, 0⟩]
def c6r20 : List SI := [
 ⟨none, .mv 84 (.t 16), none, 0⟩,
 ⟨none, .mv 85 (.t 15), none, 0⟩,
 ⟨none, .bin 86 .lss (.t 84) (.t 85), none, 0⟩,
 ⟨none, .mv 87 (.t 86), none, 0⟩,
 ⟨some (87, true), .mv 88 (.t 12), none, 88⟩,
 ⟨some (87, true), .mv 89 (.t 17), none, 89⟩,
 ⟨some (87, true), .ixA 90 (.t 88) (.t 89) 10, none, 90⟩,
 ⟨some (87, true), .flA 91 (.t 90) 9, none, 91⟩,
 ⟨some (87, true), .ld 92 (.t 91) none, none, 92⟩,
 ⟨some (87, true), .mv 93 (.t 18), none, 93⟩,
 ⟨some (87, true), .ixA 94 (.t 92) (.t 93) 5, none, 94⟩,
 ⟨some (87, true), .flA 95 (.t 94) 4, none, 95⟩,
 ⟨some (87, true), .ld 96 (.t 95) none, none, 96⟩,
 ⟨some (87, true), .mv 97 (.t 3), none, 97⟩,
 ⟨some (87, true), .bin 98 .geq (.t 96) (.t 97), none, 98⟩,
 ⟨none, .pick 99 (.t 87) (.t 98) (.b false), none, 0⟩]
def c6r21 : List SI := [
 ⟨none, .mv 8 (.b false), none, 0⟩]
def c6r22 : List SI := [
 ⟨none, .mv 82 (.t 18), none, 0⟩,
 ⟨none, .bin 83 .add (.t 82) (.i 1), none, 0⟩,
 ⟨none, .mv 18 (.t 83), none, 0⟩]
def c6r23 : List SI := [
 ⟨none, .mv 100 (.t 16), none, 0⟩,
 ⟨none, .mv 101 (.t 12), none, 0⟩,
 ⟨none, .mv 102 (.t 17), none, 0⟩,
 ⟨none, .ixA 103 (.t 101) (.t 102) 10, none, 0⟩,
 ⟨none, .ld 104 (.t 103) (some 10), none, 0⟩,
 ⟨none, .call 105 28 [(.t 104)], none, 0⟩,
 ⟨none, .bin 106 .add (.t 100) (.t 105), none, 0⟩,
 ⟨none, .mv 16 (.t 106), none, 0⟩]
def c6r24 : List SI := [
 ⟨none, .mv 60 (.t 17), none, 0⟩,
 ⟨none, .bin 61 .add (.t 60) (.i 1), none, 0⟩,
 ⟨none, .mv 17 (.t 61), none, 0⟩]
def c6r25 : List SI := [
 ⟨none, .mv 107 (.t 9), none, 0⟩,
 ⟨none, .mv 108 (.t 107), none, 0⟩,
 ⟨some (108, true), .mv 109 (.t 14), none, 109⟩,
 ⟨some (108, true), .bin 110 .geq (.t 109) (.i 0), none, 110⟩,
 ⟨none, .pick 111 (.t 108) (.t 110) (.b false), none, 0⟩,
 ⟨none, .mv 112 (.t 111), none, 0⟩,
 ⟨some (112, true), .mv 113 (.t 14), none, 113⟩,
 ⟨some (112, true), .mv 114 (.t 16), none, 114⟩,
 ⟨some (112, true), .bin 115 .leq (.t 113) (.t 114), none, 115⟩,
 ⟨none, .pick 116 (.t 112) (.t 115) (.b false), none, 0⟩,
 ⟨none, .mv 117 (.t 116), none, 0⟩,
 ⟨some (117, true), .mv 118 (.t 15), none, 118⟩,
 ⟨some (117, true), .bin 119 .geq (.t 118) (.i 0), none, 119⟩,
 ⟨none, .pick 120 (.t 117) (.t 119) (.b false), none, 0⟩,
 ⟨none, .mv 121 (.t 120), none, 0⟩,
 ⟨some (121, true), .mv 122 (.t 15), none, 122⟩,
 ⟨some (121, true), .mv 123 (.t 16), none, 123⟩,
 ⟨some (121, true), .bin 124 .leq (.t 122) (.t 123), none, 124⟩,
 ⟨none, .pick 125 (.t 121) (.t 124) (.b false), none, 0⟩,
 ⟨none, .mv 8 (.t 125), none, 0⟩]
def c6 : SC :=
 (.seq (.reg false c6r0)
 (.seq (.reg false c6r1)
 (.seq (.seq (.reg false c6r2)
 (.cond (.t 21)
  (.seq (.reg false c6r3)
  .ret)
  .skip))
 (.seq (.seq (.reg false c6r4)
 (.cond (.t 24)
  (.seq (.reg false c6r5)
  .ret)
  .skip))
 (.seq (.reg false c6r6)
 (.seq (.seq (.reg false c6r7)
 (.cond (.t 33)
  (.seq (.reg false c6r8)
  .ret)
  .skip))
 (.seq (.reg false c6r9)
 (.seq (.seq (.reg false c6r10)
 (.cond (.t 49)
  (.seq (.reg false c6r11)
  .ret)
  .skip))
 (.seq (.reg false c6r12)
 (.seq (.reg false c6r13)
 (.seq (.seq (.reg false c6r14)
 (.blk 0 (.loop (.seq (.seq (.reg false c6r15)
   (.cond (.t 59)
    .skip
    (.exit 0)))
   (.seq (.blk 1 (.seq (.seq (.reg false c6r16)
    (.cond (.t 73)
     (.seq (.reg false c6r17)
     .ret)
     .skip))
    (.seq (.seq (.reg false c6r18)
    (.blk 2 (.loop (.seq (.seq (.reg false c6r19)
      (.cond (.t 81)
       .skip
       (.exit 2)))
      (.seq (.blk 3 (.seq (.reg false c6r20)
       (.cond (.t 99)
        (.seq (.reg false c6r21)
        .ret)
        .skip)))
      (.reg false c6r22))))))
    (.reg false c6r23))))
   (.reg false c6r24))))))
 (.seq (.reg false c6r25)
 .ret))))))))))))
def v6 : List Nat × List Nat := ([4], [4, 46])
def o6 : List RS := [.t 8]
theorem q6 : slimR Try.prog Try.f6.ntmps v6.1 v6.2 Try.f6.results.toList = some o6 := by kernel_rfl
-- watermeet/watermeetlaw08.IndexSpares N=113
def v7 : List Nat × List Nat := ([2], [2, 83, 92])
def o7 : List RS := [.t 4]
theorem q7 : slimR Try.prog Try.f7.ntmps v7.1 v7.2 Try.f7.results.toList = some o7 := by kernel_rfl
-- watermeet/watermeetlaw08.IndexGrows N=91
def v8 : List Nat × List Nat := ([3, 4, 9], [3, 4, 9])
def o8 : List RS := [.t 6]
theorem q8 : slimR Try.prog Try.f8.ntmps v8.1 v8.2 Try.f8.results.toList = some o8 := by kernel_rfl
-- watermeet/watermeetlaw08.IndexLeaves N=197
def v9 : List Nat × List Nat := ([5, 20, 22, 24], [5, 20, 22, 24])
def o9 : List RS := [.t 10]
theorem q9 : slimR Try.prog Try.f9.ntmps v9.1 v9.2 Try.f9.results.toList = some o9 := by kernel_rfl
-- watermeet/watermeetlaw08.IndexWhole N=155
def c10r0 : List SI := [
 ⟨none, .bxR 4 (.t 0), none, 0⟩,
 ⟨none, .mv 8 (.b false), none, 0⟩]
def c10r1 : List SI := [
 ⟨none, .call 24 11 [], none, 0⟩,
 ⟨none, .mv 9 (.t 24), none, 0⟩]
def c10r2 : List SI := [
 ⟨none, .mv 25 (.t 9), none, 0⟩,
 ⟨none, .un 26 .not (.t 25), none, 0⟩]
def c10r3 : List SI := [
 ⟨none, .mv 8 (.b false), none, 0⟩]
def c10r4 : List SI := [
 ⟨none, .ldR 27 4 0 (some 2), none, 0⟩,
 ⟨none, .call 28 12 [(.t 27), (.v (.slice none 0 0))], none, 0⟩,
 ⟨none, .un 29 .not (.t 28), none, 0⟩]
def c10r5 : List SI := [
 ⟨none, .mv 30 (.t 9), none, 0⟩,
 ⟨none, .mv 8 (.t 30), none, 0⟩]
def c10r6 : List SI := [
 ⟨none, .ldR 32 4 0 (some 2), none, 0⟩,
 ⟨none, .mv 33 (.t 1), none, 0⟩,
 ⟨none, .call 34 13 [(.t 32), (.t 33)], none, 0⟩,
 ⟨none, .mv 31 (.t 34), none, 0⟩,
 ⟨none, .ext 35 (.t 31) 0, none, 0⟩,
 ⟨none, .ext 36 (.t 31) 1, none, 0⟩,
 ⟨none, .mv 10 (.t 35), none, 0⟩,
 ⟨none, .mv 11 (.t 36), none, 0⟩]
def c10r7 : List SI := [
 ⟨none, .mv 37 (.t 11), none, 0⟩,
 ⟨none, .bin 38 .neq (.t 37) (.i 0), none, 0⟩]
def c10r8 : List SI := [
 ⟨none, .mv 39 (.t 9), none, 0⟩,
 ⟨none, .mv 8 (.t 39), none, 0⟩]
def c10r9 : List SI := [
 ⟨none, .ldR 41 4 0 (some 2), none, 0⟩,
 ⟨none, .call 42 27 [(.t 41)], none, 0⟩,
 ⟨none, .mv 40 (.t 42), none, 0⟩,
 ⟨none, .ext 43 (.t 40) 0, none, 0⟩,
 ⟨none, .ext 44 (.t 40) 1, none, 0⟩,
 ⟨none, .mv 12 (.t 43), none, 0⟩,
 ⟨none, .mv 13 (.t 44), none, 0⟩]
def c10r10 : List SI := [
 ⟨none, .mv 14 (.b false), none, 0⟩,
 ⟨none, .mv 15 (.b false), none, 0⟩]
def c10r11 : List SI := [
 ⟨none, .alR 16 [(.int .i64 0), (.int .i64 0), (.int .i64 0), (.int .i64 0), (.int .i64 0), (.int .i64 0), (.int .i64 0), (.bool false), (.int .i64 0), (.slice none 0 0)], none, 0⟩]
def c10r12 : List SI := [
 ⟨none, .mv 17 (.i 0), none, 0⟩]
def c10r13 : List SI := [
 ⟨none, .mv 18 (.i 0), none, 0⟩]
def c10r14 : List SI := [
 ⟨none, .mv 45 (.t 18), none, 0⟩,
 ⟨none, .mv 46 (.t 12), none, 0⟩,
 ⟨none, .len 47 false (.t 46), none, 0⟩,
 ⟨none, .bin 48 .lss (.t 45) (.t 47), none, 0⟩]
def c10r15 : List SI := [
 ⟨none, .mv 51 (.t 14), none, 0⟩,
 ⟨none, .un 52 .not (.t 51), none, 0⟩,
 ⟨none, .mv 53 (.t 52), none, 0⟩,
 ⟨some (53, true), .mv 54 (.t 12), none, 54⟩,
 ⟨some (53, true), .mv 55 (.t 18), none, 55⟩,
 ⟨some (53, true), .ixA 56 (.t 54) (.t 55) 10, none, 56⟩,
 ⟨some (53, true), .flA 57 (.t 56) 1, none, 57⟩,
 ⟨some (53, true), .ld 58 (.t 57) none, none, 58⟩,
 ⟨some (53, true), .mv 59 (.t 2), none, 59⟩,
 ⟨some (53, true), .bin 60 .geq (.t 58) (.t 59), none, 60⟩,
 ⟨none, .pick 61 (.t 53) (.t 60) (.b false), none, 0⟩]
def c10r16 : List SI := [
 ⟨none, .mv 14 (.b true), none, 0⟩]
def c10r17 : List SI := [
 ⟨none, .mv 62 (.t 12), none, 0⟩,
 ⟨none, .mv 63 (.t 18), none, 0⟩,
 ⟨none, .ixA 64 (.t 62) (.t 63) 10, none, 0⟩,
 ⟨none, .ld 65 (.t 64) (some 10), none, 0⟩,
 ⟨none, .stR 16 0 10 (.t 65), none, 0⟩]
def c10r18 : List SI := [
 ⟨none, .mv 19 (.i 0), none, 0⟩]
def c10r19 : List SI := [
 ⟨none, .mv 66 (.t 19), none, 0⟩,
 ⟨none, .mv 67 (.t 12), none, 0⟩,
 ⟨none, .mv 68 (.t 18), none, 0⟩,
 ⟨none, .ixA 69 (.t 67) (.t 68) 10, none, 0⟩,
 ⟨none, .flA 70 (.t 69) 9, none, 0⟩,
 ⟨none, .ld 71 (.t 70) none, none, 0⟩,
 ⟨none, .len 72 false (.t 71), none, 0⟩,
 ⟨none, .bin 73 .lss (.t 66) (.t 72), none, 0⟩]
def c10r20 : List SI := [
 ⟨none, .mv 76 (.t 15), none, 0⟩,
 ⟨none, .un 77 .not (.t 76), none, 0⟩,
 ⟨none, .mv 78 (.t 77), none, 0⟩,
 ⟨some (78, true), .mv 79 (.t 12), none, 79⟩,
 ⟨some (78, true), .mv 80 (.t 18), none, 80⟩,
 ⟨some (78, true), .ixA 81 (.t 79) (.t 80) 10, none, 81⟩,
 ⟨some (78, true), .flA 82 (.t 81) 9, none, 82⟩,
 ⟨some (78, true), .ld 83 (.t 82) none, none, 83⟩,
 ⟨some (78, true), .mv 84 (.t 19), none, 84⟩,
 ⟨some (78, true), .ixA 85 (.t 83) (.t 84) 5, none, 85⟩,
 ⟨some (78, true), .flA 86 (.t 85) 4, none, 86⟩,
 ⟨some (78, true), .ld 87 (.t 86) none, none, 87⟩,
 ⟨some (78, true), .mv 88 (.t 3), none, 88⟩,
 ⟨some (78, true), .bin 89 .geq (.t 87) (.t 88), none, 89⟩,
 ⟨none, .pick 90 (.t 78) (.t 89) (.b false), none, 0⟩]
def c10r21 : List SI := [
 ⟨none, .mv 15 (.b true), none, 0⟩]
def c10r22 : List SI := [
 ⟨none, .mv 91 (.t 12), none, 0⟩,
 ⟨none, .mv 92 (.t 18), none, 0⟩,
 ⟨none, .ixA 93 (.t 91) (.t 92) 10, none, 0⟩,
 ⟨none, .flA 94 (.t 93) 9, none, 0⟩,
 ⟨none, .ld 95 (.t 94) none, none, 0⟩,
 ⟨none, .mv 96 (.t 19), none, 0⟩,
 ⟨none, .ixA 97 (.t 95) (.t 96) 5, none, 0⟩,
 ⟨none, .flA 98 (.t 97) 0, none, 0⟩,
 ⟨none, .ld 99 (.t 98) none, none, 0⟩,
 ⟨none, .mv 17 (.t 99), none, 0⟩]
def c10r23 : List SI := [
 ⟨none, .mv 74 (.t 19), none, 0⟩,
 ⟨none, .bin 75 .add (.t 74) (.i 1), none, 0⟩,
 ⟨none, .mv 19 (.t 75), none, 0⟩]
def c10r24 : List SI := [
 ⟨none, .mv 49 (.t 18), none, 0⟩,
 ⟨none, .bin 50 .add (.t 49) (.i 1), none, 0⟩,
 ⟨none, .mv 18 (.t 50), none, 0⟩]
def c10r25 : List SI := [
 ⟨none, .ldR 101 4 0 (some 2), none, 0⟩,
 ⟨none, .mv 102 (.t 10), none, 0⟩,
 ⟨none, .mv 103 (.t 2), none, 0⟩,
 ⟨none, .call 104 22 [(.t 101), (.t 102), (.t 103)], none, 0⟩,
 ⟨none, .mv 100 (.t 104), none, 0⟩,
 ⟨none, .ext 105 (.t 100) 0, none, 0⟩,
 ⟨none, .ext 106 (.t 100) 1, none, 0⟩,
 ⟨none, .alR 20 [(.int .i64 0), (.int .i64 0), (.int .i64 0), (.int .i64 0), (.int .i64 0), (.int .i64 0), (.int .i64 0), (.bool false), (.int .i64 0), (.slice none 0 0)], none, 0⟩,
 ⟨none, .stR 20 0 10 (.t 105), none, 0⟩,
 ⟨none, .mv 21 (.t 106), none, 0⟩]
def c10r26 : List SI := [
 ⟨none, .ldR 108 4 0 (some 2), none, 0⟩,
 ⟨none, .mv 109 (.t 10), none, 0⟩,
 ⟨none, .mv 110 (.t 3), none, 0⟩,
 ⟨none, .call 111 24 [(.t 108), (.t 109), (.t 110)], none, 0⟩,
 ⟨none, .mv 107 (.t 111), none, 0⟩,
 ⟨none, .ext 112 (.t 107) 0, none, 0⟩,
 ⟨none, .ext 113 (.t 107) 1, none, 0⟩,
 ⟨none, .mv 22 (.t 112), none, 0⟩,
 ⟨none, .mv 23 (.t 113), none, 0⟩]
def c10r27 : List SI := [
 ⟨none, .mv 114 (.t 14), none, 0⟩,
 ⟨none, .mv 115 (.t 21), none, 0⟩,
 ⟨none, .bin 116 .eql (.t 115) (.i 0), none, 0⟩,
 ⟨none, .eqb 117 true (.t 114) (.t 116), none, 0⟩,
 ⟨none, .mv 118 (.t 117), none, 0⟩,
 ⟨some (118, false), .mv 119 (.t 15), none, 119⟩,
 ⟨some (118, false), .mv 120 (.t 23), none, 120⟩,
 ⟨some (118, false), .bin 121 .eql (.t 120) (.i 0), none, 121⟩,
 ⟨some (118, false), .eqb 122 true (.t 119) (.t 121), none, 122⟩,
 ⟨none, .pick 123 (.t 118) (.b true) (.t 122), none, 0⟩,
 ⟨none, .mv 124 (.t 123), none, 0⟩,
 ⟨some (124, false), .mv 125 (.t 14), none, 125⟩,
 ⟨some (124, false), .un 126 .not (.t 125), none, 126⟩,
 ⟨some (124, false), .mv 127 (.t 126), none, 127⟩,
 ⟨some (127, true), .mv 128 (.t 21), none, 128⟩,
 ⟨some (127, true), .bin 129 .neq (.t 128) (.i 90), none, 129⟩,
 ⟨some (124, false), .pick 130 (.t 127) (.t 129) (.b false), none, 130⟩,
 ⟨none, .pick 131 (.t 124) (.b true) (.t 130), none, 0⟩,
 ⟨none, .mv 132 (.t 131), none, 0⟩,
 ⟨some (132, false), .mv 133 (.t 15), none, 133⟩,
 ⟨some (132, false), .un 134 .not (.t 133), none, 134⟩,
 ⟨some (132, false), .mv 135 (.t 134), none, 135⟩,
 ⟨some (135, true), .mv 136 (.t 23), none, 136⟩,
 ⟨some (135, true), .bin 137 .neq (.t 136) (.i 90), none, 137⟩,
 ⟨some (132, false), .pick 138 (.t 135) (.t 137) (.b false), none, 138⟩,
 ⟨none, .pick 139 (.t 132) (.b true) (.t 138), none, 0⟩]
def c10r28 : List SI := [
 ⟨none, .mv 8 (.b false), none, 0⟩]
def c10r29 : List SI := [
 ⟨none, .mv 140 (.t 9), none, 0⟩,
 ⟨none, .mv 141 (.t 140), none, 0⟩,
 ⟨some (141, true), .mv 142 (.t 14), none, 142⟩,
 ⟨some (141, true), .un 143 .not (.t 142), none, 143⟩,
 ⟨some (141, true), .mv 144 (.t 143), none, 144⟩,
 ⟨some (144, false), .ldR 145 16 0 (some 10), none, 145⟩,
 ⟨some (144, false), .ldR 146 20 0 (some 10), none, 146⟩,
 ⟨some (144, false), .call 147 31 [(.t 145), (.t 146)], none, 147⟩,
 ⟨some (141, true), .pick 148 (.t 144) (.b true) (.t 147), none, 148⟩,
 ⟨none, .pick 149 (.t 141) (.t 148) (.b false), none, 0⟩,
 ⟨none, .mv 150 (.t 149), none, 0⟩,
 ⟨some (150, true), .mv 151 (.t 22), none, 151⟩,
 ⟨some (150, true), .mv 152 (.t 17), none, 152⟩,
 ⟨some (150, true), .bin 153 .eql (.t 151) (.t 152), none, 153⟩,
 ⟨none, .pick 154 (.t 150) (.t 153) (.b false), none, 0⟩,
 ⟨none, .mv 8 (.t 154), none, 0⟩]
def c10 : SC :=
 (.seq (.reg false c10r0)
 (.seq (.reg false c10r1)
 (.seq (.seq (.reg false c10r2)
 (.cond (.t 26)
  (.seq (.reg false c10r3)
  .ret)
  .skip))
 (.seq (.seq (.reg false c10r4)
 (.cond (.t 29)
  (.seq (.reg false c10r5)
  .ret)
  .skip))
 (.seq (.reg false c10r6)
 (.seq (.seq (.reg false c10r7)
 (.cond (.t 38)
  (.seq (.reg false c10r8)
  .ret)
  .skip))
 (.seq (.reg false c10r9)
 (.seq (.reg false c10r10)
 (.seq (.reg false c10r11)
 (.seq (.reg false c10r12)
 (.seq (.seq (.reg false c10r13)
 (.blk 0 (.loop (.seq (.seq (.reg false c10r14)
   (.cond (.t 48)
    .skip
    (.exit 0)))
   (.seq (.blk 1 (.seq (.seq (.reg false c10r15)
    (.cond (.t 61)
     (.seq (.reg false c10r16)
     (.reg false c10r17))
     .skip))
    (.seq (.reg false c10r18)
    (.blk 2 (.loop (.seq (.seq (.reg false c10r19)
      (.cond (.t 73)
       .skip
       (.exit 2)))
      (.seq (.blk 3 (.seq (.reg false c10r20)
       (.cond (.t 90)
        (.seq (.reg false c10r21)
        (.reg false c10r22))
        .skip)))
      (.reg false c10r23))))))))
   (.reg false c10r24))))))
 (.seq (.reg false c10r25)
 (.seq (.reg false c10r26)
 (.seq (.seq (.reg false c10r27)
 (.cond (.t 139)
  (.seq (.reg false c10r28)
  .ret)
  .skip))
 (.seq (.reg false c10r29)
 .ret)))))))))))))))
def v10 : List Nat × List Nat := ([4, 16, 20], [4, 16, 20])
def o10 : List RS := [.t 8]
theorem s10 : slimC Try.prog Try.f10.ntmps v10.1 v10.2 ((Try.f10.body).getD .skip) = some c10 := by kernel_rfl
theorem q10 : slimR Try.prog Try.f10.ntmps v10.1 v10.2 Try.f10.results.toList = some o10 := by kernel_rfl
-- watermeet/watermeetlaw08.live N=135
def c11r0 : List SI := [
 ⟨none, .mv 0 (.b false), none, 0⟩]
def c11r1 : List SI := [
 ⟨none, .call 12 32 [], none, 0⟩,
 ⟨none, .mv 11 (.t 12), none, 0⟩,
 ⟨none, .ext 13 (.t 11) 0, none, 0⟩,
 ⟨none, .ext 14 (.t 11) 1, none, 0⟩,
 ⟨none, .alR 1 [(.int .i64 0), (.slice none 0 0)], none, 0⟩,
 ⟨none, .stR 1 0 2 (.t 13), none, 0⟩,
 ⟨none, .mv 2 (.t 14), none, 0⟩]
def c11r2 : List SI := [
 ⟨none, .ldR 16 1 0 (some 2), none, 0⟩,
 ⟨none, .call 17 13 [(.t 16), (.i 1)], none, 0⟩,
 ⟨none, .mv 15 (.t 17), none, 0⟩,
 ⟨none, .ext 18 (.t 15) 0, none, 0⟩,
 ⟨none, .ext 19 (.t 15) 1, none, 0⟩,
 ⟨none, .mv 3 (.t 18), none, 0⟩,
 ⟨none, .mv 4 (.t 19), none, 0⟩]
def c11r3 : List SI := [
 ⟨none, .mv 20 (.t 2), none, 0⟩,
 ⟨none, .un 21 .not (.t 20), none, 0⟩,
 ⟨none, .mv 22 (.t 21), none, 0⟩,
 ⟨some (22, false), .mv 23 (.t 4), none, 23⟩,
 ⟨some (22, false), .bin 24 .neq (.t 23) (.i 0), none, 24⟩,
 ⟨none, .pick 25 (.t 22) (.b true) (.t 24), none, 0⟩,
 ⟨none, .mv 26 (.t 25), none, 0⟩,
 ⟨some (26, false), .mv 27 (.t 3), none, 27⟩,
 ⟨some (26, false), .len 28 false (.t 27), none, 28⟩,
 ⟨some (26, false), .bin 29 .neq (.t 28) (.i 2), none, 29⟩,
 ⟨none, .pick 30 (.t 26) (.b true) (.t 29), none, 0⟩]
def c11r4 : List SI := [
 ⟨none, .mv 0 (.b false), none, 0⟩]
def c11r5 : List SI := [
 ⟨none, .ldR 32 1 0 (some 2), none, 0⟩,
 ⟨none, .mv 33 (.t 3), none, 0⟩,
 ⟨none, .call 34 24 [(.t 32), (.t 33), (.i 6)], none, 0⟩,
 ⟨none, .mv 31 (.t 34), none, 0⟩,
 ⟨none, .ext 35 (.t 31) 0, none, 0⟩,
 ⟨none, .ext 36 (.t 31) 1, none, 0⟩,
 ⟨none, .mv 5 (.t 35), none, 0⟩,
 ⟨none, .mv 6 (.t 36), none, 0⟩]
def c11r6 : List SI := [
 ⟨none, .ldR 38 1 0 (some 2), none, 0⟩,
 ⟨none, .mv 39 (.t 3), none, 0⟩,
 ⟨none, .call 40 24 [(.t 38), (.t 39), (.i 8)], none, 0⟩,
 ⟨none, .mv 37 (.t 40), none, 0⟩,
 ⟨none, .ext 41 (.t 37) 0, none, 0⟩,
 ⟨none, .ext 42 (.t 37) 1, none, 0⟩,
 ⟨none, .mv 7 (.t 41), none, 0⟩,
 ⟨none, .mv 8 (.t 42), none, 0⟩]
def c11r7 : List SI := [
 ⟨none, .ldR 44 1 0 (some 2), none, 0⟩,
 ⟨none, .mv 45 (.t 3), none, 0⟩,
 ⟨none, .call 46 22 [(.t 44), (.t 45), (.i 2)], none, 0⟩,
 ⟨none, .mv 43 (.t 46), none, 0⟩,
 ⟨none, .ext 47 (.t 43) 0, none, 0⟩,
 ⟨none, .ext 48 (.t 43) 1, none, 0⟩,
 ⟨none, .alR 9 [(.int .i64 0), (.int .i64 0), (.int .i64 0), (.int .i64 0), (.int .i64 0), (.int .i64 0), (.int .i64 0), (.bool false), (.int .i64 0), (.slice none 0 0)], none, 0⟩,
 ⟨none, .stR 9 0 10 (.t 47), none, 0⟩,
 ⟨none, .mv 10 (.t 48), none, 0⟩]
-- BIG 8
def c11r8 : List (Bool × SI) := [
 (true, ⟨none, .mv 49 (.t 3), none, 0⟩),
 (true, ⟨none, .ixA 50 (.t 49) (.i 0) 3, none, 0⟩),
 (true, ⟨none, .ld 51 (.t 50) (some 3), none, 0⟩),
 (true, ⟨none, .bld 52 [(.int .i64 0), (.int .i64 0), (.int .i64 0)] [(2, 1, (.i 7))], none, 0⟩),
 (true, ⟨none, .eqf 53 false [0, 0, 0] (.t 51) (.t 52), none, 0⟩),
 (true, ⟨none, .mv 54 (.t 53), none, 0⟩),
 (true, ⟨some (54, true), .mv 55 (.t 3), none, 55⟩),
 (true, ⟨some (54, true), .ixA 56 (.t 55) (.i 1) 3, none, 56⟩),
 (true, ⟨some (54, true), .flA 57 (.t 56) 0, none, 57⟩),
 (true, ⟨some (54, true), .ld 58 (.t 57) none, none, 58⟩),
 (true, ⟨some (54, true), .bin 59 .eql (.t 58) (.i 2), none, 59⟩),
 (true, ⟨none, .pick 60 (.t 54) (.t 59) (.b false), none, 0⟩),
 (true, ⟨none, .mv 61 (.t 60), none, 0⟩),
 (true, ⟨some (61, true), .mv 62 (.t 3), none, 62⟩),
 (true, ⟨some (61, true), .ixA 63 (.t 62) (.i 1) 3, none, 63⟩),
 (true, ⟨some (61, true), .flA 64 (.t 63) 1, none, 64⟩),
 (true, ⟨some (61, true), .ld 65 (.t 64) none, none, 65⟩),
 (true, ⟨some (61, true), .bin 66 .gtr (.t 65) (.i 0), none, 66⟩),
 (true, ⟨none, .pick 67 (.t 61) (.t 66) (.b false), none, 0⟩),
 (true, ⟨none, .mv 68 (.t 67), none, 0⟩),
 (true, ⟨some (68, true), .mv 69 (.t 3), none, 69⟩),
 (true, ⟨some (68, true), .ixA 70 (.t 69) (.i 1) 3, none, 70⟩),
 (true, ⟨some (68, true), .flA 71 (.t 70) 2, none, 71⟩),
 (true, ⟨some (68, true), .ld 72 (.t 71) none, none, 72⟩),
 (true, ⟨some (68, true), .bin 73 .eql (.t 72) (.i 7), none, 73⟩),
 (true, ⟨none, .pick 74 (.t 68) (.t 73) (.b false), none, 0⟩),
 (true, ⟨none, .mv 75 (.t 74), none, 0⟩),
 (true, ⟨some (75, true), .mv 76 (.t 5), none, 76⟩),
 (true, ⟨some (75, true), .bin 77 .eql (.t 76) (.i 1), none, 77⟩),
 (true, ⟨none, .pick 78 (.t 75) (.t 77) (.b false), none, 0⟩),
 (true, ⟨none, .mv 79 (.t 78), none, 0⟩),
 (true, ⟨some (79, true), .mv 80 (.t 6), none, 80⟩),
 (true, ⟨some (79, true), .bin 81 .eql (.t 80) (.i 0), none, 81⟩),
 (true, ⟨none, .pick 82 (.t 79) (.t 81) (.b false), none, 0⟩),
 (true, ⟨none, .mv 83 (.t 82), none, 0⟩),
 (true, ⟨some (83, true), .mv 84 (.t 8), none, 84⟩),
 (true, ⟨some (83, true), .bin 85 .eql (.t 84) (.i 90), none, 85⟩),
 (true, ⟨none, .pick 86 (.t 83) (.t 85) (.b false), none, 0⟩),
 (true, ⟨none, .mv 87 (.t 86), none, 0⟩),
 (true, ⟨some (87, true), .nop, (some 9), 99999⟩),
 (true, ⟨some (87, true), .ldR 89 9 0 none, none, 89⟩),
 (true, ⟨some (87, true), .bin 90 .eql (.t 89) (.i 2), none, 90⟩),
 (true, ⟨none, .pick 91 (.t 87) (.t 90) (.b false), none, 0⟩),
 (true, ⟨none, .mv 92 (.t 91), none, 0⟩),
 (true, ⟨some (92, true), .mv 93 (.t 10), none, 93⟩),
 (true, ⟨some (92, true), .bin 94 .eql (.t 93) (.i 0), none, 94⟩),
 (true, ⟨none, .pick 95 (.t 92) (.t 94) (.b false), none, 0⟩),
 (true, ⟨none, .mv 96 (.t 95), none, 0⟩),
 (true, ⟨some (96, true), .ldR 97 1 0 (some 2), none, 97⟩),
 (true, ⟨some (96, true), .mv 98 (.t 3), none, 98⟩),
 (false, ⟨some (96, true), .call 99 16 [(.t 97), (.t 98)], none, 99⟩),
 (true, ⟨some (96, true), .bin 100 .eql (.t 99) (.i 0), none, 100⟩),
 (true, ⟨none, .pick 101 (.t 96) (.t 100) (.b false), none, 0⟩),
 (true, ⟨none, .mv 102 (.t 101), none, 0⟩),
 (true, ⟨some (102, true), .ldR 103 1 0 (some 2), none, 103⟩),
 (false, ⟨some (102, true), .call 104 16 [(.t 103), (.v (.slice none 0 0))], none, 104⟩),
 (true, ⟨some (102, true), .bin 105 .eql (.t 104) (.i 1), none, 105⟩),
 (true, ⟨none, .pick 106 (.t 102) (.t 105) (.b false), none, 0⟩),
 (true, ⟨none, .mv 107 (.t 106), none, 0⟩),
 (true, ⟨some (107, true), .mv 108 (.t 3), none, 108⟩),
 (false, ⟨some (107, true), .call 109 18 [(.t 108), (.i 1)], none, 109⟩),
 (true, ⟨some (107, true), .bin 110 .eql (.t 109) (.i 0), none, 110⟩),
 (true, ⟨none, .pick 111 (.t 107) (.t 110) (.b false), none, 0⟩),
 (true, ⟨none, .mv 112 (.t 111), none, 0⟩),
 (true, ⟨some (112, true), .mv 113 (.t 3), none, 113⟩),
 (true, ⟨some (112, true), .mv 115 (.t 3), none, 115⟩),
 (true, ⟨some (112, true), .ixA 116 (.t 115) (.i 1) 3, none, 116⟩),
 (true, ⟨some (112, true), .flA 117 (.t 116) 1, none, 117⟩),
 (true, ⟨some (112, true), .ld 118 (.t 117) none, none, 118⟩),
 (false, ⟨some (112, true), .call 114 18 [(.t 113), (.i 2)], none, 114⟩),
 (true, ⟨some (112, true), .bin 119 .eql (.t 114) (.t 118), none, 119⟩),
 (true, ⟨none, .pick 120 (.t 112) (.t 119) (.b false), none, 0⟩),
 (true, ⟨none, .mv 121 (.t 120), none, 0⟩),
 (true, ⟨some (121, true), .mv 122 (.t 3), none, 122⟩),
 (true, ⟨some (121, true), .mv 124 (.t 3), none, 124⟩),
 (true, ⟨some (121, true), .ixA 125 (.t 124) (.i 1) 3, none, 125⟩),
 (true, ⟨some (121, true), .flA 126 (.t 125) 1, none, 126⟩),
 (true, ⟨some (121, true), .ld 127 (.t 126) none, none, 127⟩),
 (false, ⟨some (121, true), .call 123 20 [(.t 122), (.i 8)], none, 123⟩),
 (true, ⟨some (121, true), .bin 128 .eql (.t 123) (.t 127), none, 128⟩),
 (true, ⟨none, .pick 129 (.t 121) (.t 128) (.b false), none, 0⟩),
 (true, ⟨none, .mv 130 (.t 129), none, 0⟩),
 (true, ⟨some (130, true), .mv 131 (.t 3), none, 131⟩),
 (false, ⟨some (130, true), .call 132 20 [(.t 131), (.i 7)], none, 132⟩),
 (true, ⟨some (130, true), .bin 133 .eql (.t 132) (.i 0), none, 133⟩),
 (true, ⟨none, .pick 134 (.t 130) (.t 133) (.b false), none, 0⟩),
 (true, ⟨none, .mv 0 (.t 134), none, 0⟩)]
def c11 : SC :=
 (.seq (.reg false c11r0)
 (.seq (.reg false c11r1)
 (.seq (.reg false c11r2)
 (.seq (.seq (.reg false c11r3)
 (.cond (.t 30)
  (.seq (.reg false c11r4)
  .ret)
  .skip))
 (.seq (.reg false c11r5)
 (.seq (.reg false c11r6)
 (.seq (.reg false c11r7)
 (.seq (.rgX c11r8)
 .ret))))))))
def v11 : List Nat × List Nat := ([1, 9], [1, 9, 88])
def o11 : List RS := [.t 0]
def u11r8 : List (Bool × Nat) := [(true, 0), (true, 1), (true, 2), (true, 3), (true, 4), (true, 5), (true, 6), (true, 7), (true, 8), (true, 9), (true, 10), (true, 11), (true, 12), (true, 13), (true, 14), (true, 15), (true, 16), (true, 17), (true, 18), (true, 19), (true, 20), (true, 21), (true, 22), (true, 23), (true, 24), (true, 25), (true, 26), (true, 27), (true, 28), (true, 29), (true, 30), (true, 31), (true, 32), (true, 33), (true, 34), (true, 35), (true, 36), (true, 37), (true, 38), (true, 39), (true, 40), (true, 41), (true, 42), (true, 43), (true, 44), (true, 45), (true, 46), (true, 47), (true, 48), (true, 49), (false, 50), (true, 51), (true, 52), (true, 53), (true, 54), (false, 55), (true, 56), (true, 57), (true, 58), (true, 59), (false, 60), (true, 61), (true, 62), (true, 63), (true, 64), (true, 66), (true, 67), (true, 68), (true, 69), (false, 65), (true, 70), (true, 71), (true, 72), (true, 73), (true, 75), (true, 76), (true, 77), (true, 78), (false, 74), (true, 79), (true, 80), (true, 81), (true, 82), (false, 83), (true, 84), (true, 85), (true, 86)]
theorem x11r8a : (Region.noSelect (regN 8 ((Try.f11.body).getD .skip)) && (regN 8 ((Try.f11.body).getD .skip)).all (dstOk v11.1)) = true := by kernel_rfl
theorem x11r8b : schedB .any (regN 8 ((Try.f11.body).getD .skip)) u11r8 (Array.replicate (regN 8 ((Try.f11.body).getD .skip)).size false) = true := by kernel_rfl
theorem x11r8c : slimX3 Try.prog Try.f11.ntmps v11.1 v11.2 (regN 8 ((Try.f11.body).getD .skip)) u11r8 = some c11r8 := by kernel_rfl
theorem x11r8 : XOk Try.prog Try.f11.ntmps v11.1 v11.2 (regN 8 ((Try.f11.body).getD .skip)) c11r8 := XOk.mk u11r8 x11r8a x11r8b (by kernel_rfl) x11r8c
theorem s11 : SlimC Try.prog Try.f11.ntmps v11.1 v11.2 ((Try.f11.body).getD .skip) c11 := SlimC.mk [(8, c11r8)] (⟨⟨_, by kernel_rfl, x11r8⟩, trivial⟩) (by kernel_rfl)
theorem q11 : slimR Try.prog Try.f11.ntmps v11.1 v11.2 Try.f11.results.toList = some o11 := by kernel_rfl
-- watermeet/watermeetlaw08.few N=14
def c12r0 : List SI := [
 ⟨none, .bxR 2 (.t 0), none, 0⟩,
 ⟨none, .mv 4 (.b false), none, 0⟩]
def c12r1 : List SI := [
 ⟨none, .nop, (some 2), 0⟩,
 ⟨none, .ldR 6 2 1 none, none, 0⟩,
 ⟨none, .len 7 false (.t 6), none, 0⟩,
 ⟨none, .bin 8 .leq (.t 7) (.i 3000), none, 0⟩,
 ⟨none, .mv 9 (.t 8), none, 0⟩,
 ⟨some (9, true), .mv 10 (.t 1), none, 10⟩,
 ⟨some (9, true), .len 11 false (.t 10), none, 11⟩,
 ⟨some (9, true), .bin 12 .leq (.t 11) (.i 200), none, 12⟩,
 ⟨none, .pick 13 (.t 9) (.t 12) (.b false), none, 0⟩,
 ⟨none, .mv 4 (.t 13), none, 0⟩]
def c12 : SC :=
 (.seq (.reg false c12r0)
 (.seq (.reg false c12r1)
 .ret))
def v12 : List Nat × List Nat := ([2], [2, 5])
def o12 : List RS := [.t 4]
theorem s12 : slimC Try.prog Try.f12.ntmps v12.1 v12.2 ((Try.f12.body).getD .skip) = some c12 := by kernel_rfl
theorem q12 : slimR Try.prog Try.f12.ntmps v12.1 v12.2 Try.f12.results.toList = some o12 := by kernel_rfl
-- watermeet/index.Make N=43
def c13r0 : List SI := [
 ⟨none, .bx 2 (.t 0), none, 0⟩,
 ⟨none, .bx 3 (.t 1), none, 0⟩,
 ⟨none, .mv 4 (.v (.slice none 0 0)), none, 0⟩,
 ⟨none, .mv 5 (.i 0), none, 0⟩]
def c13r1 : List SI := [
 ⟨none, .ld 12 (.t 2) (some 2), none, 0⟩,
 ⟨none, .call 13 33 [(.t 12)], none, 0⟩,
 ⟨none, .mv 11 (.t 13), none, 0⟩,
 ⟨none, .ext 14 (.t 11) 0, none, 0⟩,
 ⟨none, .ext 15 (.t 11) 1, none, 0⟩,
 ⟨none, .mv 6 (.t 14), none, 0⟩,
 ⟨none, .mv 7 (.t 15), none, 0⟩]
def c13r2 : List SI := [
 ⟨none, .mv 16 (.t 7), none, 0⟩,
 ⟨none, .un 17 .not (.t 16), none, 0⟩,
 ⟨none, .mv 18 (.t 17), none, 0⟩,
 ⟨some (18, false), .ld 19 (.t 3) none, none, 19⟩,
 ⟨some (18, false), .bin 20 .lss (.t 19) (.i 1), none, 20⟩,
 ⟨none, .pick 21 (.t 18) (.b true) (.t 20), none, 0⟩,
 ⟨none, .mv 22 (.t 21), none, 0⟩,
 ⟨some (22, false), .ld 23 (.t 3) none, none, 23⟩,
 ⟨some (22, false), .bin 24 .gtr (.t 23) (.i 4096), none, 24⟩,
 ⟨none, .pick 25 (.t 22) (.b true) (.t 24), none, 0⟩]
def c13r3 : List SI := [
 ⟨none, .mv 4 (.v (.slice none 0 0)), none, 0⟩,
 ⟨none, .mv 5 (.i 1), none, 0⟩]
def c13r4 : List SI := [
 ⟨none, .al 8 [(.slice none 0 0)], none, 0⟩]
def c13r5 : List SI := [
 ⟨none, .al 9 [(.int .i64 0)], none, 0⟩,
 ⟨none, .st (.t 9) 1 (.i 0), none, 0⟩]
def c13r6 : List SI := [
 ⟨none, .mv 26 (.t 6), none, 0⟩,
 ⟨none, .call 27 34 [(.t 26)], none, 0⟩]
def c13r7 : List SI := [
 ⟨none, .alR 10 [(.int .i64 0), (.int .i64 0), (.int .i64 0)], none, 0⟩,
 ⟨none, .stR 10 0 3 (.t 28), none, 0⟩]
def c13r8 : List SI := [
 ⟨none, .nop, (some 10), 0⟩,
 ⟨none, .ldR 31 10 1 none, none, 0⟩,
 ⟨none, .ld 32 (.t 9) none, none, 0⟩,
 ⟨none, .bin 33 .geq (.t 31) (.t 32), none, 0⟩]
def c13r9 : List SI := [
 ⟨none, .ld 34 (.t 8) none, none, 0⟩,
 ⟨none, .ldR 35 10 0 (some 3), none, 0⟩,
 ⟨none, .bls 36 53 1 3 [(.int .i64 0), (.int .i64 0), (.int .i64 0)] [(0, 3, (.t 35))], none, 0⟩,
 ⟨none, .app 37 (.t 34) (.t 36) 53 3 24, none, 0⟩,
 ⟨none, .st (.t 8) 1 (.t 37), none, 0⟩]
def c13r10 : List SI := [
 ⟨none, .nop, (some 10), 0⟩,
 ⟨none, .ldR 39 10 1 none, none, 0⟩,
 ⟨none, .ld 40 (.t 3) none, none, 0⟩,
 ⟨none, .bin 41 .add (.t 39) (.t 40), none, 0⟩,
 ⟨none, .st (.t 9) 1 (.t 41), none, 0⟩]
def c13r11 : List SI := [
 ⟨none, .ld 42 (.t 8) none, none, 0⟩,
 ⟨none, .mv 4 (.t 42), none, 0⟩,
 ⟨none, .mv 5 (.i 0), none, 0⟩]
def c13 : SC :=
 (.seq (.reg false c13r0)
 (.seq (.reg false c13r1)
 (.seq (.seq (.reg false c13r2)
 (.cond (.t 25)
  (.seq (.reg false c13r3)
  .ret)
  .skip))
 (.seq (.reg false c13r4)
 (.seq (.reg false c13r5)
 (.seq (.seq (.reg false c13r6)
 (.blk 0 (.rf (.t 27) [28, 29] (.reg false c13r7)
   (.blk 1 (.seq (.reg false c13r8)
    (.cond (.t 33)
     (.seq (.reg false c13r9)
     (.reg false c13r10))
     .skip))))))
 (.seq (.reg false c13r11)
 .ret)))))))
def v13 : List Nat × List Nat := ([10], [10, 30, 38])
def o13 : List RS := [.t 4, .t 5]
theorem s13 : slimC Try.prog Try.f13.ntmps v13.1 v13.2 ((Try.f13.body).getD .skip) = some c13 := by kernel_rfl
theorem q13 : slimR Try.prog Try.f13.ntmps v13.1 v13.2 Try.f13.results.toList = some o13 := by kernel_rfl
-- watermeet/watermeetref08.Make N=56
def c16r0 : List SI := [
 ⟨none, .bx 2 (.t 0), none, 0⟩,
 ⟨none, .al 4 [(.int .i64 0)], none, 0⟩]
def c16r1 : List SI := [
 ⟨none, .ld 10 (.t 2) (some 2), none, 0⟩,
 ⟨none, .call 11 33 [(.t 10)], none, 0⟩,
 ⟨none, .mv 9 (.t 11), none, 0⟩,
 ⟨none, .ext 12 (.t 9) 0, none, 0⟩,
 ⟨none, .ext 13 (.t 9) 1, none, 0⟩,
 ⟨none, .mv 5 (.t 12), none, 0⟩,
 ⟨none, .mv 6 (.t 13), none, 0⟩]
def c16r2 : List SI := [
 ⟨none, .mv 14 (.t 6), none, 0⟩,
 ⟨none, .un 15 .not (.t 14), none, 0⟩]
def c16r3 : List SI := [
 ⟨none, .st (.t 4) 1 (.i 1), none, 0⟩]
def c16r4 : List SI := [
 ⟨none, .mv 16 (.t 1), none, 0⟩,
 ⟨none, .al 7 [(.slice none 0 0)], none, 0⟩,
 ⟨none, .st (.t 7) 1 (.t 16), none, 0⟩]
def c16r5 : List SI := [
 ⟨none, .mv 17 (.t 5), none, 0⟩,
 ⟨none, .call 18 34 [(.t 17)], none, 0⟩]
def c16r6 : List SI := [
 ⟨none, .alR 8 [(.int .i64 0), (.int .i64 0), (.int .i64 0)], none, 0⟩,
 ⟨none, .stR 8 0 3 (.t 19), none, 0⟩]
def c16r7 : List SI := [
 ⟨none, .ld 22 (.t 7) none, none, 0⟩,
 ⟨none, .len 23 false (.t 22), none, 0⟩,
 ⟨none, .bin 24 .gtr (.t 23) (.i 0), none, 0⟩,
 ⟨none, .mv 25 (.t 24), none, 0⟩,
 ⟨some (25, true), .ld 26 (.t 7) none, none, 26⟩,
 ⟨some (25, true), .ixA 27 (.t 26) (.i 0) 3, none, 27⟩,
 ⟨some (25, true), .ld 28 (.t 27) (some 3), none, 28⟩,
 ⟨some (25, true), .ldR 29 8 0 (some 3), none, 29⟩,
 ⟨some (25, true), .eqf 30 false [0, 0, 0] (.t 28) (.t 29), none, 30⟩,
 ⟨none, .pick 31 (.t 25) (.t 30) (.b false), none, 0⟩,
 ⟨none, .mv 21 (.t 31), none, 0⟩]
def c16r8 : List SI := [
 ⟨none, .ld 32 (.t 7) none, none, 0⟩,
 ⟨none, .sl 33 (.t 32) (some (.i 1)) none none 3, none, 0⟩,
 ⟨none, .st (.t 7) 1 (.t 33), none, 0⟩]
def c16r9 : List SI := [
 ⟨none, .nop, (some 8), 0⟩,
 ⟨none, .ldR 36 8 1 none, none, 0⟩,
 ⟨none, .bin 37 .eql (.t 36) (.i 0), none, 0⟩,
 ⟨none, .mv 34 (.t 37), none, 0⟩]
def c16r10 : List SI := [
 ⟨none, .st (.t 4) 1 (.i 1), none, 0⟩]
def c16r11 : List SI := [
 ⟨none, .ld 38 (.t 7) none, none, 0⟩,
 ⟨none, .len 39 false (.t 38), none, 0⟩,
 ⟨none, .bin 40 .gtr (.t 39) (.i 0), none, 0⟩]
def c16r12 : List SI := [
 ⟨none, .st (.t 4) 1 (.i 1), none, 0⟩]
def c16r13 : List SI := [
 ⟨none, .st (.t 4) 1 (.i 0), none, 0⟩]
def c16 : SC :=
 (.seq (.reg false c16r0)
 (.seq (.reg false c16r1)
 (.seq (.seq (.reg false c16r2)
 (.cond (.t 15)
  (.seq (.reg false c16r3)
  .ret)
  .skip))
 (.seq (.reg false c16r4)
 (.seq (.seq (.reg false c16r5)
 (.blk 0 (.rf (.t 18) [19, 20] (.reg false c16r6)
   (.blk 1 (.blk 2 (.seq (.reg true c16r7)
     (.cond (.t 21)
      (.reg false c16r8)
      (.seq (.reg false c16r9)
      (.cond (.t 34)
       (.seq (.reg false c16r10)
       .ret)
       .skip)))))))))
 (.seq (.seq (.reg false c16r11)
 (.cond (.t 40)
  (.seq (.reg false c16r12)
  .ret)
  .skip))
 (.seq (.reg false c16r13)
 .ret)))))))
def v16 : List Nat × List Nat := ([8], [8, 35])
def o16 : List RS := [.c 4 none]
theorem s16 : slimC Try.prog Try.f16.ntmps v16.1 v16.2 ((Try.f16.body).getD .skip) = some c16 := by kernel_rfl
theorem q16 : slimR Try.prog Try.f16.ntmps v16.1 v16.2 Try.f16.results.toList = some o16 := by kernel_rfl
-- watermeet/watermeetref08.Check N=42
def c18r0 : List SI := [
 ⟨none, .bx 3 (.t 1), none, 0⟩,
 ⟨none, .mv 4 (.i 0), none, 0⟩]
def c18r1 : List SI := [
 ⟨none, .mv 5 (.t 0), none, 0⟩,
 ⟨none, .mkf 6 (.func 38) [(.t 3)], none, 0⟩,
 ⟨none, .call 7 37 [(.t 5), (.t 6)], none, 0⟩,
 ⟨none, .mv 4 (.t 7), none, 0⟩]
def c18 : SC :=
 (.seq (.reg false c18r0)
 (.seq (.reg false c18r1)
 .ret))
def v18 : List Nat × List Nat := ([], [])
def o18 : List RS := [.t 4]
theorem s18 : slimC Try.prog Try.f18.ntmps v18.1 v18.2 ((Try.f18.body).getD .skip) = some c18 := by kernel_rfl
theorem q18 : slimR Try.prog Try.f18.ntmps v18.1 v18.2 Try.f18.results.toList = some o18 := by kernel_rfl
-- watermeet/watermeetref08.Floor N=26
def c20r0 : List SI := [
 ⟨none, .bx 3 (.t 1), none, 0⟩,
 ⟨none, .mv 4 (.i 0), none, 0⟩]
def c20r1 : List SI := [
 ⟨none, .mv 5 (.t 0), none, 0⟩,
 ⟨none, .mkf 6 (.func 39) [(.t 3)], none, 0⟩,
 ⟨none, .call 7 37 [(.t 5), (.t 6)], none, 0⟩,
 ⟨none, .mv 4 (.t 7), none, 0⟩]
def c20 : SC :=
 (.seq (.reg false c20r0)
 (.seq (.reg false c20r1)
 .ret))
def v20 : List Nat × List Nat := ([], [])
def o20 : List RS := [.t 4]
theorem s20 : slimC Try.prog Try.f20.ntmps v20.1 v20.2 ((Try.f20.body).getD .skip) = some c20 := by kernel_rfl
theorem q20 : slimR Try.prog Try.f20.ntmps v20.1 v20.2 Try.f20.results.toList = some o20 := by kernel_rfl
-- watermeet/watermeetref08.When N=26
def c22r0 : List SI := [
 ⟨none, .bx 3 (.t 0), none, 0⟩,
 ⟨none, .bx 5 (.t 2), none, 0⟩,
 ⟨none, .al 6 [(.int .i64 0), (.int .i64 0), (.int .i64 0), (.int .i64 0), (.int .i64 0), (.int .i64 0), (.int .i64 0), (.bool false), (.int .i64 0), (.slice none 0 0)], none, 0⟩,
 ⟨none, .al 7 [(.int .i64 0)], none, 0⟩]
def c22r1 : List SI := [
 ⟨none, .ld 10 (.t 3) (some 2), none, 0⟩,
 ⟨none, .mv 11 (.t 1), none, 0⟩,
 ⟨none, .call 12 16 [(.t 10), (.t 11)], none, 0⟩,
 ⟨none, .mv 8 (.t 12), none, 0⟩]
def c22r2 : List SI := [
 ⟨none, .mv 13 (.t 8), none, 0⟩,
 ⟨none, .bin 14 .neq (.t 13) (.i 0), none, 0⟩]
def c22r3 : List SI := [
 ⟨none, .bld 15 [(.int .i64 0), (.int .i64 0), (.int .i64 0), (.int .i64 0), (.int .i64 0), (.int .i64 0), (.int .i64 0), (.bool false), (.int .i64 0), (.slice none 0 0)] [], none, 0⟩,
 ⟨none, .mv 16 (.t 8), none, 0⟩,
 ⟨none, .st (.t 6) 10 (.t 15), none, 0⟩,
 ⟨none, .st (.t 7) 1 (.t 16), none, 0⟩]
def c22r4 : List (Bool × SI) := [
 (true, ⟨none, .ld 17 (.t 3) (some 2), none, 0⟩),
 (true, ⟨none, .mv 18 (.t 1), none, 0⟩),
 (true, ⟨none, .ld 19 (.t 5) none, none, 0⟩),
 (false, ⟨none, .call 20 18 [(.t 18), (.t 19)], none, 0⟩),
 (false, ⟨none, .call 21 40 [(.t 17), (.t 20)], none, 0⟩)]
def c22r5 : List SI := [
 ⟨none, .alR 9 [(.int .i64 0), (.int .i64 0), (.int .i64 0), (.int .i64 0), (.int .i64 0), (.int .i64 0), (.int .i64 0), (.bool false), (.int .i64 0), (.slice none 0 0)], none, 0⟩,
 ⟨none, .stR 9 0 10 (.t 22), none, 0⟩]
def c22r6 : List SI := [
 ⟨none, .nop, (some 9), 0⟩,
 ⟨none, .ldR 24 9 1 none, none, 0⟩,
 ⟨none, .ld 25 (.t 5) none, none, 0⟩,
 ⟨none, .bin 26 .geq (.t 24) (.t 25), none, 0⟩]
def c22r7 : List SI := [
 ⟨none, .ldR 27 9 0 (some 10), none, 0⟩,
 ⟨none, .st (.t 6) 10 (.t 27), none, 0⟩,
 ⟨none, .st (.t 7) 1 (.i 0), none, 0⟩]
def c22r8 : List SI := [
 ⟨none, .bld 28 [(.int .i64 0), (.int .i64 0), (.int .i64 0), (.int .i64 0), (.int .i64 0), (.int .i64 0), (.int .i64 0), (.bool false), (.int .i64 0), (.slice none 0 0)] [], none, 0⟩,
 ⟨none, .st (.t 6) 10 (.t 28), none, 0⟩,
 ⟨none, .st (.t 7) 1 (.i 90), none, 0⟩]
def c22 : SC :=
 (.seq (.reg false c22r0)
 (.seq (.seq (.reg false c22r1)
 (.seq (.reg false c22r2)
 (.cond (.t 14)
  (.seq (.reg false c22r3)
  .ret)
  .skip)))
 (.seq (.seq (.rgX c22r4)
 (.blk 0 (.rf (.t 21) [22] (.reg false c22r5)
   (.blk 1 (.seq (.reg false c22r6)
    (.cond (.t 26)
     (.seq (.reg false c22r7)
     .ret)
     .skip))))))
 (.seq (.reg false c22r8)
 .ret))))
def v22 : List Nat × List Nat := ([9], [9, 23])
def o22 : List RS := [.c 6 (some 10), .c 7 none]
theorem s22 : slimC Try.prog Try.f22.ntmps v22.1 v22.2 ((Try.f22.body).getD .skip) = some c22 := by kernel_rfl
theorem q22 : slimR Try.prog Try.f22.ntmps v22.1 v22.2 Try.f22.results.toList = some o22 := by kernel_rfl
-- watermeet/watermeetref08.Find N=42
def c24r0 : List SI := [
 ⟨none, .bx 3 (.t 0), none, 0⟩,
 ⟨none, .bx 5 (.t 2), none, 0⟩,
 ⟨none, .al 6 [(.int .i64 0)], none, 0⟩,
 ⟨none, .al 7 [(.int .i64 0)], none, 0⟩]
def c24r1 : List SI := [
 ⟨none, .ld 11 (.t 3) (some 2), none, 0⟩,
 ⟨none, .mv 12 (.t 1), none, 0⟩,
 ⟨none, .call 13 16 [(.t 11), (.t 12)], none, 0⟩,
 ⟨none, .st (.t 7) 1 (.t 13), none, 0⟩]
def c24r2 : List SI := [
 ⟨none, .ld 14 (.t 7) none, none, 0⟩,
 ⟨none, .bin 15 .neq (.t 14) (.i 0), none, 0⟩]
def c24r3 : List WI := [
 (true, false, ⟨none, .ld 16 (.t 7) none, none, 0⟩),
 (false, false, ⟨none, .st (.t 6) 1 (.i 0), none, 0⟩),
 (false, true, ⟨none, .st (.t 7) 1 (.t 16), none, 0⟩)]
def c24r4 : List (Bool × SI) := [
 (true, ⟨none, .ld 17 (.t 3) (some 2), none, 0⟩),
 (true, ⟨none, .mv 18 (.t 1), none, 0⟩),
 (true, ⟨none, .ld 19 (.t 5) none, none, 0⟩),
 (false, ⟨none, .call 20 20 [(.t 18), (.t 19)], none, 0⟩),
 (false, ⟨none, .call 21 40 [(.t 17), (.t 20)], none, 0⟩)]
def c24r5 : List SI := [
 ⟨none, .alR 8 [(.int .i64 0), (.int .i64 0), (.int .i64 0), (.int .i64 0), (.int .i64 0), (.int .i64 0), (.int .i64 0), (.bool false), (.int .i64 0), (.slice none 0 0)], none, 0⟩,
 ⟨none, .stR 8 0 10 (.t 22), none, 0⟩]
def c24r6 : List SI := [
 ⟨none, .nop, (some 8), 0⟩,
 ⟨none, .ldR 24 8 9 none, none, 0⟩,
 ⟨none, .len 25 false (.t 24), none, 0⟩,
 ⟨none, .mv 26 (.i 0), none, 0⟩]
def c24r7 : List SI := [
 ⟨none, .bin 27 .lss (.t 26) (.t 25), none, 0⟩]
def c24r8 : List SI := [
 ⟨none, .ixA 28 (.t 24) (.t 26) 5, none, 0⟩,
 ⟨none, .ld 29 (.t 28) (some 5), none, 0⟩,
 ⟨none, .alR 10 [(.int .i64 0), (.string ⟨#[]⟩), (.string ⟨#[]⟩), (.bool false), (.int .i64 0)], none, 0⟩,
 ⟨none, .stR 10 0 5 (.t 29), none, 0⟩]
def c24r9 : List SI := [
 ⟨none, .nop, (some 10), 0⟩,
 ⟨none, .ldR 31 10 4 none, none, 0⟩,
 ⟨none, .ld 32 (.t 5) none, none, 0⟩,
 ⟨none, .bin 33 .geq (.t 31) (.t 32), none, 0⟩]
def c24r10 : List SI := [
 ⟨none, .nop, (some 10), 0⟩,
 ⟨none, .ldR 35 10 0 none, none, 0⟩,
 ⟨none, .st (.t 6) 1 (.t 35), none, 0⟩,
 ⟨none, .st (.t 7) 1 (.i 0), none, 0⟩]
def c24r11 : List SI := [
 ⟨none, .bin 36 .add (.t 26) (.i 1), none, 0⟩,
 ⟨none, .mv 26 (.t 36), none, 0⟩]
def c24r12 : List SI := [
 ⟨none, .st (.t 6) 1 (.i 0), none, 0⟩,
 ⟨none, .st (.t 7) 1 (.i 90), none, 0⟩]
def c24 : SC :=
 (.seq (.reg false c24r0)
 (.seq (.seq (.reg false c24r1)
 (.seq (.reg false c24r2)
 (.cond (.t 15)
  (.seq (.rgW c24r3)
  .ret)
  .skip)))
 (.seq (.seq (.rgX c24r4)
 (.blk 0 (.rf (.t 21) [22] (.reg false c24r5)
   (.blk 1 (.seq (.reg false c24r6)
    (.blk 2 (.loop (.seq (.reg false c24r7)
      (.seq (.cond (.t 27)
       .skip
       (.exit 2))
      (.seq (.blk 3 (.seq (.reg false c24r8)
       (.seq (.reg false c24r9)
       (.cond (.t 33)
        (.seq (.reg false c24r10)
        .ret)
        .skip))))
      (.reg false c24r11)))))))))))
 (.seq (.reg false c24r12)
 .ret))))
def v24 : List Nat × List Nat := ([8, 10], [8, 10, 23, 30, 34])
def o24 : List RS := [.c 6 none, .c 7 none]
theorem s24 : slimC Try.prog Try.f24.ntmps v24.1 v24.2 ((Try.f24.body).getD .skip) = some c24 := by kernel_rfl
theorem q24 : slimR Try.prog Try.f24.ntmps v24.1 v24.2 Try.f24.results.toList = some o24 := by kernel_rfl
-- watermeet/watermeetref08.Since N=60
def c27r0 : List SI := [
 ⟨none, .bx 1 (.t 0), none, 0⟩,
 ⟨none, .al 2 [(.slice none 0 0)], none, 0⟩,
 ⟨none, .al 3 [(.int .i64 0)], none, 0⟩]
def c27r1 : List SI := [
 ⟨none, .ld 6 (.t 1) (some 2), none, 0⟩,
 ⟨none, .call 7 43 [(.t 6)], none, 0⟩]
def c27r2 : List SI := [
 ⟨none, .alR 4 [(.int .i64 0), (.int .i64 0), (.int .i64 0), (.int .i64 0), (.int .i64 0), (.int .i64 0), (.int .i64 0), (.bool false), (.int .i64 0), (.slice none 0 0)], none, 0⟩,
 ⟨none, .stR 4 0 10 (.t 8), none, 0⟩]
def c27r3 : List SI := [
 ⟨none, .mv 5 (.t 9), none, 0⟩]
def c27r4 : List SI := [
 ⟨none, .ld 10 (.t 2) none, none, 0⟩,
 ⟨none, .ldR 11 4 0 (some 10), none, 0⟩,
 ⟨none, .bls 12 38 1 10 [(.int .i64 0), (.int .i64 0), (.int .i64 0), (.int .i64 0), (.int .i64 0), (.int .i64 0), (.int .i64 0), (.bool false), (.int .i64 0), (.slice none 0 0)] [(0, 10, (.t 11))], none, 0⟩,
 ⟨none, .app 13 (.t 10) (.t 12) 38 10 96, none, 0⟩,
 ⟨none, .mv 14 (.t 5), none, 0⟩,
 ⟨none, .st (.t 2) 1 (.t 13), none, 0⟩,
 ⟨none, .st (.t 3) 1 (.t 14), none, 0⟩]
def c27r5 : List WI := [
 (true, false, ⟨none, .ld 15 (.t 2) none, none, 0⟩),
 (true, false, ⟨none, .ld 16 (.t 3) none, none, 0⟩),
 (false, false, ⟨none, .st (.t 2) 1 (.t 15), none, 0⟩),
 (false, true, ⟨none, .st (.t 3) 1 (.t 16), none, 0⟩)]
def c27 : SC :=
 (.seq (.reg false c27r0)
 (.seq (.seq (.reg false c27r1)
 (.blk 0 (.rf (.t 7) [8, 9] (.seq (.reg false c27r2)
   (.reg false c27r3))
   (.blk 1 (.reg false c27r4)))))
 (.seq (.rgW c27r5)
 .ret)))
def v27 : List Nat × List Nat := ([4], [4])
def o27 : List RS := [.c 2 none, .c 3 none]
theorem s27 : slimC Try.prog Try.f27.ntmps v27.1 v27.2 ((Try.f27.body).getD .skip) = some c27 := by kernel_rfl
theorem q27 : slimR Try.prog Try.f27.ntmps v27.1 v27.2 Try.f27.results.toList = some o27 := by kernel_rfl
-- watermeet/batch.Size N=12
def c28r0 : List SI := [
 ⟨none, .bxR 1 (.t 0), none, 0⟩,
 ⟨none, .mv 2 (.i 0), none, 0⟩]
def c28r1 : List SI := [
 ⟨none, .ldR 6 1 0 (some 10), none, 0⟩,
 ⟨none, .call 7 44 [(.t 6)], none, 0⟩,
 ⟨none, .mv 5 (.t 7), none, 0⟩,
 ⟨none, .ext 8 (.t 5) 0, none, 0⟩,
 ⟨none, .ext 9 (.t 5) 1, none, 0⟩,
 ⟨none, .mv 3 (.t 8), none, 0⟩,
 ⟨none, .mv 4 (.t 9), none, 0⟩]
def c28r2 : List SI := [
 ⟨none, .mv 10 (.t 3), none, 0⟩,
 ⟨none, .len 11 false (.t 10), none, 0⟩,
 ⟨none, .mv 2 (.t 11), none, 0⟩]
def c28 : SC :=
 (.seq (.reg false c28r0)
 (.seq (.reg false c28r1)
 (.seq (.reg false c28r2)
 .ret)))
def v28 : List Nat × List Nat := ([1], [1])
def o28 : List RS := [.t 2]
theorem s28 : slimC Try.prog Try.f28.ntmps v28.1 v28.2 ((Try.f28.body).getD .skip) = some c28 := by kernel_rfl
theorem q28 : slimR Try.prog Try.f28.ntmps v28.1 v28.2 Try.f28.results.toList = some o28 := by kernel_rfl
-- watermeet/watermeetref04.Few N=29
def c30r0 : List SI := [
 ⟨none, .bxR 3 (.t 0), none, 0⟩,
 ⟨none, .bxR 4 (.t 1), none, 0⟩,
 ⟨none, .alR 6 [(.int .i64 0), (.slice none 0 0)], none, 0⟩,
 ⟨none, .mv 7 (.i 0), none, 0⟩]
def c30r1 : List SI := [
 ⟨none, .ldR 13 3 0 (some 2), none, 0⟩,
 ⟨none, .call 14 27 [(.t 13)], none, 0⟩,
 ⟨none, .mv 12 (.t 14), none, 0⟩,
 ⟨none, .ext 15 (.t 12) 0, none, 0⟩,
 ⟨none, .ext 16 (.t 12) 1, none, 0⟩,
 ⟨none, .mv 8 (.t 15), none, 0⟩,
 ⟨none, .mv 9 (.t 16), none, 0⟩]
def c30r2 : List SI := [
 ⟨none, .mv 17 (.t 9), none, 0⟩,
 ⟨none, .nop, (some 3), 0⟩,
 ⟨none, .ldR 19 3 1 none, none, 0⟩,
 ⟨none, .len 20 false (.t 19), none, 0⟩,
 ⟨none, .bin 21 .neq (.t 17) (.t 20), none, 0⟩,
 ⟨none, .mv 22 (.t 21), none, 0⟩,
 ⟨some (22, false), .nop, (some 3), 99999⟩,
 ⟨some (22, false), .ldR 24 3 0 none, none, 24⟩,
 ⟨some (22, false), .call 25 45 [(.t 24)], none, 25⟩,
 ⟨some (22, false), .un 26 .not (.t 25), none, 26⟩,
 ⟨none, .pick 27 (.t 22) (.b true) (.t 26), none, 0⟩,
 ⟨none, .mv 28 (.t 27), none, 0⟩,
 ⟨some (28, false), .mv 29 (.t 2), none, 29⟩,
 ⟨some (28, false), .call 30 46 [(.t 29)], none, 30⟩,
 ⟨some (28, false), .un 31 .not (.t 30), none, 31⟩,
 ⟨none, .pick 32 (.t 28) (.b true) (.t 31), none, 0⟩]
def c30r3 : List SI := [
 ⟨none, .bld 33 [(.int .i64 0), (.slice none 0 0)] [], none, 0⟩,
 ⟨none, .stR 6 0 2 (.t 33), none, 0⟩,
 ⟨none, .mv 7 (.i 1), none, 0⟩]
def c30r4 : List SI := [
 ⟨none, .ldR 35 4 0 (some 10), none, 0⟩,
 ⟨none, .call 36 44 [(.t 35)], none, 0⟩,
 ⟨none, .mv 34 (.t 36), none, 0⟩,
 ⟨none, .ext 37 (.t 34) 0, none, 0⟩,
 ⟨none, .ext 38 (.t 34) 1, none, 0⟩,
 ⟨none, .mv 10 (.t 37), none, 0⟩,
 ⟨none, .mv 11 (.t 38), none, 0⟩]
def c30r5 : List SI := [
 ⟨none, .mv 40 (.t 11), none, 0⟩,
 ⟨none, .bin 41 .neq (.t 40) (.i 0), none, 0⟩,
 ⟨none, .mv 39 (.t 41), none, 0⟩]
def c30r6 : List SI := [
 ⟨none, .bld 42 [(.int .i64 0), (.slice none 0 0)] [], none, 0⟩,
 ⟨none, .mv 43 (.t 11), none, 0⟩,
 ⟨none, .stR 6 0 2 (.t 42), none, 0⟩,
 ⟨none, .mv 7 (.t 43), none, 0⟩]
def c30r7 : List (Bool × SI) := [
 (true, ⟨none, .nop, (some 4), 0⟩),
 (true, ⟨none, .ldR 46 4 0 none, none, 0⟩),
 (true, ⟨none, .ldR 47 3 0 (some 2), none, 0⟩),
 (false, ⟨none, .call 48 47 [(.t 47)], none, 0⟩),
 (true, ⟨none, .bin 49 .lss (.t 46) (.t 48), none, 0⟩),
 (true, ⟨none, .mv 44 (.t 49), none, 0⟩)]
def c30r8 : List SI := [
 ⟨none, .bld 50 [(.int .i64 0), (.slice none 0 0)] [], none, 0⟩,
 ⟨none, .stR 6 0 2 (.t 50), none, 0⟩,
 ⟨none, .mv 7 (.i 71), none, 0⟩]
def c30r9 : List SI := [
 ⟨none, .nop, (some 3), 0⟩,
 ⟨none, .ldR 53 3 1 none, none, 0⟩,
 ⟨none, .len 54 false (.t 53), none, 0⟩,
 ⟨none, .mv 55 (.t 10), none, 0⟩,
 ⟨none, .len 56 false (.t 55), none, 0⟩,
 ⟨none, .bin 57 .add (.t 54) (.t 56), none, 0⟩,
 ⟨none, .mv 58 (.t 2), none, 0⟩,
 ⟨none, .bin 59 .gtr (.t 57) (.t 58), none, 0⟩,
 ⟨none, .mv 51 (.t 59), none, 0⟩]
def c30r10 : List SI := [
 ⟨none, .bld 60 [(.int .i64 0), (.slice none 0 0)] [], none, 0⟩,
 ⟨none, .stR 6 0 2 (.t 60), none, 0⟩,
 ⟨none, .mv 7 (.i 70), none, 0⟩]
def c30r11 : List (Bool × SI) := [
 (true, ⟨none, .nop, (some 3), 0⟩),
 (true, ⟨none, .ldR 62 3 0 none, none, 0⟩),
 (true, ⟨none, .nop, (some 3), 0⟩),
 (true, ⟨none, .ldR 64 3 1 none, none, 0⟩),
 (true, ⟨none, .mv 65 (.t 10), none, 0⟩),
 (false, ⟨none, .bls 66 22 2 1 [(.slice none 0 0), (.slice none 0 0)] [(0, 1, (.t 64)), (1, 1, (.t 65))], none, 0⟩),
 (false, ⟨none, .call 67 48 [(.t 66)], none, 0⟩),
 (true, ⟨none, .bld 68 [(.int .i64 0), (.slice none 0 0)] [(0, 1, (.t 62)), (1, 1, (.t 67))], none, 0⟩)]
def c30r12 : List SI := [
 ⟨none, .stR 6 0 2 (.t 68), none, 0⟩,
 ⟨none, .mv 7 (.i 0), none, 0⟩]
def c30 : SC :=
 (.seq (.reg false c30r0)
 (.seq (.seq (.reg false c30r1)
 (.seq (.reg false c30r2)
 (.cond (.t 32)
  (.seq (.reg false c30r3)
  .ret)
  .skip)))
 (.seq (.reg false c30r4)
 (.seq (.blk 0 (.seq (.reg false c30r5)
  (.cond (.t 39)
   (.seq (.reg false c30r6)
   .ret)
   (.seq (.rgX c30r7)
   (.cond (.t 44)
    (.seq (.reg false c30r8)
    .ret)
    (.seq (.reg false c30r9)
    (.cond (.t 51)
     (.seq (.reg false c30r10)
     .ret)
     .skip)))))))
 (.seq (.rgY c30r11 c30r12)
 .ret)))))
def v30 : List Nat × List Nat := ([3, 4, 6], [3, 4, 6, 18, 23, 45, 52, 61, 63])
def o30 : List RS := [.r 6 (some 2), .t 7]
theorem s30 : slimC Try.prog Try.f30.ntmps v30.1 v30.2 ((Try.f30.body).getD .skip) = some c30 := by kernel_rfl
theorem q30 : slimR Try.prog Try.f30.ntmps v30.1 v30.2 Try.f30.results.toList = some o30 := by kernel_rfl
-- watermeet/batch.Same N=19
def c31r0 : List SI := [
 ⟨none, .bxR 2 (.t 0), none, 0⟩,
 ⟨none, .bxR 3 (.t 1), none, 0⟩,
 ⟨none, .mv 4 (.b false), none, 0⟩]
def c31r1 : List SI := [
 ⟨none, .nop, (some 2), 0⟩,
 ⟨none, .ldR 7 2 9 none, none, 0⟩,
 ⟨none, .nop, (some 3), 0⟩,
 ⟨none, .ldR 9 3 9 none, none, 0⟩,
 ⟨none, .call 10 49 [(.t 7), (.t 9)], none, 0⟩,
 ⟨none, .un 11 .not (.t 10), none, 0⟩]
def c31r2 : List SI := [
 ⟨none, .mv 4 (.b false), none, 0⟩]
def c31r3 : List SI := [
 ⟨none, .mv 5 (.v (.func (.func 50) #[] #[])), none, 0⟩]
def c31r4 : List (Bool × SI) := [
 (true, ⟨none, .mv 12 (.t 5), none, 0⟩),
 (true, ⟨none, .ldR 13 2 0 (some 10), none, 0⟩),
 (true, ⟨none, .mv 15 (.t 5), none, 0⟩),
 (true, ⟨none, .ldR 16 3 0 (some 10), none, 0⟩),
 (false, ⟨none, .cav 14 (.t 12) [(.t 13)], none, 0⟩),
 (false, ⟨none, .cav 17 (.t 15) [(.t 16)], none, 0⟩),
 (true, ⟨none, .eqf 18 false [0, 0, 0, 0, 0, 0, 0, 0, 0] (.t 14) (.t 17), none, 0⟩),
 (true, ⟨none, .mv 4 (.t 18), none, 0⟩)]
def c31 : SC :=
 (.seq (.reg false c31r0)
 (.seq (.seq (.reg false c31r1)
 (.cond (.t 11)
  (.seq (.reg false c31r2)
  .ret)
  .skip))
 (.seq (.reg false c31r3)
 (.seq (.rgX c31r4)
 .ret))))
def v31 : List Nat × List Nat := ([2, 3], [2, 3, 6, 8])
def o31 : List RS := [.t 4]
theorem s31 : slimC Try.prog Try.f31.ntmps v31.1 v31.2 ((Try.f31.body).getD .skip) = some c31 := by kernel_rfl
theorem q31 : slimR Try.prog Try.f31.ntmps v31.1 v31.2 Try.f31.results.toList = some o31 := by kernel_rfl
-- watermeet/watermeetlaw08.two N=44
def c32r0 : List SI := [
 ⟨none, .alR 0 [(.int .i64 0), (.slice none 0 0)], none, 0⟩,
 ⟨none, .mv 1 (.b false), none, 0⟩]
def c32r1 : List SI := [
 ⟨none, .call 11 51 [(.i 0)], none, 0⟩,
 ⟨none, .mv 10 (.t 11), none, 0⟩,
 ⟨none, .ext 12 (.t 10) 0, none, 0⟩,
 ⟨none, .ext 13 (.t 10) 1, none, 0⟩,
 ⟨none, .alR 2 [(.int .i64 0), (.slice none 0 0)], none, 0⟩,
 ⟨none, .stR 2 0 2 (.t 12), none, 0⟩,
 ⟨none, .mv 3 (.t 13), none, 0⟩]
def c32r2 : List SI := [
 ⟨none, .bld 14 [(.int .i64 0), (.string ⟨#[]⟩), (.string ⟨#[]⟩), (.bool false), (.int .i64 0)] [(2, 1, (.v (.string ⟨#[120]⟩))), (4, 1, (.i 5))], none, 0⟩,
 ⟨none, .bld 15 [(.int .i64 0), (.string ⟨#[]⟩), (.string ⟨#[]⟩), (.bool false), (.int .i64 0)] [(0, 1, (.i 1)), (2, 1, (.v (.string ⟨#[121]⟩))), (4, 1, (.i 7))], none, 0⟩,
 ⟨none, .bls 16 49 2 5 [(.int .i64 0), (.string ⟨#[]⟩), (.string ⟨#[]⟩), (.bool false), (.int .i64 0), (.int .i64 0), (.string ⟨#[]⟩), (.string ⟨#[]⟩), (.bool false), (.int .i64 0)] [(0, 5, (.t 14)), (5, 5, (.t 15))], none, 0⟩,
 ⟨none, .bld 17 [(.int .i64 0), (.int .i64 0), (.int .i64 0), (.int .i64 0), (.int .i64 0), (.int .i64 0), (.int .i64 0), (.bool false), (.int .i64 0), (.slice none 0 0)] [(1, 1, (.i 1)), (4, 1, (.i (-1))), (9, 1, (.t 16))], none, 0⟩,
 ⟨none, .alR 4 [(.int .i64 0), (.int .i64 0), (.int .i64 0), (.int .i64 0), (.int .i64 0), (.int .i64 0), (.int .i64 0), (.bool false), (.int .i64 0), (.slice none 0 0)], none, 0⟩,
 ⟨none, .stR 4 0 10 (.t 17), none, 0⟩]
def c32r3 : List SI := [
 ⟨none, .bld 18 [(.int .i64 0), (.string ⟨#[]⟩), (.string ⟨#[]⟩), (.bool false), (.int .i64 0)] [(0, 1, (.i 2)), (2, 1, (.v (.string ⟨#[122]⟩))), (4, 1, (.i 6))], none, 0⟩,
 ⟨none, .bls 19 49 1 5 [(.int .i64 0), (.string ⟨#[]⟩), (.string ⟨#[]⟩), (.bool false), (.int .i64 0)] [(0, 5, (.t 18))], none, 0⟩,
 ⟨none, .bld 20 [(.int .i64 0), (.int .i64 0), (.int .i64 0), (.int .i64 0), (.int .i64 0), (.int .i64 0), (.int .i64 0), (.bool false), (.int .i64 0), (.slice none 0 0)] [(0, 1, (.i 2)), (1, 1, (.i 2)), (2, 1, (.i 2)), (4, 1, (.i (-1))), (9, 1, (.t 19))], none, 0⟩,
 ⟨none, .alR 5 [(.int .i64 0), (.int .i64 0), (.int .i64 0), (.int .i64 0), (.int .i64 0), (.int .i64 0), (.int .i64 0), (.bool false), (.int .i64 0), (.slice none 0 0)], none, 0⟩,
 ⟨none, .stR 5 0 10 (.t 20), none, 0⟩]
def c32r4 : List SI := [
 ⟨none, .ldR 22 2 0 (some 2), none, 0⟩,
 ⟨none, .ldR 23 4 0 (some 10), none, 0⟩,
 ⟨none, .call 24 30 [(.t 22), (.t 23), (.i 1000)], none, 0⟩,
 ⟨none, .mv 21 (.t 24), none, 0⟩,
 ⟨none, .ext 25 (.t 21) 0, none, 0⟩,
 ⟨none, .ext 26 (.t 21) 1, none, 0⟩,
 ⟨none, .alR 6 [(.int .i64 0), (.slice none 0 0)], none, 0⟩,
 ⟨none, .stR 6 0 2 (.t 25), none, 0⟩,
 ⟨none, .mv 7 (.t 26), none, 0⟩]
def c32r5 : List SI := [
 ⟨none, .ldR 28 6 0 (some 2), none, 0⟩,
 ⟨none, .ldR 29 5 0 (some 10), none, 0⟩,
 ⟨none, .call 30 30 [(.t 28), (.t 29), (.i 1000)], none, 0⟩,
 ⟨none, .mv 27 (.t 30), none, 0⟩,
 ⟨none, .ext 31 (.t 27) 0, none, 0⟩,
 ⟨none, .ext 32 (.t 27) 1, none, 0⟩,
 ⟨none, .alR 8 [(.int .i64 0), (.slice none 0 0)], none, 0⟩,
 ⟨none, .stR 8 0 2 (.t 31), none, 0⟩,
 ⟨none, .mv 9 (.t 32), none, 0⟩]
def c32r6 : List SI := [
 ⟨none, .ldR 33 8 0 (some 2), none, 0⟩,
 ⟨none, .mv 34 (.t 3), none, 0⟩,
 ⟨none, .bin 35 .eql (.t 34) (.i 0), none, 0⟩,
 ⟨none, .mv 36 (.t 35), none, 0⟩,
 ⟨some (36, true), .mv 37 (.t 7), none, 37⟩,
 ⟨some (36, true), .bin 38 .eql (.t 37) (.i 0), none, 38⟩,
 ⟨none, .pick 39 (.t 36) (.t 38) (.b false), none, 0⟩,
 ⟨none, .mv 40 (.t 39), none, 0⟩,
 ⟨some (40, true), .mv 41 (.t 9), none, 41⟩,
 ⟨some (40, true), .bin 42 .eql (.t 41) (.i 0), none, 42⟩,
 ⟨none, .pick 43 (.t 40) (.t 42) (.b false), none, 0⟩,
 ⟨none, .stR 0 0 2 (.t 33), none, 0⟩,
 ⟨none, .mv 1 (.t 43), none, 0⟩]
def c32 : SC :=
 (.seq (.reg false c32r0)
 (.seq (.reg false c32r1)
 (.seq (.reg false c32r2)
 (.seq (.reg false c32r3)
 (.seq (.reg false c32r4)
 (.seq (.reg false c32r5)
 (.seq (.reg false c32r6)
 .ret)))))))
def v32 : List Nat × List Nat := ([0, 2, 4, 5, 6, 8], [0, 2, 4, 5, 6, 8])
def o32 : List RS := [.r 0 (some 2), .t 1]
theorem s32 : slimC Try.prog Try.f32.ntmps v32.1 v32.2 ((Try.f32.body).getD .skip) = some c32 := by kernel_rfl
theorem q32 : slimR Try.prog Try.f32.ntmps v32.1 v32.2 Try.f32.results.toList = some o32 := by kernel_rfl
-- watermeet/index.right N=31
def c33r0 : List SI := [
 ⟨none, .bxR 1 (.t 0), none, 0⟩,
 ⟨none, .mv 2 (.v (.slice none 0 0)), none, 0⟩,
 ⟨none, .mv 3 (.b false), none, 0⟩]
def c33r1 : List SI := [
 ⟨none, .nop, (some 1), 0⟩,
 ⟨none, .ldR 7 1 0 none, none, 0⟩,
 ⟨none, .bin 8 .lss (.t 7) (.i 0), none, 0⟩,
 ⟨none, .mv 9 (.t 8), none, 0⟩,
 ⟨some (9, false), .nop, (some 1), 99999⟩,
 ⟨some (9, false), .ldR 11 1 0 none, none, 11⟩,
 ⟨some (9, false), .bin 12 .gtr (.t 11) (.i 1099511627776), none, 12⟩,
 ⟨none, .pick 13 (.t 9) (.b true) (.t 12), none, 0⟩,
 ⟨none, .mv 14 (.t 13), none, 0⟩,
 ⟨some (14, false), .nop, (some 1), 99999⟩,
 ⟨some (14, false), .ldR 16 1 1 none, none, 16⟩,
 ⟨some (14, false), .len 17 false (.t 16), none, 17⟩,
 ⟨some (14, false), .bin 18 .gtr (.t 17) (.i 4096), none, 18⟩,
 ⟨none, .pick 19 (.t 14) (.b true) (.t 18), none, 0⟩]
def c33r2 : List SI := [
 ⟨none, .mv 2 (.v (.slice none 0 0)), none, 0⟩,
 ⟨none, .mv 3 (.b false), none, 0⟩]
def c33r3 : List SI := [
 ⟨none, .ldR 21 1 0 (some 2), none, 0⟩,
 ⟨none, .call 22 27 [(.t 21)], none, 0⟩,
 ⟨none, .mv 20 (.t 22), none, 0⟩,
 ⟨none, .ext 23 (.t 20) 0, none, 0⟩,
 ⟨none, .ext 24 (.t 20) 1, none, 0⟩,
 ⟨none, .mv 4 (.t 23), none, 0⟩,
 ⟨none, .mv 5 (.t 24), none, 0⟩]
def c33r4 : List SI := [
 ⟨none, .mv 25 (.t 4), none, 0⟩,
 ⟨none, .mv 26 (.t 5), none, 0⟩,
 ⟨none, .nop, (some 1), 0⟩,
 ⟨none, .ldR 28 1 1 none, none, 0⟩,
 ⟨none, .len 29 false (.t 28), none, 0⟩,
 ⟨none, .bin 30 .eql (.t 26) (.t 29), none, 0⟩,
 ⟨none, .mv 2 (.t 25), none, 0⟩,
 ⟨none, .mv 3 (.t 30), none, 0⟩]
def c33 : SC :=
 (.seq (.reg false c33r0)
 (.seq (.seq (.reg false c33r1)
 (.cond (.t 19)
  (.seq (.reg false c33r2)
  .ret)
  .skip))
 (.seq (.reg false c33r3)
 (.seq (.reg true c33r4)
 .ret))))
def v33 : List Nat × List Nat := ([1], [1, 6, 10, 15, 27])
def o33 : List RS := [.t 2, .t 3]
theorem s33 : slimC Try.prog Try.f33.ntmps v33.1 v33.2 ((Try.f33.body).getD .skip) = some c33 := by kernel_rfl
theorem q33 : slimR Try.prog Try.f33.ntmps v33.1 v33.2 Try.f33.results.toList = some o33 := by kernel_rfl
-- watermeet/index.entries N=4
def c34r0 : List SI := [
 ⟨none, .bx 1 (.t 0), none, 0⟩,
 ⟨none, .mv 2 (.v .nilFunc), none, 0⟩]
def c34r1 : List SI := [
 ⟨none, .mkf 3 (.func 52) [(.t 1)], none, 0⟩,
 ⟨none, .mv 2 (.t 3), none, 0⟩]
def c34 : SC :=
 (.seq (.reg false c34r0)
 (.seq (.reg false c34r1)
 .ret))
def v34 : List Nat × List Nat := ([], [])
def o34 : List RS := [.t 2]
theorem s34 : slimC Try.prog Try.f34.ntmps v34.1 v34.2 ((Try.f34.body).getD .skip) = some c34 := by kernel_rfl
theorem q34 : slimR Try.prog Try.f34.ntmps v34.1 v34.2 Try.f34.results.toList = some o34 := by kernel_rfl
-- watermeet/watermeetref08.Right N=29
def c37r0 : List SI := [
 ⟨none, .bx 3 (.t 1), none, 0⟩,
 ⟨none, .al 4 [(.int .i64 0)], none, 0⟩]
def c37r1 : List SI := [
 ⟨none, .mv 7 (.t 0), none, 0⟩,
 ⟨none, .call 8 54 [(.t 7)], none, 0⟩]
def c37r2 : List SI := [
 ⟨none, .alR 6 [(.int .i64 0), (.int .i64 0), (.int .i64 0)], none, 0⟩,
 ⟨none, .stR 6 0 3 (.t 10), none, 0⟩]
def c37r3 : List SI := [
 ⟨none, .ld 11 (.t 3) none, none, 0⟩,
 ⟨none, .ldR 12 6 0 (some 3), none, 0⟩,
 ⟨none, .cav 13 (.t 11) [(.t 12)], none, 0⟩]
def c37r4 : List SI := [
 ⟨none, .nop, (some 6), 0⟩,
 ⟨none, .ldR 15 6 1 none, none, 0⟩,
 ⟨none, .st (.t 4) 1 (.t 15), none, 0⟩]
def c37r5 : List SI := [
 ⟨none, .st (.t 4) 1 (.i 0), none, 0⟩]
def c37 : SC :=
 (.seq (.reg false c37r0)
 (.seq (.seq (.reg false c37r1)
 (.blk 0 (.rf (.t 8) [9, 10] (.reg false c37r2)
   (.blk 1 (.seq (.reg false c37r3)
    (.cond (.t 13)
     (.seq (.reg false c37r4)
     .ret)
     .skip))))))
 (.seq (.reg false c37r5)
 .ret)))
def v37 : List Nat × List Nat := ([6], [6, 14])
def o37 : List RS := [.c 4 none]
theorem s37 : slimC Try.prog Try.f37.ntmps v37.1 v37.2 ((Try.f37.body).getD .skip) = some c37 := by kernel_rfl
theorem q37 : slimR Try.prog Try.f37.ntmps v37.1 v37.2 Try.f37.results.toList = some o37 := by kernel_rfl
-- watermeet/index.Floor$1 N=8
def c38r0 : List SI := [
 ⟨none, .bxR 2 (.t 0), none, 0⟩,
 ⟨none, .mv 3 (.b false), none, 0⟩]
def c38r1 : List SI := [
 ⟨none, .nop, (some 2), 0⟩,
 ⟨none, .ldR 5 2 0 none, none, 0⟩,
 ⟨none, .ld 6 (.t 1) none, none, 0⟩,
 ⟨none, .bin 7 .leq (.t 5) (.t 6), none, 0⟩,
 ⟨none, .mv 3 (.t 7), none, 0⟩]
def c38 : SC :=
 (.seq (.reg false c38r0)
 (.seq (.reg false c38r1)
 .ret))
def v38 : List Nat × List Nat := ([2], [2, 4])
def o38 : List RS := [.t 3]
theorem s38 : slimC Try.prog Try.f38.ntmps v38.1 v38.2 ((Try.f38.body).getD .skip) = some c38 := by kernel_rfl
theorem q38 : slimR Try.prog Try.f38.ntmps v38.1 v38.2 Try.f38.results.toList = some o38 := by kernel_rfl
-- watermeet/index.When$1 N=8
def c39r0 : List SI := [
 ⟨none, .bxR 2 (.t 0), none, 0⟩,
 ⟨none, .mv 3 (.b false), none, 0⟩]
def c39r1 : List SI := [
 ⟨none, .nop, (some 2), 0⟩,
 ⟨none, .ldR 5 2 2 none, none, 0⟩,
 ⟨none, .ld 6 (.t 1) none, none, 0⟩,
 ⟨none, .bin 7 .lss (.t 5) (.t 6), none, 0⟩,
 ⟨none, .mv 3 (.t 7), none, 0⟩]
def c39 : SC :=
 (.seq (.reg false c39r0)
 (.seq (.reg false c39r1)
 .ret))
def v39 : List Nat × List Nat := ([2], [2, 4])
def o39 : List RS := [.t 3]
theorem s39 : slimC Try.prog Try.f39.ntmps v39.1 v39.2 ((Try.f39.body).getD .skip) = some c39 := by kernel_rfl
theorem q39 : slimR Try.prog Try.f39.ntmps v39.1 v39.2 Try.f39.results.toList = some o39 := by kernel_rfl
-- watermeet/index.from N=6
def c40r0 : List SI := [
 ⟨none, .bx 2 (.t 0), none, 0⟩,
 ⟨none, .bx 3 (.t 1), none, 0⟩,
 ⟨none, .mv 4 (.v .nilFunc), none, 0⟩]
def c40r1 : List SI := [
 ⟨none, .mkf 5 (.func 55) [(.t 3), (.t 2)], none, 0⟩,
 ⟨none, .mv 4 (.t 5), none, 0⟩]
def c40 : SC :=
 (.seq (.reg false c40r0)
 (.seq (.reg false c40r1)
 .ret))
def v40 : List Nat × List Nat := ([], [])
def o40 : List RS := [.t 4]
theorem s40 : slimC Try.prog Try.f40.ntmps v40.1 v40.2 ((Try.f40.body).getD .skip) = some c40 := by kernel_rfl
theorem q40 : slimR Try.prog Try.f40.ntmps v40.1 v40.2 Try.f40.results.toList = some o40 := by kernel_rfl
-- watermeet/watermeetref07.Scan N=50
def c43r0 : List SI := [
 ⟨none, .bx 1 (.t 0), none, 0⟩,
 ⟨none, .mv 2 (.v .nilFunc), none, 0⟩]
def c43r1 : List SI := [
 ⟨none, .mkf 3 (.func 58) [(.t 1)], none, 0⟩,
 ⟨none, .mv 2 (.t 3), none, 0⟩]
def c43 : SC :=
 (.seq (.reg false c43r0)
 (.seq (.reg false c43r1)
 .ret))
def v43 : List Nat × List Nat := ([], [])
def o43 : List RS := [.t 2]
theorem s43 : slimC Try.prog Try.f43.ntmps v43.1 v43.2 ((Try.f43.body).getD .skip) = some c43 := by kernel_rfl
theorem q43 : slimR Try.prog Try.f43.ntmps v43.1 v43.2 Try.f43.results.toList = some o43 := by kernel_rfl
-- watermeet/batch.Put N=14
def c44r0 : List SI := [
 ⟨none, .bxR 1 (.t 0), none, 0⟩,
 ⟨none, .mv 2 (.v (.slice none 0 0)), none, 0⟩,
 ⟨none, .mv 3 (.i 0), none, 0⟩]
def c44r1 : List SI := [
 ⟨none, .ldR 5 1 0 (some 10), none, 0⟩,
 ⟨none, .call 6 59 [(.t 5)], none, 0⟩,
 ⟨none, .un 7 .not (.t 6), none, 0⟩]
def c44r2 : List SI := [
 ⟨none, .mv 2 (.v (.slice none 0 0)), none, 0⟩,
 ⟨none, .mv 3 (.i 1), none, 0⟩]
def c44r3 : List SI := [
 ⟨none, .ldR 8 1 0 (some 10), none, 0⟩,
 ⟨none, .call 9 60 [(.t 8)], none, 0⟩,
 ⟨none, .mv 4 (.t 9), none, 0⟩]
def c44r4 : List SI := [
 ⟨none, .mv 10 (.t 4), none, 0⟩,
 ⟨none, .len 11 false (.t 10), none, 0⟩,
 ⟨none, .bin 12 .gtr (.t 11) (.i 2048), none, 0⟩]
def c44r5 : List SI := [
 ⟨none, .mv 2 (.v (.slice none 0 0)), none, 0⟩,
 ⟨none, .mv 3 (.i 2), none, 0⟩]
def c44r6 : List SI := [
 ⟨none, .mv 13 (.t 4), none, 0⟩,
 ⟨none, .mv 2 (.t 13), none, 0⟩,
 ⟨none, .mv 3 (.i 0), none, 0⟩]
def c44 : SC :=
 (.seq (.reg false c44r0)
 (.seq (.seq (.reg false c44r1)
 (.cond (.t 7)
  (.seq (.reg false c44r2)
  .ret)
  .skip))
 (.seq (.reg false c44r3)
 (.seq (.seq (.reg false c44r4)
 (.cond (.t 12)
  (.seq (.reg false c44r5)
  .ret)
  .skip))
 (.seq (.reg false c44r6)
 .ret)))))
def v44 : List Nat × List Nat := ([1], [1])
def o44 : List RS := [.t 2, .t 3]
theorem s44 : slimC Try.prog Try.f44.ntmps v44.1 v44.2 ((Try.f44.body).getD .skip) = some c44 := by kernel_rfl
theorem q44 : slimR Try.prog Try.f44.ntmps v44.1 v44.2 Try.f44.results.toList = some o44 := by kernel_rfl
-- watermeet/seg.based N=9
def c45r0 : List SI := [
 ⟨none, .mv 2 (.b false), none, 0⟩]
def c45r1 : List SI := [
 ⟨none, .mv 3 (.t 0), none, 0⟩,
 ⟨none, .bin 4 .geq (.t 3) (.i 0), none, 0⟩,
 ⟨none, .mv 5 (.t 4), none, 0⟩,
 ⟨some (5, true), .mv 6 (.t 0), none, 6⟩,
 ⟨some (5, true), .bin 7 .leq (.t 6) (.i 1099511627776), none, 7⟩,
 ⟨none, .pick 8 (.t 5) (.t 7) (.b false), none, 0⟩,
 ⟨none, .mv 2 (.t 8), none, 0⟩]
def c45 : SC :=
 (.seq (.reg false c45r0)
 (.seq (.reg false c45r1)
 .ret))
def v45 : List Nat × List Nat := ([], [])
def o45 : List RS := [.t 2]
theorem s45 : slimC Try.prog Try.f45.ntmps v45.1 v45.2 ((Try.f45.body).getD .skip) = some c45 := by kernel_rfl
theorem q45 : slimR Try.prog Try.f45.ntmps v45.1 v45.2 Try.f45.results.toList = some o45 := by kernel_rfl
-- watermeet/seg.limited N=9
def c46r0 : List SI := [
 ⟨none, .mv 2 (.b false), none, 0⟩]
def c46r1 : List SI := [
 ⟨none, .mv 3 (.t 0), none, 0⟩,
 ⟨none, .bin 4 .geq (.t 3) (.i 1), none, 0⟩,
 ⟨none, .mv 5 (.t 4), none, 0⟩,
 ⟨some (5, true), .mv 6 (.t 0), none, 6⟩,
 ⟨some (5, true), .bin 7 .leq (.t 6) (.i 4096), none, 7⟩,
 ⟨none, .pick 8 (.t 5) (.t 7) (.b false), none, 0⟩,
 ⟨none, .mv 2 (.t 8), none, 0⟩]
def c46 : SC :=
 (.seq (.reg false c46r0)
 (.seq (.reg false c46r1)
 .ret))
def v46 : List Nat × List Nat := ([], [])
def o46 : List RS := [.t 2]
theorem s46 : slimC Try.prog Try.f46.ntmps v46.1 v46.2 ((Try.f46.body).getD .skip) = some c46 := by kernel_rfl
theorem q46 : slimR Try.prog Try.f46.ntmps v46.1 v46.2 Try.f46.results.toList = some o46 := by kernel_rfl
-- watermeet/seg.End N=15
def c47r0 : List SI := [
 ⟨none, .bx 1 (.t 0), none, 0⟩,
 ⟨none, .mv 2 (.i 0), none, 0⟩]
def c47r1 : List SI := [
 ⟨none, .flA 5 (.t 1) 0, none, 0⟩,
 ⟨none, .ld 6 (.t 5) none, none, 0⟩,
 ⟨none, .al 3 [(.int .i64 0)], none, 0⟩,
 ⟨none, .st (.t 3) 1 (.t 6), none, 0⟩]
def c47r2 : List SI := [
 ⟨none, .ld 7 (.t 1) (some 2), none, 0⟩,
 ⟨none, .call 8 43 [(.t 7)], none, 0⟩]
def c47r3 : List SI := [
 ⟨none, .alR 4 [(.int .i64 0), (.int .i64 0), (.int .i64 0), (.int .i64 0), (.int .i64 0), (.int .i64 0), (.int .i64 0), (.bool false), (.int .i64 0), (.slice none 0 0)], none, 0⟩,
 ⟨none, .stR 4 0 10 (.t 9), none, 0⟩]
def c47r4 : List SI := [
 ⟨none, .nop, (some 4), 0⟩,
 ⟨none, .ldR 12 4 1 none, none, 0⟩,
 ⟨none, .bin 13 .add (.t 12) (.i 1), none, 0⟩,
 ⟨none, .st (.t 3) 1 (.t 13), none, 0⟩]
def c47r5 : List SI := [
 ⟨none, .ld 14 (.t 3) none, none, 0⟩,
 ⟨none, .mv 2 (.t 14), none, 0⟩]
def c47 : SC :=
 (.seq (.reg false c47r0)
 (.seq (.reg false c47r1)
 (.seq (.seq (.reg false c47r2)
 (.blk 0 (.rf (.t 8) [9, 10] (.reg false c47r3)
   (.blk 1 (.reg false c47r4)))))
 (.seq (.reg false c47r5)
 .ret))))
def v47 : List Nat × List Nat := ([4], [4, 11])
def o47 : List RS := [.t 2]
theorem s47 : slimC Try.prog Try.f47.ntmps v47.1 v47.2 ((Try.f47.body).getD .skip) = some c47 := by kernel_rfl
theorem q47 : slimR Try.prog Try.f47.ntmps v47.1 v47.2 Try.f47.results.toList = some o47 := by kernel_rfl
-- slices.Concat[[]byte,byte] N=36
def c48r0 : List SI := [
 ⟨none, .mv 2 (.v (.slice none 0 0)), none, 0⟩]
def c48r1 : List SI := [
 ⟨none, .mv 3 (.i 0), none, 0⟩]
def c48r2 : List SI := [
 ⟨none, .mv 9 (.t 0), none, 0⟩,
 ⟨none, .len 10 false (.t 9), none, 0⟩,
 ⟨none, .mv 11 (.i 0), none, 0⟩]
def c48r3 : List SI := [
 ⟨none, .bin 12 .lss (.t 11) (.t 10), none, 0⟩]
def c48r4 : List SI := [
 ⟨none, .ixA 13 (.t 9) (.t 11) 1, none, 0⟩,
 ⟨none, .ld 14 (.t 13) none, none, 0⟩,
 ⟨none, .mv 5 (.t 14), none, 0⟩]
def c48r5 : List SI := [
 ⟨none, .mv 15 (.t 3), none, 0⟩,
 ⟨none, .mv 16 (.t 5), none, 0⟩,
 ⟨none, .len 17 false (.t 16), none, 0⟩,
 ⟨none, .bin 18 .add (.t 15) (.t 17), none, 0⟩,
 ⟨none, .mv 3 (.t 18), none, 0⟩]
def c48r6 : List SI := [
 ⟨none, .mv 19 (.t 3), none, 0⟩,
 ⟨none, .bin 20 .lss (.t 19) (.i 0), none, 0⟩]
def c48r7 : List SI := [
 ⟨none, .bin 22 .add (.t 11) (.i 1), none, 0⟩,
 ⟨none, .mv 11 (.t 22), none, 0⟩]
def c48r8 : List SI := [
 ⟨none, .mv 23 (.t 3), none, 0⟩,
 ⟨none, .call 24 61 [(.v (.slice none 0 0)), (.t 23)], none, 0⟩,
 ⟨none, .mv 6 (.t 24), none, 0⟩]
def c48r9 : List SI := [
 ⟨none, .mv 25 (.t 0), none, 0⟩,
 ⟨none, .len 26 false (.t 25), none, 0⟩,
 ⟨none, .mv 27 (.i 0), none, 0⟩]
def c48r10 : List SI := [
 ⟨none, .bin 28 .lss (.t 27) (.t 26), none, 0⟩]
def c48r11 : List SI := [
 ⟨none, .ixA 29 (.t 25) (.t 27) 1, none, 0⟩,
 ⟨none, .ld 30 (.t 29) none, none, 0⟩,
 ⟨none, .mv 8 (.t 30), none, 0⟩]
def c48r12 : List SI := [
 ⟨none, .mv 31 (.t 6), none, 0⟩,
 ⟨none, .mv 32 (.t 8), none, 0⟩,
 ⟨none, .app 33 (.t 31) (.t 32) 5 1 1, none, 0⟩,
 ⟨none, .mv 6 (.t 33), none, 0⟩]
def c48r13 : List SI := [
 ⟨none, .bin 34 .add (.t 27) (.i 1), none, 0⟩,
 ⟨none, .mv 27 (.t 34), none, 0⟩]
def c48r14 : List SI := [
 ⟨none, .mv 35 (.t 6), none, 0⟩,
 ⟨none, .mv 2 (.t 35), none, 0⟩]
def c48 : SC :=
 (.seq (.reg false c48r0)
 (.seq (.reg false c48r1)
 (.seq (.seq (.reg false c48r2)
 (.blk 0 (.loop (.seq (.reg false c48r3)
   (.seq (.cond (.t 12)
    .skip
    (.exit 0))
   (.seq (.blk 1 (.seq (.reg false c48r4)
    (.seq (.reg false c48r5)
    (.seq (.reg false c48r6)
    (.cond (.t 20)
     .dead
     .skip)))))
   (.reg false c48r7)))))))
 (.seq (.reg false c48r8)
 (.seq (.seq (.reg false c48r9)
 (.blk 2 (.loop (.seq (.reg false c48r10)
   (.seq (.cond (.t 28)
    .skip
    (.exit 2))
   (.seq (.blk 3 (.seq (.reg false c48r11)
    (.reg false c48r12)))
   (.reg false c48r13)))))))
 (.seq (.reg false c48r14)
 .ret))))))
def v48 : List Nat × List Nat := ([], [])
def o48 : List RS := [.t 2]
theorem s48 : slimC Try.prog Try.f48.ntmps v48.1 v48.2 ((Try.f48.body).getD .skip) = some c48 := by kernel_rfl
theorem q48 : slimR Try.prog Try.f48.ntmps v48.1 v48.2 Try.f48.results.toList = some o48 := by kernel_rfl
-- slices.Equal[[]watermeet/api.Rec,watermeet/api.Rec] N=26
def c49r0 : List SI := [
 ⟨none, .mv 4 (.b false), none, 0⟩]
def c49r1 : List SI := [
 ⟨none, .mv 6 (.t 0), none, 0⟩,
 ⟨none, .len 7 false (.t 6), none, 0⟩,
 ⟨none, .mv 8 (.t 1), none, 0⟩,
 ⟨none, .len 9 false (.t 8), none, 0⟩,
 ⟨none, .bin 10 .neq (.t 7) (.t 9), none, 0⟩]
def c49r2 : List SI := [
 ⟨none, .mv 4 (.b false), none, 0⟩]
def c49r3 : List SI := [
 ⟨none, .mv 11 (.t 0), none, 0⟩,
 ⟨none, .len 12 false (.t 11), none, 0⟩,
 ⟨none, .mv 13 (.i 0), none, 0⟩]
def c49r4 : List SI := [
 ⟨none, .bin 14 .lss (.t 13) (.t 12), none, 0⟩]
def c49r5 : List SI := [
 ⟨none, .mv 15 (.t 13), none, 0⟩,
 ⟨none, .mv 5 (.t 15), none, 0⟩]
def c49r6 : List SI := [
 ⟨none, .mv 16 (.t 0), none, 0⟩,
 ⟨none, .mv 17 (.t 5), none, 0⟩,
 ⟨none, .ixA 18 (.t 16) (.t 17) 5, none, 0⟩,
 ⟨none, .ld 19 (.t 18) (some 5), none, 0⟩,
 ⟨none, .mv 20 (.t 1), none, 0⟩,
 ⟨none, .mv 21 (.t 5), none, 0⟩,
 ⟨none, .ixA 22 (.t 20) (.t 21) 5, none, 0⟩,
 ⟨none, .ld 23 (.t 22) (some 5), none, 0⟩,
 ⟨none, .eqf 24 true [0, 2, 2, 1, 0] (.t 19) (.t 23), none, 0⟩]
def c49r7 : List SI := [
 ⟨none, .mv 4 (.b false), none, 0⟩]
def c49r8 : List SI := [
 ⟨none, .bin 25 .add (.t 13) (.i 1), none, 0⟩,
 ⟨none, .mv 13 (.t 25), none, 0⟩]
def c49r9 : List SI := [
 ⟨none, .mv 4 (.b true), none, 0⟩]
def c49 : SC :=
 (.seq (.reg false c49r0)
 (.seq (.seq (.reg false c49r1)
 (.cond (.t 10)
  (.seq (.reg false c49r2)
  .ret)
  .skip))
 (.seq (.seq (.reg false c49r3)
 (.blk 0 (.loop (.seq (.reg false c49r4)
   (.seq (.cond (.t 14)
    .skip
    (.exit 0))
   (.seq (.blk 1 (.seq (.reg false c49r5)
    (.seq (.reg true c49r6)
    (.cond (.t 24)
     (.seq (.reg false c49r7)
     .ret)
     .skip))))
   (.reg false c49r8)))))))
 (.seq (.reg false c49r9)
 .ret))))
def v49 : List Nat × List Nat := ([], [])
def o49 : List RS := [.t 4]
theorem s49 : slimC Try.prog Try.f49.ntmps v49.1 v49.2 ((Try.f49.body).getD .skip) = some c49 := by kernel_rfl
theorem q49 : slimR Try.prog Try.f49.ntmps v49.1 v49.2 Try.f49.results.toList = some o49 := by kernel_rfl
-- watermeet/batch.Same$1 N=33
def c50r0 : List SI := [
 ⟨none, .bxR 1 (.t 0), none, 0⟩,
 ⟨none, .alR 2 [(.int .i64 0), (.int .i64 0), (.int .i64 0), (.int .i64 0), (.int .i64 0), (.int .i64 0), (.int .i64 0), (.int .i64 0), (.int .i64 0)], none, 0⟩]
def c50r1 : List SI := [
 ⟨none, .nop, (some 1), 0⟩,
 ⟨none, .ldR 5 1 8 none, none, 0⟩,
 ⟨none, .bin 6 .mul (.t 5) (.i 2), none, 0⟩,
 ⟨none, .mv 3 (.t 6), none, 0⟩]
def c50r2 : List SI := [
 ⟨none, .nop, (some 1), 0⟩,
 ⟨none, .ldR 8 1 7 none, none, 0⟩]
def c50r3 : List SI := [
 ⟨none, .mv 9 (.t 3), none, 0⟩,
 ⟨none, .bin 10 .add (.t 9) (.i 1), none, 0⟩,
 ⟨none, .mv 3 (.t 10), none, 0⟩]
def c50r4 : List SI := [
 ⟨none, .nop, (some 1), 0⟩,
 ⟨none, .ldR 12 1 0 none, none, 0⟩,
 ⟨none, .nop, (some 1), 0⟩,
 ⟨none, .ldR 14 1 1 none, none, 0⟩,
 ⟨none, .nop, (some 1), 0⟩,
 ⟨none, .ldR 16 1 2 none, none, 0⟩,
 ⟨none, .nop, (some 1), 0⟩,
 ⟨none, .ldR 18 1 3 none, none, 0⟩,
 ⟨none, .nop, (some 1), 0⟩,
 ⟨none, .ldR 20 1 4 none, none, 0⟩,
 ⟨none, .nop, (some 1), 0⟩,
 ⟨none, .ldR 22 1 5 none, none, 0⟩,
 ⟨none, .nop, (some 1), 0⟩,
 ⟨none, .ldR 24 1 6 none, none, 0⟩,
 ⟨none, .nop, (some 1), 0⟩,
 ⟨none, .ldR 26 1 8 none, none, 0⟩,
 ⟨none, .mv 27 (.t 3), none, 0⟩,
 ⟨none, .nop, (some 1), 0⟩,
 ⟨none, .ldR 29 1 8 none, none, 0⟩,
 ⟨none, .bin 30 .mul (.t 29) (.i 2), none, 0⟩,
 ⟨none, .bin 31 .sub (.t 27) (.t 30), none, 0⟩,
 ⟨none, .bld 32 [(.int .i64 0), (.int .i64 0), (.int .i64 0), (.int .i64 0), (.int .i64 0), (.int .i64 0), (.int .i64 0), (.int .i64 0), (.int .i64 0)] [(0, 1, (.t 12)), (1, 1, (.t 14)), (2, 1, (.t 16)), (3, 1, (.t 18)), (4, 1, (.t 20)), (5, 1, (.t 22)), (6, 1, (.t 24)), (7, 1, (.t 26)), (8, 1, (.t 31))], none, 0⟩,
 ⟨none, .stR 2 0 9 (.t 32), none, 0⟩]
def c50 : SC :=
 (.seq (.reg false c50r0)
 (.seq (.reg false c50r1)
 (.seq (.seq (.reg false c50r2)
 (.cond (.t 8)
  (.reg false c50r3)
  .skip))
 (.seq (.reg false c50r4)
 .ret))))
def v50 : List Nat × List Nat := ([1, 2], [1, 2, 4, 7, 11, 13, 15, 17, 19, 21, 23, 25, 28])
def o50 : List RS := [.r 2 (some 9)]
theorem s50 : slimC Try.prog Try.f50.ntmps v50.1 v50.2 ((Try.f50.body).getD .skip) = some c50 := by kernel_rfl
theorem q50 : slimR Try.prog Try.f50.ntmps v50.1 v50.2 Try.f50.results.toList = some o50 := by kernel_rfl
-- watermeet/seg.New N=10
def c51r0 : List SI := [
 ⟨none, .alR 2 [(.int .i64 0), (.slice none 0 0)], none, 0⟩,
 ⟨none, .mv 3 (.i 0), none, 0⟩]
def c51r1 : List SI := [
 ⟨none, .mv 4 (.t 0), none, 0⟩,
 ⟨none, .call 5 45 [(.t 4)], none, 0⟩,
 ⟨none, .un 6 .not (.t 5), none, 0⟩]
def c51r2 : List SI := [
 ⟨none, .bld 7 [(.int .i64 0), (.slice none 0 0)] [], none, 0⟩,
 ⟨none, .stR 2 0 2 (.t 7), none, 0⟩,
 ⟨none, .mv 3 (.i 1), none, 0⟩]
def c51r3 : List SI := [
 ⟨none, .mv 8 (.t 0), none, 0⟩,
 ⟨none, .bld 9 [(.int .i64 0), (.slice none 0 0)] [(0, 1, (.t 8))], none, 0⟩,
 ⟨none, .stR 2 0 2 (.t 9), none, 0⟩,
 ⟨none, .mv 3 (.i 0), none, 0⟩]
def c51 : SC :=
 (.seq (.reg false c51r0)
 (.seq (.seq (.reg false c51r1)
 (.cond (.t 6)
  (.seq (.reg false c51r2)
  .ret)
  .skip))
 (.seq (.reg false c51r3)
 .ret)))
def v51 : List Nat × List Nat := ([2], [2])
def o51 : List RS := [.r 2 (some 2), .t 3]
theorem s51 : slimC Try.prog Try.f51.ntmps v51.1 v51.2 ((Try.f51.body).getD .skip) = some c51 := by kernel_rfl
theorem q51 : slimR Try.prog Try.f51.ntmps v51.1 v51.2 Try.f51.results.toList = some o51 := by kernel_rfl
-- watermeet/index.entries$1 N=44
def c52r0 : List SI := [
 ⟨none, .bld 8 [(.int .i64 0), (.int .i64 0), (.int .i64 0)] [(2, 1, (.i (-1)))], none, 0⟩,
 ⟨none, .alR 3 [(.int .i64 0), (.int .i64 0), (.int .i64 0)], none, 0⟩,
 ⟨none, .stR 3 0 3 (.t 8), none, 0⟩]
def c52r1 : List SI := [
 ⟨none, .ld 9 (.t 1) none, none, 0⟩,
 ⟨none, .len 10 false (.t 9), none, 0⟩,
 ⟨none, .mv 11 (.i 0), none, 0⟩]
def c52r2 : List SI := [
 ⟨none, .bin 12 .lss (.t 11) (.t 10), none, 0⟩]
def c52r3 : List SI := [
 ⟨none, .ixA 13 (.t 9) (.t 11) 10, none, 0⟩,
 ⟨none, .ld 14 (.t 13) (some 10), none, 0⟩,
 ⟨none, .alR 5 [(.int .i64 0), (.int .i64 0), (.int .i64 0), (.int .i64 0), (.int .i64 0), (.int .i64 0), (.int .i64 0), (.bool false), (.int .i64 0), (.slice none 0 0)], none, 0⟩,
 ⟨none, .stR 5 0 10 (.t 14), none, 0⟩]
def c52r4 : List SI := [
 ⟨none, .nop, (some 5), 0⟩,
 ⟨none, .ldR 16 5 0 none, none, 0⟩,
 ⟨none, .nop, (some 3), 0⟩,
 ⟨none, .stR 3 0 1 (.t 16), none, 0⟩]
def c52r5 : List SI := [
 ⟨none, .nop, (some 5), 0⟩,
 ⟨none, .ldR 19 5 9 none, none, 0⟩,
 ⟨none, .len 20 false (.t 19), none, 0⟩,
 ⟨none, .mv 21 (.i 0), none, 0⟩]
def c52r6 : List SI := [
 ⟨none, .bin 22 .lss (.t 21) (.t 20), none, 0⟩]
def c52r7 : List SI := [
 ⟨none, .ixA 23 (.t 19) (.t 21) 5, none, 0⟩,
 ⟨none, .ld 24 (.t 23) (some 5), none, 0⟩,
 ⟨none, .alR 7 [(.int .i64 0), (.string ⟨#[]⟩), (.string ⟨#[]⟩), (.bool false), (.int .i64 0)], none, 0⟩,
 ⟨none, .stR 7 0 5 (.t 24), none, 0⟩]
def c52r8 : List SI := [
 ⟨none, .nop, (some 3), 0⟩,
 ⟨none, .ldR 26 3 2 none, none, 0⟩,
 ⟨none, .nop, (some 7), 0⟩,
 ⟨none, .ldR 28 7 4 none, none, 0⟩,
 ⟨none, .mm 29 true (.t 26) (.t 28), none, 0⟩,
 ⟨none, .nop, (some 3), 0⟩,
 ⟨none, .stR 3 2 1 (.t 29), none, 0⟩]
def c52r9 : List SI := [
 ⟨none, .bin 31 .add (.t 21) (.i 1), none, 0⟩,
 ⟨none, .mv 21 (.t 31), none, 0⟩]
def c52r10 : List SI := [
 ⟨none, .mv 32 (.t 0), none, 0⟩,
 ⟨none, .ldR 33 3 0 (some 3), none, 0⟩,
 ⟨none, .ldR 34 5 0 (some 10), none, 0⟩,
 ⟨none, .cav 35 (.t 32) [(.t 33), (.t 34)], none, 0⟩,
 ⟨none, .un 36 .not (.t 35), none, 0⟩]
def c52r11 : List (Bool × SI) := [
 (true, ⟨none, .nop, (some 3), 0⟩),
 (true, ⟨none, .ldR 38 3 1 none, none, 0⟩),
 (true, ⟨none, .ldR 39 5 0 (some 10), none, 0⟩),
 (false, ⟨none, .call 40 28 [(.t 39)], none, 0⟩),
 (true, ⟨none, .bin 41 .add (.t 38) (.t 40), none, 0⟩),
 (true, ⟨none, .nop, (some 3), 0⟩)]
def c52r12 : List SI := [
 ⟨none, .stR 3 1 1 (.t 41), none, 0⟩]
def c52r13 : List SI := [
 ⟨none, .bin 43 .add (.t 11) (.i 1), none, 0⟩,
 ⟨none, .mv 11 (.t 43), none, 0⟩]
def c52 : SC :=
 (.seq (.reg false c52r0)
 (.seq (.reg false c52r1)
 (.blk 0 (.loop (.seq (.reg false c52r2)
   (.seq (.cond (.t 12)
    .skip
    (.exit 0))
   (.seq (.blk 1 (.seq (.reg false c52r3)
    (.seq (.reg false c52r4)
    (.seq (.seq (.reg false c52r5)
    (.blk 2 (.loop (.seq (.reg false c52r6)
      (.seq (.cond (.t 22)
       .skip
       (.exit 2))
      (.seq (.blk 3 (.seq (.reg false c52r7)
       (.reg false c52r8)))
      (.reg false c52r9)))))))
    (.seq (.seq (.reg false c52r10)
    (.cond (.t 36)
     .ret
     .skip))
    (.rgY c52r11 c52r12))))))
   (.reg false c52r13))))))))
def v52 : List Nat × List Nat := ([3, 5, 7], [3, 5, 7, 15, 17, 18, 25, 27, 30, 37, 42])
def o52 : List RS := []
theorem s52 : slimC Try.prog Try.f52.ntmps v52.1 v52.2 ((Try.f52.body).getD .skip) = some c52 := by kernel_rfl
theorem q52 : slimR Try.prog Try.f52.ntmps v52.1 v52.2 Try.f52.results.toList = some o52 := by kernel_rfl
-- watermeet/watermeetref04.Size N=9
def c54r0 : List SI := [
 ⟨none, .bx 1 (.t 0), none, 0⟩,
 ⟨none, .mv 2 (.v .nilFunc), none, 0⟩]
def c54r1 : List SI := [
 ⟨none, .mkf 3 (.func 64) [(.t 1)], none, 0⟩,
 ⟨none, .mv 2 (.t 3), none, 0⟩]
def c54 : SC :=
 (.seq (.reg false c54r0)
 (.seq (.reg false c54r1)
 .ret))
def v54 : List Nat × List Nat := ([], [])
def o54 : List RS := [.t 2]
theorem s54 : slimC Try.prog Try.f54.ntmps v54.1 v54.2 ((Try.f54.body).getD .skip) = some c54 := by kernel_rfl
theorem q54 : slimR Try.prog Try.f54.ntmps v54.1 v54.2 Try.f54.results.toList = some o54 := by kernel_rfl
-- watermeet/index.from$1 N=27
def c55r0 : List SI := [
 ⟨none, .ld 7 (.t 1) none, none, 0⟩,
 ⟨none, .flA 8 (.t 2) 1, none, 0⟩,
 ⟨none, .ld 9 (.t 8) none, none, 0⟩,
 ⟨none, .len 10 false (.t 9), none, 0⟩,
 ⟨none, .bin 11 .lss (.t 7) (.t 10), none, 0⟩]
def c55r1 : List SI := [
 ⟨none, .flA 13 (.t 2) 1, none, 0⟩,
 ⟨none, .ld 14 (.t 13) none, none, 0⟩,
 ⟨none, .ld 15 (.t 1) none, none, 0⟩,
 ⟨none, .call 16 56 [(.t 14), (.t 15)], none, 0⟩,
 ⟨none, .mv 12 (.t 16), none, 0⟩,
 ⟨none, .ext 17 (.t 12) 0, none, 0⟩,
 ⟨none, .ext 18 (.t 12) 1, none, 0⟩,
 ⟨none, .ext 19 (.t 12) 2, none, 0⟩,
 ⟨none, .alR 4 [(.int .i64 0), (.int .i64 0), (.int .i64 0), (.int .i64 0), (.int .i64 0), (.int .i64 0), (.int .i64 0), (.bool false), (.int .i64 0), (.slice none 0 0)], none, 0⟩,
 ⟨none, .stR 4 0 10 (.t 17), none, 0⟩,
 ⟨none, .mv 5 (.t 18), none, 0⟩,
 ⟨none, .mv 6 (.t 19), none, 0⟩]
def c55r2 : List SI := [
 ⟨none, .mv 20 (.t 6), none, 0⟩,
 ⟨none, .bin 21 .neq (.t 20) (.i 0), none, 0⟩]
def c55r3 : List SI := [
 ⟨none, .mv 22 (.t 0), none, 0⟩,
 ⟨none, .ldR 23 4 0 (some 10), none, 0⟩,
 ⟨none, .cav 24 (.t 22) [(.t 23)], none, 0⟩,
 ⟨none, .un 25 .not (.t 24), none, 0⟩]
def c55r4 : List SI := [
 ⟨none, .mv 26 (.t 5), none, 0⟩,
 ⟨none, .st (.t 1) 1 (.t 26), none, 0⟩]
def c55 : SC :=
 (.scp (.seq (.lab 0)
  (.blk 0 (.loop (.seq (.seq (.reg false c55r0)
    (.cond (.t 11)
     .skip
     (.exit 0)))
    (.blk 1 (.seq (.reg false c55r1)
     (.seq (.seq (.reg false c55r2)
     (.cond (.t 21)
      (.exit 0)
      .skip))
     (.seq (.seq (.reg false c55r3)
     (.cond (.t 25)
      .ret
      .skip))
     (.reg false c55r4))))))))))
def v55 : List Nat × List Nat := ([4], [4])
def o55 : List RS := []
theorem s55 : slimC Try.prog Try.f55.ntmps v55.1 v55.2 ((Try.f55.body).getD .skip) = some c55 := by kernel_rfl
theorem q55 : slimR Try.prog Try.f55.ntmps v55.1 v55.2 Try.f55.results.toList = some o55 := by kernel_rfl
-- watermeet/batch.Get N=68
def c56r0 : List SI := [
 ⟨none, .alR 4 [(.int .i64 0), (.int .i64 0), (.int .i64 0), (.int .i64 0), (.int .i64 0), (.int .i64 0), (.int .i64 0), (.bool false), (.int .i64 0), (.slice none 0 0)], none, 0⟩,
 ⟨none, .mv 5 (.i 0), none, 0⟩,
 ⟨none, .mv 6 (.i 0), none, 0⟩]
def c56r1 : List SI := [
 ⟨none, .mv 12 (.t 0), none, 0⟩,
 ⟨none, .mv 13 (.t 1), none, 0⟩,
 ⟨none, .call 14 65 [(.t 12), (.t 13), (.i 4)], none, 0⟩,
 ⟨none, .mv 11 (.t 14), none, 0⟩,
 ⟨none, .ext 15 (.t 11) 0, none, 0⟩,
 ⟨none, .ext 16 (.t 11) 1, none, 0⟩,
 ⟨none, .mv 7 (.t 15), none, 0⟩,
 ⟨none, .mv 6 (.t 16), none, 0⟩]
def c56r2 : List SI := [
 ⟨none, .mv 17 (.t 6), none, 0⟩,
 ⟨none, .bin 18 .neq (.t 17) (.i 0), none, 0⟩]
def c56r3 : List SI := [
 ⟨none, .bld 19 [(.int .i64 0), (.int .i64 0), (.int .i64 0), (.int .i64 0), (.int .i64 0), (.int .i64 0), (.int .i64 0), (.bool false), (.int .i64 0), (.slice none 0 0)] [], none, 0⟩,
 ⟨none, .mv 20 (.t 6), none, 0⟩,
 ⟨none, .stR 4 0 10 (.t 19), none, 0⟩,
 ⟨none, .mv 5 (.i 0), none, 0⟩,
 ⟨none, .mv 6 (.t 20), none, 0⟩]
def c56r4 : List SI := [
 ⟨none, .mv 21 (.t 7), none, 0⟩,
 ⟨none, .bin 22 .lss (.t 21) (.v (.int .u64 5)), none, 0⟩,
 ⟨none, .mv 23 (.t 22), none, 0⟩,
 ⟨some (23, false), .mv 24 (.t 7), none, 24⟩,
 ⟨some (23, false), .bin 25 .gtr (.t 24) (.v (.int .u64 2044)), none, 25⟩,
 ⟨none, .pick 26 (.t 23) (.b true) (.t 25), none, 0⟩]
def c56r5 : List SI := [
 ⟨none, .bld 27 [(.int .i64 0), (.int .i64 0), (.int .i64 0), (.int .i64 0), (.int .i64 0), (.int .i64 0), (.int .i64 0), (.bool false), (.int .i64 0), (.slice none 0 0)] [], none, 0⟩,
 ⟨none, .stR 4 0 10 (.t 27), none, 0⟩,
 ⟨none, .mv 5 (.i 0), none, 0⟩,
 ⟨none, .mv 6 (.i 11), none, 0⟩]
def c56r6 : List SI := [
 ⟨none, .mv 28 (.t 0), none, 0⟩,
 ⟨none, .mv 29 (.t 1), none, 0⟩,
 ⟨none, .bin 30 .add (.t 29) (.i 4), none, 0⟩,
 ⟨none, .sl 31 (.t 28) (some (.t 30)) none none 1, none, 0⟩,
 ⟨none, .mv 8 (.t 31), none, 0⟩]
def c56r7 : List SI := [
 ⟨none, .mv 32 (.t 8), none, 0⟩,
 ⟨none, .len 33 false (.t 32), none, 0⟩,
 ⟨none, .cvI 34 .u64 (.t 33), none, 0⟩,
 ⟨none, .mv 35 (.t 7), none, 0⟩,
 ⟨none, .bin 36 .lss (.t 34) (.t 35), none, 0⟩]
def c56r8 : List SI := [
 ⟨none, .bld 37 [(.int .i64 0), (.int .i64 0), (.int .i64 0), (.int .i64 0), (.int .i64 0), (.int .i64 0), (.int .i64 0), (.bool false), (.int .i64 0), (.slice none 0 0)] [], none, 0⟩,
 ⟨none, .stR 4 0 10 (.t 37), none, 0⟩,
 ⟨none, .mv 5 (.i 0), none, 0⟩,
 ⟨none, .mv 6 (.i 10), none, 0⟩]
def c56r9 : List SI := [
 ⟨none, .mv 39 (.t 8), none, 0⟩,
 ⟨none, .mv 40 (.t 7), none, 0⟩,
 ⟨none, .sl 41 (.t 39) none (some (.t 40)) none 1, none, 0⟩,
 ⟨none, .call 42 66 [(.t 41)], none, 0⟩,
 ⟨none, .mv 38 (.t 42), none, 0⟩,
 ⟨none, .ext 43 (.t 38) 0, none, 0⟩,
 ⟨none, .ext 44 (.t 38) 1, none, 0⟩,
 ⟨none, .mv 9 (.t 43), none, 0⟩,
 ⟨none, .mv 6 (.t 44), none, 0⟩]
def c56r10 : List SI := [
 ⟨none, .mv 45 (.t 6), none, 0⟩,
 ⟨none, .bin 46 .neq (.t 45) (.i 0), none, 0⟩]
def c56r11 : List SI := [
 ⟨none, .bld 47 [(.int .i64 0), (.int .i64 0), (.int .i64 0), (.int .i64 0), (.int .i64 0), (.int .i64 0), (.int .i64 0), (.bool false), (.int .i64 0), (.slice none 0 0)] [], none, 0⟩,
 ⟨none, .mv 48 (.t 6), none, 0⟩,
 ⟨none, .stR 4 0 10 (.t 47), none, 0⟩,
 ⟨none, .mv 5 (.i 0), none, 0⟩,
 ⟨none, .mv 6 (.t 48), none, 0⟩]
def c56r12 : List SI := [
 ⟨none, .mv 50 (.t 9), none, 0⟩,
 ⟨none, .call 51 67 [(.t 50)], none, 0⟩,
 ⟨none, .mv 49 (.t 51), none, 0⟩,
 ⟨none, .ext 52 (.t 49) 0, none, 0⟩,
 ⟨none, .ext 53 (.t 49) 1, none, 0⟩,
 ⟨none, .stR 4 0 10 (.t 52), none, 0⟩,
 ⟨none, .mv 10 (.t 53), none, 0⟩]
def c56r13 : List SI := [
 ⟨none, .mv 54 (.t 10), none, 0⟩,
 ⟨none, .un 55 .not (.t 54), none, 0⟩,
 ⟨none, .mv 56 (.t 55), none, 0⟩,
 ⟨some (56, false), .ldR 57 4 0 (some 10), none, 57⟩,
 ⟨some (56, false), .call 58 68 [(.t 57)], none, 58⟩,
 ⟨some (56, false), .bin 59 .neq (.t 58) (.i 0), none, 59⟩,
 ⟨none, .pick 60 (.t 56) (.b true) (.t 59), none, 0⟩]
def c56r14 : List SI := [
 ⟨none, .bld 61 [(.int .i64 0), (.int .i64 0), (.int .i64 0), (.int .i64 0), (.int .i64 0), (.int .i64 0), (.int .i64 0), (.bool false), (.int .i64 0), (.slice none 0 0)] [], none, 0⟩,
 ⟨none, .stR 4 0 10 (.t 61), none, 0⟩,
 ⟨none, .mv 5 (.i 0), none, 0⟩,
 ⟨none, .mv 6 (.i 11), none, 0⟩]
def c56r15 : List SI := [
 ⟨none, .ldR 62 4 0 (some 10), none, 0⟩,
 ⟨none, .mv 63 (.t 1), none, 0⟩,
 ⟨none, .bin 64 .add (.t 63) (.i 4), none, 0⟩,
 ⟨none, .mv 65 (.t 7), none, 0⟩,
 ⟨none, .cvI 66 .i64 (.t 65), none, 0⟩,
 ⟨none, .bin 67 .add (.t 64) (.t 66), none, 0⟩,
 ⟨none, .stR 4 0 10 (.t 62), none, 0⟩,
 ⟨none, .mv 5 (.t 67), none, 0⟩,
 ⟨none, .mv 6 (.i 0), none, 0⟩]
def c56 : SC :=
 (.seq (.reg false c56r0)
 (.seq (.reg false c56r1)
 (.seq (.seq (.reg false c56r2)
 (.cond (.t 18)
  (.seq (.reg false c56r3)
  .ret)
  .skip))
 (.seq (.seq (.reg false c56r4)
 (.cond (.t 26)
  (.seq (.reg false c56r5)
  .ret)
  .skip))
 (.seq (.reg false c56r6)
 (.seq (.seq (.reg false c56r7)
 (.cond (.t 36)
  (.seq (.reg false c56r8)
  .ret)
  .skip))
 (.seq (.reg false c56r9)
 (.seq (.seq (.reg false c56r10)
 (.cond (.t 46)
  (.seq (.reg false c56r11)
  .ret)
  .skip))
 (.seq (.reg false c56r12)
 (.seq (.seq (.reg false c56r13)
 (.cond (.t 60)
  (.seq (.reg false c56r14)
  .ret)
  .skip))
 (.seq (.reg false c56r15)
 .ret)))))))))))
def v56 : List Nat × List Nat := ([4], [4])
def o56 : List RS := [.r 4 (some 10), .t 5, .t 6]
theorem s56 : slimC Try.prog Try.f56.ntmps v56.1 v56.2 ((Try.f56.body).getD .skip) = some c56 := by kernel_rfl
theorem q56 : slimR Try.prog Try.f56.ntmps v56.1 v56.2 Try.f56.results.toList = some o56 := by kernel_rfl
-- watermeet/watermeetref04.Get N=68
def c58r0 : List SI := [
 ⟨none, .flA 8 (.t 1) 0, none, 0⟩,
 ⟨none, .ld 9 (.t 8) none, none, 0⟩,
 ⟨none, .mv 3 (.i 0), none, 0⟩,
 ⟨none, .mv 4 (.t 9), none, 0⟩]
def c58r1 : List SI := [
 ⟨none, .flA 11 (.t 1) 1, none, 0⟩,
 ⟨none, .ld 12 (.t 11) none, none, 0⟩,
 ⟨none, .mv 13 (.t 3), none, 0⟩,
 ⟨none, .call 14 56 [(.t 12), (.t 13)], none, 0⟩,
 ⟨none, .mv 10 (.t 14), none, 0⟩,
 ⟨none, .ext 15 (.t 10) 0, none, 0⟩,
 ⟨none, .ext 16 (.t 10) 1, none, 0⟩,
 ⟨none, .ext 17 (.t 10) 2, none, 0⟩,
 ⟨none, .alR 5 [(.int .i64 0), (.int .i64 0), (.int .i64 0), (.int .i64 0), (.int .i64 0), (.int .i64 0), (.int .i64 0), (.bool false), (.int .i64 0), (.slice none 0 0)], none, 0⟩,
 ⟨none, .stR 5 0 10 (.t 15), none, 0⟩,
 ⟨none, .mv 6 (.t 16), none, 0⟩,
 ⟨none, .mv 7 (.t 17), none, 0⟩]
def c58r2 : List SI := [
 ⟨none, .mv 18 (.t 7), none, 0⟩,
 ⟨none, .bin 19 .neq (.t 18) (.i 0), none, 0⟩,
 ⟨none, .mv 20 (.t 19), none, 0⟩,
 ⟨some (20, false), .nop, (some 5), 99999⟩,
 ⟨some (20, false), .ldR 22 5 0 none, none, 22⟩,
 ⟨some (20, false), .mv 23 (.t 4), none, 23⟩,
 ⟨some (20, false), .bin 24 .lss (.t 22) (.t 23), none, 24⟩,
 ⟨none, .pick 25 (.t 20) (.b true) (.t 24), none, 0⟩,
 ⟨none, .mv 26 (.t 25), none, 0⟩,
 ⟨some (26, false), .mv 27 (.t 0), none, 27⟩,
 ⟨some (26, false), .ldR 28 5 0 (some 10), none, 28⟩,
 ⟨some (26, false), .mv 29 (.t 6), none, 29⟩,
 ⟨some (26, false), .cav 30 (.t 27) [(.t 28), (.t 29)], none, 30⟩,
 ⟨some (26, false), .un 31 .not (.t 30), none, 31⟩,
 ⟨none, .pick 32 (.t 26) (.b true) (.t 31), none, 0⟩]
def c58r3 : List SI := [
 ⟨none, .mv 33 (.t 6), none, 0⟩,
 ⟨none, .nop, (some 5), 0⟩,
 ⟨none, .ldR 35 5 1 none, none, 0⟩,
 ⟨none, .bin 36 .add (.t 35) (.i 1), none, 0⟩,
 ⟨none, .mv 3 (.t 33), none, 0⟩,
 ⟨none, .mv 4 (.t 36), none, 0⟩]
def c58 : SC :=
 (.seq (.reg true c58r0)
 (.blk 0 (.loop (.blk 1 (.seq (.reg false c58r1)
    (.seq (.seq (.reg false c58r2)
    (.cond (.t 32)
     .ret
     .skip))
    (.reg true c58r3)))))))
def v58 : List Nat × List Nat := ([5], [5, 21, 34])
def o58 : List RS := []
theorem s58 : slimC Try.prog Try.f58.ntmps v58.1 v58.2 ((Try.f58.body).getD .skip) = some c58 := by kernel_rfl
theorem q58 : slimR Try.prog Try.f58.ntmps v58.1 v58.2 Try.f58.results.toList = some o58 := by kernel_rfl
-- watermeet/batch.formed N=131
def c59r0 : List SI := [
 ⟨none, .bxR 1 (.t 0), none, 0⟩,
 ⟨none, .mv 2 (.b false), none, 0⟩]
def c59r1 : List SI := [
 ⟨none, .nop, (some 1), 0⟩,
 ⟨none, .ldR 8 1 0 none, none, 0⟩,
 ⟨none, .nop, (some 1), 0⟩,
 ⟨none, .ldR 10 1 1 none, none, 0⟩,
 ⟨none, .nop, (some 1), 0⟩,
 ⟨none, .ldR 12 1 2 none, none, 0⟩,
 ⟨none, .bls 13 3 3 1 [(.int .i64 0), (.int .i64 0), (.int .i64 0)] [(0, 1, (.t 8)), (1, 1, (.t 10)), (2, 1, (.t 12))], none, 0⟩,
 ⟨none, .call 14 72 [(.i 1099511627776), (.t 13)], none, 0⟩,
 ⟨none, .un 15 .not (.t 14), none, 0⟩,
 ⟨none, .mv 16 (.t 15), none, 0⟩,
 ⟨some (16, false), .nop, (some 1), 99999⟩,
 ⟨some (16, false), .ldR 18 1 3 none, none, 18⟩,
 ⟨some (16, false), .nop, (some 1), 99999⟩,
 ⟨some (16, false), .ldR 20 1 5 none, none, 20⟩,
 ⟨some (16, false), .nop, (some 1), 99999⟩,
 ⟨some (16, false), .ldR 22 1 6 none, none, 22⟩,
 ⟨some (16, false), .bls 23 3 3 1 [(.int .i64 0), (.int .i64 0), (.int .i64 0)] [(0, 1, (.t 18)), (1, 1, (.t 20)), (2, 1, (.t 22))], none, 23⟩,
 ⟨some (16, false), .call 24 72 [(.i 1048576), (.t 23)], none, 24⟩,
 ⟨some (16, false), .un 25 .not (.t 24), none, 25⟩,
 ⟨none, .pick 26 (.t 16) (.b true) (.t 25), none, 0⟩]
def c59r2 : List SI := [
 ⟨none, .mv 2 (.b false), none, 0⟩]
def c59r3 : List SI := [
 ⟨none, .nop, (some 1), 0⟩,
 ⟨none, .ldR 28 1 1 none, none, 0⟩,
 ⟨none, .nop, (some 1), 0⟩,
 ⟨none, .ldR 30 1 0 none, none, 0⟩,
 ⟨none, .bin 31 .sub (.t 28) (.t 30), none, 0⟩,
 ⟨none, .mv 3 (.t 31), none, 0⟩]
def c59r4 : List SI := [
 ⟨none, .mv 33 (.t 3), none, 0⟩,
 ⟨none, .bin 34 .lss (.t 33) (.i 0), none, 0⟩,
 ⟨none, .mv 35 (.t 34), none, 0⟩,
 ⟨some (35, false), .mv 36 (.t 3), none, 36⟩,
 ⟨some (35, false), .bin 37 .geq (.t 36) (.i 16), none, 37⟩,
 ⟨none, .pick 38 (.t 35) (.b true) (.t 37), none, 0⟩,
 ⟨none, .mv 39 (.t 38), none, 0⟩,
 ⟨some (39, false), .nop, (some 1), 99999⟩,
 ⟨some (39, false), .ldR 41 1 2 none, none, 41⟩,
 ⟨some (39, false), .mv 42 (.t 3), none, 42⟩,
 ⟨some (39, false), .bin 43 .add (.t 41) (.t 42), none, 43⟩,
 ⟨some (39, false), .bin 44 .gtr (.t 43) (.i 1099511627776), none, 44⟩,
 ⟨none, .pick 45 (.t 39) (.b true) (.t 44), none, 0⟩,
 ⟨none, .mv 46 (.t 45), none, 0⟩,
 ⟨some (46, false), .nop, (some 1), 99999⟩,
 ⟨some (46, false), .ldR 48 1 6 none, none, 48⟩,
 ⟨some (46, false), .mv 49 (.t 3), none, 49⟩,
 ⟨some (46, false), .bin 50 .add (.t 48) (.t 49), none, 50⟩,
 ⟨some (46, false), .bin 51 .gtr (.t 50) (.i 1048576), none, 51⟩,
 ⟨none, .pick 52 (.t 46) (.b true) (.t 51), none, 0⟩,
 ⟨none, .mv 32 (.t 52), none, 0⟩]
def c59r5 : List SI := [
 ⟨none, .mv 2 (.b false), none, 0⟩]
def c59r6 : List SI := [
 ⟨none, .nop, (some 1), 0⟩,
 ⟨none, .ldR 55 1 4 none, none, 0⟩,
 ⟨none, .bin 56 .lss (.t 55) (.i (-1)), none, 0⟩,
 ⟨none, .mv 57 (.t 56), none, 0⟩,
 ⟨some (57, false), .nop, (some 1), 99999⟩,
 ⟨some (57, false), .ldR 59 1 4 none, none, 59⟩,
 ⟨some (57, false), .bin 60 .gtr (.t 59) (.i 1099511627776), none, 60⟩,
 ⟨none, .pick 61 (.t 57) (.b true) (.t 60), none, 0⟩,
 ⟨none, .mv 53 (.t 61), none, 0⟩]
def c59r7 : List SI := [
 ⟨none, .mv 2 (.b false), none, 0⟩]
def c59r8 : List SI := [
 ⟨none, .nop, (some 1), 0⟩,
 ⟨none, .ldR 64 1 4 none, none, 0⟩,
 ⟨none, .bin 65 .eql (.t 64) (.i (-1)), none, 0⟩,
 ⟨none, .mv 66 (.t 65), none, 0⟩,
 ⟨some (66, true), .nop, (some 1), 99999⟩,
 ⟨some (66, true), .ldR 68 1 5 none, none, 68⟩,
 ⟨some (66, true), .nop, (some 1), 99999⟩,
 ⟨some (66, true), .ldR 70 1 6 none, none, 70⟩,
 ⟨some (66, true), .bin 71 .add (.t 68) (.t 70), none, 71⟩,
 ⟨some (66, true), .bin 72 .neq (.t 71) (.i 0), none, 72⟩,
 ⟨some (66, true), .mv 73 (.t 72), none, 73⟩,
 ⟨some (73, false), .nop, (some 1), 99999⟩,
 ⟨some (73, false), .ldR 75 1 7 none, none, 75⟩,
 ⟨some (66, true), .pick 76 (.t 73) (.b true) (.t 75), none, 76⟩,
 ⟨some (66, true), .mv 77 (.t 76), none, 77⟩,
 ⟨some (77, false), .nop, (some 1), 99999⟩,
 ⟨some (77, false), .ldR 79 1 8 none, none, 79⟩,
 ⟨some (77, false), .bin 80 .neq (.t 79) (.i 0), none, 80⟩,
 ⟨some (66, true), .pick 81 (.t 77) (.b true) (.t 80), none, 81⟩,
 ⟨none, .pick 82 (.t 66) (.t 81) (.b false), none, 0⟩,
 ⟨none, .mv 62 (.t 82), none, 0⟩]
def c59r9 : List SI := [
 ⟨none, .mv 2 (.b false), none, 0⟩]
def c59r10 : List SI := [
 ⟨none, .nop, (some 1), 0⟩,
 ⟨none, .ldR 84 1 8 none, none, 0⟩]
def c59r11 : List SI := [
 ⟨none, .bin 86 .eql (.t 84) (.i 0), none, 0⟩,
 ⟨none, .mv 85 (.t 86), none, 0⟩]
def c59r12 : List SI := [
 ⟨none, .nop, (some 1), 0⟩,
 ⟨none, .ldR 88 1 0 none, none, 0⟩,
 ⟨none, .mv 4 (.t 88), none, 0⟩]
def c59r13 : List SI := [
 ⟨none, .nop, (some 1), 0⟩,
 ⟨none, .ldR 90 1 9 none, none, 0⟩,
 ⟨none, .len 91 false (.t 90), none, 0⟩,
 ⟨none, .mv 92 (.i 0), none, 0⟩]
def c59r14 : List SI := [
 ⟨none, .bin 93 .lss (.t 92) (.t 91), none, 0⟩]
def c59r15 : List SI := [
 ⟨none, .ixA 94 (.t 90) (.t 92) 5, none, 0⟩,
 ⟨none, .ld 95 (.t 94) (some 5), none, 0⟩,
 ⟨none, .alR 6 [(.int .i64 0), (.string ⟨#[]⟩), (.string ⟨#[]⟩), (.bool false), (.int .i64 0)], none, 0⟩,
 ⟨none, .stR 6 0 5 (.t 95), none, 0⟩]
def c59r16 : List SI := [
 ⟨none, .ldR 96 6 0 (some 5), none, 0⟩,
 ⟨none, .call 97 73 [(.t 96)], none, 0⟩,
 ⟨none, .bin 98 .neq (.t 97) (.i 0), none, 0⟩,
 ⟨none, .mv 99 (.t 98), none, 0⟩,
 ⟨some (99, false), .nop, (some 6), 99999⟩,
 ⟨some (99, false), .ldR 101 6 0 none, none, 101⟩,
 ⟨some (99, false), .mv 102 (.t 4), none, 102⟩,
 ⟨some (99, false), .bin 103 .lss (.t 101) (.t 102), none, 103⟩,
 ⟨none, .pick 104 (.t 99) (.b true) (.t 103), none, 0⟩,
 ⟨none, .mv 105 (.t 104), none, 0⟩,
 ⟨some (105, false), .nop, (some 6), 99999⟩,
 ⟨some (105, false), .ldR 107 6 0 none, none, 107⟩,
 ⟨some (105, false), .nop, (some 1), 99999⟩,
 ⟨some (105, false), .ldR 109 1 1 none, none, 109⟩,
 ⟨some (105, false), .bin 110 .gtr (.t 107) (.t 109), none, 110⟩,
 ⟨none, .pick 111 (.t 105) (.b true) (.t 110), none, 0⟩]
def c59r17 : List SI := [
 ⟨none, .mv 2 (.b false), none, 0⟩]
def c59r18 : List SI := [
 ⟨none, .nop, (some 6), 0⟩,
 ⟨none, .ldR 113 6 0 none, none, 0⟩,
 ⟨none, .bin 114 .add (.t 113) (.i 1), none, 0⟩,
 ⟨none, .mv 4 (.t 114), none, 0⟩]
def c59r19 : List SI := [
 ⟨none, .bin 115 .add (.t 92) (.i 1), none, 0⟩,
 ⟨none, .mv 92 (.t 115), none, 0⟩]
def c59r20 : List SI := [
 ⟨none, .mv 2 (.b true), none, 0⟩]
def c59r21 : List SI := [
 ⟨none, .bin 117 .eql (.t 84) (.i 1), none, 0⟩,
 ⟨none, .mv 116 (.t 117), none, 0⟩]
def c59r22 : List SI := [
 ⟨none, .bin 118 .eql (.t 84) (.i 2), none, 0⟩,
 ⟨none, .mv 116 (.t 118), none, 0⟩]
def c59r23 : List SI := [
 ⟨none, .mv 119 (.t 3), none, 0⟩,
 ⟨none, .bin 120 .eql (.t 119) (.i 0), none, 0⟩,
 ⟨none, .mv 121 (.t 120), none, 0⟩,
 ⟨some (121, true), .nop, (some 1), 99999⟩,
 ⟨some (121, true), .ldR 123 1 9 none, none, 123⟩,
 ⟨some (121, true), .len 124 false (.t 123), none, 124⟩,
 ⟨some (121, true), .bin 125 .eql (.t 124) (.i 0), none, 125⟩,
 ⟨none, .pick 126 (.t 121) (.t 125) (.b false), none, 0⟩,
 ⟨none, .mv 127 (.t 126), none, 0⟩,
 ⟨some (127, true), .nop, (some 1), 99999⟩,
 ⟨some (127, true), .ldR 129 1 7 none, none, 129⟩,
 ⟨none, .pick 130 (.t 127) (.t 129) (.b false), none, 0⟩,
 ⟨none, .mv 2 (.t 130), none, 0⟩]
def c59r24 : List SI := [
 ⟨none, .mv 2 (.b false), none, 0⟩]
def c59 : SC :=
 (.seq (.reg false c59r0)
 (.seq (.seq (.reg false c59r1)
 (.cond (.t 26)
  (.seq (.reg false c59r2)
  .ret)
  .skip))
 (.seq (.reg false c59r3)
 (.seq (.blk 0 (.seq (.reg false c59r4)
  (.cond (.t 32)
   (.seq (.reg false c59r5)
   .ret)
   (.seq (.reg false c59r6)
   (.cond (.t 53)
    (.seq (.reg false c59r7)
    .ret)
    (.seq (.reg false c59r8)
    (.cond (.t 62)
     (.seq (.reg false c59r9)
     .ret)
     .skip)))))))
 (.seq (.seq (.reg false c59r10)
 (.blk 1 (.seq (.reg false c59r11)
  (.cond (.t 85)
   (.seq (.reg false c59r12)
   (.seq (.seq (.reg false c59r13)
   (.blk 2 (.loop (.seq (.reg false c59r14)
     (.seq (.cond (.t 93)
      .skip
      (.exit 2))
     (.seq (.blk 3 (.seq (.reg false c59r15)
      (.seq (.seq (.reg false c59r16)
      (.cond (.t 111)
       (.seq (.reg false c59r17)
       .ret)
       .skip))
      (.reg false c59r18))))
     (.reg false c59r19)))))))
   (.seq (.reg false c59r20)
   .ret)))
   (.seq (.seq (.reg false c59r21)
   (.cond (.t 116)
    .skip
    (.reg false c59r22)))
   (.cond (.t 116)
    (.seq (.reg false c59r23)
    .ret)
    .skip))))))
 (.seq (.reg false c59r24)
 .ret))))))
def v59 : List Nat × List Nat := ([1, 6], [1, 6, 7, 9, 11, 17, 19, 21, 27, 29, 40, 47, 54, 58, 63, 67, 69, 74, 78, 83, 87, 89, 100, 106, 108, 112, 122, 128])
def o59 : List RS := [.t 2]
theorem s59 : slimC Try.prog Try.f59.ntmps v59.1 v59.2 ((Try.f59.body).getD .skip) = some c59 := by kernel_rfl
theorem q59 : slimR Try.prog Try.f59.ntmps v59.1 v59.2 Try.f59.results.toList = some o59 := by kernel_rfl
-- watermeet/batch.write N=91
def c60r0 : List SI := [
 ⟨none, .bxR 1 (.t 0), none, 0⟩,
 ⟨none, .mv 2 (.v (.slice none 0 0)), none, 0⟩]
def c60r1 : List SI := [
 ⟨none, .mv 3 (.v (.slice none 0 0)), none, 0⟩]
def c60r2 : List SI := [
 ⟨none, .nop, (some 1), 0⟩,
 ⟨none, .ldR 13 1 0 none, none, 0⟩,
 ⟨none, .nop, (some 1), 0⟩,
 ⟨none, .ldR 15 1 1 none, none, 0⟩,
 ⟨none, .nop, (some 1), 0⟩,
 ⟨none, .ldR 17 1 0 none, none, 0⟩,
 ⟨none, .bin 18 .sub (.t 15) (.t 17), none, 0⟩,
 ⟨none, .nop, (some 1), 0⟩,
 ⟨none, .ldR 20 1 2 none, none, 0⟩,
 ⟨none, .nop, (some 1), 0⟩,
 ⟨none, .ldR 22 1 3 none, none, 0⟩,
 ⟨none, .nop, (some 1), 0⟩,
 ⟨none, .ldR 24 1 4 none, none, 0⟩,
 ⟨none, .nop, (some 1), 0⟩,
 ⟨none, .ldR 26 1 5 none, none, 0⟩,
 ⟨none, .nop, (some 1), 0⟩,
 ⟨none, .ldR 28 1 6 none, none, 0⟩,
 ⟨none, .bld 29 [(.int .i64 0), (.int .i64 0), (.int .i64 0), (.int .i64 0), (.int .i64 0), (.int .i64 0), (.int .i64 0)] [(0, 1, (.t 13)), (1, 1, (.t 18)), (2, 1, (.t 20)), (3, 1, (.t 22)), (4, 1, (.t 24)), (5, 1, (.t 26)), (6, 1, (.t 28))], none, 0⟩,
 ⟨none, .mv 30 (.i 0), none, 0⟩]
def c60r3 : List SI := [
 ⟨none, .bin 31 .lss (.t 30) (.i 7), none, 0⟩]
def c60r4 : List SI := [
 ⟨none, .ixV 32 (.t 29) (.t 30) 7 1 none, none, 0⟩,
 ⟨none, .mv 5 (.t 32), none, 0⟩]
def c60r5 : List SI := [
 ⟨none, .mv 33 (.t 3), none, 0⟩,
 ⟨none, .mv 34 (.t 5), none, 0⟩,
 ⟨none, .call 35 74 [(.t 33), (.t 34)], none, 0⟩,
 ⟨none, .mv 3 (.t 35), none, 0⟩]
def c60r6 : List SI := [
 ⟨none, .bin 36 .add (.t 30) (.i 1), none, 0⟩,
 ⟨none, .mv 30 (.t 36), none, 0⟩]
def c60r7 : List SI := [
 ⟨none, .nop, (some 1), 0⟩,
 ⟨none, .ldR 38 1 8 none, none, 0⟩,
 ⟨none, .cvI 39 .u8 (.t 38), none, 0⟩,
 ⟨none, .mv 6 (.t 39), none, 0⟩]
def c60r8 : List SI := [
 ⟨none, .nop, (some 1), 0⟩,
 ⟨none, .ldR 41 1 7 none, none, 0⟩]
def c60r9 : List SI := [
 ⟨none, .mv 42 (.t 6), none, 0⟩,
 ⟨none, .bin 43 .or (.t 42) (.v (.int .u8 4)), none, 0⟩,
 ⟨none, .mv 6 (.t 43), none, 0⟩]
def c60r10 : List (Bool × SI) := [
 (true, ⟨none, .mv 44 (.t 3), none, 0⟩),
 (true, ⟨none, .mv 45 (.t 6), none, 0⟩),
 (true, ⟨none, .nop, (some 1), 0⟩),
 (true, ⟨none, .ldR 49 1 9 none, none, 0⟩),
 (true, ⟨none, .len 50 false (.t 49), none, 0⟩),
 (false, ⟨none, .bls 46 5 1 1 [(.int .u8 0)] [(0, 1, (.t 45))], none, 0⟩),
 (false, ⟨none, .app 47 (.t 44) (.t 46) 5 1 1, none, 0⟩),
 (false, ⟨none, .call 51 74 [(.t 47), (.t 50)], none, 0⟩),
 (true, ⟨none, .mv 3 (.t 51), none, 0⟩)]
def c60r11 : List SI := [
 ⟨none, .nop, (some 1), 0⟩,
 ⟨none, .ldR 53 1 9 none, none, 0⟩,
 ⟨none, .len 54 false (.t 53), none, 0⟩,
 ⟨none, .bin 55 .gtr (.t 54) (.i 0), none, 0⟩]
def c60r12 : List SI := [
 ⟨none, .nop, (some 1), 0⟩,
 ⟨none, .ldR 57 1 9 none, none, 0⟩,
 ⟨none, .ixA 58 (.t 57) (.i 0) 5, none, 0⟩,
 ⟨none, .flA 59 (.t 58) 4, none, 0⟩,
 ⟨none, .ld 60 (.t 59) none, none, 0⟩,
 ⟨none, .mv 7 (.t 60), none, 0⟩]
def c60r13 : List SI := [
 ⟨none, .mv 61 (.t 3), none, 0⟩,
 ⟨none, .mv 62 (.t 7), none, 0⟩,
 ⟨none, .call 63 74 [(.t 61), (.t 62)], none, 0⟩,
 ⟨none, .mv 3 (.t 63), none, 0⟩]
def c60r14 : List SI := [
 ⟨none, .nop, (some 1), 0⟩,
 ⟨none, .ldR 65 1 9 none, none, 0⟩,
 ⟨none, .len 66 false (.t 65), none, 0⟩,
 ⟨none, .mv 67 (.i 0), none, 0⟩]
def c60r15 : List SI := [
 ⟨none, .bin 68 .lss (.t 67) (.t 66), none, 0⟩]
def c60r16 : List SI := [
 ⟨none, .ixA 69 (.t 65) (.t 67) 5, none, 0⟩,
 ⟨none, .ld 70 (.t 69) (some 5), none, 0⟩,
 ⟨none, .alR 9 [(.int .i64 0), (.string ⟨#[]⟩), (.string ⟨#[]⟩), (.bool false), (.int .i64 0)], none, 0⟩,
 ⟨none, .stR 9 0 5 (.t 70), none, 0⟩]
def c60r17 : List SI := [
 ⟨none, .ldR 72 9 0 (some 5), none, 0⟩,
 ⟨none, .nop, (some 1), 0⟩,
 ⟨none, .ldR 74 1 0 none, none, 0⟩,
 ⟨none, .mv 75 (.t 7), none, 0⟩,
 ⟨none, .call 76 75 [(.t 72), (.t 74), (.t 75)], none, 0⟩,
 ⟨none, .mv 71 (.t 76), none, 0⟩,
 ⟨none, .ext 77 (.t 71) 0, none, 0⟩,
 ⟨none, .ext 78 (.t 71) 1, none, 0⟩,
 ⟨none, .mv 10 (.t 77), none, 0⟩,
 ⟨none, .mv 11 (.t 78), none, 0⟩]
def c60r18 : List SI := [
 ⟨none, .mv 79 (.t 3), none, 0⟩,
 ⟨none, .mv 80 (.t 10), none, 0⟩,
 ⟨none, .app 81 (.t 79) (.t 80) 5 1 1, none, 0⟩,
 ⟨none, .mv 3 (.t 81), none, 0⟩]
def c60r19 : List SI := [
 ⟨none, .bin 82 .add (.t 67) (.i 1), none, 0⟩,
 ⟨none, .mv 67 (.t 82), none, 0⟩]
def c60r20 : List SI := [
 ⟨none, .mv 83 (.t 3), none, 0⟩,
 ⟨none, .call 84 76 [(.t 83)], none, 0⟩,
 ⟨none, .mv 3 (.t 84), none, 0⟩]
def c60r21 : List SI := [
 ⟨none, .mv 85 (.t 3), none, 0⟩,
 ⟨none, .len 86 false (.t 85), none, 0⟩,
 ⟨none, .cvI 87 .u64 (.t 86), none, 0⟩,
 ⟨none, .call 88 77 [(.v (.slice none 0 0)), (.t 87), (.i 4)], none, 0⟩,
 ⟨none, .mv 89 (.t 3), none, 0⟩,
 ⟨none, .app 90 (.t 88) (.t 89) 5 1 1, none, 0⟩,
 ⟨none, .mv 2 (.t 90), none, 0⟩]
def c60 : SC :=
 (.seq (.reg false c60r0)
 (.seq (.reg false c60r1)
 (.seq (.seq (.reg false c60r2)
 (.blk 0 (.loop (.seq (.reg false c60r3)
   (.seq (.cond (.t 31)
    .skip
    (.exit 0))
   (.seq (.blk 1 (.seq (.reg false c60r4)
    (.reg false c60r5)))
   (.reg false c60r6)))))))
 (.seq (.reg false c60r7)
 (.seq (.seq (.reg false c60r8)
 (.cond (.t 41)
  (.reg false c60r9)
  .skip))
 (.seq (.rgX c60r10)
 (.seq (.seq (.reg false c60r11)
 (.cond (.t 55)
  (.seq (.reg false c60r12)
  (.seq (.reg false c60r13)
  (.seq (.reg false c60r14)
  (.blk 2 (.loop (.seq (.reg false c60r15)
    (.seq (.cond (.t 68)
     .skip
     (.exit 2))
    (.seq (.blk 3 (.seq (.reg false c60r16)
     (.seq (.reg false c60r17)
     (.reg false c60r18))))
    (.reg false c60r19)))))))))
  .skip))
 (.seq (.reg false c60r20)
 (.seq (.reg false c60r21)
 .ret)))))))))
def v60 : List Nat × List Nat := ([1, 9], [1, 9, 12, 14, 16, 19, 21, 23, 25, 27, 37, 40, 48, 52, 56, 64, 73])
def o60 : List RS := [.t 2]
theorem s60 : slimC Try.prog Try.f60.ntmps v60.1 v60.2 ((Try.f60.body).getD .skip) = some c60 := by kernel_rfl
theorem q60 : slimR Try.prog Try.f60.ntmps v60.1 v60.2 Try.f60.results.toList = some o60 := by kernel_rfl
-- slices.Grow[[]byte,byte] N=27
def c61r0 : List SI := [
 ⟨none, .mv 4 (.v (.slice none 0 0)), none, 0⟩]
def c61r1 : List SI := [
 ⟨none, .mv 5 (.t 1), none, 0⟩,
 ⟨none, .bin 6 .lss (.t 5) (.i 0), none, 0⟩]
def c61r2 : List SI := [
 ⟨none, .mv 8 (.t 1), none, 0⟩,
 ⟨none, .mv 9 (.t 0), none, 0⟩,
 ⟨none, .cpc 10 (.t 9), none, 0⟩,
 ⟨none, .mv 11 (.t 0), none, 0⟩,
 ⟨none, .len 12 false (.t 11), none, 0⟩,
 ⟨none, .bin 13 .sub (.t 10) (.t 12), none, 0⟩,
 ⟨none, .bin 14 .sub (.t 8) (.t 13), none, 0⟩,
 ⟨none, .mv 1 (.t 14), none, 0⟩]
def c61r3 : List SI := [
 ⟨none, .mv 15 (.t 1), none, 0⟩,
 ⟨none, .bin 16 .gtr (.t 15) (.i 0), none, 0⟩]
def c61r4 : List SI := [
 ⟨none, .mv 17 (.t 0), none, 0⟩,
 ⟨none, .mv 18 (.t 0), none, 0⟩,
 ⟨none, .cpc 19 (.t 18), none, 0⟩,
 ⟨none, .sl 20 (.t 17) none (some (.t 19)) none 1, none, 0⟩,
 ⟨none, .mv 21 (.t 1), none, 0⟩,
 ⟨none, .apz 22 5 1 1 (.t 20) (.t 21), none, 0⟩,
 ⟨none, .mv 23 (.t 0), none, 0⟩,
 ⟨none, .len 24 false (.t 23), none, 0⟩,
 ⟨none, .sl 25 (.t 22) none (some (.t 24)) none 1, none, 0⟩,
 ⟨none, .mv 0 (.t 25), none, 0⟩]
def c61r5 : List SI := [
 ⟨none, .mv 26 (.t 0), none, 0⟩,
 ⟨none, .mv 4 (.t 26), none, 0⟩]
def c61 : SC :=
 (.seq (.reg false c61r0)
 (.seq (.seq (.reg false c61r1)
 (.cond (.t 6)
  .dead
  .skip))
 (.seq (.seq (.reg false c61r2)
 (.seq (.reg false c61r3)
 (.cond (.t 16)
  (.reg false c61r4)
  .skip)))
 (.seq (.reg false c61r5)
 .ret))))
def v61 : List Nat × List Nat := ([], [])
def o61 : List RS := [.t 4]
theorem s61 : slimC Try.prog Try.f61.ntmps v61.1 v61.2 ((Try.f61.body).getD .skip) = some c61 := by kernel_rfl
theorem q61 : slimR Try.prog Try.f61.ntmps v61.1 v61.2 Try.f61.results.toList = some o61 := by kernel_rfl
-- watermeet/watermeetref04.Check N=10
def c64r0 : List SI := [
 ⟨none, .ld 4 (.t 1) none, none, 0⟩,
 ⟨none, .len 5 false (.t 4), none, 0⟩,
 ⟨none, .bin 6 .sub (.t 5) (.i 1), none, 0⟩,
 ⟨none, .mv 3 (.t 6), none, 0⟩]
def c64r1 : List SI := [
 ⟨none, .mv 7 (.t 3), none, 0⟩,
 ⟨none, .bin 8 .geq (.t 7) (.i 0), none, 0⟩]
def c64r2 : List SI := [
 ⟨none, .mv 11 (.t 0), none, 0⟩,
 ⟨none, .mv 12 (.t 3), none, 0⟩,
 ⟨none, .ld 13 (.t 1) none, none, 0⟩,
 ⟨none, .mv 14 (.t 3), none, 0⟩,
 ⟨none, .ixA 15 (.t 13) (.t 14) 3, none, 0⟩,
 ⟨none, .ld 16 (.t 15) (some 3), none, 0⟩,
 ⟨none, .cav 17 (.t 11) [(.t 12), (.t 16)], none, 0⟩,
 ⟨none, .un 18 .not (.t 17), none, 0⟩]
def c64r3 : List SI := [
 ⟨none, .mv 9 (.t 3), none, 0⟩,
 ⟨none, .bin 10 .sub (.t 9) (.i 1), none, 0⟩,
 ⟨none, .mv 3 (.t 10), none, 0⟩]
def c64 : SC :=
 (.seq (.reg false c64r0)
 (.blk 0 (.loop (.seq (.seq (.reg false c64r1)
   (.cond (.t 8)
    .skip
    (.exit 0)))
   (.seq (.blk 1 (.seq (.reg false c64r2)
    (.cond (.t 18)
     .ret
     .skip)))
   (.reg false c64r3))))))
def v64 : List Nat × List Nat := ([], [])
def o64 : List RS := []
theorem s64 : slimC Try.prog Try.f64.ntmps v64.1 v64.2 ((Try.f64.body).getD .skip) = some c64 := by kernel_rfl
theorem q64 : slimR Try.prog Try.f64.ntmps v64.1 v64.2 Try.f64.results.toList = some o64 := by kernel_rfl
-- watermeet/octet.Get N=44
def c65r0 : List SI := [
 ⟨none, .mv 6 (.v (.int .u64 0)), none, 0⟩,
 ⟨none, .mv 7 (.i 0), none, 0⟩]
def c65r1 : List SI := [
 ⟨none, .mv 12 (.t 2), none, 0⟩,
 ⟨none, .bin 13 .lss (.t 12) (.i 1), none, 0⟩,
 ⟨none, .mv 14 (.t 13), none, 0⟩,
 ⟨some (14, false), .mv 15 (.t 2), none, 15⟩,
 ⟨some (14, false), .bin 16 .gtr (.t 15) (.i 8), none, 16⟩,
 ⟨none, .pick 17 (.t 14) (.b true) (.t 16), none, 0⟩,
 ⟨none, .mv 18 (.t 17), none, 0⟩,
 ⟨some (18, false), .mv 19 (.t 1), none, 19⟩,
 ⟨some (18, false), .bin 20 .lss (.t 19) (.i 0), none, 20⟩,
 ⟨none, .pick 21 (.t 18) (.b true) (.t 20), none, 0⟩]
def c65r2 : List SI := [
 ⟨none, .mv 6 (.v (.int .u64 0)), none, 0⟩,
 ⟨none, .mv 7 (.i 1), none, 0⟩]
def c65r3 : List SI := [
 ⟨none, .mv 22 (.t 0), none, 0⟩,
 ⟨none, .mv 23 (.t 1), none, 0⟩,
 ⟨none, .call 24 83 [(.t 22), (.t 23)], none, 0⟩,
 ⟨none, .mv 8 (.t 24), none, 0⟩]
def c65r4 : List SI := [
 ⟨none, .mv 25 (.t 8), none, 0⟩,
 ⟨none, .len 26 false (.t 25), none, 0⟩,
 ⟨none, .mv 27 (.t 2), none, 0⟩,
 ⟨none, .bin 28 .lss (.t 26) (.t 27), none, 0⟩]
def c65r5 : List SI := [
 ⟨none, .mv 6 (.v (.int .u64 0)), none, 0⟩,
 ⟨none, .mv 7 (.i 10), none, 0⟩]
def c65r6 : List SI := [
 ⟨none, .mv 9 (.v (.int .u64 0)), none, 0⟩]
def c65r7 : List SI := [
 ⟨none, .mv 29 (.t 8), none, 0⟩,
 ⟨none, .mv 30 (.t 2), none, 0⟩,
 ⟨none, .sl 31 (.t 29) none (some (.t 30)) none 1, none, 0⟩,
 ⟨none, .len 32 false (.t 31), none, 0⟩,
 ⟨none, .mv 33 (.i 0), none, 0⟩]
def c65r8 : List SI := [
 ⟨none, .bin 34 .lss (.t 33) (.t 32), none, 0⟩]
def c65r9 : List SI := [
 ⟨none, .ixA 35 (.t 31) (.t 33) 1, none, 0⟩,
 ⟨none, .ld 36 (.t 35) none, none, 0⟩,
 ⟨none, .mv 11 (.t 36), none, 0⟩]
def c65r10 : List SI := [
 ⟨none, .mv 37 (.t 9), none, 0⟩,
 ⟨none, .bin 38 .shl (.t 37) (.v (.int .u64 8)), none, 0⟩,
 ⟨none, .mv 39 (.t 11), none, 0⟩,
 ⟨none, .cvI 40 .u64 (.t 39), none, 0⟩,
 ⟨none, .bin 41 .or (.t 38) (.t 40), none, 0⟩,
 ⟨none, .mv 9 (.t 41), none, 0⟩]
def c65r11 : List SI := [
 ⟨none, .bin 42 .add (.t 33) (.i 1), none, 0⟩,
 ⟨none, .mv 33 (.t 42), none, 0⟩]
def c65r12 : List SI := [
 ⟨none, .mv 43 (.t 9), none, 0⟩,
 ⟨none, .mv 6 (.t 43), none, 0⟩,
 ⟨none, .mv 7 (.i 0), none, 0⟩]
def c65 : SC :=
 (.seq (.reg false c65r0)
 (.seq (.seq (.reg false c65r1)
 (.cond (.t 21)
  (.seq (.reg false c65r2)
  .ret)
  .skip))
 (.seq (.reg false c65r3)
 (.seq (.seq (.reg false c65r4)
 (.cond (.t 28)
  (.seq (.reg false c65r5)
  .ret)
  .skip))
 (.seq (.reg false c65r6)
 (.seq (.seq (.reg false c65r7)
 (.blk 0 (.loop (.seq (.reg false c65r8)
   (.seq (.cond (.t 34)
    .skip
    (.exit 0))
   (.seq (.blk 1 (.seq (.reg false c65r9)
    (.reg false c65r10)))
   (.reg false c65r11)))))))
 (.seq (.reg false c65r12)
 .ret)))))))
def v65 : List Nat × List Nat := ([], [])
def o65 : List RS := [.t 6, .t 7]
theorem s65 : slimC Try.prog Try.f65.ntmps v65.1 v65.2 ((Try.f65.body).getD .skip) = some c65 := by kernel_rfl
theorem q65 : slimR Try.prog Try.f65.ntmps v65.1 v65.2 Try.f65.results.toList = some o65 := by kernel_rfl
-- watermeet/crc.Open N=33
def c66r0 : List SI := [
 ⟨none, .mv 2 (.v (.slice none 0 0)), none, 0⟩,
 ⟨none, .mv 3 (.i 0), none, 0⟩]
def c66r1 : List SI := [
 ⟨none, .mv 7 (.t 0), none, 0⟩,
 ⟨none, .len 8 false (.t 7), none, 0⟩,
 ⟨none, .bin 9 .sub (.t 8) (.i 4), none, 0⟩,
 ⟨none, .mv 4 (.t 9), none, 0⟩]
def c66r2 : List SI := [
 ⟨none, .mv 10 (.t 4), none, 0⟩,
 ⟨none, .bin 11 .lss (.t 10) (.i 0), none, 0⟩]
def c66r3 : List SI := [
 ⟨none, .mv 2 (.v (.slice none 0 0)), none, 0⟩,
 ⟨none, .mv 3 (.i 10), none, 0⟩]
def c66r4 : List SI := [
 ⟨none, .mv 13 (.t 0), none, 0⟩,
 ⟨none, .mv 14 (.t 4), none, 0⟩,
 ⟨none, .call 15 65 [(.t 13), (.t 14), (.i 4)], none, 0⟩,
 ⟨none, .mv 12 (.t 15), none, 0⟩,
 ⟨none, .ext 16 (.t 12) 0, none, 0⟩,
 ⟨none, .ext 17 (.t 12) 1, none, 0⟩,
 ⟨none, .mv 5 (.t 16), none, 0⟩,
 ⟨none, .mv 6 (.t 17), none, 0⟩]
def c66r5 : List SI := [
 ⟨none, .mv 18 (.t 6), none, 0⟩,
 ⟨none, .bin 19 .neq (.t 18) (.i 0), none, 0⟩,
 ⟨none, .mv 20 (.t 19), none, 0⟩,
 ⟨some (20, false), .mv 21 (.t 5), none, 21⟩,
 ⟨some (20, false), .mv 22 (.t 0), none, 22⟩,
 ⟨some (20, false), .mv 23 (.t 4), none, 23⟩,
 ⟨some (20, false), .sl 24 (.t 22) none (some (.t 23)) none 1, none, 24⟩,
 ⟨some (20, false), .call 25 84 [(.t 24)], none, 25⟩,
 ⟨some (20, false), .cvI 26 .u64 (.t 25), none, 26⟩,
 ⟨some (20, false), .bin 27 .neq (.t 21) (.t 26), none, 27⟩,
 ⟨none, .pick 28 (.t 20) (.b true) (.t 27), none, 0⟩]
def c66r6 : List SI := [
 ⟨none, .mv 2 (.v (.slice none 0 0)), none, 0⟩,
 ⟨none, .mv 3 (.i 20), none, 0⟩]
def c66r7 : List SI := [
 ⟨none, .mv 29 (.t 0), none, 0⟩,
 ⟨none, .mv 30 (.t 4), none, 0⟩,
 ⟨none, .sl 31 (.t 29) none (some (.t 30)) none 1, none, 0⟩,
 ⟨none, .app 32 (.v (.slice none 0 0)) (.t 31) 5 1 1, none, 0⟩,
 ⟨none, .mv 2 (.t 32), none, 0⟩,
 ⟨none, .mv 3 (.i 0), none, 0⟩]
def c66 : SC :=
 (.seq (.reg false c66r0)
 (.seq (.reg false c66r1)
 (.seq (.seq (.reg false c66r2)
 (.cond (.t 11)
  (.seq (.reg false c66r3)
  .ret)
  .skip))
 (.seq (.seq (.reg false c66r4)
 (.seq (.reg false c66r5)
 (.cond (.t 28)
  (.seq (.reg false c66r6)
  .ret)
  .skip)))
 (.seq (.reg false c66r7)
 .ret)))))
def v66 : List Nat × List Nat := ([], [])
def o66 : List RS := [.t 2, .t 3]
theorem s66 : slimC Try.prog Try.f66.ntmps v66.1 v66.2 ((Try.f66.body).getD .skip) = some c66 := by kernel_rfl
theorem q66 : slimR Try.prog Try.f66.ntmps v66.1 v66.2 Try.f66.results.toList = some o66 := by kernel_rfl
-- watermeet/batch.parse N=155
def c67r0 : List SI := [
 ⟨none, .bx 1 (.t 0), none, 0⟩,
 ⟨none, .alR 2 [(.int .i64 0), (.int .i64 0), (.int .i64 0), (.int .i64 0), (.int .i64 0), (.int .i64 0), (.int .i64 0), (.bool false), (.int .i64 0), (.slice none 0 0)], none, 0⟩,
 ⟨none, .al 3 [(.bool false)], none, 0⟩]
def c67r1 : List SI := [
 ⟨none, .al 4 [(.int .i64 0)], none, 0⟩,
 ⟨none, .st (.t 4) 1 (.i 0), none, 0⟩]
def c67r2 : List SI := [
 ⟨none, .st (.t 3) 1 (.b true), none, 0⟩]
def c67r3 : List SI := [
 ⟨none, .mkf 15 (.func 85) [(.t 1), (.t 4), (.t 3)], none, 0⟩,
 ⟨none, .mv 5 (.t 15), none, 0⟩]
def c67r4 : List SI := [
 ⟨none, .al 6 [(.int .i64 0), (.int .i64 0), (.int .i64 0), (.int .i64 0), (.int .i64 0), (.int .i64 0), (.int .i64 0)], none, 0⟩]
def c67r5 : List SI := [
 ⟨none, .mv 16 (.i 0), none, 0⟩]
def c67r6 : List SI := [
 ⟨none, .bin 17 .lss (.t 16) (.i 7), none, 0⟩]
def c67r7 : List SI := [
 ⟨none, .mv 18 (.t 16), none, 0⟩,
 ⟨none, .mv 7 (.t 18), none, 0⟩]
def c67r8 : List SI := [
 ⟨none, .mv 19 (.t 7), none, 0⟩,
 ⟨none, .mv 20 (.t 5), none, 0⟩,
 ⟨none, .cav 21 (.t 20) [], none, 0⟩,
 ⟨none, .ixP 22 (.t 6) (.t 19) 7 1, none, 0⟩,
 ⟨none, .st (.t 22) 1 (.t 21), none, 0⟩]
def c67r9 : List SI := [
 ⟨none, .bin 23 .add (.t 16) (.i 1), none, 0⟩,
 ⟨none, .mv 16 (.t 23), none, 0⟩]
def c67r10 : List SI := [
 ⟨none, .ld 24 (.t 3) none, none, 0⟩,
 ⟨none, .un 25 .not (.t 24), none, 0⟩,
 ⟨none, .mv 26 (.t 25), none, 0⟩,
 ⟨some (26, false), .ld 27 (.t 4) none, none, 27⟩,
 ⟨some (26, false), .ld 28 (.t 1) none, none, 28⟩,
 ⟨some (26, false), .len 29 false (.t 28), none, 29⟩,
 ⟨some (26, false), .bin 30 .geq (.t 27) (.t 29), none, 30⟩,
 ⟨none, .pick 31 (.t 26) (.b true) (.t 30), none, 0⟩,
 ⟨none, .mv 32 (.t 31), none, 0⟩,
 ⟨some (32, false), .ld 33 (.t 1) none, none, 33⟩,
 ⟨some (32, false), .ld 34 (.t 4) none, none, 34⟩,
 ⟨some (32, false), .ixA 35 (.t 33) (.t 34) 1, none, 35⟩,
 ⟨some (32, false), .ld 36 (.t 35) none, none, 36⟩,
 ⟨some (32, false), .bin 37 .geq (.t 36) (.v (.int .u8 8)), none, 37⟩,
 ⟨none, .pick 38 (.t 32) (.b true) (.t 37), none, 0⟩,
 ⟨none, .mv 39 (.t 38), none, 0⟩,
 ⟨some (39, false), .ixP 40 (.t 6) (.i 0) 7 1, none, 40⟩,
 ⟨some (39, false), .ld 41 (.t 40) none, none, 41⟩,
 ⟨some (39, false), .bin 42 .lss (.t 41) (.i 0), none, 42⟩,
 ⟨none, .pick 43 (.t 39) (.b true) (.t 42), none, 0⟩,
 ⟨none, .mv 44 (.t 43), none, 0⟩,
 ⟨some (44, false), .ixP 45 (.t 6) (.i 0) 7 1, none, 45⟩,
 ⟨some (44, false), .ld 46 (.t 45) none, none, 46⟩,
 ⟨some (44, false), .bin 47 .gtr (.t 46) (.i 1099511627776), none, 47⟩,
 ⟨none, .pick 48 (.t 44) (.b true) (.t 47), none, 0⟩,
 ⟨none, .mv 49 (.t 48), none, 0⟩,
 ⟨some (49, false), .ixP 50 (.t 6) (.i 1) 7 1, none, 50⟩,
 ⟨some (49, false), .ld 51 (.t 50) none, none, 51⟩,
 ⟨some (49, false), .bin 52 .lss (.t 51) (.i 0), none, 52⟩,
 ⟨none, .pick 53 (.t 49) (.b true) (.t 52), none, 0⟩,
 ⟨none, .mv 54 (.t 53), none, 0⟩,
 ⟨some (54, false), .ixP 55 (.t 6) (.i 1) 7 1, none, 55⟩,
 ⟨some (54, false), .ld 56 (.t 55) none, none, 56⟩,
 ⟨some (54, false), .bin 57 .geq (.t 56) (.i 16), none, 57⟩,
 ⟨none, .pick 58 (.t 54) (.b true) (.t 57), none, 0⟩]
def c67r11 : List SI := [
 ⟨none, .bld 59 [(.int .i64 0), (.int .i64 0), (.int .i64 0), (.int .i64 0), (.int .i64 0), (.int .i64 0), (.int .i64 0), (.bool false), (.int .i64 0), (.slice none 0 0)] [], none, 0⟩,
 ⟨none, .stR 2 0 10 (.t 59), none, 0⟩,
 ⟨none, .st (.t 3) 1 (.b false), none, 0⟩]
def c67r12 : List SI := [
 ⟨none, .ld 60 (.t 1) none, none, 0⟩,
 ⟨none, .ld 61 (.t 4) none, none, 0⟩,
 ⟨none, .ixA 62 (.t 60) (.t 61) 1, none, 0⟩,
 ⟨none, .ld 63 (.t 62) none, none, 0⟩,
 ⟨none, .mv 8 (.t 63), none, 0⟩]
def c67r13 : List SI := [
 ⟨none, .ld 64 (.t 4) none, none, 0⟩,
 ⟨none, .bin 65 .add (.t 64) (.i 1), none, 0⟩,
 ⟨none, .st (.t 4) 1 (.t 65), none, 0⟩]
def c67r14 : List SI := [
 ⟨none, .ixP 66 (.t 6) (.i 0) 7 1, none, 0⟩,
 ⟨none, .ld 67 (.t 66) none, none, 0⟩,
 ⟨none, .ixP 68 (.t 6) (.i 0) 7 1, none, 0⟩,
 ⟨none, .ld 69 (.t 68) none, none, 0⟩,
 ⟨none, .ixP 70 (.t 6) (.i 1) 7 1, none, 0⟩,
 ⟨none, .ld 71 (.t 70) none, none, 0⟩,
 ⟨none, .bin 72 .add (.t 69) (.t 71), none, 0⟩,
 ⟨none, .ixP 73 (.t 6) (.i 2) 7 1, none, 0⟩,
 ⟨none, .ld 74 (.t 73) none, none, 0⟩,
 ⟨none, .ixP 75 (.t 6) (.i 3) 7 1, none, 0⟩,
 ⟨none, .ld 76 (.t 75) none, none, 0⟩,
 ⟨none, .ixP 77 (.t 6) (.i 4) 7 1, none, 0⟩,
 ⟨none, .ld 78 (.t 77) none, none, 0⟩,
 ⟨none, .ixP 79 (.t 6) (.i 5) 7 1, none, 0⟩,
 ⟨none, .ld 80 (.t 79) none, none, 0⟩,
 ⟨none, .ixP 81 (.t 6) (.i 6) 7 1, none, 0⟩,
 ⟨none, .ld 82 (.t 81) none, none, 0⟩,
 ⟨none, .mv 83 (.t 8), none, 0⟩,
 ⟨none, .bin 84 .and (.t 83) (.v (.int .u8 4)), none, 0⟩,
 ⟨none, .bin 85 .neq (.t 84) (.v (.int .u8 0)), none, 0⟩,
 ⟨none, .mv 86 (.t 8), none, 0⟩,
 ⟨none, .bin 87 .andNot (.t 86) (.v (.int .u8 4)), none, 0⟩,
 ⟨none, .cvI 88 .i64 (.t 87), none, 0⟩,
 ⟨none, .bld 89 [(.int .i64 0), (.int .i64 0), (.int .i64 0), (.int .i64 0), (.int .i64 0), (.int .i64 0), (.int .i64 0), (.bool false), (.int .i64 0), (.slice none 0 0)] [(0, 1, (.t 67)), (1, 1, (.t 72)), (2, 1, (.t 74)), (3, 1, (.t 76)), (4, 1, (.t 78)), (5, 1, (.t 80)), (6, 1, (.t 82)), (7, 1, (.t 85)), (8, 1, (.t 88))], none, 0⟩,
 ⟨none, .stR 2 0 10 (.t 89), none, 0⟩]
def c67r15 : List SI := [
 ⟨none, .mv 90 (.t 5), none, 0⟩,
 ⟨none, .cav 91 (.t 90) [], none, 0⟩,
 ⟨none, .mv 9 (.t 91), none, 0⟩]
def c67r16 : List SI := [
 ⟨none, .ld 92 (.t 3) none, none, 0⟩,
 ⟨none, .un 93 .not (.t 92), none, 0⟩,
 ⟨none, .mv 94 (.t 93), none, 0⟩,
 ⟨some (94, false), .mv 95 (.t 9), none, 95⟩,
 ⟨some (94, false), .bin 96 .lss (.t 95) (.i 0), none, 96⟩,
 ⟨none, .pick 97 (.t 94) (.b true) (.t 96), none, 0⟩,
 ⟨none, .mv 98 (.t 97), none, 0⟩,
 ⟨some (98, false), .mv 99 (.t 9), none, 99⟩,
 ⟨some (98, false), .bin 100 .gtr (.t 99) (.i 16), none, 100⟩,
 ⟨none, .pick 101 (.t 98) (.b true) (.t 100), none, 0⟩]
def c67r17 : List SI := [
 ⟨none, .bld 102 [(.int .i64 0), (.int .i64 0), (.int .i64 0), (.int .i64 0), (.int .i64 0), (.int .i64 0), (.int .i64 0), (.bool false), (.int .i64 0), (.slice none 0 0)] [], none, 0⟩,
 ⟨none, .stR 2 0 10 (.t 102), none, 0⟩,
 ⟨none, .st (.t 3) 1 (.b false), none, 0⟩]
def c67r18 : List SI := [
 ⟨none, .mv 10 (.i 0), none, 0⟩]
def c67r19 : List SI := [
 ⟨none, .mv 103 (.t 9), none, 0⟩,
 ⟨none, .bin 104 .gtr (.t 103) (.i 0), none, 0⟩]
def c67r20 : List SI := [
 ⟨none, .mv 105 (.t 5), none, 0⟩,
 ⟨none, .cav 106 (.t 105) [], none, 0⟩,
 ⟨none, .mv 10 (.t 106), none, 0⟩]
def c67r21 : List SI := [
 ⟨none, .mv 11 (.i 0), none, 0⟩]
def c67r22 : List SI := [
 ⟨none, .mv 107 (.t 11), none, 0⟩,
 ⟨none, .mv 108 (.t 9), none, 0⟩,
 ⟨none, .bin 109 .lss (.t 107) (.t 108), none, 0⟩,
 ⟨none, .mv 110 (.t 109), none, 0⟩,
 ⟨some (110, true), .ld 111 (.t 3) none, none, 111⟩,
 ⟨none, .pick 112 (.t 110) (.t 111) (.b false), none, 0⟩]
def c67r23 : List SI := [
 ⟨none, .ld 116 (.t 1) none, none, 0⟩,
 ⟨none, .ld 117 (.t 4) none, none, 0⟩,
 ⟨none, .nop, (some 2), 0⟩,
 ⟨none, .ldR 119 2 0 none, none, 0⟩,
 ⟨none, .mv 120 (.t 10), none, 0⟩,
 ⟨none, .call 121 87 [(.t 116), (.t 117), (.t 119), (.t 120)], none, 0⟩,
 ⟨none, .mv 115 (.t 121), none, 0⟩,
 ⟨none, .ext 122 (.t 115) 0, none, 0⟩,
 ⟨none, .ext 123 (.t 115) 1, none, 0⟩,
 ⟨none, .ext 124 (.t 115) 2, none, 0⟩,
 ⟨none, .alR 12 [(.int .i64 0), (.string ⟨#[]⟩), (.string ⟨#[]⟩), (.bool false), (.int .i64 0)], none, 0⟩,
 ⟨none, .stR 12 0 5 (.t 122), none, 0⟩,
 ⟨none, .mv 13 (.t 123), none, 0⟩,
 ⟨none, .mv 14 (.t 124), none, 0⟩]
def c67r24 : List SI := [
 ⟨none, .ld 125 (.t 3) none, none, 0⟩,
 ⟨none, .mv 126 (.t 125), none, 0⟩,
 ⟨some (126, true), .mv 127 (.t 14), none, 127⟩,
 ⟨some (126, true), .bin 128 .eql (.t 127) (.i 0), none, 128⟩,
 ⟨none, .pick 129 (.t 126) (.t 128) (.b false), none, 0⟩,
 ⟨none, .mv 130 (.t 129), none, 0⟩,
 ⟨some (130, true), .mv 131 (.t 11), none, 131⟩,
 ⟨some (130, true), .bin 132 .gtr (.t 131) (.i 0), none, 132⟩,
 ⟨some (130, true), .mv 133 (.t 132), none, 133⟩,
 ⟨some (133, false), .nop, (some 12), 99999⟩,
 ⟨some (133, false), .ldR 135 12 4 none, none, 135⟩,
 ⟨some (133, false), .mv 136 (.t 10), none, 136⟩,
 ⟨some (133, false), .bin 137 .eql (.t 135) (.t 136), none, 137⟩,
 ⟨some (130, true), .pick 138 (.t 133) (.b true) (.t 137), none, 138⟩,
 ⟨none, .pick 139 (.t 130) (.t 138) (.b false), none, 0⟩,
 ⟨none, .st (.t 3) 1 (.t 139), none, 0⟩]
def c67r25 : List SI := [
 ⟨none, .mv 140 (.t 13), none, 0⟩,
 ⟨none, .st (.t 4) 1 (.t 140), none, 0⟩]
def c67r26 : List SI := [
 ⟨none, .nop, (some 2), 0⟩,
 ⟨none, .ldR 142 2 9 none, none, 0⟩,
 ⟨none, .ldR 143 12 0 (some 5), none, 0⟩,
 ⟨none, .bls 144 49 1 5 [(.int .i64 0), (.string ⟨#[]⟩), (.string ⟨#[]⟩), (.bool false), (.int .i64 0)] [(0, 5, (.t 143))], none, 0⟩,
 ⟨none, .app 145 (.t 142) (.t 144) 49 5 56, none, 0⟩,
 ⟨none, .nop, (some 2), 0⟩,
 ⟨none, .stR 2 9 1 (.t 145), none, 0⟩]
def c67r27 : List SI := [
 ⟨none, .mv 113 (.t 11), none, 0⟩,
 ⟨none, .bin 114 .add (.t 113) (.i 1), none, 0⟩,
 ⟨none, .mv 11 (.t 114), none, 0⟩]
def c67r28 : List WI := [
 (true, false, ⟨none, .ldR 147 2 0 (some 10), none, 0⟩),
 (true, false, ⟨none, .ld 148 (.t 3) none, none, 0⟩),
 (true, false, ⟨none, .mv 149 (.t 148), none, 0⟩),
 (true, false, ⟨some (149, true), .ld 150 (.t 4) none, none, 150⟩),
 (true, false, ⟨some (149, true), .ld 151 (.t 1) none, none, 151⟩),
 (true, false, ⟨some (149, true), .len 152 false (.t 151), none, 152⟩),
 (true, false, ⟨some (149, true), .bin 153 .eql (.t 150) (.t 152), none, 153⟩),
 (true, false, ⟨none, .pick 154 (.t 149) (.t 153) (.b false), none, 0⟩),
 (false, false, ⟨none, .stR 2 0 10 (.t 147), none, 0⟩),
 (false, true, ⟨none, .st (.t 3) 1 (.t 154), none, 0⟩)]
def c67 : SC :=
 (.seq (.reg false c67r0)
 (.seq (.reg false c67r1)
 (.seq (.reg false c67r2)
 (.seq (.reg false c67r3)
 (.seq (.reg false c67r4)
 (.seq (.seq (.reg false c67r5)
 (.blk 0 (.loop (.seq (.reg false c67r6)
   (.seq (.cond (.t 17)
    .skip
    (.exit 0))
   (.seq (.blk 1 (.seq (.reg false c67r7)
    (.reg false c67r8)))
   (.reg false c67r9)))))))
 (.seq (.seq (.reg false c67r10)
 (.cond (.t 58)
  (.seq (.reg false c67r11)
  .ret)
  .skip))
 (.seq (.reg false c67r12)
 (.seq (.reg false c67r13)
 (.seq (.reg false c67r14)
 (.seq (.reg false c67r15)
 (.seq (.seq (.reg false c67r16)
 (.cond (.t 101)
  (.seq (.reg false c67r17)
  .ret)
  .skip))
 (.seq (.reg false c67r18)
 (.seq (.seq (.reg false c67r19)
 (.cond (.t 104)
  (.reg false c67r20)
  .skip))
 (.seq (.seq (.reg false c67r21)
 (.blk 2 (.loop (.seq (.seq (.reg false c67r22)
   (.cond (.t 112)
    .skip
    (.exit 2)))
   (.seq (.blk 3 (.seq (.reg false c67r23)
    (.seq (.reg false c67r24)
    (.seq (.reg false c67r25)
    (.reg false c67r26)))))
   (.reg false c67r27))))))
 (.seq (.rgW c67r28)
 .ret))))))))))))))))
def v67 : List Nat × List Nat := ([2, 12], [2, 12, 118, 134, 141, 146])
def o67 : List RS := [.r 2 (some 10), .c 3 none]
theorem s67 : slimC Try.prog Try.f67.ntmps v67.1 v67.2 ((Try.f67.body).getD .skip) = some c67 := by kernel_rfl
theorem q67 : slimR Try.prog Try.f67.ntmps v67.1 v67.2 Try.f67.results.toList = some o67 := by kernel_rfl
-- watermeet/batch.Check N=11
def c68r0 : List SI := [
 ⟨none, .bxR 1 (.t 0), none, 0⟩,
 ⟨none, .mv 2 (.i 0), none, 0⟩]
def c68r1 : List SI := [
 ⟨none, .ldR 6 1 0 (some 10), none, 0⟩,
 ⟨none, .call 7 44 [(.t 6)], none, 0⟩,
 ⟨none, .mv 5 (.t 7), none, 0⟩,
 ⟨none, .ext 8 (.t 5) 0, none, 0⟩,
 ⟨none, .ext 9 (.t 5) 1, none, 0⟩,
 ⟨none, .mv 3 (.t 8), none, 0⟩,
 ⟨none, .mv 4 (.t 9), none, 0⟩]
def c68r2 : List SI := [
 ⟨none, .mv 10 (.t 4), none, 0⟩,
 ⟨none, .mv 2 (.t 10), none, 0⟩]
def c68 : SC :=
 (.seq (.reg false c68r0)
 (.seq (.reg false c68r1)
 (.seq (.reg false c68r2)
 .ret)))
def v68 : List Nat × List Nat := ([1], [1])
def o68 : List RS := [.t 2]
theorem s68 : slimC Try.prog Try.f68.ntmps v68.1 v68.2 ((Try.f68.body).getD .skip) = some c68 := by kernel_rfl
theorem q68 : slimR Try.prog Try.f68.ntmps v68.1 v68.2 Try.f68.results.toList = some o68 := by kernel_rfl
-- watermeet/watermeetref01.Get N=48
def c72r0 : List SI := [
 ⟨none, .mv 4 (.b false), none, 0⟩]
def c72r1 : List SI := [
 ⟨none, .mv 5 (.t 1), none, 0⟩,
 ⟨none, .call 6 92 [(.t 5)], none, 0⟩,
 ⟨none, .bin 7 .geq (.t 6) (.i 0), none, 0⟩,
 ⟨none, .mv 8 (.t 7), none, 0⟩,
 ⟨some (8, true), .mv 9 (.t 1), none, 9⟩,
 ⟨some (8, true), .call 10 93 [(.t 9)], none, 10⟩,
 ⟨some (8, true), .mv 11 (.t 0), none, 11⟩,
 ⟨some (8, true), .bin 12 .leq (.t 10) (.t 11), none, 12⟩,
 ⟨none, .pick 13 (.t 8) (.t 12) (.b false), none, 0⟩,
 ⟨none, .mv 4 (.t 13), none, 0⟩]
def c72 : SC :=
 (.seq (.reg false c72r0)
 (.seq (.reg false c72r1)
 .ret))
def v72 : List Nat × List Nat := ([], [])
def o72 : List RS := [.t 4]
theorem s72 : slimC Try.prog Try.f72.ntmps v72.1 v72.2 ((Try.f72.body).getD .skip) = some c72 := by kernel_rfl
theorem q72 : slimR Try.prog Try.f72.ntmps v72.1 v72.2 Try.f72.results.toList = some o72 := by kernel_rfl
-- watermeet/rec.Check N=33
def c73r0 : List SI := [
 ⟨none, .bxR 1 (.t 0), none, 0⟩,
 ⟨none, .mv 2 (.i 0), none, 0⟩]
def c73r1 : List SI := [
 ⟨none, .nop, (some 1), 0⟩,
 ⟨none, .ldR 5 1 0 none, none, 0⟩,
 ⟨none, .call 6 94 [(.t 5)], none, 0⟩,
 ⟨none, .un 7 .not (.t 6), none, 0⟩,
 ⟨none, .mv 3 (.t 7), none, 0⟩]
def c73r2 : List SI := [
 ⟨none, .nop, (some 1), 0⟩,
 ⟨none, .ldR 9 1 4 none, none, 0⟩,
 ⟨none, .call 10 94 [(.t 9)], none, 0⟩,
 ⟨none, .un 11 .not (.t 10), none, 0⟩,
 ⟨none, .mv 3 (.t 11), none, 0⟩]
def c73r3 : List SI := [
 ⟨none, .nop, (some 1), 0⟩,
 ⟨none, .ldR 13 1 1 none, none, 0⟩,
 ⟨none, .len 14 true (.t 13), none, 0⟩,
 ⟨none, .nop, (some 1), 0⟩,
 ⟨none, .ldR 16 1 2 none, none, 0⟩,
 ⟨none, .len 17 true (.t 16), none, 0⟩,
 ⟨none, .mm 18 true (.t 14) (.t 17), none, 0⟩,
 ⟨none, .bin 19 .gtr (.t 18) (.i 64), none, 0⟩,
 ⟨none, .mv 3 (.t 19), none, 0⟩]
def c73r4 : List SI := [
 ⟨none, .mv 2 (.i 1), none, 0⟩]
def c73r5 : List SI := [
 ⟨none, .nop, (some 1), 0⟩,
 ⟨none, .ldR 22 1 3 none, none, 0⟩,
 ⟨none, .mv 23 (.t 22), none, 0⟩,
 ⟨some (23, true), .nop, (some 1), 99999⟩,
 ⟨some (23, true), .ldR 25 1 1 none, none, 25⟩,
 ⟨some (23, true), .bin 26 .eql (.t 25) (.v (.string ⟨#[]⟩)), none, 26⟩,
 ⟨some (23, true), .mv 27 (.t 26), none, 27⟩,
 ⟨some (27, false), .nop, (some 1), 99999⟩,
 ⟨some (27, false), .ldR 29 1 2 none, none, 29⟩,
 ⟨some (27, false), .bin 30 .neq (.t 29) (.v (.string ⟨#[]⟩)), none, 30⟩,
 ⟨some (23, true), .pick 31 (.t 27) (.b true) (.t 30), none, 31⟩,
 ⟨none, .pick 32 (.t 23) (.t 31) (.b false), none, 0⟩,
 ⟨none, .mv 20 (.t 32), none, 0⟩]
def c73r6 : List SI := [
 ⟨none, .mv 2 (.i 1), none, 0⟩]
def c73r7 : List SI := [
 ⟨none, .mv 2 (.i 0), none, 0⟩]
def c73 : SC :=
 (.seq (.reg false c73r0)
 (.seq (.blk 0 (.seq (.seq (.reg false c73r1)
  (.cond (.t 3)
   .skip
   (.seq (.reg false c73r2)
   (.cond (.t 3)
    .skip
    (.reg false c73r3)))))
  (.cond (.t 3)
   (.seq (.reg false c73r4)
   .ret)
   (.seq (.reg false c73r5)
   (.cond (.t 20)
    (.seq (.reg false c73r6)
    .ret)
    .skip)))))
 (.seq (.reg false c73r7)
 .ret)))
def v73 : List Nat × List Nat := ([1], [1, 4, 8, 12, 15, 21, 24, 28])
def o73 : List RS := [.t 2]
theorem s73 : slimC Try.prog Try.f73.ntmps v73.1 v73.2 ((Try.f73.body).getD .skip) = some c73 := by kernel_rfl
theorem q73 : slimR Try.prog Try.f73.ntmps v73.1 v73.2 Try.f73.results.toList = some o73 := by kernel_rfl
-- watermeet/octet.PutVar N=31
def c74r0 : List SI := [
 ⟨none, .mv 4 (.v (.slice none 0 0)), none, 0⟩]
def c74r1 : List SI := [
 ⟨none, .mv 7 (.t 1), none, 0⟩,
 ⟨none, .cvI 8 .u64 (.t 7), none, 0⟩,
 ⟨none, .bin 9 .shl (.t 8) (.v (.int .u64 1)), none, 0⟩,
 ⟨none, .mv 10 (.t 1), none, 0⟩,
 ⟨none, .bin 11 .shr (.t 10) (.v (.int .u64 63)), none, 0⟩,
 ⟨none, .cvI 12 .u64 (.t 11), none, 0⟩,
 ⟨none, .bin 13 .xor (.t 9) (.t 12), none, 0⟩,
 ⟨none, .mv 5 (.t 13), none, 0⟩]
def c74r2 : List SI := [
 ⟨none, .mv 14 (.t 0), none, 0⟩,
 ⟨none, .call 15 95 [(.t 14)], none, 0⟩,
 ⟨none, .mv 6 (.t 15), none, 0⟩]
def c74r3 : List SI := [
 ⟨none, .mv 16 (.t 5), none, 0⟩,
 ⟨none, .bin 17 .geq (.t 16) (.v (.int .u64 128)), none, 0⟩]
def c74r4 : List SI := [
 ⟨none, .mv 20 (.t 6), none, 0⟩,
 ⟨none, .mv 21 (.t 5), none, 0⟩,
 ⟨none, .cvI 22 .u8 (.t 21), none, 0⟩,
 ⟨none, .bin 23 .or (.t 22) (.v (.int .u8 128)), none, 0⟩,
 ⟨none, .bls 24 5 1 1 [(.int .u8 0)] [(0, 1, (.t 23))], none, 0⟩,
 ⟨none, .app 25 (.t 20) (.t 24) 5 1 1, none, 0⟩,
 ⟨none, .mv 6 (.t 25), none, 0⟩]
def c74r5 : List SI := [
 ⟨none, .mv 18 (.t 5), none, 0⟩,
 ⟨none, .bin 19 .shr (.t 18) (.v (.int .u64 7)), none, 0⟩,
 ⟨none, .mv 5 (.t 19), none, 0⟩]
def c74r6 : List SI := [
 ⟨none, .mv 26 (.t 6), none, 0⟩,
 ⟨none, .mv 27 (.t 5), none, 0⟩,
 ⟨none, .cvI 28 .u8 (.t 27), none, 0⟩,
 ⟨none, .bls 29 5 1 1 [(.int .u8 0)] [(0, 1, (.t 28))], none, 0⟩,
 ⟨none, .app 30 (.t 26) (.t 29) 5 1 1, none, 0⟩,
 ⟨none, .mv 4 (.t 30), none, 0⟩]
def c74 : SC :=
 (.seq (.reg false c74r0)
 (.seq (.reg false c74r1)
 (.seq (.reg false c74r2)
 (.seq (.blk 0 (.loop (.seq (.seq (.reg false c74r3)
   (.cond (.t 17)
    .skip
    (.exit 0)))
   (.seq (.blk 1 (.reg false c74r4))
   (.reg false c74r5)))))
 (.seq (.reg false c74r6)
 .ret)))))
def v74 : List Nat × List Nat := ([], [])
def o74 : List RS := [.t 4]
theorem s74 : slimC Try.prog Try.f74.ntmps v74.1 v74.2 ((Try.f74.body).getD .skip) = some c74 := by kernel_rfl
theorem q74 : slimR Try.prog Try.f74.ntmps v74.1 v74.2 Try.f74.results.toList = some o74 := by kernel_rfl
-- watermeet/rec.Put N=46
def c75r0 : List SI := [
 ⟨none, .bxR 3 (.t 0), none, 0⟩,
 ⟨none, .mv 6 (.v (.slice none 0 0)), none, 0⟩,
 ⟨none, .mv 7 (.i 0), none, 0⟩]
def c75r1 : List SI := [
 ⟨none, .ldR 11 3 0 (some 5), none, 0⟩,
 ⟨none, .call 12 73 [(.t 11)], none, 0⟩,
 ⟨none, .mv 8 (.t 12), none, 0⟩]
def c75r2 : List SI := [
 ⟨none, .mv 13 (.t 8), none, 0⟩,
 ⟨none, .bin 14 .neq (.t 13) (.i 0), none, 0⟩]
def c75r3 : List SI := [
 ⟨none, .mv 15 (.t 8), none, 0⟩,
 ⟨none, .mv 6 (.v (.slice none 0 0)), none, 0⟩,
 ⟨none, .mv 7 (.t 15), none, 0⟩]
def c75r4 : List SI := [
 ⟨none, .mv 16 (.t 1), none, 0⟩,
 ⟨none, .call 17 94 [(.t 16)], none, 0⟩,
 ⟨none, .un 18 .not (.t 17), none, 0⟩,
 ⟨none, .mv 19 (.t 18), none, 0⟩,
 ⟨some (19, false), .mv 20 (.t 2), none, 20⟩,
 ⟨some (19, false), .call 21 94 [(.t 20)], none, 21⟩,
 ⟨some (19, false), .un 22 .not (.t 21), none, 22⟩,
 ⟨none, .pick 23 (.t 19) (.b true) (.t 22), none, 0⟩]
def c75r5 : List SI := [
 ⟨none, .mv 6 (.v (.slice none 0 0)), none, 0⟩,
 ⟨none, .mv 7 (.i 1), none, 0⟩]
def c75r6 : List SI := [
 ⟨none, .mv 9 (.v (.int .u8 0)), none, 0⟩]
def c75r7 : List SI := [
 ⟨none, .nop, (some 3), 0⟩,
 ⟨none, .ldR 25 3 3 none, none, 0⟩]
def c75r8 : List SI := [
 ⟨none, .mv 9 (.v (.int .u8 1)), none, 0⟩]
def c75r9 : List (Bool × SI) := [
 (true, ⟨none, .nop, (some 3), 0⟩),
 (true, ⟨none, .ldR 27 3 0 none, none, 0⟩),
 (true, ⟨none, .mv 28 (.t 1), none, 0⟩),
 (true, ⟨none, .bin 29 .sub (.t 27) (.t 28), none, 0⟩),
 (true, ⟨none, .nop, (some 3), 0⟩),
 (true, ⟨none, .ldR 32 3 4 none, none, 0⟩),
 (true, ⟨none, .mv 33 (.t 2), none, 0⟩),
 (true, ⟨none, .bin 34 .sub (.t 32) (.t 33), none, 0⟩),
 (false, ⟨none, .call 30 74 [(.v (.slice none 0 0)), (.t 29)], none, 0⟩),
 (false, ⟨none, .call 35 74 [(.t 30), (.t 34)], none, 0⟩),
 (true, ⟨none, .mv 10 (.t 35), none, 0⟩)]
def c75r10 : List (Bool × SI) := [
 (true, ⟨none, .mv 36 (.t 10), none, 0⟩),
 (true, ⟨none, .mv 37 (.t 9), none, 0⟩),
 (true, ⟨none, .nop, (some 3), 0⟩),
 (true, ⟨none, .ldR 41 3 1 none, none, 0⟩),
 (true, ⟨none, .nop, (some 3), 0⟩),
 (true, ⟨none, .ldR 44 3 2 none, none, 0⟩),
 (false, ⟨none, .bls 38 5 1 1 [(.int .u8 0)] [(0, 1, (.t 37))], none, 0⟩),
 (false, ⟨none, .app 39 (.t 36) (.t 38) 5 1 1, none, 0⟩),
 (false, ⟨none, .call 42 96 [(.t 39), (.t 41)], none, 0⟩),
 (false, ⟨none, .call 45 96 [(.t 42), (.t 44)], none, 0⟩),
 (true, ⟨none, .mv 6 (.t 45), none, 0⟩),
 (true, ⟨none, .mv 7 (.i 0), none, 0⟩)]
def c75 : SC :=
 (.seq (.reg false c75r0)
 (.seq (.seq (.reg false c75r1)
 (.seq (.reg false c75r2)
 (.cond (.t 14)
  (.seq (.reg false c75r3)
  .ret)
  .skip)))
 (.seq (.seq (.reg false c75r4)
 (.cond (.t 23)
  (.seq (.reg false c75r5)
  .ret)
  .skip))
 (.seq (.reg false c75r6)
 (.seq (.seq (.reg false c75r7)
 (.cond (.t 25)
  (.reg false c75r8)
  .skip))
 (.seq (.rgX c75r9)
 (.seq (.rgX c75r10)
 .ret)))))))
def v75 : List Nat × List Nat := ([3], [3, 24, 26, 31, 40, 43])
def o75 : List RS := [.t 6, .t 7]
theorem s75 : slimC Try.prog Try.f75.ntmps v75.1 v75.2 ((Try.f75.body).getD .skip) = some c75 := by kernel_rfl
theorem q75 : slimR Try.prog Try.f75.ntmps v75.1 v75.2 Try.f75.results.toList = some o75 := by kernel_rfl
-- watermeet/crc.Seal N=9
def c76r0 : List SI := [
 ⟨none, .mv 2 (.v (.slice none 0 0)), none, 0⟩]
def c76r1 : List SI := [
 ⟨none, .mv 3 (.t 0), none, 0⟩,
 ⟨none, .app 4 (.v (.slice none 0 0)) (.t 3) 5 1 1, none, 0⟩,
 ⟨none, .mv 5 (.t 0), none, 0⟩,
 ⟨none, .call 6 84 [(.t 5)], none, 0⟩,
 ⟨none, .cvI 7 .u64 (.t 6), none, 0⟩,
 ⟨none, .call 8 77 [(.t 4), (.t 7), (.i 4)], none, 0⟩,
 ⟨none, .mv 2 (.t 8), none, 0⟩]
def c76 : SC :=
 (.seq (.reg false c76r0)
 (.seq (.reg false c76r1)
 .ret))
def v76 : List Nat × List Nat := ([], [])
def o76 : List RS := [.t 2]
theorem s76 : slimC Try.prog Try.f76.ntmps v76.1 v76.2 ((Try.f76.body).getD .skip) = some c76 := by kernel_rfl
theorem q76 : slimR Try.prog Try.f76.ntmps v76.1 v76.2 Try.f76.results.toList = some o76 := by kernel_rfl
-- watermeet/octet.Put N=33
def c77r0 : List SI := [
 ⟨none, .mv 6 (.v (.slice none 0 0)), none, 0⟩]
def c77r1 : List SI := [
 ⟨none, .mv 9 (.t 0), none, 0⟩,
 ⟨none, .call 10 95 [(.t 9)], none, 0⟩,
 ⟨none, .mv 7 (.t 10), none, 0⟩]
def c77r2 : List SI := [
 ⟨none, .mv 11 (.t 2), none, 0⟩,
 ⟨none, .bin 12 .lss (.t 11) (.i 1), none, 0⟩,
 ⟨none, .mv 13 (.t 12), none, 0⟩,
 ⟨some (13, false), .mv 14 (.t 2), none, 14⟩,
 ⟨some (13, false), .bin 15 .gtr (.t 14) (.i 8), none, 15⟩,
 ⟨none, .pick 16 (.t 13) (.b true) (.t 15), none, 0⟩]
def c77r3 : List SI := [
 ⟨none, .mv 17 (.t 7), none, 0⟩,
 ⟨none, .mv 6 (.t 17), none, 0⟩]
def c77r4 : List SI := [
 ⟨none, .mv 18 (.t 2), none, 0⟩,
 ⟨none, .bin 19 .sub (.t 18) (.i 1), none, 0⟩,
 ⟨none, .bin 20 .mul (.i 8) (.t 19), none, 0⟩,
 ⟨none, .mv 8 (.t 20), none, 0⟩]
def c77r5 : List SI := [
 ⟨none, .mv 21 (.t 8), none, 0⟩,
 ⟨none, .bin 22 .geq (.t 21) (.i 0), none, 0⟩]
def c77r6 : List SI := [
 ⟨none, .mv 25 (.t 7), none, 0⟩,
 ⟨none, .mv 26 (.t 1), none, 0⟩,
 ⟨none, .mv 27 (.t 8), none, 0⟩,
 ⟨none, .bin 28 .shr (.t 26) (.t 27), none, 0⟩,
 ⟨none, .cvI 29 .u8 (.t 28), none, 0⟩,
 ⟨none, .bls 30 5 1 1 [(.int .u8 0)] [(0, 1, (.t 29))], none, 0⟩,
 ⟨none, .app 31 (.t 25) (.t 30) 5 1 1, none, 0⟩,
 ⟨none, .mv 7 (.t 31), none, 0⟩]
def c77r7 : List SI := [
 ⟨none, .mv 23 (.t 8), none, 0⟩,
 ⟨none, .bin 24 .sub (.t 23) (.i 8), none, 0⟩,
 ⟨none, .mv 8 (.t 24), none, 0⟩]
def c77r8 : List SI := [
 ⟨none, .mv 32 (.t 7), none, 0⟩,
 ⟨none, .mv 6 (.t 32), none, 0⟩]
def c77 : SC :=
 (.seq (.reg false c77r0)
 (.seq (.reg false c77r1)
 (.seq (.seq (.reg false c77r2)
 (.cond (.t 16)
  (.seq (.reg false c77r3)
  .ret)
  .skip))
 (.seq (.seq (.reg false c77r4)
 (.blk 0 (.loop (.seq (.seq (.reg false c77r5)
   (.cond (.t 22)
    .skip
    (.exit 0)))
   (.seq (.blk 1 (.reg false c77r6))
   (.reg false c77r7))))))
 (.seq (.reg false c77r8)
 .ret)))))
def v77 : List Nat × List Nat := ([], [])
def o77 : List RS := [.t 6]
theorem s77 : slimC Try.prog Try.f77.ntmps v77.1 v77.2 ((Try.f77.body).getD .skip) = some c77 := by kernel_rfl
theorem q77 : slimR Try.prog Try.f77.ntmps v77.1 v77.2 Try.f77.results.toList = some o77 := by kernel_rfl
-- watermeet/watermeetref04.form N=165
def c79r0 : List SI := [
 ⟨none, .mv 4 (.v (.slice none 0 0)), none, 0⟩]
def c79r1 : List SI := [
 ⟨none, .mv 7 (.t 1), none, 0⟩,
 ⟨none, .cvI 8 .u64 (.t 7), none, 0⟩,
 ⟨none, .bin 9 .mul (.v (.int .u64 2)) (.t 8), none, 0⟩,
 ⟨none, .mv 5 (.t 9), none, 0⟩]
def c79r2 : List SI := [
 ⟨none, .mv 10 (.t 1), none, 0⟩,
 ⟨none, .bin 11 .lss (.t 10) (.i 0), none, 0⟩]
def c79r3 : List SI := [
 ⟨none, .mv 12 (.t 1), none, 0⟩,
 ⟨none, .bin 13 .add (.t 12) (.i 1), none, 0⟩,
 ⟨none, .un 14 .neg (.t 13), none, 0⟩,
 ⟨none, .cvI 15 .u64 (.t 14), none, 0⟩,
 ⟨none, .bin 16 .mul (.v (.int .u64 2)) (.t 15), none, 0⟩,
 ⟨none, .bin 17 .add (.t 16) (.v (.int .u64 1)), none, 0⟩,
 ⟨none, .mv 5 (.t 17), none, 0⟩]
def c79r4 : List SI := [
 ⟨none, .mv 18 (.t 0), none, 0⟩,
 ⟨none, .call 19 99 [(.t 18)], none, 0⟩,
 ⟨none, .mv 6 (.t 19), none, 0⟩]
def c79r5 : List SI := [
 ⟨none, .mv 20 (.t 5), none, 0⟩,
 ⟨none, .bin 21 .geq (.t 20) (.v (.int .u64 128)), none, 0⟩]
def c79r6 : List SI := [
 ⟨none, .mv 22 (.t 6), none, 0⟩,
 ⟨none, .mv 23 (.t 5), none, 0⟩,
 ⟨none, .bin 24 .rem (.t 23) (.v (.int .u64 128)), none, 0⟩,
 ⟨none, .bin 25 .add (.v (.int .u64 128)) (.t 24), none, 0⟩,
 ⟨none, .cvI 26 .u8 (.t 25), none, 0⟩,
 ⟨none, .bls 27 5 1 1 [(.int .u8 0)] [(0, 1, (.t 26))], none, 0⟩,
 ⟨none, .app 28 (.t 22) (.t 27) 5 1 1, none, 0⟩,
 ⟨none, .mv 6 (.t 28), none, 0⟩]
def c79r7 : List SI := [
 ⟨none, .mv 29 (.t 5), none, 0⟩,
 ⟨none, .bin 30 .quo (.t 29) (.v (.int .u64 128)), none, 0⟩,
 ⟨none, .mv 5 (.t 30), none, 0⟩]
def c79r8 : List SI := [
 ⟨none, .mv 31 (.t 6), none, 0⟩,
 ⟨none, .mv 32 (.t 5), none, 0⟩,
 ⟨none, .cvI 33 .u8 (.t 32), none, 0⟩,
 ⟨none, .bls 34 5 1 1 [(.int .u8 0)] [(0, 1, (.t 33))], none, 0⟩,
 ⟨none, .app 35 (.t 31) (.t 34) 5 1 1, none, 0⟩,
 ⟨none, .mv 4 (.t 35), none, 0⟩]
def c79 : SC :=
 (.seq (.reg false c79r0)
 (.seq (.reg false c79r1)
 (.seq (.seq (.reg false c79r2)
 (.cond (.t 11)
  (.reg false c79r3)
  .skip))
 (.seq (.reg false c79r4)
 (.seq (.blk 0 (.loop (.seq (.seq (.reg false c79r5)
   (.cond (.t 21)
    .skip
    (.exit 0)))
   (.blk 1 (.seq (.reg false c79r6)
    (.reg false c79r7))))))
 (.seq (.reg false c79r8)
 .ret))))))
def v79 : List Nat × List Nat := ([], [])
def o79 : List RS := [.t 4]
theorem s79 : slimC Try.prog Try.f79.ntmps v79.1 v79.2 ((Try.f79.body).getD .skip) = some c79 := by kernel_rfl
theorem q79 : slimR Try.prog Try.f79.ntmps v79.1 v79.2 Try.f79.results.toList = some o79 := by kernel_rfl
-- watermeet/watermeetref03.Put N=50
def c80r0 : List SI := [
 ⟨none, .bxR 3 (.t 0), none, 0⟩,
 ⟨none, .mv 6 (.v (.slice none 0 0)), none, 0⟩,
 ⟨none, .mv 7 (.i 0), none, 0⟩]
def c80r1 : List SI := [
 ⟨none, .ldR 10 3 0 (some 5), none, 0⟩,
 ⟨none, .call 11 98 [(.t 10)], none, 0⟩,
 ⟨none, .mv 8 (.t 11), none, 0⟩]
def c80r2 : List SI := [
 ⟨none, .mv 12 (.t 8), none, 0⟩,
 ⟨none, .bin 13 .neq (.t 12) (.i 0), none, 0⟩]
def c80r3 : List SI := [
 ⟨none, .mv 14 (.t 8), none, 0⟩,
 ⟨none, .mv 6 (.v (.slice none 0 0)), none, 0⟩,
 ⟨none, .mv 7 (.t 14), none, 0⟩]
def c80r4 : List SI := [
 ⟨none, .mv 15 (.t 1), none, 0⟩,
 ⟨none, .call 16 100 [(.t 15)], none, 0⟩,
 ⟨none, .un 17 .not (.t 16), none, 0⟩,
 ⟨none, .mv 18 (.t 17), none, 0⟩,
 ⟨some (18, false), .mv 19 (.t 2), none, 19⟩,
 ⟨some (18, false), .call 20 100 [(.t 19)], none, 20⟩,
 ⟨some (18, false), .un 21 .not (.t 20), none, 21⟩,
 ⟨none, .pick 22 (.t 18) (.b true) (.t 21), none, 0⟩]
def c80r5 : List SI := [
 ⟨none, .mv 6 (.v (.slice none 0 0)), none, 0⟩,
 ⟨none, .mv 7 (.i 1), none, 0⟩]
def c80r6 : List SI := [
 ⟨none, .nop, (some 3), 0⟩,
 ⟨none, .ldR 24 3 0 none, none, 0⟩,
 ⟨none, .mv 25 (.t 1), none, 0⟩,
 ⟨none, .bin 26 .sub (.t 24) (.t 25), none, 0⟩,
 ⟨none, .call 27 79 [(.v (.slice none 0 0)), (.t 26)], none, 0⟩,
 ⟨none, .mv 9 (.t 27), none, 0⟩]
def c80r7 : List SI := [
 ⟨none, .mv 28 (.t 9), none, 0⟩,
 ⟨none, .nop, (some 3), 0⟩,
 ⟨none, .ldR 30 3 4 none, none, 0⟩,
 ⟨none, .mv 31 (.t 2), none, 0⟩,
 ⟨none, .bin 32 .sub (.t 30) (.t 31), none, 0⟩,
 ⟨none, .call 33 79 [(.t 28), (.t 32)], none, 0⟩,
 ⟨none, .mv 9 (.t 33), none, 0⟩]
def c80r8 : List SI := [
 ⟨none, .nop, (some 3), 0⟩,
 ⟨none, .ldR 35 3 3 none, none, 0⟩]
def c80r9 : List SI := [
 ⟨none, .mv 36 (.t 9), none, 0⟩,
 ⟨none, .bls 37 5 1 1 [(.int .u8 0)] [(0, 1, (.v (.int .u8 1)))], none, 0⟩,
 ⟨none, .app 38 (.t 36) (.t 37) 5 1 1, none, 0⟩,
 ⟨none, .mv 9 (.t 38), none, 0⟩]
def c80r10 : List SI := [
 ⟨none, .mv 39 (.t 9), none, 0⟩,
 ⟨none, .bls 40 5 1 1 [(.int .u8 0)] [(0, 1, (.v (.int .u8 0)))], none, 0⟩,
 ⟨none, .app 41 (.t 39) (.t 40) 5 1 1, none, 0⟩,
 ⟨none, .mv 9 (.t 41), none, 0⟩]
def c80r11 : List SI := [
 ⟨none, .mv 42 (.t 9), none, 0⟩,
 ⟨none, .nop, (some 3), 0⟩,
 ⟨none, .ldR 44 3 1 none, none, 0⟩,
 ⟨none, .call 45 101 [(.t 42), (.t 44)], none, 0⟩,
 ⟨none, .mv 9 (.t 45), none, 0⟩]
def c80r12 : List SI := [
 ⟨none, .mv 46 (.t 9), none, 0⟩,
 ⟨none, .nop, (some 3), 0⟩,
 ⟨none, .ldR 48 3 2 none, none, 0⟩,
 ⟨none, .call 49 101 [(.t 46), (.t 48)], none, 0⟩,
 ⟨none, .mv 6 (.t 49), none, 0⟩,
 ⟨none, .mv 7 (.i 0), none, 0⟩]
def c80 : SC :=
 (.seq (.reg false c80r0)
 (.seq (.reg false c80r1)
 (.seq (.seq (.reg false c80r2)
 (.cond (.t 13)
  (.seq (.reg false c80r3)
  .ret)
  .skip))
 (.seq (.seq (.reg false c80r4)
 (.cond (.t 22)
  (.seq (.reg false c80r5)
  .ret)
  .skip))
 (.seq (.reg false c80r6)
 (.seq (.reg false c80r7)
 (.seq (.seq (.reg false c80r8)
 (.cond (.t 35)
  (.reg false c80r9)
  (.reg false c80r10)))
 (.seq (.reg false c80r11)
 (.seq (.reg false c80r12)
 .ret)))))))))
def v80 : List Nat × List Nat := ([3], [3, 23, 29, 34, 43, 47])
def o80 : List RS := [.t 6, .t 7]
theorem s80 : slimC Try.prog Try.f80.ntmps v80.1 v80.2 ((Try.f80.body).getD .skip) = some c80 := by kernel_rfl
theorem q80 : slimR Try.prog Try.f80.ntmps v80.1 v80.2 Try.f80.results.toList = some o80 := by kernel_rfl
-- watermeet/watermeetref02.Seal N=10
def c83r0 : List SI := [
 ⟨none, .mv 4 (.v (.slice none 0 0)), none, 0⟩]
def c83r1 : List SI := [
 ⟨none, .mv 5 (.t 0), none, 0⟩,
 ⟨none, .mv 6 (.t 1), none, 0⟩,
 ⟨none, .mv 7 (.t 0), none, 0⟩,
 ⟨none, .len 8 false (.t 7), none, 0⟩,
 ⟨none, .mm 9 false (.t 6) (.t 8), none, 0⟩,
 ⟨none, .sl 10 (.t 5) (some (.t 9)) none none 1, none, 0⟩,
 ⟨none, .mv 4 (.t 10), none, 0⟩]
def c83 : SC :=
 (.seq (.reg false c83r0)
 (.seq (.reg false c83r1)
 .ret))
def v83 : List Nat × List Nat := ([], [])
def o83 : List RS := [.t 4]
theorem s83 : slimC Try.prog Try.f83.ntmps v83.1 v83.2 ((Try.f83.body).getD .skip) = some c83 := by kernel_rfl
theorem q83 : slimR Try.prog Try.f83.ntmps v83.1 v83.2 Try.f83.results.toList = some o83 := by kernel_rfl
-- watermeet/crc.Sum N=21
def c84r0 : List SI := [
 ⟨none, .mv 2 (.v (.int .u32 0)), none, 0⟩]
def c84r1 : List SI := [
 ⟨none, .call 7 102 [], none, 0⟩,
 ⟨none, .mv 3 (.t 7), none, 0⟩]
def c84r2 : List SI := [
 ⟨none, .mv 4 (.v (.int .u32 4294967295)), none, 0⟩]
def c84r3 : List SI := [
 ⟨none, .mv 8 (.t 0), none, 0⟩,
 ⟨none, .len 9 false (.t 8), none, 0⟩,
 ⟨none, .mv 10 (.i 0), none, 0⟩]
def c84r4 : List SI := [
 ⟨none, .bin 11 .lss (.t 10) (.t 9), none, 0⟩]
def c84r5 : List SI := [
 ⟨none, .ixA 12 (.t 8) (.t 10) 1, none, 0⟩,
 ⟨none, .ld 13 (.t 12) none, none, 0⟩,
 ⟨none, .mv 6 (.t 13), none, 0⟩]
def c84r6 : List SI := [
 ⟨none, .mv 14 (.t 3), none, 0⟩,
 ⟨none, .mv 15 (.t 4), none, 0⟩,
 ⟨none, .mv 16 (.t 6), none, 0⟩,
 ⟨none, .cav 17 (.t 14) [(.t 15), (.t 16)], none, 0⟩,
 ⟨none, .mv 4 (.t 17), none, 0⟩]
def c84r7 : List SI := [
 ⟨none, .bin 18 .add (.t 10) (.i 1), none, 0⟩,
 ⟨none, .mv 10 (.t 18), none, 0⟩]
def c84r8 : List SI := [
 ⟨none, .mv 19 (.t 4), none, 0⟩,
 ⟨none, .un 20 .xor (.t 19), none, 0⟩,
 ⟨none, .mv 2 (.t 20), none, 0⟩]
def c84 : SC :=
 (.seq (.reg false c84r0)
 (.seq (.reg false c84r1)
 (.seq (.reg false c84r2)
 (.seq (.seq (.reg false c84r3)
 (.blk 0 (.loop (.seq (.reg false c84r4)
   (.seq (.cond (.t 11)
    .skip
    (.exit 0))
   (.seq (.blk 1 (.seq (.reg false c84r5)
    (.reg false c84r6)))
   (.reg false c84r7)))))))
 (.seq (.reg false c84r8)
 .ret)))))
def v84 : List Nat × List Nat := ([], [])
def o84 : List RS := [.t 2]
theorem s84 : slimC Try.prog Try.f84.ntmps v84.1 v84.2 ((Try.f84.body).getD .skip) = some c84 := by kernel_rfl
theorem q84 : slimR Try.prog Try.f84.ntmps v84.1 v84.2 Try.f84.results.toList = some o84 := by kernel_rfl
-- watermeet/batch.parse$1 N=18
def c85r0 : List SI := [
 ⟨none, .mv 3 (.i 0), none, 0⟩]
def c85r1 : List SI := [
 ⟨none, .ld 8 (.t 0) none, none, 0⟩,
 ⟨none, .ld 9 (.t 1) none, none, 0⟩,
 ⟨none, .call 10 86 [(.t 8), (.t 9)], none, 0⟩,
 ⟨none, .mv 7 (.t 10), none, 0⟩,
 ⟨none, .ext 11 (.t 7) 0, none, 0⟩,
 ⟨none, .ext 12 (.t 7) 1, none, 0⟩,
 ⟨none, .ext 13 (.t 7) 2, none, 0⟩,
 ⟨none, .mv 4 (.t 11), none, 0⟩,
 ⟨none, .mv 5 (.t 12), none, 0⟩,
 ⟨none, .mv 6 (.t 13), none, 0⟩]
def c85r2 : List SI := [
 ⟨none, .mv 14 (.t 6), none, 0⟩,
 ⟨none, .bin 15 .neq (.t 14) (.i 0), none, 0⟩]
def c85r3 : List SI := [
 ⟨none, .st (.t 2) 1 (.b false), none, 0⟩]
def c85r4 : List SI := [
 ⟨none, .mv 3 (.i 0), none, 0⟩]
def c85r5 : List SI := [
 ⟨none, .mv 16 (.t 5), none, 0⟩,
 ⟨none, .st (.t 1) 1 (.t 16), none, 0⟩]
def c85r6 : List SI := [
 ⟨none, .mv 17 (.t 4), none, 0⟩,
 ⟨none, .mv 3 (.t 17), none, 0⟩]
def c85 : SC :=
 (.seq (.reg false c85r0)
 (.seq (.reg false c85r1)
 (.seq (.seq (.reg false c85r2)
 (.cond (.t 15)
  (.seq (.reg false c85r3)
  (.seq (.reg false c85r4)
  .ret))
  .skip))
 (.seq (.reg false c85r5)
 (.seq (.reg false c85r6)
 .ret)))))
def v85 : List Nat × List Nat := ([], [])
def o85 : List RS := [.t 3]
theorem s85 : slimC Try.prog Try.f85.ntmps v85.1 v85.2 ((Try.f85.body).getD .skip) = some c85 := by kernel_rfl
theorem q85 : slimR Try.prog Try.f85.ntmps v85.1 v85.2 Try.f85.results.toList = some o85 := by kernel_rfl
-- watermeet/octet.GetVar N=58
def c86r0 : List SI := [
 ⟨none, .mv 4 (.i 0), none, 0⟩,
 ⟨none, .mv 5 (.i 0), none, 0⟩,
 ⟨none, .mv 6 (.i 0), none, 0⟩]
def c86r1 : List SI := [
 ⟨none, .mv 10 (.t 1), none, 0⟩,
 ⟨none, .bin 11 .lss (.t 10) (.i 0), none, 0⟩]
def c86r2 : List SI := [
 ⟨none, .mv 4 (.i 0), none, 0⟩,
 ⟨none, .mv 5 (.i 0), none, 0⟩,
 ⟨none, .mv 6 (.i 1), none, 0⟩]
def c86r3 : List SI := [
 ⟨none, .mv 7 (.v (.int .u64 0)), none, 0⟩]
def c86r4 : List SI := [
 ⟨none, .mv 12 (.t 0), none, 0⟩,
 ⟨none, .mv 13 (.t 1), none, 0⟩,
 ⟨none, .call 14 83 [(.t 12), (.t 13)], none, 0⟩,
 ⟨none, .len 15 false (.t 14), none, 0⟩,
 ⟨none, .mv 16 (.i 0), none, 0⟩]
def c86r5 : List SI := [
 ⟨none, .bin 17 .lss (.t 16) (.t 15), none, 0⟩]
def c86r6 : List SI := [
 ⟨none, .mv 18 (.t 16), none, 0⟩,
 ⟨none, .ixA 19 (.t 14) (.t 16) 1, none, 0⟩,
 ⟨none, .ld 20 (.t 19) none, none, 0⟩,
 ⟨none, .mv 8 (.t 18), none, 0⟩,
 ⟨none, .mv 9 (.t 20), none, 0⟩]
def c86r7 : List SI := [
 ⟨none, .mv 21 (.t 8), none, 0⟩,
 ⟨none, .bin 22 .eql (.t 21) (.i 9), none, 0⟩,
 ⟨none, .mv 23 (.t 22), none, 0⟩,
 ⟨some (23, true), .mv 24 (.t 9), none, 24⟩,
 ⟨some (23, true), .bin 25 .gtr (.t 24) (.v (.int .u8 1)), none, 25⟩,
 ⟨none, .pick 26 (.t 23) (.t 25) (.b false), none, 0⟩,
 ⟨none, .mv 27 (.t 26), none, 0⟩,
 ⟨some (27, false), .mv 28 (.t 8), none, 28⟩,
 ⟨some (27, false), .bin 29 .gtr (.t 28) (.i 0), none, 29⟩,
 ⟨some (27, false), .mv 30 (.t 29), none, 30⟩,
 ⟨some (30, true), .mv 31 (.t 9), none, 31⟩,
 ⟨some (30, true), .bin 32 .eql (.t 31) (.v (.int .u8 0)), none, 32⟩,
 ⟨some (27, false), .pick 33 (.t 30) (.t 32) (.b false), none, 33⟩,
 ⟨none, .pick 34 (.t 27) (.b true) (.t 33), none, 0⟩]
def c86r8 : List SI := [
 ⟨none, .mv 4 (.i 0), none, 0⟩,
 ⟨none, .mv 5 (.i 0), none, 0⟩,
 ⟨none, .mv 6 (.i 11), none, 0⟩]
def c86r9 : List SI := [
 ⟨none, .mv 35 (.t 7), none, 0⟩,
 ⟨none, .mv 36 (.t 9), none, 0⟩,
 ⟨none, .bin 37 .and (.t 36) (.v (.int .u8 127)), none, 0⟩,
 ⟨none, .cvI 38 .u64 (.t 37), none, 0⟩,
 ⟨none, .mv 39 (.t 8), none, 0⟩,
 ⟨none, .bin 40 .mul (.i 7) (.t 39), none, 0⟩,
 ⟨none, .bin 41 .shl (.t 38) (.t 40), none, 0⟩,
 ⟨none, .bin 42 .or (.t 35) (.t 41), none, 0⟩,
 ⟨none, .mv 7 (.t 42), none, 0⟩]
def c86r10 : List SI := [
 ⟨none, .mv 43 (.t 9), none, 0⟩,
 ⟨none, .bin 44 .lss (.t 43) (.v (.int .u8 128)), none, 0⟩]
def c86r11 : List SI := [
 ⟨none, .mv 45 (.t 7), none, 0⟩,
 ⟨none, .bin 46 .shr (.t 45) (.v (.int .u64 1)), none, 0⟩,
 ⟨none, .cvI 47 .i64 (.t 46), none, 0⟩,
 ⟨none, .mv 48 (.t 7), none, 0⟩,
 ⟨none, .bin 49 .and (.t 48) (.v (.int .u64 1)), none, 0⟩,
 ⟨none, .cvI 50 .i64 (.t 49), none, 0⟩,
 ⟨none, .un 51 .neg (.t 50), none, 0⟩,
 ⟨none, .bin 52 .xor (.t 47) (.t 51), none, 0⟩,
 ⟨none, .mv 53 (.t 1), none, 0⟩,
 ⟨none, .mv 54 (.t 8), none, 0⟩,
 ⟨none, .bin 55 .add (.t 53) (.t 54), none, 0⟩,
 ⟨none, .bin 56 .add (.t 55) (.i 1), none, 0⟩,
 ⟨none, .mv 4 (.t 52), none, 0⟩,
 ⟨none, .mv 5 (.t 56), none, 0⟩,
 ⟨none, .mv 6 (.i 0), none, 0⟩]
def c86r12 : List SI := [
 ⟨none, .bin 57 .add (.t 16) (.i 1), none, 0⟩,
 ⟨none, .mv 16 (.t 57), none, 0⟩]
def c86r13 : List SI := [
 ⟨none, .mv 4 (.i 0), none, 0⟩,
 ⟨none, .mv 5 (.i 0), none, 0⟩,
 ⟨none, .mv 6 (.i 10), none, 0⟩]
def c86 : SC :=
 (.seq (.reg false c86r0)
 (.seq (.seq (.reg false c86r1)
 (.cond (.t 11)
  (.seq (.reg false c86r2)
  .ret)
  .skip))
 (.seq (.reg false c86r3)
 (.seq (.seq (.reg false c86r4)
 (.blk 0 (.loop (.seq (.reg false c86r5)
   (.seq (.cond (.t 17)
    .skip
    (.exit 0))
   (.seq (.blk 1 (.seq (.reg false c86r6)
    (.seq (.seq (.reg false c86r7)
    (.cond (.t 34)
     (.seq (.reg false c86r8)
     .ret)
     .skip))
    (.seq (.reg false c86r9)
    (.seq (.reg false c86r10)
    (.cond (.t 44)
     (.seq (.reg false c86r11)
     .ret)
     .skip))))))
   (.reg false c86r12)))))))
 (.seq (.reg false c86r13)
 .ret)))))
def v86 : List Nat × List Nat := ([], [])
def o86 : List RS := [.t 4, .t 5, .t 6]
theorem s86 : slimC Try.prog Try.f86.ntmps v86.1 v86.2 ((Try.f86.body).getD .skip) = some c86 := by kernel_rfl
theorem q86 : slimR Try.prog Try.f86.ntmps v86.1 v86.2 Try.f86.results.toList = some o86 := by kernel_rfl
-- watermeet/rec.Get N=82
def c87r0 : List SI := [
 ⟨none, .alR 8 [(.int .i64 0), (.string ⟨#[]⟩), (.string ⟨#[]⟩), (.bool false), (.int .i64 0)], none, 0⟩,
 ⟨none, .mv 9 (.i 0), none, 0⟩,
 ⟨none, .mv 10 (.i 0), none, 0⟩]
def c87r1 : List SI := [
 ⟨none, .mv 13 (.t 2), none, 0⟩,
 ⟨none, .call 14 94 [(.t 13)], none, 0⟩,
 ⟨none, .un 15 .not (.t 14), none, 0⟩,
 ⟨none, .mv 16 (.t 15), none, 0⟩,
 ⟨some (16, false), .mv 17 (.t 3), none, 17⟩,
 ⟨some (16, false), .call 18 94 [(.t 17)], none, 18⟩,
 ⟨some (16, false), .un 19 .not (.t 18), none, 19⟩,
 ⟨none, .pick 20 (.t 16) (.b true) (.t 19), none, 0⟩,
 ⟨none, .mv 21 (.t 20), none, 0⟩,
 ⟨some (21, false), .mv 22 (.t 1), none, 22⟩,
 ⟨some (21, false), .bin 23 .lss (.t 22) (.i 0), none, 23⟩,
 ⟨none, .pick 24 (.t 21) (.b true) (.t 23), none, 0⟩,
 ⟨none, .mv 25 (.t 24), none, 0⟩,
 ⟨some (25, false), .mv 26 (.t 1), none, 26⟩,
 ⟨some (25, false), .mv 27 (.t 0), none, 27⟩,
 ⟨some (25, false), .len 28 false (.t 27), none, 28⟩,
 ⟨some (25, false), .bin 29 .gtr (.t 26) (.t 28), none, 29⟩,
 ⟨none, .pick 30 (.t 25) (.b true) (.t 29), none, 0⟩]
def c87r2 : List SI := [
 ⟨none, .bld 31 [(.int .i64 0), (.string ⟨#[]⟩), (.string ⟨#[]⟩), (.bool false), (.int .i64 0)] [], none, 0⟩,
 ⟨none, .stR 8 0 5 (.t 31), none, 0⟩,
 ⟨none, .mv 9 (.i 0), none, 0⟩,
 ⟨none, .mv 10 (.i 1), none, 0⟩]
def c87r3 : List SI := [
 ⟨none, .mv 32 (.t 0), none, 0⟩,
 ⟨none, .mv 33 (.t 1), none, 0⟩,
 ⟨none, .bld 34 [(.slice none 0 0), (.int .i64 0), (.int .i64 0)] [(0, 1, (.t 32)), (1, 1, (.t 33))], none, 0⟩,
 ⟨none, .bx 35 (.t 34), none, 0⟩,
 ⟨none, .mv 11 (.t 35), none, 0⟩]
def c87r4 : List SI := [
 ⟨none, .mv 12 (.v (.func (.func 103) #[] #[])), none, 0⟩]
def c87r5 : List SI := [
 ⟨none, .mv 36 (.t 2), none, 0⟩,
 ⟨none, .mv 37 (.t 11), none, 0⟩,
 ⟨none, .call 38 106 [(.t 37), (.v (.func (.func 86) #[] #[]))], none, 0⟩,
 ⟨none, .call 39 105 [(.t 36), (.t 38)], none, 0⟩,
 ⟨none, .nop, (some 8), 0⟩,
 ⟨none, .stR 8 0 1 (.t 39), none, 0⟩]
def c87r6 : List SI := [
 ⟨none, .mv 41 (.t 3), none, 0⟩,
 ⟨none, .mv 42 (.t 11), none, 0⟩,
 ⟨none, .call 43 106 [(.t 42), (.v (.func (.func 86) #[] #[]))], none, 0⟩,
 ⟨none, .call 44 105 [(.t 41), (.t 43)], none, 0⟩,
 ⟨none, .nop, (some 8), 0⟩,
 ⟨none, .stR 8 4 1 (.t 44), none, 0⟩]
def c87r7 : List SI := [
 ⟨none, .mv 46 (.t 11), none, 0⟩,
 ⟨none, .call 47 107 [(.t 46), (.v (.func (.func 108) #[] #[]))], none, 0⟩,
 ⟨none, .nop, (some 8), 0⟩,
 ⟨none, .stR 8 3 1 (.t 47), none, 0⟩]
def c87r8 : List SI := [
 ⟨none, .mv 49 (.t 11), none, 0⟩,
 ⟨none, .mv 50 (.t 12), none, 0⟩,
 ⟨none, .call 51 109 [(.t 49), (.t 50)], none, 0⟩,
 ⟨none, .mv 52 (.t 11), none, 0⟩,
 ⟨none, .mv 53 (.t 12), none, 0⟩,
 ⟨none, .call 54 109 [(.t 52), (.t 53)], none, 0⟩,
 ⟨none, .nop, (some 8), 0⟩,
 ⟨none, .stR 8 1 1 (.t 51), none, 0⟩,
 ⟨none, .nop, (some 8), 0⟩,
 ⟨none, .stR 8 2 1 (.t 54), none, 0⟩]
def c87r9 : List SI := [
 ⟨none, .mv 57 (.t 11), none, 0⟩,
 ⟨none, .nck 58 (.t 57), none, 0⟩,
 ⟨none, .flA 59 (.t 58) 2, none, 0⟩,
 ⟨none, .ld 60 (.t 59) none, none, 0⟩,
 ⟨none, .bin 61 .eql (.t 60) (.i 0), none, 0⟩]
def c87r10 : List SI := [
 ⟨none, .mv 62 (.t 11), none, 0⟩,
 ⟨none, .ldR 63 8 0 (some 5), none, 0⟩,
 ⟨none, .call 64 73 [(.t 63)], none, 0⟩,
 ⟨none, .nck 65 (.t 62), none, 0⟩,
 ⟨none, .flA 66 (.t 65) 2, none, 0⟩,
 ⟨none, .st (.t 66) 1 (.t 64), none, 0⟩]
def c87r11 : List SI := [
 ⟨none, .mv 67 (.t 11), none, 0⟩,
 ⟨none, .nck 68 (.t 67), none, 0⟩,
 ⟨none, .flA 69 (.t 68) 2, none, 0⟩,
 ⟨none, .ld 70 (.t 69) none, none, 0⟩,
 ⟨none, .bin 71 .neq (.t 70) (.i 0), none, 0⟩]
def c87r12 : List WI := [
 (true, false, ⟨none, .bld 72 [(.int .i64 0), (.string ⟨#[]⟩), (.string ⟨#[]⟩), (.bool false), (.int .i64 0)] [], none, 0⟩),
 (true, false, ⟨none, .mv 73 (.t 11), none, 0⟩),
 (true, false, ⟨none, .nck 74 (.t 73), none, 0⟩),
 (true, false, ⟨none, .flA 75 (.t 74) 2, none, 0⟩),
 (true, false, ⟨none, .ld 76 (.t 75) none, none, 0⟩),
 (false, false, ⟨none, .stR 8 0 5 (.t 72), none, 0⟩),
 (true, false, ⟨none, .mv 9 (.i 0), none, 0⟩),
 (true, false, ⟨none, .mv 10 (.t 76), none, 0⟩)]
def c87r13 : List WI := [
 (true, false, ⟨none, .ldR 77 8 0 (some 5), none, 0⟩),
 (true, false, ⟨none, .mv 78 (.t 11), none, 0⟩),
 (true, false, ⟨none, .nck 79 (.t 78), none, 0⟩),
 (true, false, ⟨none, .flA 80 (.t 79) 1, none, 0⟩),
 (true, false, ⟨none, .ld 81 (.t 80) none, none, 0⟩),
 (false, false, ⟨none, .stR 8 0 5 (.t 77), none, 0⟩),
 (true, false, ⟨none, .mv 9 (.t 81), none, 0⟩),
 (true, false, ⟨none, .mv 10 (.i 0), none, 0⟩)]
def c87 : SC :=
 (.seq (.reg false c87r0)
 (.seq (.seq (.reg false c87r1)
 (.cond (.t 30)
  (.seq (.reg false c87r2)
  .ret)
  .skip))
 (.seq (.reg false c87r3)
 (.seq (.reg false c87r4)
 (.seq (.reg false c87r5)
 (.seq (.reg false c87r6)
 (.seq (.reg false c87r7)
 (.seq (.reg false c87r8)
 (.seq (.seq (.reg false c87r9)
 (.cond (.t 61)
  (.reg false c87r10)
  .skip))
 (.seq (.seq (.reg false c87r11)
 (.cond (.t 71)
  (.seq (.rgW c87r12)
  .ret)
  .skip))
 (.seq (.rgW c87r13)
 .ret)))))))))))
def v87 : List Nat × List Nat := ([8], [8, 40, 45, 48, 55, 56])
def o87 : List RS := [.r 8 (some 5), .t 9, .t 10]
theorem s87 : slimC Try.prog Try.f87.ntmps v87.1 v87.2 ((Try.f87.body).getD .skip) = some c87 := by kernel_rfl
theorem q87 : slimR Try.prog Try.f87.ntmps v87.1 v87.2 Try.f87.results.toList = some o87 := by kernel_rfl
-- watermeet/watermeetref02.four N=15
def c92r0 : List SI := [
 ⟨none, .mv 2 (.i 0), none, 0⟩]
def c92r1 : List SI := [
 ⟨none, .mv 5 (.t 0), none, 0⟩,
 ⟨none, .len 6 false (.t 5), none, 0⟩,
 ⟨none, .bin 7 .lss (.t 6) (.i 1), none, 0⟩]
def c92r2 : List SI := [
 ⟨none, .mv 9 (.t 0), none, 0⟩,
 ⟨none, .ixA 10 (.t 9) (.i 0) 1, none, 0⟩,
 ⟨none, .ld 11 (.t 10) none, none, 0⟩,
 ⟨none, .mv 3 (.t 11), none, 0⟩]
def c92r3 : List SI := [
 ⟨none, .mv 4 (.i 1), none, 0⟩]
def c92r4 : List SI := [
 ⟨none, .mv 12 (.t 4), none, 0⟩,
 ⟨none, .mv 13 (.t 0), none, 0⟩,
 ⟨none, .len 14 false (.t 13), none, 0⟩,
 ⟨none, .bin 15 .lss (.t 12) (.t 14), none, 0⟩]
def c92r5 : List SI := [
 ⟨none, .mv 18 (.t 3), none, 0⟩,
 ⟨none, .mv 19 (.t 0), none, 0⟩,
 ⟨none, .mv 20 (.t 4), none, 0⟩,
 ⟨none, .ixA 21 (.t 19) (.t 20) 1, none, 0⟩,
 ⟨none, .ld 22 (.t 21) none, none, 0⟩,
 ⟨none, .mm 23 false (.t 18) (.t 22), none, 0⟩,
 ⟨none, .mv 3 (.t 23), none, 0⟩]
def c92r6 : List SI := [
 ⟨none, .mv 16 (.t 4), none, 0⟩,
 ⟨none, .bin 17 .add (.t 16) (.i 1), none, 0⟩,
 ⟨none, .mv 4 (.t 17), none, 0⟩]
def c92r7 : List SI := [
 ⟨none, .mv 24 (.t 3), none, 0⟩,
 ⟨none, .mv 2 (.t 24), none, 0⟩]
def c92 : SC :=
 (.seq (.reg false c92r0)
 (.seq (.seq (.reg false c92r1)
 (.cond (.t 7)
  .dead
  .skip))
 (.seq (.reg false c92r2)
 (.seq (.seq (.reg false c92r3)
 (.blk 0 (.loop (.seq (.seq (.reg false c92r4)
   (.cond (.t 15)
    .skip
    (.exit 0)))
   (.seq (.blk 1 (.reg false c92r5))
   (.reg false c92r6))))))
 (.seq (.reg false c92r7)
 .ret)))))
def v92 : List Nat × List Nat := ([], [])
def o92 : List RS := [.t 2]
theorem s92 : slimC Try.prog Try.f92.ntmps v92.1 v92.2 ((Try.f92.body).getD .skip) = some c92 := by kernel_rfl
theorem q92 : slimR Try.prog Try.f92.ntmps v92.1 v92.2 Try.f92.results.toList = some o92 := by kernel_rfl
-- slices.Max[[]int,int] N=25
def c93r0 : List SI := [
 ⟨none, .mv 2 (.i 0), none, 0⟩]
def c93r1 : List SI := [
 ⟨none, .mv 5 (.t 0), none, 0⟩,
 ⟨none, .len 6 false (.t 5), none, 0⟩,
 ⟨none, .bin 7 .lss (.t 6) (.i 1), none, 0⟩]
def c93r2 : List SI := [
 ⟨none, .mv 9 (.t 0), none, 0⟩,
 ⟨none, .ixA 10 (.t 9) (.i 0) 1, none, 0⟩,
 ⟨none, .ld 11 (.t 10) none, none, 0⟩,
 ⟨none, .mv 3 (.t 11), none, 0⟩]
def c93r3 : List SI := [
 ⟨none, .mv 4 (.i 1), none, 0⟩]
def c93r4 : List SI := [
 ⟨none, .mv 12 (.t 4), none, 0⟩,
 ⟨none, .mv 13 (.t 0), none, 0⟩,
 ⟨none, .len 14 false (.t 13), none, 0⟩,
 ⟨none, .bin 15 .lss (.t 12) (.t 14), none, 0⟩]
def c93r5 : List SI := [
 ⟨none, .mv 18 (.t 3), none, 0⟩,
 ⟨none, .mv 19 (.t 0), none, 0⟩,
 ⟨none, .mv 20 (.t 4), none, 0⟩,
 ⟨none, .ixA 21 (.t 19) (.t 20) 1, none, 0⟩,
 ⟨none, .ld 22 (.t 21) none, none, 0⟩,
 ⟨none, .mm 23 true (.t 18) (.t 22), none, 0⟩,
 ⟨none, .mv 3 (.t 23), none, 0⟩]
def c93r6 : List SI := [
 ⟨none, .mv 16 (.t 4), none, 0⟩,
 ⟨none, .bin 17 .add (.t 16) (.i 1), none, 0⟩,
 ⟨none, .mv 4 (.t 17), none, 0⟩]
def c93r7 : List SI := [
 ⟨none, .mv 24 (.t 3), none, 0⟩,
 ⟨none, .mv 2 (.t 24), none, 0⟩]
def c93 : SC :=
 (.seq (.reg false c93r0)
 (.seq (.seq (.reg false c93r1)
 (.cond (.t 7)
  .dead
  .skip))
 (.seq (.reg false c93r2)
 (.seq (.seq (.reg false c93r3)
 (.blk 0 (.loop (.seq (.seq (.reg false c93r4)
   (.cond (.t 15)
    .skip
    (.exit 0)))
   (.seq (.blk 1 (.reg false c93r5))
   (.reg false c93r6))))))
 (.seq (.reg false c93r7)
 .ret)))))
def v93 : List Nat × List Nat := ([], [])
def o93 : List RS := [.t 2]
theorem s93 : slimC Try.prog Try.f93.ntmps v93.1 v93.2 ((Try.f93.body).getD .skip) = some c93 := by kernel_rfl
theorem q93 : slimR Try.prog Try.f93.ntmps v93.1 v93.2 Try.f93.results.toList = some o93 := by kernel_rfl
-- watermeet/rec.in N=9
def c94r0 : List SI := [
 ⟨none, .mv 2 (.b false), none, 0⟩]
def c94r1 : List SI := [
 ⟨none, .mv 3 (.t 0), none, 0⟩,
 ⟨none, .bin 4 .geq (.t 3) (.i 0), none, 0⟩,
 ⟨none, .mv 5 (.t 4), none, 0⟩,
 ⟨some (5, true), .mv 6 (.t 0), none, 6⟩,
 ⟨some (5, true), .bin 7 .leq (.t 6) (.i 1099511627776), none, 7⟩,
 ⟨none, .pick 8 (.t 5) (.t 7) (.b false), none, 0⟩,
 ⟨none, .mv 2 (.t 8), none, 0⟩]
def c94 : SC :=
 (.seq (.reg false c94r0)
 (.seq (.reg false c94r1)
 .ret))
def v94 : List Nat × List Nat := ([], [])
def o94 : List RS := [.t 2]
theorem s94 : slimC Try.prog Try.f94.ntmps v94.1 v94.2 ((Try.f94.body).getD .skip) = some c94 := by kernel_rfl
theorem q94 : slimR Try.prog Try.f94.ntmps v94.1 v94.2 Try.f94.results.toList = some o94 := by kernel_rfl
-- slices.Clone[[]byte,byte] N=8
def c95r0 : List SI := [
 ⟨none, .mv 2 (.v (.slice none 0 0)), none, 0⟩]
def c95r1 : List SI := [
 ⟨none, .mv 3 (.t 0), none, 0⟩,
 ⟨none, .isn 4 false (.t 3), none, 0⟩]
def c95r2 : List SI := [
 ⟨none, .mv 2 (.v (.slice none 0 0)), none, 0⟩]
def c95r3 : List SI := [
 ⟨none, .bl0 5, none, 0⟩,
 ⟨none, .mv 6 (.t 0), none, 0⟩,
 ⟨none, .app 7 (.t 5) (.t 6) 5 1 1, none, 0⟩,
 ⟨none, .mv 2 (.t 7), none, 0⟩]
def c95 : SC :=
 (.seq (.reg false c95r0)
 (.seq (.seq (.reg false c95r1)
 (.cond (.t 4)
  (.seq (.reg false c95r2)
  .ret)
  .skip))
 (.seq (.reg false c95r3)
 .ret)))
def v95 : List Nat × List Nat := ([], [])
def o95 : List RS := [.t 2]
theorem s95 : slimC Try.prog Try.f95.ntmps v95.1 v95.2 ((Try.f95.body).getD .skip) = some c95 := by kernel_rfl
theorem q95 : slimR Try.prog Try.f95.ntmps v95.1 v95.2 Try.f95.results.toList = some o95 := by kernel_rfl
-- watermeet/octet.PutText N=11
def c96r0 : List SI := [
 ⟨none, .mv 4 (.v (.slice none 0 0)), none, 0⟩]
def c96r1 : List SI := [
 ⟨none, .mv 5 (.t 0), none, 0⟩,
 ⟨none, .mv 6 (.t 1), none, 0⟩,
 ⟨none, .len 7 true (.t 6), none, 0⟩,
 ⟨none, .call 8 74 [(.t 5), (.t 7)], none, 0⟩,
 ⟨none, .mv 9 (.t 1), none, 0⟩,
 ⟨none, .app 10 (.t 8) (.t 9) 5 1 1, none, 0⟩,
 ⟨none, .mv 4 (.t 10), none, 0⟩]
def c96 : SC :=
 (.seq (.reg false c96r0)
 (.seq (.reg false c96r1)
 .ret))
def v96 : List Nat × List Nat := ([], [])
def o96 : List RS := [.t 4]
theorem s96 : slimC Try.prog Try.f96.ntmps v96.1 v96.2 ((Try.f96.body).getD .skip) = some c96 := by kernel_rfl
theorem q96 : slimR Try.prog Try.f96.ntmps v96.1 v96.2 Try.f96.results.toList = some o96 := by kernel_rfl
-- watermeet/watermeetref04.in N=12
def c98r0 : List SI := [
 ⟨none, .bxR 1 (.t 0), none, 0⟩,
 ⟨none, .mv 2 (.i 0), none, 0⟩]
def c98r1 : List SI := [
 ⟨none, .nop, (some 1), 0⟩,
 ⟨none, .ldR 4 1 0 none, none, 0⟩,
 ⟨none, .call 5 100 [(.t 4)], none, 0⟩,
 ⟨none, .un 6 .not (.t 5), none, 0⟩,
 ⟨none, .mv 7 (.t 6), none, 0⟩,
 ⟨some (7, false), .nop, (some 1), 99999⟩,
 ⟨some (7, false), .ldR 9 1 4 none, none, 9⟩,
 ⟨some (7, false), .call 10 100 [(.t 9)], none, 10⟩,
 ⟨some (7, false), .un 11 .not (.t 10), none, 11⟩,
 ⟨none, .pick 12 (.t 7) (.b true) (.t 11), none, 0⟩,
 ⟨none, .mv 13 (.t 12), none, 0⟩,
 ⟨some (13, false), .nop, (some 1), 99999⟩,
 ⟨some (13, false), .ldR 15 1 1 none, none, 15⟩,
 ⟨some (13, false), .len 16 true (.t 15), none, 16⟩,
 ⟨some (13, false), .bin 17 .gtr (.t 16) (.i 64), none, 17⟩,
 ⟨none, .pick 18 (.t 13) (.b true) (.t 17), none, 0⟩,
 ⟨none, .mv 19 (.t 18), none, 0⟩,
 ⟨some (19, false), .nop, (some 1), 99999⟩,
 ⟨some (19, false), .ldR 21 1 2 none, none, 21⟩,
 ⟨some (19, false), .len 22 true (.t 21), none, 22⟩,
 ⟨some (19, false), .bin 23 .gtr (.t 22) (.i 64), none, 23⟩,
 ⟨none, .pick 24 (.t 19) (.b true) (.t 23), none, 0⟩,
 ⟨none, .mv 25 (.t 24), none, 0⟩,
 ⟨some (25, false), .nop, (some 1), 99999⟩,
 ⟨some (25, false), .ldR 27 1 3 none, none, 27⟩,
 ⟨some (25, false), .mv 28 (.t 27), none, 28⟩,
 ⟨some (28, true), .nop, (some 1), 99999⟩,
 ⟨some (28, true), .ldR 30 1 1 none, none, 30⟩,
 ⟨some (28, true), .bin 31 .eql (.t 30) (.v (.string ⟨#[]⟩)), none, 31⟩,
 ⟨some (28, true), .mv 32 (.t 31), none, 32⟩,
 ⟨some (32, false), .nop, (some 1), 99999⟩,
 ⟨some (32, false), .ldR 34 1 2 none, none, 34⟩,
 ⟨some (32, false), .bin 35 .neq (.t 34) (.v (.string ⟨#[]⟩)), none, 35⟩,
 ⟨some (28, true), .pick 36 (.t 32) (.b true) (.t 35), none, 36⟩,
 ⟨some (25, false), .pick 37 (.t 28) (.t 36) (.b false), none, 37⟩,
 ⟨none, .pick 38 (.t 25) (.b true) (.t 37), none, 0⟩]
def c98r2 : List SI := [
 ⟨none, .mv 2 (.i 1), none, 0⟩]
def c98r3 : List SI := [
 ⟨none, .mv 2 (.i 0), none, 0⟩]
def c98 : SC :=
 (.seq (.reg false c98r0)
 (.seq (.seq (.reg false c98r1)
 (.cond (.t 38)
  (.seq (.reg false c98r2)
  .ret)
  .skip))
 (.seq (.reg false c98r3)
 .ret)))
def v98 : List Nat × List Nat := ([1], [1, 3, 8, 14, 20, 26, 29, 33])
def o98 : List RS := [.t 2]
theorem s98 : slimC Try.prog Try.f98.ntmps v98.1 v98.2 ((Try.f98.body).getD .skip) = some c98 := by kernel_rfl
theorem q98 : slimR Try.prog Try.f98.ntmps v98.1 v98.2 Try.f98.results.toList = some o98 := by kernel_rfl
-- watermeet/watermeetref01.Copy N=5
def c99r0 : List SI := [
 ⟨none, .mv 2 (.v (.slice none 0 0)), none, 0⟩]
def c99r1 : List SI := [
 ⟨none, .mv 3 (.t 0), none, 0⟩,
 ⟨none, .app 4 (.v (.slice none 0 0)) (.t 3) 5 1 1, none, 0⟩,
 ⟨none, .mv 2 (.t 4), none, 0⟩]
def c99 : SC :=
 (.seq (.reg false c99r0)
 (.seq (.reg false c99r1)
 .ret))
def v99 : List Nat × List Nat := ([], [])
def o99 : List RS := [.t 2]
theorem s99 : slimC Try.prog Try.f99.ntmps v99.1 v99.2 ((Try.f99.body).getD .skip) = some c99 := by kernel_rfl
theorem q99 : slimR Try.prog Try.f99.ntmps v99.1 v99.2 Try.f99.results.toList = some o99 := by kernel_rfl
-- watermeet/watermeetref03.In N=9
def c100r0 : List SI := [
 ⟨none, .mv 2 (.b false), none, 0⟩]
def c100r1 : List SI := [
 ⟨none, .mv 3 (.t 0), none, 0⟩,
 ⟨none, .bin 4 .geq (.t 3) (.i 0), none, 0⟩,
 ⟨none, .mv 5 (.t 4), none, 0⟩,
 ⟨some (5, true), .mv 6 (.t 0), none, 6⟩,
 ⟨some (5, true), .bin 7 .leq (.t 6) (.i 1099511627776), none, 7⟩,
 ⟨none, .pick 8 (.t 5) (.t 7) (.b false), none, 0⟩,
 ⟨none, .mv 2 (.t 8), none, 0⟩]
def c100 : SC :=
 (.seq (.reg false c100r0)
 (.seq (.reg false c100r1)
 .ret))
def v100 : List Nat × List Nat := ([], [])
def o100 : List RS := [.t 2]
theorem s100 : slimC Try.prog Try.f100.ntmps v100.1 v100.2 ((Try.f100.body).getD .skip) = some c100 := by kernel_rfl
theorem q100 : slimR Try.prog Try.f100.ntmps v100.1 v100.2 Try.f100.results.toList = some o100 := by kernel_rfl
-- watermeet/watermeetref01.PutText N=11
def c101r0 : List SI := [
 ⟨none, .mv 4 (.v (.slice none 0 0)), none, 0⟩]
def c101r1 : List SI := [
 ⟨none, .mv 5 (.t 0), none, 0⟩,
 ⟨none, .mv 6 (.t 1), none, 0⟩,
 ⟨none, .len 7 true (.t 6), none, 0⟩,
 ⟨none, .call 8 79 [(.t 5), (.t 7)], none, 0⟩,
 ⟨none, .mv 9 (.t 1), none, 0⟩,
 ⟨none, .app 10 (.t 8) (.t 9) 5 1 1, none, 0⟩,
 ⟨none, .mv 4 (.t 10), none, 0⟩]
def c101 : SC :=
 (.seq (.reg false c101r0)
 (.seq (.reg false c101r1)
 .ret))
def v101 : List Nat × List Nat := ([], [])
def o101 : List RS := [.t 4]
theorem s101 : slimC Try.prog Try.f101.ntmps v101.1 v101.2 ((Try.f101.body).getD .skip) = some c101 := by kernel_rfl
theorem q101 : slimR Try.prog Try.f101.ntmps v101.1 v101.2 Try.f101.results.toList = some o101 := by kernel_rfl
-- watermeet/crc.adder N=13
def c102r0 : List SI := [
 ⟨none, .mv 0 (.v .nilFunc), none, 0⟩]
def c102r1 : List SI := [
 ⟨none, .al 1 [(.int .u32 0), (.int .u32 0), (.int .u32 0), (.int .u32 0), (.int .u32 0), (.int .u32 0), (.int .u32 0), (.int .u32 0), (.int .u32 0), (.int .u32 0), (.int .u32 0), (.int .u32 0), (.int .u32 0), (.int .u32 0), (.int .u32 0), (.int .u32 0)], none, 0⟩]
def c102r2 : List SI := [
 ⟨none, .mv 3 (.i 0), none, 0⟩]
def c102r3 : List SI := [
 ⟨none, .bin 4 .lss (.t 3) (.i 16), none, 0⟩]
def c102r4 : List SI := [
 ⟨none, .mv 5 (.t 3), none, 0⟩,
 ⟨none, .mv 2 (.t 5), none, 0⟩]
def c102r5 : List SI := [
 ⟨none, .mv 6 (.t 2), none, 0⟩,
 ⟨none, .mv 7 (.t 2), none, 0⟩,
 ⟨none, .cvI 8 .u32 (.t 7), none, 0⟩,
 ⟨none, .call 9 113 [(.t 8)], none, 0⟩,
 ⟨none, .ixP 10 (.t 1) (.t 6) 16 1, none, 0⟩,
 ⟨none, .st (.t 10) 1 (.t 9), none, 0⟩]
def c102r6 : List SI := [
 ⟨none, .bin 11 .add (.t 3) (.i 1), none, 0⟩,
 ⟨none, .mv 3 (.t 11), none, 0⟩]
def c102r7 : List SI := [
 ⟨none, .mkf 12 (.func 114) [(.t 1)], none, 0⟩,
 ⟨none, .mv 0 (.t 12), none, 0⟩]
def c102 : SC :=
 (.seq (.reg false c102r0)
 (.seq (.reg false c102r1)
 (.seq (.seq (.reg false c102r2)
 (.blk 0 (.loop (.seq (.reg false c102r3)
   (.seq (.cond (.t 4)
    .skip
    (.exit 0))
   (.seq (.blk 1 (.seq (.reg false c102r4)
    (.reg false c102r5)))
   (.reg false c102r6)))))))
 (.seq (.reg false c102r7)
 .ret))))
def v102 : List Nat × List Nat := ([], [])
def o102 : List RS := [.t 0]
theorem s102 : slimC Try.prog Try.f102.ntmps v102.1 v102.2 ((Try.f102.body).getD .skip) = some c102 := by kernel_rfl
theorem q102 : slimR Try.prog Try.f102.ntmps v102.1 v102.2 Try.f102.results.toList = some o102 := by kernel_rfl
-- watermeet/rec.Get$1 N=13
def c103r0 : List SI := [
 ⟨none, .mv 4 (.v (.string ⟨#[]⟩)), none, 0⟩,
 ⟨none, .mv 5 (.i 0), none, 0⟩,
 ⟨none, .mv 6 (.i 0), none, 0⟩]
def c103r1 : List SI := [
 ⟨none, .mv 7 (.t 0), none, 0⟩,
 ⟨none, .mv 8 (.t 1), none, 0⟩,
 ⟨none, .call 9 104 [(.t 7), (.t 8), (.i 64)], none, 0⟩,
 ⟨none, .ext 10 (.t 9) 0, none, 0⟩,
 ⟨none, .ext 11 (.t 9) 1, none, 0⟩,
 ⟨none, .ext 12 (.t 9) 2, none, 0⟩,
 ⟨none, .mv 4 (.t 10), none, 0⟩,
 ⟨none, .mv 5 (.t 11), none, 0⟩,
 ⟨none, .mv 6 (.t 12), none, 0⟩]
def c103 : SC :=
 (.seq (.reg false c103r0)
 (.seq (.reg false c103r1)
 .ret))
def v103 : List Nat × List Nat := ([], [])
def o103 : List RS := [.t 4, .t 5, .t 6]
theorem s103 : slimC Try.prog Try.f103.ntmps v103.1 v103.2 ((Try.f103.body).getD .skip) = some c103 := by kernel_rfl
theorem q103 : slimR Try.prog Try.f103.ntmps v103.1 v103.2 Try.f103.results.toList = some o103 := by kernel_rfl
-- watermeet/octet.GetText N=45
def c104r0 : List SI := [
 ⟨none, .mv 6 (.v (.string ⟨#[]⟩)), none, 0⟩,
 ⟨none, .mv 7 (.i 0), none, 0⟩,
 ⟨none, .mv 8 (.i 0), none, 0⟩]
def c104r1 : List SI := [
 ⟨none, .mv 11 (.t 0), none, 0⟩,
 ⟨none, .mv 12 (.t 1), none, 0⟩,
 ⟨none, .call 13 86 [(.t 11), (.t 12)], none, 0⟩,
 ⟨none, .mv 10 (.t 13), none, 0⟩,
 ⟨none, .ext 14 (.t 10) 0, none, 0⟩,
 ⟨none, .ext 15 (.t 10) 1, none, 0⟩,
 ⟨none, .ext 16 (.t 10) 2, none, 0⟩,
 ⟨none, .mv 9 (.t 14), none, 0⟩,
 ⟨none, .mv 7 (.t 15), none, 0⟩,
 ⟨none, .mv 8 (.t 16), none, 0⟩]
def c104r2 : List SI := [
 ⟨none, .mv 18 (.t 8), none, 0⟩,
 ⟨none, .bin 19 .neq (.t 18) (.i 0), none, 0⟩,
 ⟨none, .mv 17 (.t 19), none, 0⟩]
def c104r3 : List SI := [
 ⟨none, .mv 20 (.t 8), none, 0⟩,
 ⟨none, .mv 6 (.v (.string ⟨#[]⟩)), none, 0⟩,
 ⟨none, .mv 7 (.i 0), none, 0⟩,
 ⟨none, .mv 8 (.t 20), none, 0⟩]
def c104r4 : List SI := [
 ⟨none, .mv 22 (.t 9), none, 0⟩,
 ⟨none, .bin 23 .lss (.t 22) (.i 0), none, 0⟩,
 ⟨none, .mv 21 (.t 23), none, 0⟩]
def c104r5 : List SI := [
 ⟨none, .mv 6 (.v (.string ⟨#[]⟩)), none, 0⟩,
 ⟨none, .mv 7 (.i 0), none, 0⟩,
 ⟨none, .mv 8 (.i 11), none, 0⟩]
def c104r6 : List SI := [
 ⟨none, .mv 25 (.t 9), none, 0⟩,
 ⟨none, .mv 26 (.t 2), none, 0⟩,
 ⟨none, .bin 27 .gtr (.t 25) (.t 26), none, 0⟩,
 ⟨none, .mv 24 (.t 27), none, 0⟩]
def c104r7 : List SI := [
 ⟨none, .mv 6 (.v (.string ⟨#[]⟩)), none, 0⟩,
 ⟨none, .mv 7 (.i 0), none, 0⟩,
 ⟨none, .mv 8 (.i 2), none, 0⟩]
def c104r8 : List SI := [
 ⟨none, .mv 29 (.t 9), none, 0⟩,
 ⟨none, .mv 30 (.t 0), none, 0⟩,
 ⟨none, .len 31 false (.t 30), none, 0⟩,
 ⟨none, .mv 32 (.t 7), none, 0⟩,
 ⟨none, .bin 33 .sub (.t 31) (.t 32), none, 0⟩,
 ⟨none, .bin 34 .gtr (.t 29) (.t 33), none, 0⟩,
 ⟨none, .mv 28 (.t 34), none, 0⟩]
def c104r9 : List SI := [
 ⟨none, .mv 6 (.v (.string ⟨#[]⟩)), none, 0⟩,
 ⟨none, .mv 7 (.i 0), none, 0⟩,
 ⟨none, .mv 8 (.i 10), none, 0⟩]
def c104r10 : List SI := [
 ⟨none, .mv 35 (.t 0), none, 0⟩,
 ⟨none, .mv 36 (.t 7), none, 0⟩,
 ⟨none, .mv 37 (.t 7), none, 0⟩,
 ⟨none, .mv 38 (.t 9), none, 0⟩,
 ⟨none, .bin 39 .add (.t 37) (.t 38), none, 0⟩,
 ⟨none, .sl 40 (.t 35) (some (.t 36)) (some (.t 39)) none 1, none, 0⟩,
 ⟨none, .cvS 41 (.t 40), none, 0⟩,
 ⟨none, .mv 42 (.t 7), none, 0⟩,
 ⟨none, .mv 43 (.t 9), none, 0⟩,
 ⟨none, .bin 44 .add (.t 42) (.t 43), none, 0⟩,
 ⟨none, .mv 6 (.t 41), none, 0⟩,
 ⟨none, .mv 7 (.t 44), none, 0⟩,
 ⟨none, .mv 8 (.i 0), none, 0⟩]
def c104 : SC :=
 (.seq (.reg false c104r0)
 (.seq (.reg false c104r1)
 (.seq (.blk 0 (.seq (.reg false c104r2)
  (.cond (.t 17)
   (.seq (.reg false c104r3)
   .ret)
   (.seq (.reg false c104r4)
   (.cond (.t 21)
    (.seq (.reg false c104r5)
    .ret)
    (.seq (.reg false c104r6)
    (.cond (.t 24)
     (.seq (.reg false c104r7)
     .ret)
     (.seq (.reg false c104r8)
     (.cond (.t 28)
      (.seq (.reg false c104r9)
      .ret)
      .skip)))))))))
 (.seq (.reg false c104r10)
 .ret))))
def v104 : List Nat × List Nat := ([], [])
def o104 : List RS := [.t 6, .t 7, .t 8]
theorem s104 : slimC Try.prog Try.f104.ntmps v104.1 v104.2 ((Try.f104.body).getD .skip) = some c104 := by kernel_rfl
theorem q104 : slimR Try.prog Try.f104.ntmps v104.1 v104.2 Try.f104.results.toList = some o104 := by kernel_rfl
-- watermeet/rec.beside N=14
def c105r0 : List SI := [
 ⟨none, .mv 4 (.i 0), none, 0⟩]
def c105r1 : List SI := [
 ⟨none, .mv 5 (.t 1), none, 0⟩,
 ⟨none, .bin 6 .lss (.t 5) (.i (-1099511627776)), none, 0⟩,
 ⟨none, .mv 7 (.t 6), none, 0⟩,
 ⟨some (7, false), .mv 8 (.t 1), none, 8⟩,
 ⟨some (7, false), .bin 9 .gtr (.t 8) (.i 1099511627776), none, 9⟩,
 ⟨none, .pick 10 (.t 7) (.b true) (.t 9), none, 0⟩]
def c105r2 : List SI := [
 ⟨none, .mv 4 (.i (-1)), none, 0⟩]
def c105r3 : List SI := [
 ⟨none, .mv 11 (.t 0), none, 0⟩,
 ⟨none, .mv 12 (.t 1), none, 0⟩,
 ⟨none, .bin 13 .add (.t 11) (.t 12), none, 0⟩,
 ⟨none, .mv 4 (.t 13), none, 0⟩]
def c105 : SC :=
 (.seq (.reg false c105r0)
 (.seq (.seq (.reg false c105r1)
 (.cond (.t 10)
  (.seq (.reg false c105r2)
  .ret)
  .skip))
 (.seq (.reg false c105r3)
 .ret)))
def v105 : List Nat × List Nat := ([], [])
def o105 : List RS := [.t 4]
theorem s105 : slimC Try.prog Try.f105.ntmps v105.1 v105.2 ((Try.f105.body).getD .skip) = some c105 := by kernel_rfl
theorem q105 : slimR Try.prog Try.f105.ntmps v105.1 v105.2 Try.f105.results.toList = some o105 := by kernel_rfl
-- watermeet/rec.field[int] N=32
def c106r0 : List SI := [
 ⟨none, .mv 4 (.i 0), none, 0⟩]
def c106r1 : List SI := [
 ⟨none, .mv 5 (.i 0), none, 0⟩]
def c106r2 : List SI := [
 ⟨none, .mv 6 (.t 0), none, 0⟩,
 ⟨none, .nck 7 (.t 6), none, 0⟩,
 ⟨none, .flA 8 (.t 7) 2, none, 0⟩,
 ⟨none, .ld 9 (.t 8) none, none, 0⟩,
 ⟨none, .bin 10 .eql (.t 9) (.i 0), none, 0⟩]
def c106r3 : List WI := [
 (true, false, ⟨none, .mv 12 (.t 0), none, 0⟩),
 (true, false, ⟨none, .mv 13 (.t 0), none, 0⟩),
 (true, false, ⟨none, .mv 14 (.t 1), none, 0⟩),
 (true, false, ⟨none, .mv 15 (.t 0), none, 0⟩),
 (true, false, ⟨none, .nck 16 (.t 15), none, 0⟩),
 (true, false, ⟨none, .flA 17 (.t 16) 0, none, 0⟩),
 (true, false, ⟨none, .ld 18 (.t 17) none, none, 0⟩),
 (true, false, ⟨none, .mv 19 (.t 0), none, 0⟩),
 (true, false, ⟨none, .nck 20 (.t 19), none, 0⟩),
 (true, false, ⟨none, .flA 21 (.t 20) 1, none, 0⟩),
 (true, false, ⟨none, .ld 22 (.t 21) none, none, 0⟩),
 (false, true, ⟨none, .cav 23 (.t 14) [(.t 18), (.t 22)], none, 0⟩),
 (true, false, ⟨none, .mv 11 (.t 23), none, 0⟩),
 (true, false, ⟨none, .ext 24 (.t 11) 0, none, 0⟩),
 (true, false, ⟨none, .ext 25 (.t 11) 1, none, 0⟩),
 (true, false, ⟨none, .ext 26 (.t 11) 2, none, 0⟩),
 (true, false, ⟨none, .mv 5 (.t 24), none, 0⟩),
 (true, false, ⟨none, .nck 27 (.t 12), none, 0⟩),
 (true, false, ⟨none, .flA 28 (.t 27) 1, none, 0⟩),
 (false, true, ⟨none, .st (.t 28) 1 (.t 25), none, 0⟩),
 (true, false, ⟨none, .nck 29 (.t 13), none, 0⟩),
 (true, false, ⟨none, .flA 30 (.t 29) 2, none, 0⟩),
 (false, true, ⟨none, .st (.t 30) 1 (.t 26), none, 0⟩)]
def c106r4 : List SI := [
 ⟨none, .mv 31 (.t 5), none, 0⟩,
 ⟨none, .mv 4 (.t 31), none, 0⟩]
def c106 : SC :=
 (.seq (.reg false c106r0)
 (.seq (.reg false c106r1)
 (.seq (.seq (.reg false c106r2)
 (.cond (.t 10)
  (.rgW c106r3)
  .skip))
 (.seq (.reg false c106r4)
 .ret))))
def v106 : List Nat × List Nat := ([], [])
def o106 : List RS := [.t 4]
theorem s106 : slimC Try.prog Try.f106.ntmps v106.1 v106.2 ((Try.f106.body).getD .skip) = some c106 := by kernel_rfl
theorem q106 : slimR Try.prog Try.f106.ntmps v106.1 v106.2 Try.f106.results.toList = some o106 := by kernel_rfl
-- watermeet/rec.field[bool] N=32
def c107r0 : List SI := [
 ⟨none, .mv 4 (.b false), none, 0⟩]
def c107r1 : List SI := [
 ⟨none, .mv 5 (.b false), none, 0⟩]
def c107r2 : List SI := [
 ⟨none, .mv 6 (.t 0), none, 0⟩,
 ⟨none, .nck 7 (.t 6), none, 0⟩,
 ⟨none, .flA 8 (.t 7) 2, none, 0⟩,
 ⟨none, .ld 9 (.t 8) none, none, 0⟩,
 ⟨none, .bin 10 .eql (.t 9) (.i 0), none, 0⟩]
def c107r3 : List WI := [
 (true, false, ⟨none, .mv 12 (.t 0), none, 0⟩),
 (true, false, ⟨none, .mv 13 (.t 0), none, 0⟩),
 (true, false, ⟨none, .mv 14 (.t 1), none, 0⟩),
 (true, false, ⟨none, .mv 15 (.t 0), none, 0⟩),
 (true, false, ⟨none, .nck 16 (.t 15), none, 0⟩),
 (true, false, ⟨none, .flA 17 (.t 16) 0, none, 0⟩),
 (true, false, ⟨none, .ld 18 (.t 17) none, none, 0⟩),
 (true, false, ⟨none, .mv 19 (.t 0), none, 0⟩),
 (true, false, ⟨none, .nck 20 (.t 19), none, 0⟩),
 (true, false, ⟨none, .flA 21 (.t 20) 1, none, 0⟩),
 (true, false, ⟨none, .ld 22 (.t 21) none, none, 0⟩),
 (false, true, ⟨none, .cav 23 (.t 14) [(.t 18), (.t 22)], none, 0⟩),
 (true, false, ⟨none, .mv 11 (.t 23), none, 0⟩),
 (true, false, ⟨none, .ext 24 (.t 11) 0, none, 0⟩),
 (true, false, ⟨none, .ext 25 (.t 11) 1, none, 0⟩),
 (true, false, ⟨none, .ext 26 (.t 11) 2, none, 0⟩),
 (true, false, ⟨none, .mv 5 (.t 24), none, 0⟩),
 (true, false, ⟨none, .nck 27 (.t 12), none, 0⟩),
 (true, false, ⟨none, .flA 28 (.t 27) 1, none, 0⟩),
 (false, true, ⟨none, .st (.t 28) 1 (.t 25), none, 0⟩),
 (true, false, ⟨none, .nck 29 (.t 13), none, 0⟩),
 (true, false, ⟨none, .flA 30 (.t 29) 2, none, 0⟩),
 (false, true, ⟨none, .st (.t 30) 1 (.t 26), none, 0⟩)]
def c107r4 : List SI := [
 ⟨none, .mv 31 (.t 5), none, 0⟩,
 ⟨none, .mv 4 (.t 31), none, 0⟩]
def c107 : SC :=
 (.seq (.reg false c107r0)
 (.seq (.reg false c107r1)
 (.seq (.seq (.reg false c107r2)
 (.cond (.t 10)
  (.rgW c107r3)
  .skip))
 (.seq (.reg false c107r4)
 .ret))))
def v107 : List Nat × List Nat := ([], [])
def o107 : List RS := [.t 4]
theorem s107 : slimC Try.prog Try.f107.ntmps v107.1 v107.2 ((Try.f107.body).getD .skip) = some c107 := by kernel_rfl
theorem q107 : slimR Try.prog Try.f107.ntmps v107.1 v107.2 Try.f107.results.toList = some o107 := by kernel_rfl
-- watermeet/rec.flag N=25
def c108r0 : List SI := [
 ⟨none, .mv 4 (.b false), none, 0⟩,
 ⟨none, .mv 5 (.i 0), none, 0⟩,
 ⟨none, .mv 6 (.i 0), none, 0⟩]
def c108r1 : List SI := [
 ⟨none, .mv 8 (.t 1), none, 0⟩,
 ⟨none, .mv 9 (.t 0), none, 0⟩,
 ⟨none, .len 10 false (.t 9), none, 0⟩,
 ⟨none, .bin 11 .geq (.t 8) (.t 10), none, 0⟩,
 ⟨none, .mv 7 (.t 11), none, 0⟩]
def c108r2 : List SI := [
 ⟨none, .mv 4 (.b false), none, 0⟩,
 ⟨none, .mv 5 (.i 0), none, 0⟩,
 ⟨none, .mv 6 (.i 10), none, 0⟩]
def c108r3 : List SI := [
 ⟨none, .mv 13 (.t 0), none, 0⟩,
 ⟨none, .mv 14 (.t 1), none, 0⟩,
 ⟨none, .ixA 15 (.t 13) (.t 14) 1, none, 0⟩,
 ⟨none, .ld 16 (.t 15) none, none, 0⟩,
 ⟨none, .bin 17 .gtr (.t 16) (.v (.int .u8 1)), none, 0⟩,
 ⟨none, .mv 12 (.t 17), none, 0⟩]
def c108r4 : List SI := [
 ⟨none, .mv 4 (.b false), none, 0⟩,
 ⟨none, .mv 5 (.i 0), none, 0⟩,
 ⟨none, .mv 6 (.i 11), none, 0⟩]
def c108r5 : List SI := [
 ⟨none, .mv 18 (.t 0), none, 0⟩,
 ⟨none, .mv 19 (.t 1), none, 0⟩,
 ⟨none, .ixA 20 (.t 18) (.t 19) 1, none, 0⟩,
 ⟨none, .ld 21 (.t 20) none, none, 0⟩,
 ⟨none, .bin 22 .eql (.t 21) (.v (.int .u8 1)), none, 0⟩,
 ⟨none, .mv 23 (.t 1), none, 0⟩,
 ⟨none, .bin 24 .add (.t 23) (.i 1), none, 0⟩,
 ⟨none, .mv 4 (.t 22), none, 0⟩,
 ⟨none, .mv 5 (.t 24), none, 0⟩,
 ⟨none, .mv 6 (.i 0), none, 0⟩]
def c108 : SC :=
 (.seq (.reg false c108r0)
 (.seq (.blk 0 (.seq (.reg false c108r1)
  (.cond (.t 7)
   (.seq (.reg false c108r2)
   .ret)
   (.seq (.reg false c108r3)
   (.cond (.t 12)
    (.seq (.reg false c108r4)
    .ret)
    .skip)))))
 (.seq (.reg false c108r5)
 .ret)))
def v108 : List Nat × List Nat := ([], [])
def o108 : List RS := [.t 4, .t 5, .t 6]
theorem s108 : slimC Try.prog Try.f108.ntmps v108.1 v108.2 ((Try.f108.body).getD .skip) = some c108 := by kernel_rfl
theorem q108 : slimR Try.prog Try.f108.ntmps v108.1 v108.2 Try.f108.results.toList = some o108 := by kernel_rfl
-- watermeet/rec.field[string] N=32
def c109r0 : List SI := [
 ⟨none, .mv 4 (.v (.string ⟨#[]⟩)), none, 0⟩]
def c109r1 : List SI := [
 ⟨none, .mv 5 (.v (.string ⟨#[]⟩)), none, 0⟩]
def c109r2 : List SI := [
 ⟨none, .mv 6 (.t 0), none, 0⟩,
 ⟨none, .nck 7 (.t 6), none, 0⟩,
 ⟨none, .flA 8 (.t 7) 2, none, 0⟩,
 ⟨none, .ld 9 (.t 8) none, none, 0⟩,
 ⟨none, .bin 10 .eql (.t 9) (.i 0), none, 0⟩]
def c109r3 : List WI := [
 (true, false, ⟨none, .mv 12 (.t 0), none, 0⟩),
 (true, false, ⟨none, .mv 13 (.t 0), none, 0⟩),
 (true, false, ⟨none, .mv 14 (.t 1), none, 0⟩),
 (true, false, ⟨none, .mv 15 (.t 0), none, 0⟩),
 (true, false, ⟨none, .nck 16 (.t 15), none, 0⟩),
 (true, false, ⟨none, .flA 17 (.t 16) 0, none, 0⟩),
 (true, false, ⟨none, .ld 18 (.t 17) none, none, 0⟩),
 (true, false, ⟨none, .mv 19 (.t 0), none, 0⟩),
 (true, false, ⟨none, .nck 20 (.t 19), none, 0⟩),
 (true, false, ⟨none, .flA 21 (.t 20) 1, none, 0⟩),
 (true, false, ⟨none, .ld 22 (.t 21) none, none, 0⟩),
 (false, true, ⟨none, .cav 23 (.t 14) [(.t 18), (.t 22)], none, 0⟩),
 (true, false, ⟨none, .mv 11 (.t 23), none, 0⟩),
 (true, false, ⟨none, .ext 24 (.t 11) 0, none, 0⟩),
 (true, false, ⟨none, .ext 25 (.t 11) 1, none, 0⟩),
 (true, false, ⟨none, .ext 26 (.t 11) 2, none, 0⟩),
 (true, false, ⟨none, .mv 5 (.t 24), none, 0⟩),
 (true, false, ⟨none, .nck 27 (.t 12), none, 0⟩),
 (true, false, ⟨none, .flA 28 (.t 27) 1, none, 0⟩),
 (false, true, ⟨none, .st (.t 28) 1 (.t 25), none, 0⟩),
 (true, false, ⟨none, .nck 29 (.t 13), none, 0⟩),
 (true, false, ⟨none, .flA 30 (.t 29) 2, none, 0⟩),
 (false, true, ⟨none, .st (.t 30) 1 (.t 26), none, 0⟩)]
def c109r4 : List SI := [
 ⟨none, .mv 31 (.t 5), none, 0⟩,
 ⟨none, .mv 4 (.t 31), none, 0⟩]
def c109 : SC :=
 (.seq (.reg false c109r0)
 (.seq (.reg false c109r1)
 (.seq (.seq (.reg false c109r2)
 (.cond (.t 10)
  (.rgW c109r3)
  .skip))
 (.seq (.reg false c109r4)
 .ret))))
def v109 : List Nat × List Nat := ([], [])
def o109 : List RS := [.t 4]
theorem s109 : slimC Try.prog Try.f109.ntmps v109.1 v109.2 ((Try.f109.body).getD .skip) = some c109 := by kernel_rfl
theorem q109 : slimR Try.prog Try.f109.ntmps v109.1 v109.2 Try.f109.results.toList = some o109 := by kernel_rfl
-- watermeet/watermeetref02.steps N=14
def c113r0 : List SI := [
 ⟨none, .mv 2 (.v (.int .u32 0)), none, 0⟩]
def c113r1 : List SI := [
 ⟨none, .mv 3 (.i 0), none, 0⟩]
def c113r2 : List SI := [
 ⟨none, .bin 4 .lss (.t 3) (.i 4), none, 0⟩]
def c113r3 : List SI := [
 ⟨none, .mv 5 (.t 0), none, 0⟩,
 ⟨none, .bin 6 .shr (.t 5) (.v (.int .u64 1)), none, 0⟩,
 ⟨none, .mv 7 (.t 0), none, 0⟩,
 ⟨none, .bin 8 .and (.t 7) (.v (.int .u32 1)), none, 0⟩,
 ⟨none, .un 9 .neg (.t 8), none, 0⟩,
 ⟨none, .bin 10 .and (.v (.int .u32 3988292384)) (.t 9), none, 0⟩,
 ⟨none, .bin 11 .xor (.t 6) (.t 10), none, 0⟩,
 ⟨none, .mv 0 (.t 11), none, 0⟩]
def c113r4 : List SI := [
 ⟨none, .bin 12 .add (.t 3) (.i 1), none, 0⟩,
 ⟨none, .mv 3 (.t 12), none, 0⟩]
def c113r5 : List SI := [
 ⟨none, .mv 13 (.t 0), none, 0⟩,
 ⟨none, .mv 2 (.t 13), none, 0⟩]
def c113 : SC :=
 (.seq (.reg false c113r0)
 (.seq (.seq (.reg false c113r1)
 (.blk 0 (.loop (.seq (.reg false c113r2)
   (.seq (.cond (.t 4)
    .skip
    (.exit 0))
   (.seq (.blk 1 (.reg false c113r3))
   (.reg false c113r4)))))))
 (.seq (.reg false c113r5)
 .ret)))
def v113 : List Nat × List Nat := ([], [])
def o113 : List RS := [.t 2]
theorem s113 : slimC Try.prog Try.f113.ntmps v113.1 v113.2 ((Try.f113.body).getD .skip) = some c113 := by kernel_rfl
theorem q113 : slimR Try.prog Try.f113.ntmps v113.1 v113.2 Try.f113.results.toList = some o113 := by kernel_rfl
-- watermeet/crc.adder$1 N=24
def c114r0 : List SI := [
 ⟨none, .mv 5 (.v (.int .u32 0)), none, 0⟩]
def c114r1 : List SI := [
 ⟨none, .mv 6 (.t 0), none, 0⟩,
 ⟨none, .mv 7 (.t 1), none, 0⟩,
 ⟨none, .cvI 8 .u32 (.t 7), none, 0⟩,
 ⟨none, .bin 9 .xor (.t 6) (.t 8), none, 0⟩,
 ⟨none, .mv 0 (.t 9), none, 0⟩]
def c114r2 : List SI := [
 ⟨none, .mv 10 (.t 0), none, 0⟩,
 ⟨none, .bin 11 .and (.t 10) (.v (.int .u32 15)), none, 0⟩,
 ⟨none, .ixP 12 (.t 2) (.t 11) 16 1, none, 0⟩,
 ⟨none, .ld 13 (.t 12) none, none, 0⟩,
 ⟨none, .mv 14 (.t 0), none, 0⟩,
 ⟨none, .bin 15 .shr (.t 14) (.v (.int .u64 4)), none, 0⟩,
 ⟨none, .bin 16 .xor (.t 13) (.t 15), none, 0⟩,
 ⟨none, .mv 0 (.t 16), none, 0⟩]
def c114r3 : List SI := [
 ⟨none, .mv 17 (.t 0), none, 0⟩,
 ⟨none, .bin 18 .and (.t 17) (.v (.int .u32 15)), none, 0⟩,
 ⟨none, .ixP 19 (.t 2) (.t 18) 16 1, none, 0⟩,
 ⟨none, .ld 20 (.t 19) none, none, 0⟩,
 ⟨none, .mv 21 (.t 0), none, 0⟩,
 ⟨none, .bin 22 .shr (.t 21) (.v (.int .u64 4)), none, 0⟩,
 ⟨none, .bin 23 .xor (.t 20) (.t 22), none, 0⟩,
 ⟨none, .mv 5 (.t 23), none, 0⟩]
def c114 : SC :=
 (.seq (.reg false c114r0)
 (.seq (.reg false c114r1)
 (.seq (.reg false c114r2)
 (.seq (.reg false c114r3)
 .ret))))
def v114 : List Nat × List Nat := ([], [])
def o114 : List RS := [.t 5]
theorem s114 : slimC Try.prog Try.f114.ntmps v114.1 v114.2 ((Try.f114.body).getD .skip) = some c114 := by kernel_rfl
theorem q114 : slimR Try.prog Try.f114.ntmps v114.1 v114.2 Try.f114.results.toList = some o114 := by kernel_rfl
-- watermeet/watermeetref02.step N=11
theorem F99 : Fun Try.prog 99 5 v99 c99 o99 := Fun.mk' Try.func99 Try.ntmps99 (by kernel_rfl) (by kernel_rfl) s99 q99
theorem F95 : Fun Try.prog 95 8 v95 c95 o95 := Fun.mk' Try.func95 Try.ntmps95 (by kernel_rfl) (by kernel_rfl) s95 q95
def UE (x : UInt8) (cs : List Value) : Prop := cs = [.int .u8 (x.toNat : Int)]
theorem UE1 : ∀ (x : UInt8) cs, UE x cs → ∀ u ∈ cs, u.oneCell' = true := fun x cs h u hu => by
 rw [h] at hu
 simp at hu
 subst hu
 rfl
abbrev SB (G : Nat → Option Obj) (v : Value) (l : List UInt8) : Prop := SlV G UE 1 v l
abbrev OwnB (zs : List UInt8) (L' : List Kx.Item) (r : Value) : Prop := OwnL UE 5 1 zs L' r
theorem SB.le {G G' : Nat → Option Obj} {v : Value} {l : List UInt8} (h : SB G v l) (hg : Gle G G') : SB G' v l := SlV.le h hg fun _ _ h => h
def cellB (l : List UInt8) : List Value := l.map fun b => .int .u8 (b.toNat : Int)
theorem cells_b : ∀ (l : List UInt8), Cells UE 1 l (cellB l)
 | [] => .nil
 | b :: l => .cons (cs := [.int .u8 (b.toNat : Int)]) rfl rfl (cells_b l)
theorem byteCells_b (s : ByteArray) : byteCells s = cellB s.data.toList := rfl
theorem app8 {P : Program} {h : H} {d : Nat} {l : List SI} {e : Env} {K : Env → H → Prop} {u : Value} {b : Nat} {zs : List UInt8} {zc : List Value} {L1 L2 : List Kx.Item} {x : UInt8} {y : Int} (hL : h.L = .row (.slice (some ⟨b, 0, none⟩) 1 1) 5 1 1 [.int .u8 y] :: L1 ++ .row u 5 1 zs.length zc :: L2) (hy : y = (x.toNat : Int))
   (hc : Cells UE 1 zs zc) (hz : zs.length ≤ 10000000)
   (hk : ∀ A' c' zc', Cells UE 1 (zs ++ [x]) zc' → kR P l d e K (.slice A' (zs ++ [x]).length c') ⟨h.G, .row (.slice (some ⟨b, 0, none⟩) 1 1) 5 1 1 [.int .u8 y] :: L1 ++ .row (.slice A' (zs ++ [x]).length c') 5 1 (zs ++ [x]).length zc' :: L2, h.D⟩) :
   apX P u (.slice (some ⟨b, 0, none⟩) 1 1) 5 1 1 d l e h K := by
 subst hy
 refine ⟨.row (.slice (some ⟨b, 0, none⟩) 1 1) 5 1 1 [.int .u8 (x.toNat : Int)] :: L1, zs.length, zc, L2, 1, [.int .u8 (x.toNat : Int)], .inl hL, srcH_row (h := h) (by rw [hL]; exact .head _) (UE1 x _ rfl) rfl, by unfold maxLen; omega, fun A' c' => ?_⟩
 have := hk A' c' (zc ++ [.int .u8 (x.toNat : Int)]) (hc.app (.one (show UE x [.int .u8 (x.toNat : Int)] from rfl) rfl))
 simp only [List.length_append, List.length_cons, List.length_nil, Nat.zero_add] at this
 exact this
theorem apX_s {P : Program} {h : H} {d : Nat} {l : List SI} {e : Env} {K : Env → H → Prop} {u : Value} {s : ByteArray} {zs : List UInt8} {zc : List Value} {L1 L2 : List Kx.Item} (hr : RowAt h.L u 5 1 L1 zs.length zc L2) (hc : Cells UE 1 zs zc) (hz : zs.length + s.size ≤ 10000000)
   (hk : ∀ A' c' zc', Cells UE 1 (zs ++ s.data.toList) zc' → kR P l d e K (.slice A' (zs ++ s.data.toList).length c') { h with L := L1 ++ .row (.slice A' (zs ++ s.data.toList).length c') 5 1 (zs ++ s.data.toList).length zc' :: L2 }) :
   apX P u (.string s) 5 1 1 d l e h K := by
 refine ⟨L1, zs.length, zc, L2, s.size, cellB s.data.toList, hr, ⟨fun u hu => ?_, ?_, .inr (.inr ⟨s, rfl, rfl, byteCells_b s, rfl⟩)⟩, by unfold maxLen; omega, fun A' c' => ?_⟩
 · simp [cellB] at hu; obtain ⟨_, _, rfl⟩ := hu; rfl
 · simp [cellB]
 · have := hk A' c' (zc ++ cellB s.data.toList) (hc.app (cells_b _))
   rw [List.length_append] at this
   exact this
theorem bin_mul (k : IntKind) (a b : Int) : binV .mul (.int k a) (.int k b) = some (.int k (k.wrap (a * b))) := by simp [binV]
theorem bin_add (k : IntKind) (a b : Int) : binV .add (.int k a) (.int k b) = some (.int k (k.wrap (a + b))) := by simp [binV]
theorem bin_quo (k : IntKind) (a b : Nat) (hb : b ≠ 0) (ha : (a : Int) ≤ k.max) (hk : k.signed = false) : binV .quo (.int k a) (.int k b) = some (.int k ((a / b : Nat) : Int)) := by
 have h1 : ¬ (b : Int) = 0 := by omega
 have h2 : k.wrap (((a / b : Nat) : Int)) = ((a / b : Nat) : Int) := by
   have hq := Nat.div_le_self a b
   generalize a / b = q at hq ⊢
   cases k <;> simp [IntKind.signed] at hk <;> simp [IntKind.max, IntKind.signed, IntKind.bits] at ha <;> simp only [IntKind.wrap, IntKind.signed, IntKind.bits] <;> simp <;> omega
 simp only [binV]
 rw [if_pos trivial, if_neg h1]
 have : (a : Int).tdiv (b : Int) = ((a / b : Nat) : Int) := by rw [Int.tdiv_eq_ediv_of_nonneg (by omega)]; rfl
 rw [this, h2]
theorem bin_rem (k : IntKind) (a b : Nat) (hb : b ≠ 0) : binV .rem (.int k a) (.int k b) = some (.int k ((a % b : Nat) : Int)) := by
 have h1 : ¬ (b : Int) = 0 := by omega
 simp only [binV]
 rw [if_pos trivial, if_neg h1]
 have : (a : Int).tmod (b : Int) = ((a % b : Nat) : Int) := by rw [Int.tmod_eq_emod_of_nonneg (by omega)]; rfl
 rw [this]
theorem callsH_gx {P : Program} {f : FuncId} {args : Array Value} {h : H} {M : H → Prop} {R : Value → H → Prop} (hE : Enters P f) (hg : GhostX h M) (hc : ∀ h', M h' → CallsH P f args h' R) : CallsH P f args h R :=
 ⟨hE, fun β w hs => by
   obtain ⟨h1, m, s1, t1, d1, r1⟩ := hg β w hs
   exact ((hc h1 m).2 β w s1).mono fun _ _ ⟨v, h2, a, ⟨b1, b2⟩, c, d, r⟩ => ⟨v, h2, a, ⟨b1.trans d1, r1.trans b2⟩, c, t1.trans d, r⟩⟩
theorem SB.nil {G : Nat → Option Obj} : SB G (.slice none 0 0) [] := ⟨none, 0, rfl, Nat.le_refl _, Nat.zero_le _, fun i x hx => by simp at hx⟩
theorem Copy_ok (l : List UInt8) (v : Value) (G : Nat → Option Obj) (hl : SB G v l) (hb : l.length ≤ 1000000) :
   FnO Try.prog 99 #[v] G [] (fun _ L' r => OwnB l L' r) := by
 refine F99.fnO (by simp) noRegs_nil (go_of ?_)
 unfold c99
 (intros; try refine go_st ?_); refine go_r 0 0 (by decide) ?_; (refine sJ c99r0.eq_1 ?_; try with_reducible exact True.intro)
 (intros; try refine go_st ?_); refine go_r 3 5 (by decide) ?_; (refine sJ c99r1.eq_1 ?_; try with_reducible exact True.intro)
 refine apX_v (.inr ⟨⟨none, rfl⟩, rfl, rfl, rfl, rfl⟩) hl rfl UE1 (by unfold maxLen; omega) fun ys A c hc => ?_
 simp only [Nat.zero_add]
 (refine sI ?_; try with_reducible exact True.intro)
 (intros; try refine go_st ?_)
 refine go_ret (retQ_o _ rfl (List.Sublist.refl _) (noRegs_row noRegs_nil) ?_)
 exact ⟨ys, hc, rfl⟩
theorem Clone_ok (l : List UInt8) (v : Value) (G : Nat → Option Obj) (hl : SB G v l) (hb : l.length ≤ 1000000) :
   FnO Try.prog 95 #[v] G [] (fun _ L' r => OwnB l L' r) := by
 refine F95.fnO (by simp) noRegs_nil (go_of ?_)
 have hl0 := hl
 obtain ⟨A, c, rfl, hc, hm, hA⟩ := hl
 unfold c95
 (intros; try refine go_st ?_); refine go_r 0 0 (by decide) ?_; (refine sJ c95r0.eq_1 ?_; try with_reducible exact True.intro)
 (intros; try refine go_st ?_); refine go_r 3 4 (by decide) ?_; (refine sJ c95r1.eq_1 ?_; try with_reducible exact True.intro)
 (intros; try refine go_st ?_); refine go_c ?_; (refine sI ?_; try with_reducible exact True.intro)
 refine gb (fun ht => ?_) (fun ht => ?_)
 · (intros; try refine go_st ?_); refine go_r 0 0 (by decide) ?_; (refine sJ c95r2.eq_1 ?_; try with_reducible exact True.intro)
   (intros; try refine go_st ?_)
   have hA0 : l = [] := by
     match l, hA with
     | [], _ => rfl
     | x :: xs, hA => obtain ⟨a, _, ha, _⟩ := hA 0 x rfl; subst ha; cases ht
   subst hA0
   refine go_ghost (ghost_nil none 5 1) ?_
   refine go_ret (retQ_o _ rfl (List.Sublist.refl _) (noRegs_row noRegs_nil) ?_)
   exact ⟨[], .nil, rfl⟩
 · (intros; try refine go_st ?_); refine go_r 5 8 (by decide) ?_; (refine sJ c95r3.eq_1 ?_; try with_reducible exact True.intro)
   intro b hb'
   refine apX_v (.inr ⟨⟨_, rfl⟩, rfl, rfl, rfl, rfl⟩) hl0 rfl UE1 (by unfold maxLen; omega) fun ys A c hc => ?_
   simp only [Nat.zero_add]
   (refine sI ?_; try with_reducible exact True.intro)
   (intros; try refine go_st ?_)
   refine go_ret (retQ_o _ rfl (List.Sublist.refl _) (noRegs_row noRegs_nil) ?_)
   exact ⟨ys, hc, rfl⟩
theorem F74 : Fun Try.prog 74 31 v74 c74 o74 := Fun.mk' Try.func74 Try.ntmps74 (by kernel_rfl) (by kernel_rfl) s74 q74
theorem F79 : Fun Try.prog 79 36 v79 c79 o79 := Fun.mk' Try.func79 Try.ntmps79 (by kernel_rfl) (by kernel_rfl) s79 q79
def zig (n : Int) : Nat := if 0 ≤ n then (2 * n).toNat else (-2 * n - 1).toNat
def vnat : Nat → Nat → List UInt8
 | 0, z => [UInt8.ofNat z]
 | f + 1, z => if z < 128 then [UInt8.ofNat z] else UInt8.ofNat (128 + z % 128) :: vnat f (z / 128)
def pvB (n : Int) : List UInt8 := vnat 9 (zig n)
theorem vnat_len : ∀ f z, (vnat f z).length ≤ f + 1 ∧ 1 ≤ (vnat f z).length
 | 0, z => by simp [vnat]
 | f + 1, z => by
   unfold vnat
   split
   · simp
   · have := vnat_len f (z / 128)
     simp
     omega
theorem pvB_len (n : Int) : (pvB n).length ≤ 10 := (vnat_len 9 _).1
theorem zig_lt {n : Int} (h : I64 n) : zig n < 18446744073709551616 := by
 unfold zig I64 at *
 split <;> omega
theorem vnat_lt {f z : Nat} (h : z < 128) : vnat f z = [UInt8.ofNat z] := by
 cases f with
 | zero => rfl
 | succ f => exact if_pos h
def Puts (p : List UInt8) (z0 : Nat) (zs : List UInt8) (z : Nat) : Prop := ∃ f, f ≤ 9 ∧ zs.length + f = p.length + 9 ∧ z < 2 * 128 ^ f ∧ zs ++ vnat f z = p ++ vnat 9 z0
theorem puts_zero (p : List UInt8) {z0 : Nat} (h : z0 < 18446744073709551616) : Puts p z0 p z0 := ⟨9, Nat.le_refl _, rfl, by omega, rfl⟩
theorem puts_end {p zs : List UInt8} {z0 z : Nat} (h : Puts p z0 zs z) (hz : z < 128) : zs ++ [UInt8.ofNat z] = p ++ vnat 9 z0 := by
 obtain ⟨f, _, _, _, h⟩ := h
 rw [← h, vnat_lt hz]
theorem puts_more {p zs : List UInt8} {z0 z : Nat} (h : Puts p z0 zs z) (hz : ¬ z < 128) : Puts p z0 (zs ++ [UInt8.ofNat (128 + z % 128)]) (z / 128) := by
 obtain ⟨f, h1, h2, h3, h4⟩ := h
 cases f with
 | zero => simp at h3; omega
 | succ f =>
   refine ⟨f, by omega, by simp; omega, by rw [Nat.pow_succ] at h3; omega, ?_⟩
   rw [← h4, vnat, if_neg hz]
   simp
theorem puts_len {p zs : List UInt8} {z0 z : Nat} (h : Puts p z0 zs z) : zs.length ≤ p.length + 9 := by
 obtain ⟨f, h1, h2, _⟩ := h
 omega
theorem or_128 (z : Nat) : binV .or (.int .u8 (IntKind.u8.wrap (z : Int))) (.int .u8 128) = some (.int .u8 ((UInt8.ofNat (128 + z % 128)).toNat : Int)) := by
 have key : ∀ b : Fin 256, (BitVec.ofInt 8 ((b.val : Nat) : Int) ||| BitVec.ofInt 8 128).toNat = 128 + b.val % 128 := by decide +kernel
 have h1 : IntKind.u8.wrap (z : Int) = ((z % 256 : Nat) : Int) := by rw [IntKind.wrap_u8]; omega
 have h2 := key ⟨z % 256, Nat.mod_lt _ (by omega)⟩
 rw [h1]
 simp only [binV]
 rw [if_pos trivial]
 have h3 : (BitVec.ofInt IntKind.u8.bits ((z % 256 : Nat) : Int) ||| BitVec.ofInt IntKind.u8.bits 128).toNat = 128 + z % 128 := by
   refine h2.trans ?_
   dsimp only
   omega
 rw [h3]
 simp [IntKind.wrap_u8]
theorem u8_nat (z : Nat) : IntKind.u8.wrap (z : Int) = ((UInt8.ofNat z).toNat : Int) := by
 rw [IntKind.wrap_u8]
 simp
theorem shr_7 (z : Nat) : binV .shr (.int .u64 (z : Int)) (.int .u64 7) = some (.int .u64 ((z / 128 : Nat) : Int)) := by
 simp [binV, IntKind.bits]
 rw [Int.fdiv_eq_ediv_of_nonneg _ (by omega)]
theorem shl_1 (n : Int) : binV .shl (.int .u64 (IntKind.u64.wrap n)) (.int .u64 1) = some (.int .u64 (IntKind.u64.wrap (IntKind.u64.wrap n * 2))) := by
 simp [binV, IntKind.bits]
def sgn (n : Int) : Int := if 0 ≤ n then 0 else -1
theorem shr_63 {n : Int} (h : I64 n) : binV .shr (.int .i64 n) (.int .u64 63) = some (.int .i64 (sgn n)) := by
 have h1 : n.fdiv 9223372036854775808 = sgn n := by
   rw [Int.fdiv_eq_ediv_of_nonneg _ (by omega)]
   unfold sgn I64 at *
   split <;> omega
 simp [binV, IntKind.bits, h1]
theorem xor_zig {n : Int} (h : I64 n) : binV .xor (.int .u64 (IntKind.u64.wrap (IntKind.u64.wrap n * 2))) (.int .u64 (IntKind.u64.wrap (sgn n))) = some (.int .u64 (zig n : Int)) := by
 have hz := zig_lt h
 have key : (BitVec.ofInt 64 (IntKind.u64.wrap (IntKind.u64.wrap n * 2)) ^^^ BitVec.ofInt 64 (IntKind.u64.wrap (sgn n))).toNat = zig n := by
   unfold I64 at h
   by_cases h0 : 0 ≤ n
   · have e1 : IntKind.u64.wrap (IntKind.u64.wrap n * 2) = 2 * n := by rw [IntKind.wrap_u64, IntKind.wrap_u64]; omega
     have e2 : IntKind.u64.wrap (sgn n) = 0 := by rw [sgn, if_pos h0]; rfl
     rw [e1, e2]
     have : BitVec.ofInt 64 0 = 0#64 := rfl
     rw [this, BitVec.xor_zero, BitVec.toNat_ofInt]
     simp [zig, h0]
     omega
   · have e1 : IntKind.u64.wrap (IntKind.u64.wrap n * 2) = (2 * n) % 18446744073709551616 := by rw [IntKind.wrap_u64, IntKind.wrap_u64]; omega
     have e2 : IntKind.u64.wrap (sgn n) = 18446744073709551615 := by rw [sgn, if_neg h0]; rfl
     rw [e1, e2]
     have : BitVec.ofInt 64 18446744073709551615 = BitVec.allOnes 64 := by decide
     rw [this, BitVec.xor_allOnes, BitVec.toNat_not, BitVec.toNat_ofInt]
     simp [zig, h0]
     omega
 simp only [binV]
 rw [if_pos trivial]
 have e3 : (BitVec.ofInt IntKind.u64.bits (IntKind.u64.wrap (IntKind.u64.wrap n * 2)) ^^^ BitVec.ofInt IntKind.u64.bits (IntKind.u64.wrap (sgn n))).toNat = zig n := key
 rw [e3, IntKind.wrap_u64]
 congr 2
 omega
theorem PutVar_ok (l : List UInt8) (n : Int) (hn : I64 n) (v : Value) (G : Nat → Option Obj) (hl : SB G v l) (hb : l.length ≤ 100000) :
   FnO Try.prog 74 #[v, .int .i64 n] G [] (fun _ L' r => OwnB (l ++ pvB n) L' r) := by
 refine F74.fnO (by simp) noRegs_nil (go_of ?_)
 have hl0 := hl
 obtain ⟨A, c, rfl, hc, hm, hA⟩ := hl
 unfold c74
 (intros; try refine go_st ?_); refine go_r 0 0 (by decide) ?_; (refine sJ c74r0.eq_1 ?_; try with_reducible exact True.intro)
 (intros; try refine go_st ?_); refine go_r 7 14 (by decide) ?_; (refine sJ4 c74r1.eq_1 @shl_1 (shr_63 hn) (xor_zig hn) ?_; try with_reducible exact True.intro)
 (intros; try refine go_st ?_); refine go_r 14 16 (by decide) ?_; (refine sJ c74r2.eq_1 ?_; try with_reducible exact True.intro)
 refine (Clone_ok l _ G hl0 (by omega) _ []).mono ?_
 rintro r h' ⟨G1, L', rfl, hg1, ys, hys, rfl⟩
 (refine sI ?_; try with_reducible exact True.intro)
 (intros; try refine go_st ?_)
 refine go_loop (fun e h => ∃ (z : Nat) (zs : List UInt8) (zc : List Value) (u : Value), (Puts l (zig n) zs z ∧ Cells UE 1 zs zc) ∧ e 5 = .int .u64 (z : Int) ∧ e 6 = u ∧ h.G = G1 ∧ h.D = [] ∧ [Item.row u 5 1 zs.length zc].Sublist h.L) (fun e h => iv (e 5)) ?_ ?_
 · exact ⟨zig n, l, ys, _, ⟨puts_zero l (zig_lt hn), hys⟩, eE, eE, rfl, rfl, List.Sublist.refl _⟩
 · rintro e ⟨G', L, D⟩ ⟨z, zs, zc, u, ⟨hp, hcs⟩, e5, e6, hG, hD, hL⟩
   dsimp only at hG hD hL
   subst hG hD
   refine go_ghost (ghost_sub hL) ?_
   refine go_keep [5, 6] ?_
   (refine sJ2 @e5 @e6 ?_; try with_reducible exact True.intro)
   have hlen := puts_len hp
   (intros; try refine go_st ?_); refine go_r 16 17 (by decide) ?_; (refine sJ c74r3.eq_1 ?_; try with_reducible exact True.intro)
   (intros; try refine go_st ?_); refine go_c ?_; (refine sI ?_; try with_reducible exact True.intro)
   refine gb (fun ht => ?_) (fun ht => ?_)
   · have hz : ¬ z < 128 := by simp at ht; omega
     (intros; try refine go_st ?_); refine go_r 20 26 (by decide) ?_; (refine sJ2 c74r4.eq_1 @or_128 ?_; try with_reducible exact True.intro)
     intro bk hbk
     refine app8 (L1 := []) (L2 := []) rfl rfl hcs (by omega) fun A' c' zc' hzc => ?_
     (refine sI ?_; try with_reducible exact True.intro)
     (intros; try refine go_st ?_); refine go_r 18 20 (by decide) ?_; (refine sJ2 c74r5.eq_1 @shr_7 ?_; try with_reducible exact True.intro)
     (intros; try refine go_st ?_)
     refine go_l ⟨⟨z / 128, _, zc', _, ⟨puts_more hp hz, hzc⟩, eE, eE, rfl, rfl, .cons _ (List.Sublist.refl _)⟩, ?_⟩
     (refine sI ?_; try with_reducible exact True.intro)
     simp [iv]
     omega
   · have hz : z < 128 := by simp at ht; omega
     refine go_exit ?_
     (refine sI ?_; try with_reducible exact True.intro)
     (intros; try refine go_st ?_); refine go_r 26 31 (by decide) ?_; (refine sJ2 c74r6.eq_1 @u8_nat ?_; try with_reducible exact True.intro)
     intro bk hbk
     refine app8 (L1 := []) (L2 := []) rfl rfl hcs (by omega) fun A' c' zc' hzc => ?_
     (refine sI ?_; try with_reducible exact True.intro)
     (intros; try refine go_st ?_)
     rw [puts_end hp hz] at hzc ⊢
     refine go_ret (retQ_o _ rfl (.cons _ (List.Sublist.refl _)) (noRegs_row noRegs_nil) ?_)
     exact ⟨zc', hzc, rfl⟩
theorem RPutVar_ok (l : List UInt8) (n : Int) (hn : I64 n) (v : Value) (G : Nat → Option Obj) (hl : SB G v l) (hb : l.length ≤ 100000) :
   FnO Try.prog 79 #[v, .int .i64 n] G [] (fun _ L' r => OwnB (l ++ pvB n) L' r) := by
 refine F79.fnO (by simp) noRegs_nil (go_of ?_)
 have hl0 := hl
 have hn0 := hn
 unfold I64 at hn
 obtain ⟨A, c, rfl, hc, hm, hA⟩ := hl
 unfold c79
 (intros; try refine go_st ?_); refine go_r 0 0 (by decide) ?_; (refine sJ c79r0.eq_1 ?_; try with_reducible exact True.intro)
 (intros; try refine go_st ?_); refine go_r 7 10 (by decide) ?_; (refine sJ2 c79r1.eq_1 @bin_mul ?_; try with_reducible exact True.intro)
 have hrest : ∀ (e : Env), e 0 = .slice A l.length c → e 5 = .int .u64 (zig n : Int) → go none Try.prog 36 v79.1 v79.2 (retQ o79 fun v h => OwnB (l ++ pvB n) h.L v) [Td.s ((SC.reg false c79r4).seq ((SC.blk 0 (((SC.reg false c79r5).seq (SC.cond (O.t 21) SC.skip (SC.exit 0))).seq (SC.blk 1 ((SC.reg false c79r6).seq (SC.reg false c79r7)))).loop).seq ((SC.reg false c79r8).seq SC.ret)))] e ⟨G, [], []⟩ := fun e e0 e5 => by
   refine go_keep [0, 5] ?_
   (refine sJ2 @e0 @e5 ?_; try with_reducible exact True.intro)
   (intros; try refine go_st ?_); refine go_r 18 20 (by decide) ?_; (refine sJ c79r4.eq_1 ?_; try with_reducible exact True.intro)
   refine (Copy_ok l _ G hl0 (by omega) _ []).mono ?_
   rintro r h' ⟨G1, L', rfl, hg1, ys, hys, rfl⟩
   (refine sI ?_; try with_reducible exact True.intro)
   (intros; try refine go_st ?_)
   refine go_loop (fun e h => ∃ (z : Nat) (zs : List UInt8) (zc : List Value) (u : Value), (Puts l (zig n) zs z ∧ Cells UE 1 zs zc ∧ z < 18446744073709551616) ∧ e 5 = .int .u64 (z : Int) ∧ e 6 = u ∧ h.G = G1 ∧ h.D = [] ∧ [Item.row u 5 1 zs.length zc].Sublist h.L) (fun e h => iv (e 5)) ?_ ?_
   · exact ⟨zig n, l, ys, _, ⟨puts_zero l (zig_lt hn0), hys, zig_lt hn0⟩, eE, eE, rfl, rfl, List.Sublist.refl _⟩
   · rintro e ⟨G', L, D⟩ ⟨z, zs, zc, u, ⟨hp, hcs, hzb⟩, e5, e6, hG, hD, hL⟩
     dsimp only at hG hD hL
     subst hG hD
     refine go_ghost (ghost_sub hL) ?_
     refine go_keep [5, 6] ?_
     (refine sJ2 @e5 @e6 ?_; try with_reducible exact True.intro)
     have hlen := puts_len hp
     (intros; try refine go_st ?_); refine go_r 20 21 (by decide) ?_; (refine sJ c79r5.eq_1 ?_; try with_reducible exact True.intro)
     (intros; try refine go_st ?_); refine go_c ?_; (refine sI ?_; try with_reducible exact True.intro)
     refine gb (fun ht => ?_) (fun ht => ?_)
     · have hz : ¬ z < 128 := by simp at ht; omega
       have hpm := puts_more hp hz
       have hdz : z / 128 < z := by omega
       have hq : binV .quo (.int .u64 (z : Int)) (.int .u64 128) = some (.int .u64 ((z / 128 : Nat) : Int)) := bin_quo .u64 z 128 (by decide) (by simp [IntKind.max, IntKind.signed, IntKind.bits]; omega) rfl
       generalize z / 128 = q at hq hpm hdz
       have hr : binV .rem (.int .u64 (z : Int)) (.int .u64 128) = some (.int .u64 ((z : Int) % 128)) := bin_rem .u64 z 128 (by decide)
       have hw : IntKind.u8.wrap (IntKind.u64.wrap (128 + (z : Int) % 128)) = ((UInt8.ofNat (128 + z % 128)).toNat : Int) := by
         rw [← u8_nat, IntKind.wrap_u64]
         congr 1
         omega
       (intros; try refine go_st ?_); refine go_r 22 29 (by decide) ?_; (refine sJ3 c79r6.eq_1 @hr @bin_add ?_; try with_reducible exact True.intro)
       intro bk hbk
       refine app8 (L1 := []) (L2 := []) rfl hw hcs (by omega) fun A' c' zc' hzc => ?_
       (refine sI ?_; try with_reducible exact True.intro)
       (intros; try refine go_st ?_); refine go_r 29 31 (by decide) ?_; (refine sJ2 c79r7.eq_1 @hq ?_; try with_reducible exact True.intro)
       (intros; try refine go_st ?_)
       refine go_l ⟨⟨q, _, zc', _, ⟨hpm, hzc, by omega⟩, eE, eE, rfl, rfl, .cons _ (List.Sublist.refl _)⟩, ?_⟩
       (refine sI ?_; try with_reducible exact True.intro)
       omega
     · have hz : z < 128 := by simp at ht; omega
       refine go_exit ?_
       (refine sI ?_; try with_reducible exact True.intro)
       (intros; try refine go_st ?_); refine go_r 31 36 (by decide) ?_; (refine sJ2 c79r8.eq_1 @u8_nat ?_; try with_reducible exact True.intro)
       intro bk hbk
       refine app8 (L1 := []) (L2 := []) rfl rfl hcs (by omega) fun A' c' zc' hzc => ?_
       (refine sI ?_; try with_reducible exact True.intro)
       (intros; try refine go_st ?_)
       rw [puts_end hp hz] at hzc ⊢
       refine go_ret (retQ_o _ rfl (.cons _ (List.Sublist.refl _)) (noRegs_row noRegs_nil) ?_)
       exact ⟨zc', hzc, rfl⟩
 (intros; try refine go_st ?_); refine go_r 10 11 (by decide) ?_; (refine sJ c79r2.eq_1 ?_; try with_reducible exact True.intro)
 (intros; try refine go_st ?_); refine go_c ?_; (refine sI ?_; try with_reducible exact True.intro)
 refine gb (fun ht => ?_) (fun ht => ?_)
 · have hz : IntKind.u64.wrap (IntKind.u64.wrap (2 * IntKind.u64.wrap (IntKind.i64.wrap (0 - IntKind.i64.wrap (n + 1)))) + 1) = (zig n : Int) := by
     have h0 : n < 0 := by simpa using ht
     have e1 : IntKind.i64.wrap (n + 1) = n + 1 := by rw [w64_id] <;> omega
     have e2 : IntKind.i64.wrap (0 - (n + 1)) = 0 - (n + 1) := by rw [w64_id] <;> omega
     rw [e1, e2]
     simp only [IntKind.wrap_u64, zig, if_neg (show ¬ 0 ≤ n by omega)]
     omega
   (intros; try refine go_st ?_); refine go_r 12 18 (by decide) ?_; (refine sJ4 c79r3.eq_1 @bin_mul @bin_add @hz ?_; try with_reducible exact True.intro)
   intro _
   (repeat first | refine go_skip ?_ | refine go_b ?_)
   refine hrest _ ?_ ?_ <;> (refine sI ?_; try with_reducible exact True.intro)
 · have hz : IntKind.u64.wrap (2 * IntKind.u64.wrap n) = (zig n : Int) := by
     have h0 : ¬ n < 0 := by simpa using ht
     simp only [IntKind.wrap_u64, zig, if_pos (show 0 ≤ n by omega)]
     omega
   (repeat first | refine go_skip ?_ | refine go_b ?_)
   refine hrest _ ?_ ?_ <;> (refine sJ @hz ?_; try with_reducible exact True.intro)
theorem F94 : Fun Try.prog 94 9 v94 c94 o94 := Fun.mk' Try.func94 Try.ntmps94 (by kernel_rfl) (by kernel_rfl) s94 q94
theorem F100 : Fun Try.prog 100 9 v100 c100 o100 := Fun.mk' Try.func100 Try.ntmps100 (by kernel_rfl) (by kernel_rfl) s100 q100
theorem F96 : Fun Try.prog 96 11 v96 c96 o96 := Fun.mk' Try.func96 Try.ntmps96 (by kernel_rfl) (by kernel_rfl) s96 q96
theorem F101 : Fun Try.prog 101 11 v101 c101 o101 := Fun.mk' Try.func101 Try.ntmps101 (by kernel_rfl) (by kernel_rfl) s101 q101
theorem F73 : Fun Try.prog 73 33 v73 c73 o73 := Fun.mk' Try.func73 Try.ntmps73 (by kernel_rfl) (by kernel_rfl) s73 q73
theorem F98 : Fun Try.prog 98 39 v98 c98 o98 := Fun.mk' Try.func98 Try.ntmps98 (by kernel_rfl) (by kernel_rfl) s98 q98
def inO (n : Int) : Bool := decide (0 ≤ n) && decide (n ≤ 1099511627776)
theorem in_ok (n : Int) (G : Nat → Option Obj) : FnS Try.prog 94 #[.int .i64 n] G (.bool (inO n)) := by
 refine F94.fnS (by simp) (go_of ?_)
 unfold c94
 (intros; try refine go_st ?_); refine go_r 0 0 (by decide) ?_; (refine sJ c94r0.eq_1 ?_; try with_reducible exact True.intro)
 (intros; try refine go_st ?_); refine go_r 3 9 (by decide) ?_; (refine sJ c94r1.eq_1 ?_; try with_reducible exact True.intro)
 refine gd (fun h1 => ?_) (fun h1 => ?_)
 · (refine sI ?_; try with_reducible exact True.intro)
   (intros; try refine go_st ?_)
   refine go_ret (retQ_v rfl ?_); simp only [push_cast, Nat.reduceBEq]
   have : 0 ≤ n := by simpa using h1
   simp [inO, this]
 · (refine sI ?_; try with_reducible exact True.intro)
   (intros; try refine go_st ?_)
   refine go_ret (retQ_v rfl ?_); simp only [push_cast, Nat.reduceBEq]
   have : ¬ 0 ≤ n := by simpa using h1
   simp [inO, this]
theorem In_ok (n : Int) (G : Nat → Option Obj) : FnS Try.prog 100 #[.int .i64 n] G (.bool (inO n)) := by
 refine F100.fnS (by simp) (go_of ?_)
 unfold c100
 (intros; try refine go_st ?_); refine go_r 0 0 (by decide) ?_; (refine sJ c100r0.eq_1 ?_; try with_reducible exact True.intro)
 (intros; try refine go_st ?_); refine go_r 3 9 (by decide) ?_; (refine sJ c100r1.eq_1 ?_; try with_reducible exact True.intro)
 refine gd (fun h1 => ?_) (fun h1 => ?_)
 · (refine sI ?_; try with_reducible exact True.intro)
   (intros; try refine go_st ?_)
   refine go_ret (retQ_v rfl ?_); simp only [push_cast, Nat.reduceBEq]
   have : 0 ≤ n := by simpa using h1
   simp [inO, this]
 · (refine sI ?_; try with_reducible exact True.intro)
   (intros; try refine go_st ?_)
   refine go_ret (retQ_v rfl ?_); simp only [push_cast, Nat.reduceBEq]
   have : ¬ 0 ≤ n := by simpa using h1
   simp [inO, this]
def ptB (s : ByteArray) : List UInt8 := pvB s.size ++ s.data.toList
theorem ptB_len (s : ByteArray) : (ptB s).length ≤ 10 + s.size := by
 have := pvB_len s.size
 simp [ptB]
 omega
theorem PutText_ok (l : List UInt8) (s : ByteArray) (v : Value) (G : Nat → Option Obj) (hl : SB G v l) (hb : l.length ≤ 100000) (hs : s.size ≤ 100000) :
   FnO Try.prog 96 #[v, .string s] G [] (fun _ L' r => OwnB (l ++ ptB s) L' r) := by
 refine F96.fnO (by simp) noRegs_nil (go_of ?_)
 unfold c96
 (intros; try refine go_st ?_); refine go_r 0 0 (by decide) ?_; (refine sJ c96r0.eq_1 ?_; try with_reducible exact True.intro)
 (intros; try refine go_st ?_); refine go_r 5 11 (by decide) ?_; (refine sJ c96r1.eq_1 ?_; try with_reducible exact True.intro)
 refine (PutVar_ok l s.size (by unfold I64; omega) v G hl hb _ []).mono ?_
 rintro r h' ⟨G1, L', rfl, hg1, ys, hys, rfl⟩
 (refine sI ?_; try with_reducible exact True.intro)
 have hpl := pvB_len s.size
 refine apX_s (L1 := []) (.inl rfl) hys (by rw [List.length_append]; omega) fun A' c' zc' hzc => ?_
 (refine sI ?_; try with_reducible exact True.intro)
 (intros; try refine go_st ?_)
 refine go_ret (retQ_o _ rfl (List.Sublist.refl _) (noRegs_row noRegs_nil) ?_)
 rw [List.append_assoc] at hzc ⊢
 exact ⟨zc', hzc, rfl⟩
theorem RPutText_ok (l : List UInt8) (s : ByteArray) (v : Value) (G : Nat → Option Obj) (hl : SB G v l) (hb : l.length ≤ 100000) (hs : s.size ≤ 100000) :
   FnO Try.prog 101 #[v, .string s] G [] (fun _ L' r => OwnB (l ++ ptB s) L' r) := by
 refine F101.fnO (by simp) noRegs_nil (go_of ?_)
 unfold c101
 (intros; try refine go_st ?_); refine go_r 0 0 (by decide) ?_; (refine sJ c101r0.eq_1 ?_; try with_reducible exact True.intro)
 (intros; try refine go_st ?_); refine go_r 5 11 (by decide) ?_; (refine sJ c101r1.eq_1 ?_; try with_reducible exact True.intro)
 refine (RPutVar_ok l s.size (by unfold I64; omega) v G hl hb _ []).mono ?_
 rintro r h' ⟨G1, L', rfl, hg1, ys, hys, rfl⟩
 (refine sI ?_; try with_reducible exact True.intro)
 have hpl := pvB_len s.size
 refine apX_s (L1 := []) (.inl rfl) hys (by rw [List.length_append]; omega) fun A' c' zc' hzc => ?_
 (refine sI ?_; try with_reducible exact True.intro)
 (intros; try refine go_st ?_)
 refine go_ret (retQ_o _ rfl (List.Sublist.refl _) (noRegs_row noRegs_nil) ?_)
 rw [List.append_assoc] at hzc ⊢
 exact ⟨zc', hzc, rfl⟩
structure Rec where
 off : Int
 key : ByteArray
 val : ByteArray
 dead : Bool
 stamp : Int
def cellR (x : Rec) : List Value := [.int .i64 x.off, .string x.key, .string x.val, .bool x.dead, .int .i64 x.stamp]
def RR (x : Rec) (cs : List Value) : Prop := cs = cellR x ∧ (I64 x.off ∧ I64 x.stamp) ∧ x.key.size ≤ maxLen ∧ x.val.size ≤ maxLen
def isE (s : ByteArray) : Bool := s.toList == ByteArray.toList ⟨#[]⟩
def chkR (x : Rec) : Int := if inO x.off = true ∧ inO x.stamp = true ∧ x.key.size ≤ 64 ∧ x.val.size ≤ 64 ∧ ¬ (x.dead = true ∧ (isE x.key = true ∨ isE x.val = false)) then 0 else 1
theorem bin_seq (a : ByteArray) : binV .eql (.string a) (.string ⟨#[]⟩) = some (.bool (isE a)) := rfl
theorem bin_sne (a : ByteArray) : binV .neq (.string a) (.string ⟨#[]⟩) = some (.bool (!isE a)) := rfl
theorem chkR_1 {x : Rec} (h : inO x.off = false ∨ inO x.stamp = false ∨ 64 < x.key.size ∨ 64 < x.val.size ∨ (x.dead = true ∧ (isE x.key = true ∨ isE x.val = false))) : chkR x = 1 := by
 refine if_neg fun ⟨h1, h2, h3, h4, h5⟩ => ?_
 rcases h with h | h | h | h | h
 · rw [h1] at h; cases h
 · rw [h2] at h; cases h
 · omega
 · omega
 · exact h5 h
theorem RCheck_ok (x : Rec) (G : Nat → Option Obj) : FnS Try.prog 98 #[.agg (cellR x).toArray] G (.int .i64 (chkR x)) := by
 refine F98.fnS (by simp) (go_of ?_)
 unfold c98 cellR
 (intros; try refine go_st ?_); refine go_r 0 0 (by decide) ?_; (refine sJ c98r0.eq_1 ?_; try with_reducible exact True.intro)
 have hbad : ∀ (fr : List Td) (e : Env) (L : List Kx.Item), chkR x = 1 → go none Try.prog 39 v98.1 v98.2 (retQ o98 fun v h => v = .int .i64 (chkR x)) (Td.s ((SC.reg false c98r2).seq .ret) :: fr) e ⟨G, L, []⟩ := fun fr e L hx => by
   (intros; try refine go_st ?_); refine go_r 0 0 (by decide) ?_; (refine sJ c98r2.eq_1 ?_; try with_reducible exact True.intro)
   (intros; try refine go_st ?_)
   refine go_ret (retQ_v rfl ?_); simp only [push_cast, Nat.reduceBEq]
   rw [hx]
 have hgood : ∀ (e : Env) (L : List Kx.Item), chkR x = 0 → go none Try.prog 39 v98.1 v98.2 (retQ o98 fun v h => v = .int .i64 (chkR x)) [Td.s ((SC.reg false c98r3).seq .ret)] e ⟨G, L, []⟩ := fun e L hx => by
   (intros; try refine go_st ?_); refine go_r 0 0 (by decide) ?_; (refine sJ c98r3.eq_1 ?_; try with_reducible exact True.intro)
   (intros; try refine go_st ?_)
   refine go_ret (retQ_v rfl ?_); simp only [push_cast, Nat.reduceBEq]
   rw [hx]
 (intros; try refine go_st ?_); refine go_r 4 38 (by decide) ?_; (refine sJ c98r1.eq_1 ?_; try with_reducible exact True.intro)
 refine (In_ok x.off G _ _).mono ?_; rintro _ _ ⟨rfl, rfl⟩; (refine sI ?_; try with_reducible exact True.intro)
 refine gd (fun h1 => ?_) (fun h1 => ?_)
 · (refine sI ?_; try with_reducible exact True.intro)
   (intros; try refine go_st ?_); refine go_c ?_; (refine sI ?_; try with_reducible exact True.intro)
   exact hbad _ _ _ (chkR_1 (.inl (by simpa using h1)))
 (refine sI ?_; try with_reducible exact True.intro)
 refine (In_ok x.stamp G _ _).mono ?_; rintro _ _ ⟨rfl, rfl⟩; (refine sI ?_; try with_reducible exact True.intro)
 refine gd (fun h2 => ?_) (fun h2 => ?_)
 · (refine sI ?_; try with_reducible exact True.intro)
   (intros; try refine go_st ?_); refine go_c ?_; (refine sI ?_; try with_reducible exact True.intro)
   exact hbad _ _ _ (chkR_1 (.inr (.inl (by simpa using h2))))
 (refine sI ?_; try with_reducible exact True.intro)
 refine gd (fun h3 => ?_) (fun h3 => ?_)
 · (refine sI ?_; try with_reducible exact True.intro)
   (intros; try refine go_st ?_); refine go_c ?_; (refine sI ?_; try with_reducible exact True.intro)
   exact hbad _ _ _ (chkR_1 (.inr (.inr (.inl (by simp at h3; omega)))))
 (refine sI ?_; try with_reducible exact True.intro)
 refine gd (fun h4 => ?_) (fun h4 => ?_)
 · (refine sI ?_; try with_reducible exact True.intro)
   (intros; try refine go_st ?_); refine go_c ?_; (refine sI ?_; try with_reducible exact True.intro)
   exact hbad _ _ _ (chkR_1 (.inr (.inr (.inr (.inl (by simp at h4; omega))))))
 (refine sI ?_; try with_reducible exact True.intro)
 have h1' : inO x.off = true := by simpa using h1
 have h2' : inO x.stamp = true := by simpa using h2
 have h3' : x.key.size ≤ 64 := by simp at h3; omega
 have h4' : x.val.size ≤ 64 := by simp at h4; omega
 refine gd (fun h5 => ?_) (fun h5 => ?_)
 · (refine sJ @bin_seq ?_; try with_reducible exact True.intro)
   refine gd (fun h6 => ?_) (fun h6 => ?_)
   · (refine sI ?_; try with_reducible exact True.intro)
     (intros; try refine go_st ?_); refine go_c ?_; (refine sI ?_; try with_reducible exact True.intro)
     exact hbad _ _ _ (chkR_1 (.inr (.inr (.inr (.inr ⟨h5, .inl h6⟩)))))
   (refine sJ @bin_sne ?_; try with_reducible exact True.intro)
   (intros; try refine go_st ?_); refine go_c ?_; (refine sI ?_; try with_reducible exact True.intro)
   refine gb (fun h7 => ?_) (fun h7 => ?_)
   · exact hbad _ _ _ (chkR_1 (.inr (.inr (.inr (.inr ⟨h5, .inr (by simpa using h7)⟩)))))
   · (repeat first | refine go_skip ?_ | refine go_b ?_)
     refine hgood _ _ (if_pos ⟨h1', h2', h3', h4', fun h => ?_⟩)
     rcases h.2 with h | h
     · rw [h6] at h; cases h
     · simp [h] at h7
 · (refine sI ?_; try with_reducible exact True.intro)
   (intros; try refine go_st ?_); refine go_c ?_; (refine sI ?_; try with_reducible exact True.intro)
   (repeat first | refine go_skip ?_ | refine go_b ?_)
   exact hgood _ _ (if_pos ⟨h1', h2', h3', h4', fun h => by rw [h5] at h; cases h.1⟩)
theorem Check_ok (x : Rec) (G : Nat → Option Obj) : FnS Try.prog 73 #[.agg (cellR x).toArray] G (.int .i64 (chkR x)) := by
 refine F73.fnS (by simp) (go_of ?_)
 unfold c73 cellR
 (intros; try refine go_st ?_); refine go_r 0 0 (by decide) ?_; (refine sJ c73r0.eq_1 ?_; try with_reducible exact True.intro)
 have hbad : ∀ (fr : List Td) (e : Env) (L : List Kx.Item), chkR x = 1 → go none Try.prog 33 v73.1 v73.2 (retQ o73 fun v h => v = .int .i64 (chkR x)) (Td.s ((SC.reg false c73r4).seq .ret) :: fr) e ⟨G, L, []⟩ := fun fr e L hx => by
   (intros; try refine go_st ?_); refine go_r 0 0 (by decide) ?_; (refine sJ c73r4.eq_1 ?_; try with_reducible exact True.intro)
   (intros; try refine go_st ?_)
   refine go_ret (retQ_v rfl ?_); simp only [push_cast, Nat.reduceBEq]
   rw [hx]
 (intros; try refine go_st ?_); refine go_r 5 8 (by decide) ?_; (refine sJ c73r1.eq_1 ?_; try with_reducible exact True.intro)
 refine (in_ok x.off G _ _).mono ?_; rintro _ _ ⟨rfl, rfl⟩; (refine sI ?_; try with_reducible exact True.intro)
 (intros; try refine go_st ?_); refine go_c ?_; (refine sI ?_; try with_reducible exact True.intro)
 refine gb (fun h1 => ?_) (fun h1 => ?_)
 · (repeat first | refine go_skip ?_ | refine go_b ?_)
   (intros; try refine go_st ?_); refine go_c ?_; (refine sI ?_; try with_reducible exact True.intro)
   refine gb (fun _ => ?_) (fun h => by rw [h1] at h; cases h)
   exact hbad _ _ _ (chkR_1 (.inl (by simpa using h1)))
 (intros; try refine go_st ?_); refine go_r 9 12 (by decide) ?_; (refine sJ c73r2.eq_1 ?_; try with_reducible exact True.intro)
 refine (in_ok x.stamp G _ _).mono ?_; rintro _ _ ⟨rfl, rfl⟩; (refine sI ?_; try with_reducible exact True.intro)
 (intros; try refine go_st ?_); refine go_c ?_; (refine sI ?_; try with_reducible exact True.intro)
 refine gb (fun h2 => ?_) (fun h2 => ?_)
 · (repeat first | refine go_skip ?_ | refine go_b ?_)
   (intros; try refine go_st ?_); refine go_c ?_; (refine sI ?_; try with_reducible exact True.intro)
   refine gb (fun _ => ?_) (fun h => by rw [h2] at h; cases h)
   exact hbad _ _ _ (chkR_1 (.inr (.inl (by simpa using h2))))
 have h1' : inO x.off = true := by simpa using h1
 have h2' : inO x.stamp = true := by simpa using h2
 (intros; try refine go_st ?_); refine go_r 13 20 (by decide) ?_; (refine sJ c73r3.eq_1 ?_; try with_reducible exact True.intro)
 (intros; try refine go_st ?_); refine go_c ?_; (refine sI ?_; try with_reducible exact True.intro)
 refine gb (fun h3 => ?_) (fun h3 => ?_)
 · have h3 := of_decide_eq_true h3
   by_cases h4 : 64 < x.key.size
   · exact hbad _ _ _ (chkR_1 (.inr (.inr (.inl h4))))
   · exact hbad _ _ _ (chkR_1 (.inr (.inr (.inr (.inl (by omega))))))
 have h3 := of_decide_eq_false h3
 have h3' : x.key.size ≤ 64 := by omega
 have h4' : x.val.size ≤ 64 := by omega
 have hbad2 : ∀ (fr : List Td) (e : Env) (L : List Kx.Item), chkR x = 1 → go none Try.prog 33 v73.1 v73.2 (retQ o73 fun v h => v = .int .i64 (chkR x)) (Td.s ((SC.reg false c73r6).seq .ret) :: fr) e ⟨G, L, []⟩ := fun fr e L hx => by
   (intros; try refine go_st ?_); refine go_r 0 0 (by decide) ?_; (refine sJ c73r6.eq_1 ?_; try with_reducible exact True.intro)
   (intros; try refine go_st ?_)
   refine go_ret (retQ_v rfl ?_); simp only [push_cast, Nat.reduceBEq]
   rw [hx]
 have hgood : ∀ (e : Env) (L : List Kx.Item), chkR x = 0 → go none Try.prog 33 v73.1 v73.2 (retQ o73 fun v h => v = .int .i64 (chkR x)) [Td.s ((SC.reg false c73r7).seq .ret)] e ⟨G, L, []⟩ := fun e L hx => by
   (intros; try refine go_st ?_); refine go_r 0 0 (by decide) ?_; (refine sJ c73r7.eq_1 ?_; try with_reducible exact True.intro)
   (intros; try refine go_st ?_)
   refine go_ret (retQ_v rfl ?_); simp only [push_cast, Nat.reduceBEq]
   rw [hx]
 (intros; try refine go_st ?_); refine go_r 22 33 (by decide) ?_; (refine sJ c73r5.eq_1 ?_; try with_reducible exact True.intro)
 refine gd (fun h5 => ?_) (fun h5 => ?_)
 · (refine sJ @bin_seq ?_; try with_reducible exact True.intro)
   refine gd (fun h6 => ?_) (fun h6 => ?_)
   · (refine sI ?_; try with_reducible exact True.intro)
     (intros; try refine go_st ?_); refine go_c ?_; (refine sI ?_; try with_reducible exact True.intro)
     exact hbad2 _ _ _ (chkR_1 (.inr (.inr (.inr (.inr ⟨h5, .inl h6⟩)))))
   (refine sJ @bin_sne ?_; try with_reducible exact True.intro)
   (intros; try refine go_st ?_); refine go_c ?_; (refine sI ?_; try with_reducible exact True.intro)
   refine gb (fun h7 => ?_) (fun h7 => ?_)
   · exact hbad2 _ _ _ (chkR_1 (.inr (.inr (.inr (.inr ⟨h5, .inr (by simpa using h7)⟩)))))
   · (repeat first | refine go_skip ?_ | refine go_b ?_)
     refine hgood _ _ (if_pos ⟨h1', h2', h3', h4', fun h => ?_⟩)
     rcases h.2 with h | h
     · rw [h6] at h; cases h
     · simp [h] at h7
 · (refine sI ?_; try with_reducible exact True.intro)
   (intros; try refine go_st ?_); refine go_c ?_; (refine sI ?_; try with_reducible exact True.intro)
   (repeat first | refine go_skip ?_ | refine go_b ?_)
   exact hgood _ _ (if_pos ⟨h1', h2', h3', h4', fun h => by rw [h5] at h; cases h.1⟩)
theorem F75 : Fun Try.prog 75 46 v75 c75 o75 := Fun.mk' Try.func75 Try.ntmps75 (by kernel_rfl) (by kernel_rfl) s75 q75
theorem F80 : Fun Try.prog 80 50 v80 c80 o80 := Fun.mk' Try.func80 Try.ntmps80 (by kernel_rfl) (by kernel_rfl) s80 q80
def prB (x : Rec) (base stamp : Int) : List UInt8 := pvB (x.off - base) ++ pvB (x.stamp - stamp) ++ [if x.dead = true then 1 else 0] ++ ptB x.key ++ ptB x.val
def putR (x : Rec) (base stamp : Int) : List UInt8 × Int := if chkR x ≠ 0 then ([], chkR x) else if ¬ (inO base = true ∧ inO stamp = true) then ([], 1) else (prB x base stamp, 0)
def OwnE (p : List UInt8 × Int) (L' : List Kx.Item) (r : Value) : Prop := ∃ u, r = .tuple #[u, .int .i64 p.2] ∧ OwnB p.1 L' u
theorem chk_small {x : Rec} (h : chkR x = 0) : (inO x.off = true ∧ inO x.stamp = true) ∧ x.key.size ≤ 64 ∧ x.val.size ≤ 64 := by
 by_cases h0 : inO x.off = true ∧ inO x.stamp = true ∧ x.key.size ≤ 64 ∧ x.val.size ≤ 64 ∧ ¬ (x.dead = true ∧ (isE x.key = true ∨ isE x.val = false))
 · exact ⟨⟨h0.1, h0.2.1⟩, h0.2.2.1, h0.2.2.2.1⟩
 · rw [chkR, if_neg h0] at h; cases h
theorem RPut_ok (x : Rec) (base stamp : Int) (G : Nat → Option Obj) : FnO Try.prog 80 #[.agg (cellR x).toArray, .int .i64 base, .int .i64 stamp] G [] (fun _ L' r => OwnE (putR x base stamp) L' r) := by
 refine F80.fnO (by simp) noRegs_nil (go_of ?_)
 unfold c80
 have hck := RCheck_ok x
 unfold cellR at hck ⊢
 (intros; try refine go_st ?_); refine go_r 0 0 (by decide) ?_; (refine sJ c80r0.eq_1 ?_; try with_reducible exact True.intro)
 (intros; try refine go_st ?_); refine go_r 10 12 (by decide) ?_; (refine sJ c80r1.eq_1 ?_; try with_reducible exact True.intro)
 refine (hck G _ _).mono ?_; rintro _ _ ⟨rfl, rfl⟩; (refine sI ?_; try with_reducible exact True.intro)
 (intros; try refine go_st ?_); refine go_r 12 13 (by decide) ?_; (refine sJ c80r2.eq_1 ?_; try with_reducible exact True.intro)
 (intros; try refine go_st ?_); refine go_c ?_; (refine sI ?_; try with_reducible exact True.intro)
 refine gb (fun h1 => ?_) (fun h1 => ?_)
 · (intros; try refine go_st ?_); refine go_r 14 15 (by decide) ?_; (refine sJ c80r3.eq_1 ?_; try with_reducible exact True.intro)
   (intros; try refine go_st ?_)
   refine go_ghost (ghost_nil none 5 1) ?_
   refine go_ret (retQ_o _ rfl (.cons_cons _ (List.nil_sublist _)) (noRegs_row noRegs_nil) ?_)
   rw [putR, if_pos (by simpa using h1)]
   exact ⟨_, rfl, [], .nil, rfl⟩
 have h1 : chkR x = 0 := by simpa using h1
 have hbad : ∀ (fr : List Td) (e : Env) (L : List Kx.Item), putR x base stamp = ([], 1) → go none Try.prog 50 v80.1 v80.2 (retQ o80 fun v h => OwnE (putR x base stamp) h.L v) (Td.s ((SC.reg false c80r5).seq .ret) :: fr) e ⟨G, L, []⟩ := fun fr e L hx => by
   (intros; try refine go_st ?_); refine go_r 0 0 (by decide) ?_; (refine sJ c80r5.eq_1 ?_; try with_reducible exact True.intro)
   (intros; try refine go_st ?_)
   refine go_ghost (ghost_nil none 5 1) ?_
   refine go_ret (retQ_o _ rfl (.cons_cons _ (List.nil_sublist _)) (noRegs_row noRegs_nil) ?_)
   rw [hx]
   exact ⟨_, rfl, [], .nil, rfl⟩
 have hpb : ∀ (h : ¬ (inO base = true ∧ inO stamp = true)), putR x base stamp = ([], 1) := fun h => by rw [putR, if_neg (by simp [h1]), if_pos h]
 (intros; try refine go_st ?_); refine go_r 15 22 (by decide) ?_; (refine sJ c80r4.eq_1 ?_; try with_reducible exact True.intro)
 refine (In_ok base G _ _).mono ?_; rintro _ _ ⟨rfl, rfl⟩; (refine sI ?_; try with_reducible exact True.intro)
 refine gd (fun h2 => ?_) (fun h2 => ?_)
 · (refine sI ?_; try with_reducible exact True.intro)
   (intros; try refine go_st ?_); refine go_c ?_; (refine sI ?_; try with_reducible exact True.intro)
   exact hbad _ _ _ (hpb fun h => by rw [h.1] at h2; cases h2)
 (refine sI ?_; try with_reducible exact True.intro)
 refine (In_ok stamp G _ _).mono ?_; rintro _ _ ⟨rfl, rfl⟩; (refine sI ?_; try with_reducible exact True.intro)
 (intros; try refine go_st ?_); refine go_c ?_; (refine sI ?_; try with_reducible exact True.intro)
 refine gb (fun h3 => ?_) (fun h3 => ?_)
 · exact hbad _ _ _ (hpb fun h => by rw [h.2] at h3; cases h3)
 have h2 : inO base = true := by simpa using h2
 have h3 : inO stamp = true := by simpa using h3
 obtain ⟨⟨ho, hst⟩, hk, hv⟩ := chk_small h1
 have hput : putR x base stamp = (prB x base stamp, 0) := by rw [putR, if_neg (by simp [h1]), if_neg (by simp [h2, h3])]
 simp [inO] at h2 h3 ho hst
 have w1 : IntKind.i64.wrap (x.off - base) = x.off - base := by rw [w64_id] <;> omega
 have w2 : IntKind.i64.wrap (x.stamp - stamp) = x.stamp - stamp := by rw [w64_id] <;> omega
 have i1 : I64 (x.off - base) := by unfold I64; omega
 have i2 : I64 (x.stamp - stamp) := by unfold I64; omega
 have l1 := pvB_len (x.off - base)
 have l2 := pvB_len (x.stamp - stamp)
 (repeat first | refine go_skip ?_ | refine go_b ?_)
 (intros; try refine go_st ?_); refine go_r 24 28 (by decide) ?_; (refine sJ2 c80r6.eq_1 @w1 ?_; try with_reducible exact True.intro)
 refine (RPutVar_ok [] (x.off - base) i1 _ G SB.nil (by simp) _ []).mono ?_
 rintro r h' ⟨G1, L', rfl, hg1, ys, hys, rfl⟩
 simp only [List.nil_append] at hys ⊢
 (refine sI ?_; try with_reducible exact True.intro)
 (intros; try refine go_st ?_); refine go_r 28 34 (by decide) ?_; (refine sJ2 c80r7.eq_1 @w2 ?_; try with_reducible exact True.intro)
 refine callsH_gx F79.enters (gx_slv_at [] _ (by decide) hys) ?_
 rintro h' ⟨G2, rfl, hg2, hv2⟩
 refine (RPutVar_ok _ (x.stamp - stamp) i2 _ G2 hv2 (by omega) _ []).mono ?_
 rintro r h' ⟨G3, L', rfl, hg3, ys3, hys3, rfl⟩
 (refine sI ?_; try with_reducible exact True.intro)
 have hrest : ∀ (e : Env) (L : List Kx.Item) (u : Value) (zc : List Value) (b : UInt8), b = (if x.dead = true then 1 else 0) → Cells UE 1 (pvB (x.off - base) ++ pvB (x.stamp - stamp) ++ [b]) zc → e 9 = u →
     go none Try.prog 50 v80.1 v80.2 (retQ o80 fun v h => OwnE (putR x base stamp) h.L v) [Td.s ((SC.reg false c80r11).seq ((SC.reg false c80r12).seq .ret))] e ⟨G3, [.row u 5 1 (pvB (x.off - base) ++ pvB (x.stamp - stamp) ++ [b]).length zc, .reg 3 [.int .i64 x.off, .string x.key, .string x.val, .bool x.dead, .int .i64 x.stamp]], []⟩ := fun e L u zc b hb hzc e9 => by
   refine go_keep [9] ?_
   (refine sJ @e9 ?_; try with_reducible exact True.intro)
   (intros; try refine go_st ?_); refine go_r 42 46 (by decide) ?_; (refine sJ c80r11.eq_1 ?_; try with_reducible exact True.intro)
   refine callsH_gx F101.enters (gx_slv_at [] _ (by decide) hzc) ?_
   rintro h' ⟨G4, rfl, hg4, hv4⟩
   refine (RPutText_ok _ x.key _ G4 hv4 (by simp; omega) (by omega) _ []).mono ?_
   rintro r h' ⟨G5, L', rfl, hg5, ys5, hys5, rfl⟩
   (refine sI ?_; try with_reducible exact True.intro)
   have l3 := ptB_len x.key
   (intros; try refine go_st ?_); refine go_r 46 50 (by decide) ?_; (refine sJ c80r12.eq_1 ?_; try with_reducible exact True.intro)
   refine callsH_gx F101.enters (gx_slv_at [] _ (by decide) hys5) ?_
   rintro h' ⟨G6, rfl, hg6, hv6⟩
   refine (RPutText_ok _ x.val _ G6 hv6 (by simp; omega) (by omega) _ []).mono ?_
   rintro r h' ⟨G7, L', rfl, hg7, ys7, hys7, rfl⟩
   (refine sI ?_; try with_reducible exact True.intro)
   (intros; try refine go_st ?_)
   refine go_ret (retQ_o _ rfl (.cons_cons _ (List.nil_sublist _)) (noRegs_row noRegs_nil) ?_)
   rw [hput]
   subst hb
   exact ⟨_, rfl, ys7, hys7, rfl⟩
 (intros; try refine go_st ?_); refine go_r 0 0 (by decide) ?_; (refine sJ c80r8.eq_1 ?_; try with_reducible exact True.intro)
 (intros; try refine go_st ?_); refine go_c ?_; (refine sI ?_; try with_reducible exact True.intro)
 refine gb (fun h5 => ?_) (fun h5 => ?_)
 · (intros; try refine go_st ?_); refine go_r 36 39 (by decide) ?_; (refine sJ c80r9.eq_1 ?_; try with_reducible exact True.intro)
   intro bk hbk
   refine app8 (L1 := []) (L2 := [_]) (x := 1) rfl rfl hys3 (by simp; omega) fun A' c' zc' hzc => ?_
   (refine sI ?_; try with_reducible exact True.intro)
   intro _
   refine go_ghost (ghost_sub (.cons _ (List.Sublist.refl _))) ?_
   (repeat first | refine go_skip ?_ | refine go_b ?_)
   refine hrest _ [] _ _ 1 (by rw [if_pos h5]) hzc ?_
   (refine sI ?_; try with_reducible exact True.intro)
 · (intros; try refine go_st ?_); refine go_r 39 42 (by decide) ?_; (refine sJ c80r10.eq_1 ?_; try with_reducible exact True.intro)
   intro bk hbk
   refine app8 (L1 := []) (L2 := [_]) (x := 0) rfl rfl hys3 (by simp; omega) fun A' c' zc' hzc => ?_
   (refine sI ?_; try with_reducible exact True.intro)
   intro _
   refine go_ghost (ghost_sub (.cons _ (List.Sublist.refl _))) ?_
   (repeat first | refine go_skip ?_ | refine go_b ?_)
   refine hrest _ [] _ _ 0 (by rw [if_neg (by rw [h5]; simp)]) hzc ?_
   (refine sI ?_; try with_reducible exact True.intro)
theorem Put_ok (x : Rec) (base stamp : Int) (G : Nat → Option Obj) : FnO Try.prog 75 #[.agg (cellR x).toArray, .int .i64 base, .int .i64 stamp] G [] (fun _ L' r => OwnE (putR x base stamp) L' r) := by
 refine F75.fnO (by simp) noRegs_nil (go_of ?_)
 unfold c75
 have hck := Check_ok x
 unfold cellR at hck ⊢
 (intros; try refine go_st ?_); refine go_r 0 0 (by decide) ?_; (refine sJ c75r0.eq_1 ?_; try with_reducible exact True.intro)
 (intros; try refine go_st ?_); refine go_r 11 13 (by decide) ?_; (refine sJ c75r1.eq_1 ?_; try with_reducible exact True.intro)
 refine (hck G _ _).mono ?_; rintro _ _ ⟨rfl, rfl⟩; (refine sI ?_; try with_reducible exact True.intro)
 (intros; try refine go_st ?_); refine go_r 13 14 (by decide) ?_; (refine sJ c75r2.eq_1 ?_; try with_reducible exact True.intro)
 (intros; try refine go_st ?_); refine go_c ?_; (refine sI ?_; try with_reducible exact True.intro)
 refine gb (fun h1 => ?_) (fun h1 => ?_)
 · (intros; try refine go_st ?_); refine go_r 15 16 (by decide) ?_; (refine sJ c75r3.eq_1 ?_; try with_reducible exact True.intro)
   (intros; try refine go_st ?_)
   refine go_ghost (ghost_nil none 5 1) ?_
   refine go_ret (retQ_o _ rfl (.cons_cons _ (List.nil_sublist _)) (noRegs_row noRegs_nil) ?_)
   rw [putR, if_pos (by simpa using h1)]
   exact ⟨_, rfl, [], .nil, rfl⟩
 have h1 : chkR x = 0 := by simpa using h1
 have hbad : ∀ (fr : List Td) (e : Env) (L : List Kx.Item), putR x base stamp = ([], 1) → go none Try.prog 46 v75.1 v75.2 (retQ o75 fun v h => OwnE (putR x base stamp) h.L v) (Td.s ((SC.reg false c75r5).seq .ret) :: fr) e ⟨G, L, []⟩ := fun fr e L hx => by
   (intros; try refine go_st ?_); refine go_r 0 0 (by decide) ?_; (refine sJ c75r5.eq_1 ?_; try with_reducible exact True.intro)
   (intros; try refine go_st ?_)
   refine go_ghost (ghost_nil none 5 1) ?_
   refine go_ret (retQ_o _ rfl (.cons_cons _ (List.nil_sublist _)) (noRegs_row noRegs_nil) ?_)
   rw [hx]
   exact ⟨_, rfl, [], .nil, rfl⟩
 have hpb : ∀ (h : ¬ (inO base = true ∧ inO stamp = true)), putR x base stamp = ([], 1) := fun h => by rw [putR, if_neg (by simp [h1]), if_pos h]
 (repeat first | refine go_skip ?_ | refine go_b ?_)
 (intros; try refine go_st ?_); refine go_r 16 23 (by decide) ?_; (refine sJ c75r4.eq_1 ?_; try with_reducible exact True.intro)
 refine (in_ok base G _ _).mono ?_; rintro _ _ ⟨rfl, rfl⟩; (refine sI ?_; try with_reducible exact True.intro)
 refine gd (fun h2 => ?_) (fun h2 => ?_)
 · (refine sI ?_; try with_reducible exact True.intro)
   (intros; try refine go_st ?_); refine go_c ?_; (refine sI ?_; try with_reducible exact True.intro)
   exact hbad _ _ _ (hpb fun h => by rw [h.1] at h2; cases h2)
 (refine sI ?_; try with_reducible exact True.intro)
 refine (in_ok stamp G _ _).mono ?_; rintro _ _ ⟨rfl, rfl⟩; (refine sI ?_; try with_reducible exact True.intro)
 (intros; try refine go_st ?_); refine go_c ?_; (refine sI ?_; try with_reducible exact True.intro)
 refine gb (fun h3 => ?_) (fun h3 => ?_)
 · exact hbad _ _ _ (hpb fun h => by rw [h.2] at h3; cases h3)
 have h2 : inO base = true := by simpa using h2
 have h3 : inO stamp = true := by simpa using h3
 obtain ⟨⟨ho, hst⟩, hk, hv⟩ := chk_small h1
 have hput : putR x base stamp = (prB x base stamp, 0) := by rw [putR, if_neg (by simp [h1]), if_neg (by simp [h2, h3])]
 simp [inO] at h2 h3 ho hst
 have w1 : IntKind.i64.wrap (x.off - base) = x.off - base := by rw [w64_id] <;> omega
 have w2 : IntKind.i64.wrap (x.stamp - stamp) = x.stamp - stamp := by rw [w64_id] <;> omega
 have i1 : I64 (x.off - base) := by unfold I64; omega
 have i2 : I64 (x.stamp - stamp) := by unfold I64; omega
 have l1 := pvB_len (x.off - base)
 have l2 := pvB_len (x.stamp - stamp)
 (repeat first | refine go_skip ?_ | refine go_b ?_)
 have hrest : ∀ (e : Env) (b : UInt8), b = (if x.dead = true then 1 else 0) → e 1 = .int .i64 base → e 2 = .int .i64 stamp → e 9 = .int .u8 (b.toNat : Int) →
     go none Try.prog 46 v75.1 v75.2 (retQ o75 fun v h => OwnE (putR x base stamp) h.L v) [Td.s ((SC.rgX c75r9).seq ((SC.rgX c75r10).seq .ret))] e ⟨G, [.reg 3 [.int .i64 x.off, .string x.key, .string x.val, .bool x.dead, .int .i64 x.stamp]], []⟩ := fun e b hb e1 e2 e9 => by
   refine go_keep [1, 2, 9] ?_
   (refine sJ3 @e1 @e2 @e9 ?_; try with_reducible exact True.intro)
   (intros; try refine go_st ?_); refine go_x _ (List.Sublist.refl _) (by decide) ?_; (refine sJ3 c75r9.eq_1 @w1 @w2 ?_; try with_reducible exact True.intro)
   refine (PutVar_ok [] (x.off - base) i1 _ G SB.nil (by simp) _ []).mono ?_
   rintro r h' ⟨G1, L', rfl, hg1, ys, hys, rfl⟩
   simp only [List.nil_append] at hys ⊢
   refine ⟨grow_L hg1 (.cons _ (List.Sublist.refl _)), ?_⟩
   (refine sI ?_; try with_reducible exact True.intro)
   refine callsH_gx F74.enters (gx_slv_at [] _ (by decide) hys) ?_
   rintro h' ⟨G2, rfl, hg2, hv2⟩
   refine (PutVar_ok _ (x.stamp - stamp) i2 _ G2 hv2 (by omega) _ []).mono ?_
   rintro r h' ⟨G3, L', rfl, hg3, ys3, hys3, rfl⟩
   refine ⟨grow_L (hg1.trans (hg2.trans hg3)) (.cons _ (List.Sublist.refl _)), ?_⟩
   (refine sI ?_; try with_reducible exact True.intro)
   (intros; try refine go_st ?_); refine go_x _ (.cons _ (List.Sublist.refl _)) (by decide) ?_; (refine sJ c75r10.eq_1 ?_; try with_reducible exact True.intro)
   intro bk hbk
   refine ⟨grow_L (fun _ _ h => h) (.cons _ (.cons _ (List.Sublist.refl _))), ?_⟩
   (refine sI ?_; try with_reducible exact True.intro)
   refine app8 (L1 := []) (L2 := [_]) (x := b) rfl rfl hys3 (by simp; omega) fun A' c' zc' hzc => ?_
   (refine sI ?_; try with_reducible exact True.intro)
   refine ⟨grow_L (fun _ _ h => h) (.cons _ (.cons _ (List.Sublist.refl _))), ?_⟩
   (refine sI ?_; try with_reducible exact True.intro)
   refine callsH_gx F96.enters (gx_slv_at [_] _ (by decide) hzc) ?_
   rintro h' ⟨G4, rfl, hg4, hv4⟩
   refine (PutText_ok _ x.key _ G4 hv4 (by simp; omega) (by omega) _ []).mono ?_
   rintro r h' ⟨G5, L', rfl, hg5, ys5, hys5, rfl⟩
   refine ⟨grow_L (hg4.trans hg5) (.cons _ (.cons _ (List.Sublist.refl _))), ?_⟩
   (refine sI ?_; try with_reducible exact True.intro)
   have l3 := ptB_len x.key
   refine callsH_gx F96.enters (gx_slv_at [] _ (by decide) hys5) ?_
   rintro h' ⟨G6, rfl, hg6, hv6⟩
   refine (PutText_ok _ x.val _ G6 hv6 (by simp; omega) (by omega) _ []).mono ?_
   rintro r h' ⟨G7, L', rfl, hg7, ys7, hys7, rfl⟩
   refine ⟨grow_L (hg4.trans (hg5.trans (hg6.trans hg7))) (.cons _ (.cons _ (List.Sublist.refl _))), ?_⟩
   (refine sI ?_; try with_reducible exact True.intro)
   (intros; try refine go_st ?_)
   refine go_ret (retQ_o _ rfl (.cons_cons _ (List.nil_sublist _)) (noRegs_row noRegs_nil) ?_)
   rw [hput]
   subst hb
   exact ⟨_, rfl, ys7, hys7, rfl⟩
 (intros; try refine go_st ?_); refine go_r 0 0 (by decide) ?_; (refine sJ c75r6.eq_1 ?_; try with_reducible exact True.intro)
 (intros; try refine go_st ?_); refine go_r 0 0 (by decide) ?_; (refine sJ c75r7.eq_1 ?_; try with_reducible exact True.intro)
 (intros; try refine go_st ?_); refine go_c ?_; (refine sI ?_; try with_reducible exact True.intro)
 refine gb (fun h5 => ?_) (fun h5 => ?_)
 · (intros; try refine go_st ?_); refine go_r 0 0 (by decide) ?_; (refine sJ c75r8.eq_1 ?_; try with_reducible exact True.intro)
   (repeat first | (with_reducible intro _) | refine go_skip ?_ | refine go_b ?_)
   refine hrest _ 1 (by rw [if_pos h5]) ?_ ?_ ?_ <;> (refine sI ?_; try with_reducible exact True.intro)
   rfl
 · (repeat first | refine go_skip ?_ | refine go_b ?_)
   refine hrest _ 0 (by rw [if_neg (by rw [h5]; simp)]) ?_ ?_ ?_ <;> (refine sI ?_; try with_reducible exact True.intro)
   rfl
theorem F72 : Fun Try.prog 72 14 v72 c72 o72 := Fun.mk' Try.func72 Try.ntmps72 (by kernel_rfl) (by kernel_rfl) s72 q72
theorem F92 : Fun Try.prog 92 25 v92 c92 o92 := Fun.mk' Try.func92 Try.ntmps92 (by kernel_rfl) (by kernel_rfl) s92 q92
theorem F93 : Fun Try.prog 93 25 v93 c93 o93 := Fun.mk' Try.func93 Try.ntmps93 (by kernel_rfl) (by kernel_rfl) s93 q93
def IE (x : Int) (cs : List Value) : Prop := cs = [.int .i64 x] ∧ I64 x
def rng (m n : Int) : Bool := decide (0 ≤ n) && decide (n ≤ m)
theorem take1 {l : List Int} {k : Nat} {x y : Int} (h0 : l[0]? = some y) (hx : l[k]? = some x) (f : Int → Int → Int) (hk : 0 < k) : ((l.drop 1).take k).foldl f y = f (((l.drop 1).take (k - 1)).foldl f y) x := by
 have hl := List.getElem?_eq_some_iff.1 hx
 obtain ⟨k, rfl⟩ : ∃ j, k = j + 1 := ⟨k - 1, by omega⟩
 have h1 : (l.drop 1)[k]? = some x := by rw [List.getElem?_drop, Nat.add_comm]; exact hx
 have h2 := List.getElem?_eq_some_iff.1 h1
 rw [List.take_succ_eq_append_getElem h2.1, h2.2]
 simp
theorem Min_ok (l : List Int) (y : Int) (h0 : l[0]? = some y) (v : Value) (G : Nat → Option Obj) (hl : SlV G IE 1 v l) : FnS Try.prog 92 #[v] G (.int .i64 ((l.drop 1).foldl min y)) := by
 refine F92.fnS (by simp) (go_of ?_)
 obtain ⟨A, c, rfl, hc, hm, hA⟩ := hl
 have hpos := (List.getElem?_eq_some_iff.1 h0).1
 unfold c92
 (intros; try refine go_st ?_); refine go_r 0 0 (by decide) ?_; (refine sJ c92r0.eq_1 ?_; try with_reducible exact True.intro)
 (intros; try refine go_st ?_); refine go_r 5 7 (by decide) ?_; (refine sJ c92r1.eq_1 ?_; try with_reducible exact True.intro)
 (intros; try refine go_st ?_); refine go_c ?_; (refine sI ?_; try with_reducible exact True.intro)
 refine gb (fun h1 => by simp at h1; omega) (fun h1 => ?_)
 (repeat first | refine go_skip ?_ | refine go_b ?_)
 (intros; try refine go_st ?_); refine go_r 9 12 (by decide) ?_; (refine sJ c92r2.eq_1 ?_; try with_reducible exact True.intro)
 refine hA.x_l1 h0 rfl rfl ?_
 rintro a1 ha1 u1 ⟨hu, -⟩
 cases hu
 (refine sI ?_; try with_reducible exact True.intro)
 (intros; try refine go_st ?_); refine go_r 0 0 (by decide) ?_; (refine sJ c92r3.eq_1 ?_; try with_reducible exact True.intro)
 (intros; try refine go_st ?_)
 refine go_loop (fun e h => ∃ k : Nat, (0 < k ∧ k ≤ l.length) ∧ e 4 = .int .i64 k ∧ e 0 = .slice A l.length c ∧ e 3 = .int .i64 (((l.drop 1).take (k - 1)).foldl min y) ∧ h = ⟨G, [], []⟩) (fun e h => l.length - iv (e 4)) ?_ ?_
 · exact ⟨1, ⟨by omega, by omega⟩, by (refine sI ?_; try with_reducible exact True.intro); rfl, eE, by (refine sI ?_; try with_reducible exact True.intro); rfl, rfl⟩
 · rintro e h ⟨k, ⟨hk0, hk⟩, e4, e0, e3, rfl⟩
   refine go_keep [0, 3, 4] ?_
   (refine sJ3 @e0 @e3 @e4 ?_; try with_reducible exact True.intro)
   (intros; try refine go_st ?_); refine go_r 12 15 (by decide) ?_; (refine sJ c92r4.eq_1 ?_; try with_reducible exact True.intro)
   (intros; try refine go_st ?_); refine go_c ?_; (refine sI ?_; try with_reducible exact True.intro)
   refine gb (fun ht => ?_) (fun ht => ?_)
   · have hkl : k < l.length := by simpa using ht
     have hw3 := inc_i k c (by omega) hm
     obtain ⟨x, hx⟩ : ∃ x, l[k]? = some x := ⟨l[k], List.getElem?_eq_getElem (by omega)⟩
     (repeat first | refine go_skip ?_ | refine go_b ?_)
     (intros; try refine go_st ?_); refine go_r 18 24 (by decide) ?_; (refine sJ c92r5.eq_1 ?_; try with_reducible exact True.intro)
     refine hA.x_l1 hx rfl rfl ?_
     rintro a1 ha1 u1 ⟨hu, -⟩
     cases hu
     (refine sI ?_; try with_reducible exact True.intro)
     (intros; try refine go_st ?_); refine go_r 16 18 (by decide) ?_; (refine sJ2 c92r6.eq_1 @hw3 ?_; try with_reducible exact True.intro)
     (intros; try refine go_st ?_)
     refine go_l ⟨⟨k + 1, ⟨by omega, by omega⟩, eE, eE, by rw [Nat.add_sub_cancel, take1 h0 hx min hk0]; (refine sI ?_; try with_reducible exact True.intro), rfl⟩, ?_⟩
     (refine sI ?_; try with_reducible exact True.intro)
     omega
   · have hkl : k = l.length := by simp at ht; omega
     subst hkl
     refine go_exit ?_
     (refine sI ?_; try with_reducible exact True.intro)
     (intros; try refine go_st ?_); refine go_r 24 25 (by decide) ?_; (refine sJ c92r7.eq_1 ?_; try with_reducible exact True.intro)
     (intros; try refine go_st ?_)
     refine go_ret (retQ_v rfl ?_); simp only [push_cast, Nat.reduceBEq]
     rw [List.take_of_length_le (by simp)]
theorem Max_ok (l : List Int) (y : Int) (h0 : l[0]? = some y) (v : Value) (G : Nat → Option Obj) (hl : SlV G IE 1 v l) : FnS Try.prog 93 #[v] G (.int .i64 ((l.drop 1).foldl max y)) := by
 refine F93.fnS (by simp) (go_of ?_)
 obtain ⟨A, c, rfl, hc, hm, hA⟩ := hl
 have hpos := (List.getElem?_eq_some_iff.1 h0).1
 unfold c93
 (intros; try refine go_st ?_); refine go_r 0 0 (by decide) ?_; (refine sJ c93r0.eq_1 ?_; try with_reducible exact True.intro)
 (intros; try refine go_st ?_); refine go_r 5 7 (by decide) ?_; (refine sJ c93r1.eq_1 ?_; try with_reducible exact True.intro)
 (intros; try refine go_st ?_); refine go_c ?_; (refine sI ?_; try with_reducible exact True.intro)
 refine gb (fun h1 => by simp at h1; omega) (fun h1 => ?_)
 (repeat first | refine go_skip ?_ | refine go_b ?_)
 (intros; try refine go_st ?_); refine go_r 9 12 (by decide) ?_; (refine sJ c93r2.eq_1 ?_; try with_reducible exact True.intro)
 refine hA.x_l1 h0 rfl rfl ?_
 rintro a1 ha1 u1 ⟨hu, -⟩
 cases hu
 (refine sI ?_; try with_reducible exact True.intro)
 (intros; try refine go_st ?_); refine go_r 0 0 (by decide) ?_; (refine sJ c93r3.eq_1 ?_; try with_reducible exact True.intro)
 (intros; try refine go_st ?_)
 refine go_loop (fun e h => ∃ k : Nat, (0 < k ∧ k ≤ l.length) ∧ e 4 = .int .i64 k ∧ e 0 = .slice A l.length c ∧ e 3 = .int .i64 (((l.drop 1).take (k - 1)).foldl max y) ∧ h = ⟨G, [], []⟩) (fun e h => l.length - iv (e 4)) ?_ ?_
 · exact ⟨1, ⟨by omega, by omega⟩, by (refine sI ?_; try with_reducible exact True.intro); rfl, eE, by (refine sI ?_; try with_reducible exact True.intro); rfl, rfl⟩
 · rintro e h ⟨k, ⟨hk0, hk⟩, e4, e0, e3, rfl⟩
   refine go_keep [0, 3, 4] ?_
   (refine sJ3 @e0 @e3 @e4 ?_; try with_reducible exact True.intro)
   (intros; try refine go_st ?_); refine go_r 12 15 (by decide) ?_; (refine sJ c93r4.eq_1 ?_; try with_reducible exact True.intro)
   (intros; try refine go_st ?_); refine go_c ?_; (refine sI ?_; try with_reducible exact True.intro)
   refine gb (fun ht => ?_) (fun ht => ?_)
   · have hkl : k < l.length := by simpa using ht
     have hw3 := inc_i k c (by omega) hm
     obtain ⟨x, hx⟩ : ∃ x, l[k]? = some x := ⟨l[k], List.getElem?_eq_getElem (by omega)⟩
     (repeat first | refine go_skip ?_ | refine go_b ?_)
     (intros; try refine go_st ?_); refine go_r 18 24 (by decide) ?_; (refine sJ c93r5.eq_1 ?_; try with_reducible exact True.intro)
     refine hA.x_l1 hx rfl rfl ?_
     rintro a1 ha1 u1 ⟨hu, -⟩
     cases hu
     (refine sI ?_; try with_reducible exact True.intro)
     (intros; try refine go_st ?_); refine go_r 16 18 (by decide) ?_; (refine sJ2 c93r6.eq_1 @hw3 ?_; try with_reducible exact True.intro)
     (intros; try refine go_st ?_)
     refine go_l ⟨⟨k + 1, ⟨by omega, by omega⟩, eE, eE, by rw [Nat.add_sub_cancel, take1 h0 hx max hk0]; (refine sI ?_; try with_reducible exact True.intro), rfl⟩, ?_⟩
     (refine sI ?_; try with_reducible exact True.intro)
     omega
   · have hkl : k = l.length := by simp at ht; omega
     subst hkl
     refine go_exit ?_
     (refine sI ?_; try with_reducible exact True.intro)
     (intros; try refine go_st ?_); refine go_r 24 25 (by decide) ?_; (refine sJ c93r7.eq_1 ?_; try with_reducible exact True.intro)
     (intros; try refine go_st ?_)
     refine go_ret (retQ_v rfl ?_); simp only [push_cast, Nat.reduceBEq]
     rw [List.take_of_length_le (by simp)]
theorem min_all (m : Int) : ∀ (l : List Int) (y : Int), m ≤ l.foldl min y ↔ m ≤ y ∧ ∀ x ∈ l, m ≤ x
 | [], y => by simp
 | x :: l, y => by
   have h1 : m ≤ min y x ↔ m ≤ y ∧ m ≤ x := by omega
   rw [List.foldl_cons, min_all m l, h1, and_assoc]
   simp
theorem max_all (m : Int) : ∀ (l : List Int) (y : Int), l.foldl max y ≤ m ↔ y ≤ m ∧ ∀ x ∈ l, x ≤ m
 | [], y => by simp
 | x :: l, y => by
   have h1 : max y x ≤ m ↔ y ≤ m ∧ x ≤ m := by omega
   rw [List.foldl_cons, max_all m l, h1, and_assoc]
   simp
theorem within_all (m : Int) (l : List Int) (y : Int) : (decide (0 ≤ l.foldl min y) && decide (l.foldl max y ≤ m)) = (y :: l).all (rng m) := by
 rw [Bool.eq_iff_iff]
 simp only [Bool.and_eq_true, decide_eq_true_eq, min_all, max_all, List.all_eq_true, rng, List.mem_cons]
 constructor
 · rintro ⟨⟨h1, h2⟩, h3, h4⟩ x (rfl | hx)
   · exact ⟨h1, h3⟩
   · exact ⟨h2 x hx, h4 x hx⟩
 · intro h
   exact ⟨⟨(h y (.inl rfl)).1, fun x hx => (h x (.inr hx)).1⟩, (h y (.inl rfl)).2, fun x hx => (h x (.inr hx)).2⟩
theorem within_ok (m : Int) (y : Int) (l : List Int) (v : Value) (G : Nat → Option Obj) (hl : SlV G IE 1 v (y :: l)) : FnS Try.prog 72 #[.int .i64 m, v] G (.bool ((y :: l).all (rng m))) := by
 refine F72.fnS (by simp) (go_of ?_)
 rw [← within_all]
 unfold c72
 (intros; try refine go_st ?_); refine go_r 0 0 (by decide) ?_; (refine sJ c72r0.eq_1 ?_; try with_reducible exact True.intro)
 (intros; try refine go_st ?_); refine go_r 5 14 (by decide) ?_; (refine sJ c72r1.eq_1 ?_; try with_reducible exact True.intro)
 refine (Min_ok (y :: l) y rfl v G hl _ _).mono ?_; rintro _ _ ⟨rfl, rfl⟩; (refine sI ?_; try with_reducible exact True.intro)
 refine gd (fun h1 => ?_) (fun h1 => ?_)
 · (refine sI ?_; try with_reducible exact True.intro)
   refine (Max_ok (y :: l) y rfl v G hl _ _).mono ?_; rintro _ _ ⟨rfl, rfl⟩; (refine sI ?_; try with_reducible exact True.intro)
   (intros; try refine go_st ?_)
   refine go_ret (retQ_v rfl ?_); simp only [push_cast, Nat.reduceBEq]
   have h1 : 0 ≤ l.foldl min y := by simpa using h1
   simp [h1]
 · (refine sI ?_; try with_reducible exact True.intro)
   (intros; try refine go_st ?_)
   refine go_ret (retQ_v rfl ?_); simp only [push_cast, Nat.reduceBEq]
   have h1 : ¬ 0 ≤ l.foldl min y := by simpa using h1
   simp [h1]
end Go.Proofs.Ytedljandnpigpaa

/- Parts of a proof, 1 texts in one file. No condition. -/
import Derived.Test.YtedljandnpigpaaRows
import Derived.Test.YtedljandnpigpaaM1
import Derived.Test.YtedljandnpigpaaM2
set_option linter.unusedSimpArgs false
set_option linter.unusedVariables false
namespace Go.Proofs.Ytedljandnpigpaa
open Go Go.Kx
-- watermeet/watermeetlaw08.IndexMakes N=54
def c3r0 : List SI := [
 ⟨none, .bxR 3 (.t 0), none, 0⟩,
 ⟨none, .mv 6 (.b false), none, 0⟩]
def c3r1 : List SI := [
 ⟨none, .call 13 11 [], none, 0⟩,
 ⟨none, .mv 7 (.t 13), none, 0⟩]
def c3r2 : List SI := [
 ⟨none, .mv 14 (.t 7), none, 0⟩,
 ⟨none, .un 15 .not (.t 14), none, 0⟩]
def c3r3 : List SI := [
 ⟨none, .mv 6 (.b false), none, 0⟩]
def c3r4 : List SI := [
 ⟨none, .ldR 16 3 0 (some 2), none, 0⟩,
 ⟨none, .mv 17 (.t 2), none, 0⟩,
 ⟨none, .call 18 12 [(.t 16), (.t 17)], none, 0⟩,
 ⟨none, .un 19 .not (.t 18), none, 0⟩]
def c3r5 : List SI := [
 ⟨none, .mv 20 (.t 7), none, 0⟩,
 ⟨none, .mv 6 (.t 20), none, 0⟩]
def c3r6 : List SI := [
 ⟨none, .ldR 22 3 0 (some 2), none, 0⟩,
 ⟨none, .mv 23 (.t 1), none, 0⟩,
 ⟨none, .call 24 13 [(.t 22), (.t 23)], none, 0⟩,
 ⟨none, .mv 21 (.t 24), none, 0⟩,
 ⟨none, .ext 25 (.t 21) 0, none, 0⟩,
 ⟨none, .ext 26 (.t 21) 1, none, 0⟩,
 ⟨none, .mv 8 (.t 25), none, 0⟩,
 ⟨none, .mv 9 (.t 26), none, 0⟩]
def c3r7 : List SI := [
 ⟨none, .ldR 28 3 0 (some 2), none, 0⟩,
 ⟨none, .mv 29 (.t 1), none, 0⟩,
 ⟨none, .call 30 14 [(.t 28), (.t 29)], none, 0⟩,
 ⟨none, .mv 27 (.t 30), none, 0⟩,
 ⟨none, .ext 31 (.t 27) 0, none, 0⟩,
 ⟨none, .ext 32 (.t 27) 1, none, 0⟩,
 ⟨none, .mv 10 (.t 31), none, 0⟩,
 ⟨none, .mv 11 (.t 32), none, 0⟩]
def c3r8 : List SI := [
 ⟨none, .mv 33 (.t 8), none, 0⟩,
 ⟨none, .mv 34 (.t 10), none, 0⟩,
 ⟨none, .call 35 15 [(.t 33), (.t 34)], none, 0⟩,
 ⟨none, .mv 12 (.t 35), none, 0⟩]
def c3r9 : List (Bool × SI) := [
 (true, ⟨none, .mv 36 (.t 7), none, 0⟩),
 (true, ⟨none, .mv 37 (.t 36), none, 0⟩),
 (true, ⟨some (37, true), .mv 38 (.t 12), none, 38⟩),
 (true, ⟨none, .pick 39 (.t 37) (.t 38) (.b false), none, 0⟩),
 (true, ⟨none, .mv 40 (.t 39), none, 0⟩),
 (true, ⟨some (40, true), .mv 41 (.t 9), none, 41⟩),
 (true, ⟨some (40, true), .mv 42 (.t 11), none, 42⟩),
 (true, ⟨some (40, true), .bin 43 .eql (.t 41) (.t 42), none, 43⟩),
 (true, ⟨none, .pick 44 (.t 40) (.t 43) (.b false), none, 0⟩),
 (true, ⟨none, .mv 45 (.t 44), none, 0⟩),
 (true, ⟨some (45, true), .ldR 46 3 0 (some 2), none, 46⟩),
 (true, ⟨some (45, true), .mv 47 (.t 2), none, 47⟩),
 (true, ⟨some (45, true), .ldR 49 3 0 (some 2), none, 49⟩),
 (true, ⟨some (45, true), .mv 50 (.t 2), none, 50⟩),
 (false, ⟨some (45, true), .call 48 16 [(.t 46), (.t 47)], none, 48⟩),
 (false, ⟨some (45, true), .call 51 17 [(.t 49), (.t 50)], none, 51⟩),
 (true, ⟨some (45, true), .bin 52 .eql (.t 48) (.t 51), none, 52⟩),
 (true, ⟨none, .pick 53 (.t 45) (.t 52) (.b false), none, 0⟩),
 (true, ⟨none, .mv 6 (.t 53), none, 0⟩)]
def c3 : SC :=
 (.seq (.reg false c3r0)
 (.seq (.reg false c3r1)
 (.seq (.seq (.reg false c3r2)
 (.cond (.t 15)
  (.seq (.reg false c3r3)
  .ret)
  .skip))
 (.seq (.seq (.reg false c3r4)
 (.cond (.t 19)
  (.seq (.reg false c3r5)
  .ret)
  .skip))
 (.seq (.reg false c3r6)
 (.seq (.reg false c3r7)
 (.seq (.reg false c3r8)
 (.seq (.rgX c3r9)
 .ret))))))))
def v3 : List Nat × List Nat := ([3], [3])
def o3 : List RS := [.t 6]
theorem s3 : slimC Try.prog Try.f3.ntmps v3.1 v3.2 ((Try.f3.body).getD .skip) = some c3 := by kernel_rfl
theorem q3 : slimR Try.prog Try.f3.ntmps v3.1 v3.2 Try.f3.results.toList = some o3 := by kernel_rfl
-- watermeet/watermeetlaw08.IndexPlaces N=34
def c4r0 : List SI := [
 ⟨none, .mv 6 (.b false), none, 0⟩]
def c4r1 : List SI := [
 ⟨none, .call 8 11 [], none, 0⟩,
 ⟨none, .mv 7 (.t 8), none, 0⟩]
def c4r2 : List SI := [
 ⟨none, .mv 9 (.t 7), none, 0⟩,
 ⟨none, .un 10 .not (.t 9), none, 0⟩]
def c4r3 : List SI := [
 ⟨none, .mv 6 (.b false), none, 0⟩]
def c4r4 : List SI := [
 ⟨none, .mv 11 (.t 0), none, 0⟩,
 ⟨none, .len 12 false (.t 11), none, 0⟩,
 ⟨none, .bin 13 .gtr (.t 12) (.i 200), none, 0⟩]
def c4r5 : List SI := [
 ⟨none, .mv 14 (.t 7), none, 0⟩,
 ⟨none, .mv 6 (.t 14), none, 0⟩]
def c4r6 : List SI := [
 ⟨none, .mv 15 (.t 7), none, 0⟩,
 ⟨none, .mv 16 (.t 15), none, 0⟩,
 ⟨some (16, true), .mv 17 (.t 0), none, 17⟩,
 ⟨some (16, true), .mv 18 (.t 1), none, 18⟩,
 ⟨some (16, true), .call 19 18 [(.t 17), (.t 18)], none, 19⟩,
 ⟨some (16, true), .mv 20 (.t 0), none, 20⟩,
 ⟨some (16, true), .mv 21 (.t 1), none, 21⟩,
 ⟨some (16, true), .call 22 19 [(.t 20), (.t 21)], none, 22⟩,
 ⟨some (16, true), .bin 23 .eql (.t 19) (.t 22), none, 23⟩,
 ⟨none, .pick 24 (.t 16) (.t 23) (.b false), none, 0⟩,
 ⟨none, .mv 25 (.t 24), none, 0⟩,
 ⟨some (25, true), .mv 26 (.t 0), none, 26⟩,
 ⟨some (25, true), .mv 27 (.t 2), none, 27⟩,
 ⟨some (25, true), .call 28 20 [(.t 26), (.t 27)], none, 28⟩,
 ⟨some (25, true), .mv 29 (.t 0), none, 29⟩,
 ⟨some (25, true), .mv 30 (.t 2), none, 30⟩,
 ⟨some (25, true), .call 31 21 [(.t 29), (.t 30)], none, 31⟩,
 ⟨some (25, true), .bin 32 .eql (.t 28) (.t 31), none, 32⟩,
 ⟨none, .pick 33 (.t 25) (.t 32) (.b false), none, 0⟩,
 ⟨none, .mv 6 (.t 33), none, 0⟩]
def c4 : SC :=
 (.seq (.reg false c4r0)
 (.seq (.reg false c4r1)
 (.seq (.seq (.reg false c4r2)
 (.cond (.t 10)
  (.seq (.reg false c4r3)
  .ret)
  .skip))
 (.seq (.seq (.reg false c4r4)
 (.cond (.t 13)
  (.seq (.reg false c4r5)
  .ret)
  .skip))
 (.seq (.reg false c4r6)
 .ret)))))
def v4 : List Nat × List Nat := ([], [])
def o4 : List RS := [.t 6]
theorem s4 : slimC Try.prog Try.f4.ntmps v4.1 v4.2 ((Try.f4.body).getD .skip) = some c4 := by kernel_rfl
theorem q4 : slimR Try.prog Try.f4.ntmps v4.1 v4.2 Try.f4.results.toList = some o4 := by kernel_rfl
-- watermeet/watermeetlaw08.IndexFinds N=77
def c5r0 : List SI := [
 ⟨none, .bxR 4 (.t 0), none, 0⟩,
 ⟨none, .mv 8 (.b false), none, 0⟩]
def c5r1 : List SI := [
 ⟨none, .call 19 11 [], none, 0⟩,
 ⟨none, .mv 9 (.t 19), none, 0⟩]
def c5r2 : List SI := [
 ⟨none, .mv 20 (.t 9), none, 0⟩,
 ⟨none, .un 21 .not (.t 20), none, 0⟩]
def c5r3 : List SI := [
 ⟨none, .mv 8 (.b false), none, 0⟩]
def c5r4 : List SI := [
 ⟨none, .ldR 22 4 0 (some 2), none, 0⟩,
 ⟨none, .mv 23 (.t 1), none, 0⟩,
 ⟨none, .call 24 12 [(.t 22), (.t 23)], none, 0⟩,
 ⟨none, .un 25 .not (.t 24), none, 0⟩]
def c5r5 : List SI := [
 ⟨none, .mv 26 (.t 9), none, 0⟩,
 ⟨none, .mv 8 (.t 26), none, 0⟩]
def c5r6 : List SI := [
 ⟨none, .ldR 28 4 0 (some 2), none, 0⟩,
 ⟨none, .mv 29 (.t 1), none, 0⟩,
 ⟨none, .mv 30 (.t 2), none, 0⟩,
 ⟨none, .call 31 22 [(.t 28), (.t 29), (.t 30)], none, 0⟩,
 ⟨none, .mv 27 (.t 31), none, 0⟩,
 ⟨none, .ext 32 (.t 27) 0, none, 0⟩,
 ⟨none, .ext 33 (.t 27) 1, none, 0⟩,
 ⟨none, .alR 10 [(.int .i64 0), (.int .i64 0), (.int .i64 0), (.int .i64 0), (.int .i64 0), (.int .i64 0), (.int .i64 0), (.bool false), (.int .i64 0), (.slice none 0 0)], none, 0⟩,
 ⟨none, .stR 10 0 10 (.t 32), none, 0⟩,
 ⟨none, .mv 11 (.t 33), none, 0⟩]
def c5r7 : List SI := [
 ⟨none, .ldR 35 4 0 (some 2), none, 0⟩,
 ⟨none, .mv 36 (.t 1), none, 0⟩,
 ⟨none, .mv 37 (.t 2), none, 0⟩,
 ⟨none, .call 38 23 [(.t 35), (.t 36), (.t 37)], none, 0⟩,
 ⟨none, .mv 34 (.t 38), none, 0⟩,
 ⟨none, .ext 39 (.t 34) 0, none, 0⟩,
 ⟨none, .ext 40 (.t 34) 1, none, 0⟩,
 ⟨none, .alR 12 [(.int .i64 0), (.int .i64 0), (.int .i64 0), (.int .i64 0), (.int .i64 0), (.int .i64 0), (.int .i64 0), (.bool false), (.int .i64 0), (.slice none 0 0)], none, 0⟩,
 ⟨none, .stR 12 0 10 (.t 39), none, 0⟩,
 ⟨none, .mv 13 (.t 40), none, 0⟩]
def c5r8 : List SI := [
 ⟨none, .ldR 42 4 0 (some 2), none, 0⟩,
 ⟨none, .mv 43 (.t 1), none, 0⟩,
 ⟨none, .mv 44 (.t 3), none, 0⟩,
 ⟨none, .call 45 24 [(.t 42), (.t 43), (.t 44)], none, 0⟩,
 ⟨none, .mv 41 (.t 45), none, 0⟩,
 ⟨none, .ext 46 (.t 41) 0, none, 0⟩,
 ⟨none, .ext 47 (.t 41) 1, none, 0⟩,
 ⟨none, .mv 14 (.t 46), none, 0⟩,
 ⟨none, .mv 15 (.t 47), none, 0⟩]
def c5r9 : List SI := [
 ⟨none, .ldR 49 4 0 (some 2), none, 0⟩,
 ⟨none, .mv 50 (.t 1), none, 0⟩,
 ⟨none, .mv 51 (.t 3), none, 0⟩,
 ⟨none, .call 52 25 [(.t 49), (.t 50), (.t 51)], none, 0⟩,
 ⟨none, .mv 48 (.t 52), none, 0⟩,
 ⟨none, .ext 53 (.t 48) 0, none, 0⟩,
 ⟨none, .ext 54 (.t 48) 1, none, 0⟩,
 ⟨none, .mv 16 (.t 53), none, 0⟩,
 ⟨none, .mv 17 (.t 54), none, 0⟩]
def c5r10 : List SI := [
 ⟨none, .ldR 55 10 0 (some 10), none, 0⟩,
 ⟨none, .ldR 56 12 0 (some 10), none, 0⟩,
 ⟨none, .call 57 26 [(.t 55), (.t 56)], none, 0⟩,
 ⟨none, .mv 18 (.t 57), none, 0⟩]
def c5r11 : List SI := [
 ⟨none, .mv 58 (.t 9), none, 0⟩,
 ⟨none, .mv 59 (.t 58), none, 0⟩,
 ⟨some (59, true), .mv 60 (.t 18), none, 60⟩,
 ⟨none, .pick 61 (.t 59) (.t 60) (.b false), none, 0⟩,
 ⟨none, .mv 62 (.t 61), none, 0⟩,
 ⟨some (62, true), .mv 63 (.t 11), none, 63⟩,
 ⟨some (62, true), .mv 64 (.t 13), none, 64⟩,
 ⟨some (62, true), .bin 65 .eql (.t 63) (.t 64), none, 65⟩,
 ⟨none, .pick 66 (.t 62) (.t 65) (.b false), none, 0⟩,
 ⟨none, .mv 67 (.t 66), none, 0⟩,
 ⟨some (67, true), .mv 68 (.t 14), none, 68⟩,
 ⟨some (67, true), .mv 69 (.t 16), none, 69⟩,
 ⟨some (67, true), .bin 70 .eql (.t 68) (.t 69), none, 70⟩,
 ⟨none, .pick 71 (.t 67) (.t 70) (.b false), none, 0⟩,
 ⟨none, .mv 72 (.t 71), none, 0⟩,
 ⟨some (72, true), .mv 73 (.t 15), none, 73⟩,
 ⟨some (72, true), .mv 74 (.t 17), none, 74⟩,
 ⟨some (72, true), .bin 75 .eql (.t 73) (.t 74), none, 75⟩,
 ⟨none, .pick 76 (.t 72) (.t 75) (.b false), none, 0⟩,
 ⟨none, .mv 8 (.t 76), none, 0⟩]
def c5 : SC :=
 (.seq (.reg false c5r0)
 (.seq (.reg false c5r1)
 (.seq (.seq (.reg false c5r2)
 (.cond (.t 21)
  (.seq (.reg false c5r3)
  .ret)
  .skip))
 (.seq (.seq (.reg false c5r4)
 (.cond (.t 25)
  (.seq (.reg false c5r5)
  .ret)
  .skip))
 (.seq (.reg false c5r6)
 (.seq (.reg false c5r7)
 (.seq (.reg false c5r8)
 (.seq (.reg false c5r9)
 (.seq (.reg false c5r10)
 (.seq (.reg false c5r11)
 .ret))))))))))
def v5 : List Nat × List Nat := ([4, 10, 12], [4, 10, 12])
def o5 : List RS := [.t 8]
theorem s5 : slimC Try.prog Try.f5.ntmps v5.1 v5.2 ((Try.f5.body).getD .skip) = some c5 := by kernel_rfl
theorem q5 : slimR Try.prog Try.f5.ntmps v5.1 v5.2 Try.f5.results.toList = some o5 := by kernel_rfl
-- watermeet/watermeetlaw08.IndexNever N=126
def c6r0 : List SI := [
 ⟨none, .bxR 4 (.t 0), none, 0⟩,
 ⟨none, .mv 8 (.b false), none, 0⟩]
def c6r1 : List SI := [
 ⟨none, .call 19 11 [], none, 0⟩,
 ⟨none, .mv 9 (.t 19), none, 0⟩]
def c6r2 : List SI := [
 ⟨none, .mv 20 (.t 9), none, 0⟩,
 ⟨none, .un 21 .not (.t 20), none, 0⟩]
def c6r3 : List SI := [
 ⟨none, .mv 8 (.b false), none, 0⟩]
def c6r4 : List SI := [
 ⟨none, .ldR 22 4 0 (some 2), none, 0⟩,
 ⟨none, .call 23 12 [(.t 22), (.v (.slice none 0 0))], none, 0⟩,
 ⟨none, .un 24 .not (.t 23), none, 0⟩]
def c6r5 : List SI := [
 ⟨none, .mv 25 (.t 9), none, 0⟩,
 ⟨none, .mv 8 (.t 25), none, 0⟩]
def c6r6 : List SI := [
 ⟨none, .ldR 27 4 0 (some 2), none, 0⟩,
 ⟨none, .mv 28 (.t 1), none, 0⟩,
 ⟨none, .call 29 13 [(.t 27), (.t 28)], none, 0⟩,
 ⟨none, .mv 26 (.t 29), none, 0⟩,
 ⟨none, .ext 30 (.t 26) 0, none, 0⟩,
 ⟨none, .ext 31 (.t 26) 1, none, 0⟩,
 ⟨none, .mv 10 (.t 30), none, 0⟩,
 ⟨none, .mv 11 (.t 31), none, 0⟩]
def c6r7 : List SI := [
 ⟨none, .mv 32 (.t 11), none, 0⟩,
 ⟨none, .bin 33 .neq (.t 32) (.i 0), none, 0⟩]
def c6r8 : List SI := [
 ⟨none, .mv 34 (.t 9), none, 0⟩,
 ⟨none, .mv 35 (.t 34), none, 0⟩,
 ⟨some (35, true), .mv 36 (.t 10), none, 36⟩,
 ⟨some (35, true), .len 37 false (.t 36), none, 37⟩,
 ⟨some (35, true), .bin 38 .eql (.t 37) (.i 0), none, 38⟩,
 ⟨none, .pick 39 (.t 35) (.t 38) (.b false), none, 0⟩,
 ⟨none, .mv 8 (.t 39), none, 0⟩]
def c6r9 : List SI := [
 ⟨none, .ldR 41 4 0 (some 2), none, 0⟩,
 ⟨none, .call 42 27 [(.t 41)], none, 0⟩,
 ⟨none, .mv 40 (.t 42), none, 0⟩,
 ⟨none, .ext 43 (.t 40) 0, none, 0⟩,
 ⟨none, .ext 44 (.t 40) 1, none, 0⟩,
 ⟨none, .mv 12 (.t 43), none, 0⟩,
 ⟨none, .mv 13 (.t 44), none, 0⟩]
def c6r10 : List SI := [
 ⟨none, .mv 45 (.t 13), none, 0⟩,
 ⟨none, .nop, (some 4), 0⟩,
 ⟨none, .ldR 47 4 1 none, none, 0⟩,
 ⟨none, .len 48 false (.t 47), none, 0⟩,
 ⟨none, .bin 49 .neq (.t 45) (.t 48), none, 0⟩]
def c6r11 : List SI := [
 ⟨none, .mv 8 (.b false), none, 0⟩]
def c6r12 : List SI := [
 ⟨none, .mv 50 (.t 10), none, 0⟩,
 ⟨none, .mv 51 (.t 2), none, 0⟩,
 ⟨none, .call 52 18 [(.t 50), (.t 51)], none, 0⟩,
 ⟨none, .mv 53 (.t 10), none, 0⟩,
 ⟨none, .mv 54 (.t 3), none, 0⟩,
 ⟨none, .call 55 20 [(.t 53), (.t 54)], none, 0⟩,
 ⟨none, .mv 14 (.t 52), none, 0⟩,
 ⟨none, .mv 15 (.t 55), none, 0⟩]
def c6r13 : List SI := [
 ⟨none, .mv 16 (.i 0), none, 0⟩]
def c6r14 : List SI := [
 ⟨none, .mv 17 (.i 0), none, 0⟩]
def c6r15 : List SI := [
 ⟨none, .mv 56 (.t 17), none, 0⟩,
 ⟨none, .mv 57 (.t 12), none, 0⟩,
 ⟨none, .len 58 false (.t 57), none, 0⟩,
 ⟨none, .bin 59 .lss (.t 56) (.t 58), none, 0⟩]
def c6r16 : List SI := [
 ⟨none, .mv 62 (.t 16), none, 0⟩,
 ⟨none, .mv 63 (.t 14), none, 0⟩,
 ⟨none, .bin 64 .lss (.t 62) (.t 63), none, 0⟩,
 ⟨none, .mv 65 (.t 64), none, 0⟩,
 ⟨some (65, true), .mv 66 (.t 12), none, 66⟩,
 ⟨some (65, true), .mv 67 (.t 17), none, 67⟩,
 ⟨some (65, true), .ixA 68 (.t 66) (.t 67) 10, none, 68⟩,
 ⟨some (65, true), .flA 69 (.t 68) 1, none, 69⟩,
 ⟨some (65, true), .ld 70 (.t 69) none, none, 70⟩,
 ⟨some (65, true), .mv 71 (.t 2), none, 71⟩,
 ⟨some (65, true), .bin 72 .geq (.t 70) (.t 71), none, 72⟩,
 ⟨none, .pick 73 (.t 65) (.t 72) (.b false), none, 0⟩]
def c6r17 : List SI := [
 ⟨none, .mv 8 (.b false), none, 0⟩]
def c6r18 : List SI := [
 ⟨none, .mv 18 (.i 0), none, 0⟩]
def c6r19 : List SI := [
 ⟨none, .mv 74 (.t 18), none, 0⟩,
 ⟨none, .mv 75 (.t 12), none, 0⟩,
 ⟨none, .mv 76 (.t 17), none, 0⟩,
 ⟨none, .ixA 77 (.t 75) (.t 76) 10, none, 0⟩,
 ⟨none, .flA 78 (.t 77) 9, none, 0⟩,
 ⟨none, .ld 79 (.t 78) none, none, 0⟩,
 ⟨none, .len 80 false (.t 79), none, 0⟩,
 ⟨none, .bin 81 .lss (.t 74) (.t 80), none, 0⟩]
def c6r20 : List SI := [
 ⟨none, .mv 84 (.t 16), none, 0⟩,
 ⟨none, .mv 85 (.t 15), none, 0⟩,
 ⟨none, .bin 86 .lss (.t 84) (.t 85), none, 0⟩,
 ⟨none, .mv 87 (.t 86), none, 0⟩,
 ⟨some (87, true), .mv 88 (.t 12), none, 88⟩,
 ⟨some (87, true), .mv 89 (.t 17), none, 89⟩,
 ⟨some (87, true), .ixA 90 (.t 88) (.t 89) 10, none, 90⟩,
 ⟨some (87, true), .flA 91 (.t 90) 9, none, 91⟩,
 ⟨some (87, true), .ld 92 (.t 91) none, none, 92⟩,
 ⟨some (87, true), .mv 93 (.t 18), none, 93⟩,
 ⟨some (87, true), .ixA 94 (.t 92) (.t 93) 5, none, 94⟩,
 ⟨some (87, true), .flA 95 (.t 94) 4, none, 95⟩,
 ⟨some (87, true), .ld 96 (.t 95) none, none, 96⟩,
 ⟨some (87, true), .mv 97 (.t 3), none, 97⟩,
 ⟨some (87, true), .bin 98 .geq (.t 96) (.t 97), none, 98⟩,
 ⟨none, .pick 99 (.t 87) (.t 98) (.b false), none, 0⟩]
def c6r21 : List SI := [
 ⟨none, .mv 8 (.b false), none, 0⟩]
def c6r22 : List SI := [
 ⟨none, .mv 82 (.t 18), none, 0⟩,
 ⟨none, .bin 83 .add (.t 82) (.i 1), none, 0⟩,
 ⟨none, .mv 18 (.t 83), none, 0⟩]
def c6r23 : List SI := [
 ⟨none, .mv 100 (.t 16), none, 0⟩,
 ⟨none, .mv 101 (.t 12), none, 0⟩,
 ⟨none, .mv 102 (.t 17), none, 0⟩,
 ⟨none, .ixA 103 (.t 101) (.t 102) 10, none, 0⟩,
 ⟨none, .ld 104 (.t 103) (some 10), none, 0⟩,
 ⟨none, .call 105 28 [(.t 104)], none, 0⟩,
 ⟨none, .bin 106 .add (.t 100) (.t 105), none, 0⟩,
 ⟨none, .mv 16 (.t 106), none, 0⟩]
def c6r24 : List SI := [
 ⟨none, .mv 60 (.t 17), none, 0⟩,
 ⟨none, .bin 61 .add (.t 60) (.i 1), none, 0⟩,
 ⟨none, .mv 17 (.t 61), none, 0⟩]
def c6r25 : List SI := [
 ⟨none, .mv 107 (.t 9), none, 0⟩,
 ⟨none, .mv 108 (.t 107), none, 0⟩,
 ⟨some (108, true), .mv 109 (.t 14), none, 109⟩,
 ⟨some (108, true), .bin 110 .geq (.t 109) (.i 0), none, 110⟩,
 ⟨none, .pick 111 (.t 108) (.t 110) (.b false), none, 0⟩,
 ⟨none, .mv 112 (.t 111), none, 0⟩,
 ⟨some (112, true), .mv 113 (.t 14), none, 113⟩,
 ⟨some (112, true), .mv 114 (.t 16), none, 114⟩,
 ⟨some (112, true), .bin 115 .leq (.t 113) (.t 114), none, 115⟩,
 ⟨none, .pick 116 (.t 112) (.t 115) (.b false), none, 0⟩,
 ⟨none, .mv 117 (.t 116), none, 0⟩,
 ⟨some (117, true), .mv 118 (.t 15), none, 118⟩,
 ⟨some (117, true), .bin 119 .geq (.t 118) (.i 0), none, 119⟩,
 ⟨none, .pick 120 (.t 117) (.t 119) (.b false), none, 0⟩,
 ⟨none, .mv 121 (.t 120), none, 0⟩,
 ⟨some (121, true), .mv 122 (.t 15), none, 122⟩,
 ⟨some (121, true), .mv 123 (.t 16), none, 123⟩,
 ⟨some (121, true), .bin 124 .leq (.t 122) (.t 123), none, 124⟩,
 ⟨none, .pick 125 (.t 121) (.t 124) (.b false), none, 0⟩,
 ⟨none, .mv 8 (.t 125), none, 0⟩]
def c6 : SC :=
 (.seq (.reg false c6r0)
 (.seq (.reg false c6r1)
 (.seq (.seq (.reg false c6r2)
 (.cond (.t 21)
  (.seq (.reg false c6r3)
  .ret)
  .skip))
 (.seq (.seq (.reg false c6r4)
 (.cond (.t 24)
  (.seq (.reg false c6r5)
  .ret)
  .skip))
 (.seq (.reg false c6r6)
 (.seq (.seq (.reg false c6r7)
 (.cond (.t 33)
  (.seq (.reg false c6r8)
  .ret)
  .skip))
 (.seq (.reg false c6r9)
 (.seq (.seq (.reg false c6r10)
 (.cond (.t 49)
  (.seq (.reg false c6r11)
  .ret)
  .skip))
 (.seq (.reg false c6r12)
 (.seq (.reg false c6r13)
 (.seq (.seq (.reg false c6r14)
 (.blk 0 (.loop (.seq (.seq (.reg false c6r15)
   (.cond (.t 59)
    .skip
    (.exit 0)))
   (.seq (.blk 1 (.seq (.seq (.reg false c6r16)
    (.cond (.t 73)
     (.seq (.reg false c6r17)
     .ret)
     .skip))
    (.seq (.seq (.reg false c6r18)
    (.blk 2 (.loop (.seq (.seq (.reg false c6r19)
      (.cond (.t 81)
       .skip
       (.exit 2)))
      (.seq (.blk 3 (.seq (.reg false c6r20)
       (.cond (.t 99)
        (.seq (.reg false c6r21)
        .ret)
        .skip)))
      (.reg false c6r22))))))
    (.reg false c6r23))))
   (.reg false c6r24))))))
 (.seq (.reg false c6r25)
 .ret))))))))))))
def v6 : List Nat × List Nat := ([4], [4, 46])
def o6 : List RS := [.t 8]
theorem q6 : slimR Try.prog Try.f6.ntmps v6.1 v6.2 Try.f6.results.toList = some o6 := by kernel_rfl
-- watermeet/watermeetlaw08.IndexSpares N=113
def c7r0 : List SI := [
 ⟨none, .bxR 2 (.t 0), none, 0⟩,
 ⟨none, .mv 4 (.b false), none, 0⟩]
def c7r1 : List SI := [
 ⟨none, .call 9 11 [], none, 0⟩,
 ⟨none, .mv 5 (.t 9), none, 0⟩]
def c7r2 : List SI := [
 ⟨none, .mv 10 (.t 5), none, 0⟩,
 ⟨none, .un 11 .not (.t 10), none, 0⟩]
def c7r3 : List SI := [
 ⟨none, .mv 4 (.b false), none, 0⟩]
def c7r4 : List SI := [
 ⟨none, .ldR 12 2 0 (some 2), none, 0⟩,
 ⟨none, .call 13 12 [(.t 12), (.v (.slice none 0 0))], none, 0⟩,
 ⟨none, .un 14 .not (.t 13), none, 0⟩]
def c7r5 : List SI := [
 ⟨none, .mv 15 (.t 5), none, 0⟩,
 ⟨none, .mv 4 (.t 15), none, 0⟩]
def c7r6 : List SI := [
 ⟨none, .ldR 17 2 0 (some 2), none, 0⟩,
 ⟨none, .mv 18 (.t 1), none, 0⟩,
 ⟨none, .call 19 13 [(.t 17), (.t 18)], none, 0⟩,
 ⟨none, .mv 16 (.t 19), none, 0⟩,
 ⟨none, .ext 20 (.t 16) 0, none, 0⟩,
 ⟨none, .ext 21 (.t 16) 1, none, 0⟩,
 ⟨none, .mv 6 (.t 20), none, 0⟩,
 ⟨none, .mv 7 (.t 21), none, 0⟩]
def c7r7 : List SI := [
 ⟨none, .mv 22 (.t 7), none, 0⟩,
 ⟨none, .bin 23 .neq (.t 22) (.i 0), none, 0⟩]
def c7r8 : List SI := [
 ⟨none, .mv 24 (.t 5), none, 0⟩,
 ⟨none, .mv 25 (.t 24), none, 0⟩,
 ⟨some (25, true), .mv 26 (.t 6), none, 26⟩,
 ⟨some (25, true), .len 27 false (.t 26), none, 27⟩,
 ⟨some (25, true), .bin 28 .eql (.t 27) (.i 0), none, 28⟩,
 ⟨none, .pick 29 (.t 25) (.t 28) (.b false), none, 0⟩,
 ⟨none, .mv 4 (.t 29), none, 0⟩]
def c7r9 : List SI := [
 ⟨none, .mv 8 (.i 1), none, 0⟩]
def c7r10 : List SI := [
 ⟨none, .mv 30 (.t 8), none, 0⟩,
 ⟨none, .mv 31 (.t 6), none, 0⟩,
 ⟨none, .len 32 false (.t 31), none, 0⟩,
 ⟨none, .bin 33 .lss (.t 30) (.t 32), none, 0⟩]
def c7r11 : List SI := [
 ⟨none, .mv 36 (.t 6), none, 0⟩,
 ⟨none, .mv 37 (.t 8), none, 0⟩,
 ⟨none, .ixA 38 (.t 36) (.t 37) 3, none, 0⟩,
 ⟨none, .flA 39 (.t 38) 1, none, 0⟩,
 ⟨none, .ld 40 (.t 39) none, none, 0⟩,
 ⟨none, .mv 41 (.t 6), none, 0⟩,
 ⟨none, .mv 42 (.t 8), none, 0⟩,
 ⟨none, .bin 43 .sub (.t 42) (.i 1), none, 0⟩,
 ⟨none, .ixA 44 (.t 41) (.t 43) 3, none, 0⟩,
 ⟨none, .flA 45 (.t 44) 1, none, 0⟩,
 ⟨none, .ld 46 (.t 45) none, none, 0⟩,
 ⟨none, .bin 47 .sub (.t 40) (.t 46), none, 0⟩,
 ⟨none, .mv 48 (.t 1), none, 0⟩,
 ⟨none, .bin 49 .lss (.t 47) (.t 48), none, 0⟩,
 ⟨none, .mv 50 (.t 49), none, 0⟩,
 ⟨some (50, false), .mv 51 (.t 6), none, 51⟩,
 ⟨some (50, false), .mv 52 (.t 8), none, 52⟩,
 ⟨some (50, false), .ixA 53 (.t 51) (.t 52) 3, none, 53⟩,
 ⟨some (50, false), .flA 54 (.t 53) 0, none, 54⟩,
 ⟨some (50, false), .ld 55 (.t 54) none, none, 55⟩,
 ⟨some (50, false), .mv 56 (.t 6), none, 56⟩,
 ⟨some (50, false), .mv 57 (.t 8), none, 57⟩,
 ⟨some (50, false), .bin 58 .sub (.t 57) (.i 1), none, 58⟩,
 ⟨some (50, false), .ixA 59 (.t 56) (.t 58) 3, none, 59⟩,
 ⟨some (50, false), .flA 60 (.t 59) 0, none, 60⟩,
 ⟨some (50, false), .ld 61 (.t 60) none, none, 61⟩,
 ⟨some (50, false), .bin 62 .leq (.t 55) (.t 61), none, 62⟩,
 ⟨none, .pick 63 (.t 50) (.b true) (.t 62), none, 0⟩,
 ⟨none, .mv 64 (.t 63), none, 0⟩,
 ⟨some (64, false), .mv 65 (.t 6), none, 65⟩,
 ⟨some (64, false), .mv 66 (.t 8), none, 66⟩,
 ⟨some (64, false), .ixA 67 (.t 65) (.t 66) 3, none, 67⟩,
 ⟨some (64, false), .flA 68 (.t 67) 2, none, 68⟩,
 ⟨some (64, false), .ld 69 (.t 68) none, none, 69⟩,
 ⟨some (64, false), .mv 70 (.t 6), none, 70⟩,
 ⟨some (64, false), .mv 71 (.t 8), none, 71⟩,
 ⟨some (64, false), .bin 72 .sub (.t 71) (.i 1), none, 72⟩,
 ⟨some (64, false), .ixA 73 (.t 70) (.t 72) 3, none, 73⟩,
 ⟨some (64, false), .flA 74 (.t 73) 2, none, 74⟩,
 ⟨some (64, false), .ld 75 (.t 74) none, none, 75⟩,
 ⟨some (64, false), .bin 76 .lss (.t 69) (.t 75), none, 76⟩,
 ⟨none, .pick 77 (.t 64) (.b true) (.t 76), none, 0⟩]
def c7r12 : List SI := [
 ⟨none, .mv 4 (.b false), none, 0⟩]
def c7r13 : List SI := [
 ⟨none, .mv 34 (.t 8), none, 0⟩,
 ⟨none, .bin 35 .add (.t 34) (.i 1), none, 0⟩,
 ⟨none, .mv 8 (.t 35), none, 0⟩]
def c7r14 : List SI := [
 ⟨none, .mv 78 (.t 5), none, 0⟩,
 ⟨none, .mv 79 (.t 78), none, 0⟩,
 ⟨some (79, true), .mv 80 (.t 6), none, 80⟩,
 ⟨some (79, true), .len 81 false (.t 80), none, 81⟩,
 ⟨some (79, true), .bin 82 .gtr (.t 81) (.i 0), none, 82⟩,
 ⟨some (79, true), .nop, (some 2), 99999⟩,
 ⟨some (79, true), .ldR 84 2 1 none, none, 84⟩,
 ⟨some (79, true), .len 85 false (.t 84), none, 85⟩,
 ⟨some (79, true), .bin 86 .gtr (.t 85) (.i 0), none, 86⟩,
 ⟨some (79, true), .eqb 87 false (.t 82) (.t 86), none, 87⟩,
 ⟨none, .pick 88 (.t 79) (.t 87) (.b false), none, 0⟩,
 ⟨none, .mv 89 (.t 88), none, 0⟩,
 ⟨some (89, true), .mv 90 (.t 6), none, 90⟩,
 ⟨some (89, true), .len 91 false (.t 90), none, 91⟩,
 ⟨some (89, true), .nop, (some 2), 99999⟩,
 ⟨some (89, true), .ldR 93 2 1 none, none, 93⟩,
 ⟨some (89, true), .len 94 false (.t 93), none, 94⟩,
 ⟨some (89, true), .mv 95 (.t 1), none, 95⟩,
 ⟨some (89, true), .mm 96 true (.t 95) (.i 1), none, 96⟩,
 ⟨some (89, true), .bin 97 .quo (.t 94) (.t 96), none, 97⟩,
 ⟨some (89, true), .bin 98 .add (.t 97) (.i 1), none, 98⟩,
 ⟨some (89, true), .bin 99 .leq (.t 91) (.t 98), none, 99⟩,
 ⟨none, .pick 100 (.t 89) (.t 99) (.b false), none, 0⟩,
 ⟨none, .mv 101 (.t 100), none, 0⟩,
 ⟨some (101, true), .mv 102 (.t 6), none, 102⟩,
 ⟨some (101, true), .len 103 false (.t 102), none, 103⟩,
 ⟨some (101, true), .bin 104 .eql (.t 103) (.i 0), none, 104⟩,
 ⟨some (101, true), .mv 105 (.t 104), none, 105⟩,
 ⟨some (105, false), .mv 106 (.t 6), none, 106⟩,
 ⟨some (105, false), .ixA 107 (.t 106) (.i 0) 3, none, 107⟩,
 ⟨some (105, false), .flA 108 (.t 107) 1, none, 108⟩,
 ⟨some (105, false), .ld 109 (.t 108) none, none, 109⟩,
 ⟨some (105, false), .bin 110 .eql (.t 109) (.i 0), none, 110⟩,
 ⟨some (101, true), .pick 111 (.t 105) (.b true) (.t 110), none, 111⟩,
 ⟨none, .pick 112 (.t 101) (.t 111) (.b false), none, 0⟩,
 ⟨none, .mv 4 (.t 112), none, 0⟩]
def c7 : SC :=
 (.seq (.reg false c7r0)
 (.seq (.reg false c7r1)
 (.seq (.seq (.reg false c7r2)
 (.cond (.t 11)
  (.seq (.reg false c7r3)
  .ret)
  .skip))
 (.seq (.seq (.reg false c7r4)
 (.cond (.t 14)
  (.seq (.reg false c7r5)
  .ret)
  .skip))
 (.seq (.reg false c7r6)
 (.seq (.seq (.reg false c7r7)
 (.cond (.t 23)
  (.seq (.reg false c7r8)
  .ret)
  .skip))
 (.seq (.seq (.reg false c7r9)
 (.blk 0 (.loop (.seq (.seq (.reg false c7r10)
   (.cond (.t 33)
    .skip
    (.exit 0)))
   (.seq (.blk 1 (.seq (.reg true c7r11)
    (.cond (.t 77)
     (.seq (.reg false c7r12)
     .ret)
     .skip)))
   (.reg false c7r13))))))
 (.seq (.reg false c7r14)
 .ret))))))))
def v7 : List Nat × List Nat := ([2], [2, 83, 92])
def o7 : List RS := [.t 4]
theorem q7 : slimR Try.prog Try.f7.ntmps v7.1 v7.2 Try.f7.results.toList = some o7 := by kernel_rfl
-- watermeet/watermeetlaw08.IndexGrows N=91
def v8 : List Nat × List Nat := ([3, 4, 9], [3, 4, 9])
def o8 : List RS := [.t 6]
theorem q8 : slimR Try.prog Try.f8.ntmps v8.1 v8.2 Try.f8.results.toList = some o8 := by kernel_rfl
-- watermeet/watermeetlaw08.IndexLeaves N=197
def v9 : List Nat × List Nat := ([5, 20, 22, 24], [5, 20, 22, 24])
def o9 : List RS := [.t 10]
theorem q9 : slimR Try.prog Try.f9.ntmps v9.1 v9.2 Try.f9.results.toList = some o9 := by kernel_rfl
-- watermeet/watermeetlaw08.IndexWhole N=155
def v10 : List Nat × List Nat := ([4, 16, 20], [4, 16, 20])
def o10 : List RS := [.t 8]
theorem q10 : slimR Try.prog Try.f10.ntmps v10.1 v10.2 Try.f10.results.toList = some o10 := by kernel_rfl
-- watermeet/watermeetlaw08.live N=135
def c11r0 : List SI := [
 ⟨none, .mv 0 (.b false), none, 0⟩]
def c11r1 : List SI := [
 ⟨none, .call 12 32 [], none, 0⟩,
 ⟨none, .mv 11 (.t 12), none, 0⟩,
 ⟨none, .ext 13 (.t 11) 0, none, 0⟩,
 ⟨none, .ext 14 (.t 11) 1, none, 0⟩,
 ⟨none, .alR 1 [(.int .i64 0), (.slice none 0 0)], none, 0⟩,
 ⟨none, .stR 1 0 2 (.t 13), none, 0⟩,
 ⟨none, .mv 2 (.t 14), none, 0⟩]
def c11r2 : List SI := [
 ⟨none, .ldR 16 1 0 (some 2), none, 0⟩,
 ⟨none, .call 17 13 [(.t 16), (.i 1)], none, 0⟩,
 ⟨none, .mv 15 (.t 17), none, 0⟩,
 ⟨none, .ext 18 (.t 15) 0, none, 0⟩,
 ⟨none, .ext 19 (.t 15) 1, none, 0⟩,
 ⟨none, .mv 3 (.t 18), none, 0⟩,
 ⟨none, .mv 4 (.t 19), none, 0⟩]
def c11r3 : List SI := [
 ⟨none, .mv 20 (.t 2), none, 0⟩,
 ⟨none, .un 21 .not (.t 20), none, 0⟩,
 ⟨none, .mv 22 (.t 21), none, 0⟩,
 ⟨some (22, false), .mv 23 (.t 4), none, 23⟩,
 ⟨some (22, false), .bin 24 .neq (.t 23) (.i 0), none, 24⟩,
 ⟨none, .pick 25 (.t 22) (.b true) (.t 24), none, 0⟩,
 ⟨none, .mv 26 (.t 25), none, 0⟩,
 ⟨some (26, false), .mv 27 (.t 3), none, 27⟩,
 ⟨some (26, false), .len 28 false (.t 27), none, 28⟩,
 ⟨some (26, false), .bin 29 .neq (.t 28) (.i 2), none, 29⟩,
 ⟨none, .pick 30 (.t 26) (.b true) (.t 29), none, 0⟩]
def c11r4 : List SI := [
 ⟨none, .mv 0 (.b false), none, 0⟩]
def c11r5 : List SI := [
 ⟨none, .ldR 32 1 0 (some 2), none, 0⟩,
 ⟨none, .mv 33 (.t 3), none, 0⟩,
 ⟨none, .call 34 24 [(.t 32), (.t 33), (.i 6)], none, 0⟩,
 ⟨none, .mv 31 (.t 34), none, 0⟩,
 ⟨none, .ext 35 (.t 31) 0, none, 0⟩,
 ⟨none, .ext 36 (.t 31) 1, none, 0⟩,
 ⟨none, .mv 5 (.t 35), none, 0⟩,
 ⟨none, .mv 6 (.t 36), none, 0⟩]
def c11r6 : List SI := [
 ⟨none, .ldR 38 1 0 (some 2), none, 0⟩,
 ⟨none, .mv 39 (.t 3), none, 0⟩,
 ⟨none, .call 40 24 [(.t 38), (.t 39), (.i 8)], none, 0⟩,
 ⟨none, .mv 37 (.t 40), none, 0⟩,
 ⟨none, .ext 41 (.t 37) 0, none, 0⟩,
 ⟨none, .ext 42 (.t 37) 1, none, 0⟩,
 ⟨none, .mv 7 (.t 41), none, 0⟩,
 ⟨none, .mv 8 (.t 42), none, 0⟩]
def c11r7 : List SI := [
 ⟨none, .ldR 44 1 0 (some 2), none, 0⟩,
 ⟨none, .mv 45 (.t 3), none, 0⟩,
 ⟨none, .call 46 22 [(.t 44), (.t 45), (.i 2)], none, 0⟩,
 ⟨none, .mv 43 (.t 46), none, 0⟩,
 ⟨none, .ext 47 (.t 43) 0, none, 0⟩,
 ⟨none, .ext 48 (.t 43) 1, none, 0⟩,
 ⟨none, .alR 9 [(.int .i64 0), (.int .i64 0), (.int .i64 0), (.int .i64 0), (.int .i64 0), (.int .i64 0), (.int .i64 0), (.bool false), (.int .i64 0), (.slice none 0 0)], none, 0⟩,
 ⟨none, .stR 9 0 10 (.t 47), none, 0⟩,
 ⟨none, .mv 10 (.t 48), none, 0⟩]
-- BIG 8
def c11r8 : List (Bool × SI) := [
 (true, ⟨none, .mv 49 (.t 3), none, 0⟩),
 (true, ⟨none, .ixA 50 (.t 49) (.i 0) 3, none, 0⟩),
 (true, ⟨none, .ld 51 (.t 50) (some 3), none, 0⟩),
 (true, ⟨none, .bld 52 [(.int .i64 0), (.int .i64 0), (.int .i64 0)] [(2, 1, (.i 7))], none, 0⟩),
 (true, ⟨none, .eqf 53 false [0, 0, 0] (.t 51) (.t 52), none, 0⟩),
 (true, ⟨none, .mv 54 (.t 53), none, 0⟩),
 (true, ⟨some (54, true), .mv 55 (.t 3), none, 55⟩),
 (true, ⟨some (54, true), .ixA 56 (.t 55) (.i 1) 3, none, 56⟩),
 (true, ⟨some (54, true), .flA 57 (.t 56) 0, none, 57⟩),
 (true, ⟨some (54, true), .ld 58 (.t 57) none, none, 58⟩),
 (true, ⟨some (54, true), .bin 59 .eql (.t 58) (.i 2), none, 59⟩),
 (true, ⟨none, .pick 60 (.t 54) (.t 59) (.b false), none, 0⟩),
 (true, ⟨none, .mv 61 (.t 60), none, 0⟩),
 (true, ⟨some (61, true), .mv 62 (.t 3), none, 62⟩),
 (true, ⟨some (61, true), .ixA 63 (.t 62) (.i 1) 3, none, 63⟩),
 (true, ⟨some (61, true), .flA 64 (.t 63) 1, none, 64⟩),
 (true, ⟨some (61, true), .ld 65 (.t 64) none, none, 65⟩),
 (true, ⟨some (61, true), .bin 66 .gtr (.t 65) (.i 0), none, 66⟩),
 (true, ⟨none, .pick 67 (.t 61) (.t 66) (.b false), none, 0⟩),
 (true, ⟨none, .mv 68 (.t 67), none, 0⟩),
 (true, ⟨some (68, true), .mv 69 (.t 3), none, 69⟩),
 (true, ⟨some (68, true), .ixA 70 (.t 69) (.i 1) 3, none, 70⟩),
 (true, ⟨some (68, true), .flA 71 (.t 70) 2, none, 71⟩),
 (true, ⟨some (68, true), .ld 72 (.t 71) none, none, 72⟩),
 (true, ⟨some (68, true), .bin 73 .eql (.t 72) (.i 7), none, 73⟩),
 (true, ⟨none, .pick 74 (.t 68) (.t 73) (.b false), none, 0⟩),
 (true, ⟨none, .mv 75 (.t 74), none, 0⟩),
 (true, ⟨some (75, true), .mv 76 (.t 5), none, 76⟩),
 (true, ⟨some (75, true), .bin 77 .eql (.t 76) (.i 1), none, 77⟩),
 (true, ⟨none, .pick 78 (.t 75) (.t 77) (.b false), none, 0⟩),
 (true, ⟨none, .mv 79 (.t 78), none, 0⟩),
 (true, ⟨some (79, true), .mv 80 (.t 6), none, 80⟩),
 (true, ⟨some (79, true), .bin 81 .eql (.t 80) (.i 0), none, 81⟩),
 (true, ⟨none, .pick 82 (.t 79) (.t 81) (.b false), none, 0⟩),
 (true, ⟨none, .mv 83 (.t 82), none, 0⟩),
 (true, ⟨some (83, true), .mv 84 (.t 8), none, 84⟩),
 (true, ⟨some (83, true), .bin 85 .eql (.t 84) (.i 90), none, 85⟩),
 (true, ⟨none, .pick 86 (.t 83) (.t 85) (.b false), none, 0⟩),
 (true, ⟨none, .mv 87 (.t 86), none, 0⟩),
 (true, ⟨some (87, true), .nop, (some 9), 99999⟩),
 (true, ⟨some (87, true), .ldR 89 9 0 none, none, 89⟩),
 (true, ⟨some (87, true), .bin 90 .eql (.t 89) (.i 2), none, 90⟩),
 (true, ⟨none, .pick 91 (.t 87) (.t 90) (.b false), none, 0⟩),
 (true, ⟨none, .mv 92 (.t 91), none, 0⟩),
 (true, ⟨some (92, true), .mv 93 (.t 10), none, 93⟩),
 (true, ⟨some (92, true), .bin 94 .eql (.t 93) (.i 0), none, 94⟩),
 (true, ⟨none, .pick 95 (.t 92) (.t 94) (.b false), none, 0⟩),
 (true, ⟨none, .mv 96 (.t 95), none, 0⟩),
 (true, ⟨some (96, true), .ldR 97 1 0 (some 2), none, 97⟩),
 (true, ⟨some (96, true), .mv 98 (.t 3), none, 98⟩),
 (false, ⟨some (96, true), .call 99 16 [(.t 97), (.t 98)], none, 99⟩),
 (true, ⟨some (96, true), .bin 100 .eql (.t 99) (.i 0), none, 100⟩),
 (true, ⟨none, .pick 101 (.t 96) (.t 100) (.b false), none, 0⟩),
 (true, ⟨none, .mv 102 (.t 101), none, 0⟩),
 (true, ⟨some (102, true), .ldR 103 1 0 (some 2), none, 103⟩),
 (false, ⟨some (102, true), .call 104 16 [(.t 103), (.v (.slice none 0 0))], none, 104⟩),
 (true, ⟨some (102, true), .bin 105 .eql (.t 104) (.i 1), none, 105⟩),
 (true, ⟨none, .pick 106 (.t 102) (.t 105) (.b false), none, 0⟩),
 (true, ⟨none, .mv 107 (.t 106), none, 0⟩),
 (true, ⟨some (107, true), .mv 108 (.t 3), none, 108⟩),
 (false, ⟨some (107, true), .call 109 18 [(.t 108), (.i 1)], none, 109⟩),
 (true, ⟨some (107, true), .bin 110 .eql (.t 109) (.i 0), none, 110⟩),
 (true, ⟨none, .pick 111 (.t 107) (.t 110) (.b false), none, 0⟩),
 (true, ⟨none, .mv 112 (.t 111), none, 0⟩),
 (true, ⟨some (112, true), .mv 113 (.t 3), none, 113⟩),
 (true, ⟨some (112, true), .mv 115 (.t 3), none, 115⟩),
 (true, ⟨some (112, true), .ixA 116 (.t 115) (.i 1) 3, none, 116⟩),
 (true, ⟨some (112, true), .flA 117 (.t 116) 1, none, 117⟩),
 (true, ⟨some (112, true), .ld 118 (.t 117) none, none, 118⟩),
 (false, ⟨some (112, true), .call 114 18 [(.t 113), (.i 2)], none, 114⟩),
 (true, ⟨some (112, true), .bin 119 .eql (.t 114) (.t 118), none, 119⟩),
 (true, ⟨none, .pick 120 (.t 112) (.t 119) (.b false), none, 0⟩),
 (true, ⟨none, .mv 121 (.t 120), none, 0⟩),
 (true, ⟨some (121, true), .mv 122 (.t 3), none, 122⟩),
 (true, ⟨some (121, true), .mv 124 (.t 3), none, 124⟩),
 (true, ⟨some (121, true), .ixA 125 (.t 124) (.i 1) 3, none, 125⟩),
 (true, ⟨some (121, true), .flA 126 (.t 125) 1, none, 126⟩),
 (true, ⟨some (121, true), .ld 127 (.t 126) none, none, 127⟩),
 (false, ⟨some (121, true), .call 123 20 [(.t 122), (.i 8)], none, 123⟩),
 (true, ⟨some (121, true), .bin 128 .eql (.t 123) (.t 127), none, 128⟩),
 (true, ⟨none, .pick 129 (.t 121) (.t 128) (.b false), none, 0⟩),
 (true, ⟨none, .mv 130 (.t 129), none, 0⟩),
 (true, ⟨some (130, true), .mv 131 (.t 3), none, 131⟩),
 (false, ⟨some (130, true), .call 132 20 [(.t 131), (.i 7)], none, 132⟩),
 (true, ⟨some (130, true), .bin 133 .eql (.t 132) (.i 0), none, 133⟩),
 (true, ⟨none, .pick 134 (.t 130) (.t 133) (.b false), none, 0⟩),
 (true, ⟨none, .mv 0 (.t 134), none, 0⟩)]
def c11 : SC :=
 (.seq (.reg false c11r0)
 (.seq (.reg false c11r1)
 (.seq (.reg false c11r2)
 (.seq (.seq (.reg false c11r3)
 (.cond (.t 30)
  (.seq (.reg false c11r4)
  .ret)
  .skip))
 (.seq (.reg false c11r5)
 (.seq (.reg false c11r6)
 (.seq (.reg false c11r7)
 (.seq (.rgX c11r8)
 .ret))))))))
def v11 : List Nat × List Nat := ([1, 9], [1, 9, 88])
def o11 : List RS := [.t 0]
def u11r8 : List (Bool × Nat) := [(true, 0), (true, 1), (true, 2), (true, 3), (true, 4), (true, 5), (true, 6), (true, 7), (true, 8), (true, 9), (true, 10), (true, 11), (true, 12), (true, 13), (true, 14), (true, 15), (true, 16), (true, 17), (true, 18), (true, 19), (true, 20), (true, 21), (true, 22), (true, 23), (true, 24), (true, 25), (true, 26), (true, 27), (true, 28), (true, 29), (true, 30), (true, 31), (true, 32), (true, 33), (true, 34), (true, 35), (true, 36), (true, 37), (true, 38), (true, 39), (true, 40), (true, 41), (true, 42), (true, 43), (true, 44), (true, 45), (true, 46), (true, 47), (true, 48), (true, 49), (false, 50), (true, 51), (true, 52), (true, 53), (true, 54), (false, 55), (true, 56), (true, 57), (true, 58), (true, 59), (false, 60), (true, 61), (true, 62), (true, 63), (true, 64), (true, 66), (true, 67), (true, 68), (true, 69), (false, 65), (true, 70), (true, 71), (true, 72), (true, 73), (true, 75), (true, 76), (true, 77), (true, 78), (false, 74), (true, 79), (true, 80), (true, 81), (true, 82), (false, 83), (true, 84), (true, 85), (true, 86)]
theorem x11r8a : (Region.noSelect (regN 8 ((Try.f11.body).getD .skip)) && (regN 8 ((Try.f11.body).getD .skip)).all (dstOk v11.1)) = true := by kernel_rfl
theorem x11r8b : schedB .any (regN 8 ((Try.f11.body).getD .skip)) u11r8 (Array.replicate (regN 8 ((Try.f11.body).getD .skip)).size false) = true := by kernel_rfl
theorem x11r8c : slimX3 Try.prog Try.f11.ntmps v11.1 v11.2 (regN 8 ((Try.f11.body).getD .skip)) u11r8 = some c11r8 := by kernel_rfl
theorem x11r8 : XOk Try.prog Try.f11.ntmps v11.1 v11.2 (regN 8 ((Try.f11.body).getD .skip)) c11r8 := XOk.mk u11r8 x11r8a x11r8b (by kernel_rfl) x11r8c
theorem s11 : SlimC Try.prog Try.f11.ntmps v11.1 v11.2 ((Try.f11.body).getD .skip) c11 := SlimC.mk [(8, c11r8)] (⟨⟨_, by kernel_rfl, x11r8⟩, trivial⟩) (by kernel_rfl)
theorem q11 : slimR Try.prog Try.f11.ntmps v11.1 v11.2 Try.f11.results.toList = some o11 := by kernel_rfl
-- watermeet/watermeetlaw08.few N=14
def c12r0 : List SI := [
 ⟨none, .bxR 2 (.t 0), none, 0⟩,
 ⟨none, .mv 4 (.b false), none, 0⟩]
def c12r1 : List SI := [
 ⟨none, .nop, (some 2), 0⟩,
 ⟨none, .ldR 6 2 1 none, none, 0⟩,
 ⟨none, .len 7 false (.t 6), none, 0⟩,
 ⟨none, .bin 8 .leq (.t 7) (.i 3000), none, 0⟩,
 ⟨none, .mv 9 (.t 8), none, 0⟩,
 ⟨some (9, true), .mv 10 (.t 1), none, 10⟩,
 ⟨some (9, true), .len 11 false (.t 10), none, 11⟩,
 ⟨some (9, true), .bin 12 .leq (.t 11) (.i 200), none, 12⟩,
 ⟨none, .pick 13 (.t 9) (.t 12) (.b false), none, 0⟩,
 ⟨none, .mv 4 (.t 13), none, 0⟩]
def c12 : SC :=
 (.seq (.reg false c12r0)
 (.seq (.reg false c12r1)
 .ret))
def v12 : List Nat × List Nat := ([2], [2, 5])
def o12 : List RS := [.t 4]
theorem s12 : slimC Try.prog Try.f12.ntmps v12.1 v12.2 ((Try.f12.body).getD .skip) = some c12 := by kernel_rfl
theorem q12 : slimR Try.prog Try.f12.ntmps v12.1 v12.2 Try.f12.results.toList = some o12 := by kernel_rfl
-- watermeet/index.Make N=43
def c13r0 : List SI := [
 ⟨none, .bx 2 (.t 0), none, 0⟩,
 ⟨none, .bx 3 (.t 1), none, 0⟩,
 ⟨none, .mv 4 (.v (.slice none 0 0)), none, 0⟩,
 ⟨none, .mv 5 (.i 0), none, 0⟩]
def c13r1 : List SI := [
 ⟨none, .ld 12 (.t 2) (some 2), none, 0⟩,
 ⟨none, .call 13 33 [(.t 12)], none, 0⟩,
 ⟨none, .mv 11 (.t 13), none, 0⟩,
 ⟨none, .ext 14 (.t 11) 0, none, 0⟩,
 ⟨none, .ext 15 (.t 11) 1, none, 0⟩,
 ⟨none, .mv 6 (.t 14), none, 0⟩,
 ⟨none, .mv 7 (.t 15), none, 0⟩]
def c13r2 : List SI := [
 ⟨none, .mv 16 (.t 7), none, 0⟩,
 ⟨none, .un 17 .not (.t 16), none, 0⟩,
 ⟨none, .mv 18 (.t 17), none, 0⟩,
 ⟨some (18, false), .ld 19 (.t 3) none, none, 19⟩,
 ⟨some (18, false), .bin 20 .lss (.t 19) (.i 1), none, 20⟩,
 ⟨none, .pick 21 (.t 18) (.b true) (.t 20), none, 0⟩,
 ⟨none, .mv 22 (.t 21), none, 0⟩,
 ⟨some (22, false), .ld 23 (.t 3) none, none, 23⟩,
 ⟨some (22, false), .bin 24 .gtr (.t 23) (.i 4096), none, 24⟩,
 ⟨none, .pick 25 (.t 22) (.b true) (.t 24), none, 0⟩]
def c13r3 : List SI := [
 ⟨none, .mv 4 (.v (.slice none 0 0)), none, 0⟩,
 ⟨none, .mv 5 (.i 1), none, 0⟩]
def c13r4 : List SI := [
 ⟨none, .al 8 [(.slice none 0 0)], none, 0⟩]
def c13r5 : List SI := [
 ⟨none, .al 9 [(.int .i64 0)], none, 0⟩,
 ⟨none, .st (.t 9) 1 (.i 0), none, 0⟩]
def c13r6 : List SI := [
 ⟨none, .mv 26 (.t 6), none, 0⟩,
 ⟨none, .call 27 34 [(.t 26)], none, 0⟩]
def c13r7 : List SI := [
 ⟨none, .alR 10 [(.int .i64 0), (.int .i64 0), (.int .i64 0)], none, 0⟩,
 ⟨none, .stR 10 0 3 (.t 28), none, 0⟩]
def c13r8 : List SI := [
 ⟨none, .nop, (some 10), 0⟩,
 ⟨none, .ldR 31 10 1 none, none, 0⟩,
 ⟨none, .ld 32 (.t 9) none, none, 0⟩,
 ⟨none, .bin 33 .geq (.t 31) (.t 32), none, 0⟩]
def c13r9 : List SI := [
 ⟨none, .ld 34 (.t 8) none, none, 0⟩,
 ⟨none, .ldR 35 10 0 (some 3), none, 0⟩,
 ⟨none, .bls 36 53 1 3 [(.int .i64 0), (.int .i64 0), (.int .i64 0)] [(0, 3, (.t 35))], none, 0⟩,
 ⟨none, .app 37 (.t 34) (.t 36) 53 3 24, none, 0⟩,
 ⟨none, .st (.t 8) 1 (.t 37), none, 0⟩]
def c13r10 : List SI := [
 ⟨none, .nop, (some 10), 0⟩,
 ⟨none, .ldR 39 10 1 none, none, 0⟩,
 ⟨none, .ld 40 (.t 3) none, none, 0⟩,
 ⟨none, .bin 41 .add (.t 39) (.t 40), none, 0⟩,
 ⟨none, .st (.t 9) 1 (.t 41), none, 0⟩]
def c13r11 : List SI := [
 ⟨none, .ld 42 (.t 8) none, none, 0⟩,
 ⟨none, .mv 4 (.t 42), none, 0⟩,
 ⟨none, .mv 5 (.i 0), none, 0⟩]
def c13 : SC :=
 (.seq (.reg false c13r0)
 (.seq (.reg false c13r1)
 (.seq (.seq (.reg false c13r2)
 (.cond (.t 25)
  (.seq (.reg false c13r3)
  .ret)
  .skip))
 (.seq (.reg false c13r4)
 (.seq (.reg false c13r5)
 (.seq (.seq (.reg false c13r6)
 (.blk 0 (.rf (.t 27) [28, 29] (.reg false c13r7)
   (.blk 1 (.seq (.reg false c13r8)
    (.cond (.t 33)
     (.seq (.reg false c13r9)
     (.reg false c13r10))
     .skip))))))
 (.seq (.reg false c13r11)
 .ret)))))))
def v13 : List Nat × List Nat := ([10], [10, 30, 38])
def o13 : List RS := [.t 4, .t 5]
theorem s13 : slimC Try.prog Try.f13.ntmps v13.1 v13.2 ((Try.f13.body).getD .skip) = some c13 := by kernel_rfl
theorem q13 : slimR Try.prog Try.f13.ntmps v13.1 v13.2 Try.f13.results.toList = some o13 := by kernel_rfl
-- watermeet/watermeetref08.Make N=56
def c14r0 : List SI := [
 ⟨none, .bxR 2 (.t 0), none, 0⟩,
 ⟨none, .mv 4 (.v (.slice none 0 0)), none, 0⟩,
 ⟨none, .mv 5 (.i 0), none, 0⟩]
def c14r1 : List SI := [
 ⟨none, .ldR 9 2 0 (some 2), none, 0⟩,
 ⟨none, .call 10 35 [(.t 9)], none, 0⟩,
 ⟨none, .un 11 .not (.t 10), none, 0⟩,
 ⟨none, .mv 12 (.t 11), none, 0⟩,
 ⟨some (12, false), .mv 13 (.t 1), none, 13⟩,
 ⟨some (12, false), .bin 14 .lss (.t 13) (.i 1), none, 14⟩,
 ⟨none, .pick 15 (.t 12) (.b true) (.t 14), none, 0⟩,
 ⟨none, .mv 16 (.t 15), none, 0⟩,
 ⟨some (16, false), .mv 17 (.t 1), none, 17⟩,
 ⟨some (16, false), .bin 18 .gtr (.t 17) (.i 4096), none, 18⟩,
 ⟨none, .pick 19 (.t 16) (.b true) (.t 18), none, 0⟩]
def c14r2 : List SI := [
 ⟨none, .mv 4 (.v (.slice none 0 0)), none, 0⟩,
 ⟨none, .mv 5 (.i 1), none, 0⟩]
def c14r3 : List SI := [
 ⟨none, .ldR 20 2 0 (some 2), none, 0⟩,
 ⟨none, .call 21 36 [(.t 20)], none, 0⟩,
 ⟨none, .mv 6 (.t 21), none, 0⟩]
def c14r4 : List SI := [
 ⟨none, .mv 7 (.v (.slice none 0 0)), none, 0⟩]
def c14r5 : List SI := [
 ⟨none, .mv 8 (.i 0), none, 0⟩]
def c14r6 : List SI := [
 ⟨none, .mv 22 (.t 8), none, 0⟩,
 ⟨none, .mv 23 (.t 6), none, 0⟩,
 ⟨none, .len 24 false (.t 23), none, 0⟩,
 ⟨none, .bin 25 .lss (.t 22) (.t 24), none, 0⟩]
def c14r7 : List SI := [
 ⟨none, .mv 28 (.t 7), none, 0⟩,
 ⟨none, .len 29 false (.t 28), none, 0⟩,
 ⟨none, .bin 30 .eql (.t 29) (.i 0), none, 0⟩,
 ⟨none, .mv 31 (.t 30), none, 0⟩,
 ⟨some (31, false), .mv 32 (.t 6), none, 32⟩,
 ⟨some (31, false), .mv 33 (.t 8), none, 33⟩,
 ⟨some (31, false), .ixA 34 (.t 32) (.t 33) 3, none, 34⟩,
 ⟨some (31, false), .flA 35 (.t 34) 1, none, 35⟩,
 ⟨some (31, false), .ld 36 (.t 35) none, none, 36⟩,
 ⟨some (31, false), .mv 37 (.t 7), none, 37⟩,
 ⟨some (31, false), .mv 38 (.t 7), none, 38⟩,
 ⟨some (31, false), .len 39 false (.t 38), none, 39⟩,
 ⟨some (31, false), .bin 40 .sub (.t 39) (.i 1), none, 40⟩,
 ⟨some (31, false), .ixA 41 (.t 37) (.t 40) 3, none, 41⟩,
 ⟨some (31, false), .flA 42 (.t 41) 1, none, 42⟩,
 ⟨some (31, false), .ld 43 (.t 42) none, none, 43⟩,
 ⟨some (31, false), .bin 44 .sub (.t 36) (.t 43), none, 44⟩,
 ⟨some (31, false), .mv 45 (.t 1), none, 45⟩,
 ⟨some (31, false), .bin 46 .geq (.t 44) (.t 45), none, 46⟩,
 ⟨none, .pick 47 (.t 31) (.b true) (.t 46), none, 0⟩]
def c14r8 : List SI := [
 ⟨none, .mv 48 (.t 7), none, 0⟩,
 ⟨none, .mv 49 (.t 6), none, 0⟩,
 ⟨none, .mv 50 (.t 8), none, 0⟩,
 ⟨none, .ixA 51 (.t 49) (.t 50) 3, none, 0⟩,
 ⟨none, .ld 52 (.t 51) (some 3), none, 0⟩,
 ⟨none, .bls 53 53 1 3 [(.int .i64 0), (.int .i64 0), (.int .i64 0)] [(0, 3, (.t 52))], none, 0⟩,
 ⟨none, .app 54 (.t 48) (.t 53) 53 3 24, none, 0⟩,
 ⟨none, .mv 7 (.t 54), none, 0⟩]
def c14r9 : List SI := [
 ⟨none, .mv 26 (.t 8), none, 0⟩,
 ⟨none, .bin 27 .add (.t 26) (.i 1), none, 0⟩,
 ⟨none, .mv 8 (.t 27), none, 0⟩]
def c14r10 : List SI := [
 ⟨none, .mv 55 (.t 7), none, 0⟩,
 ⟨none, .mv 4 (.t 55), none, 0⟩,
 ⟨none, .mv 5 (.i 0), none, 0⟩]
def c14 : SC :=
 (.seq (.reg false c14r0)
 (.seq (.seq (.reg false c14r1)
 (.cond (.t 19)
  (.seq (.reg false c14r2)
  .ret)
  .skip))
 (.seq (.reg false c14r3)
 (.seq (.reg false c14r4)
 (.seq (.seq (.reg false c14r5)
 (.blk 0 (.loop (.seq (.seq (.reg false c14r6)
   (.cond (.t 25)
    .skip
    (.exit 0)))
   (.seq (.blk 1 (.seq (.reg true c14r7)
    (.cond (.t 47)
     (.reg false c14r8)
     .skip)))
   (.reg false c14r9))))))
 (.seq (.reg false c14r10)
 .ret))))))
def v14 : List Nat × List Nat := ([2], [2])
def o14 : List RS := [.t 4, .t 5]
theorem s14 : slimC Try.prog Try.f14.ntmps v14.1 v14.2 ((Try.f14.body).getD .skip) = some c14 := by kernel_rfl
theorem q14 : slimR Try.prog Try.f14.ntmps v14.1 v14.2 Try.f14.results.toList = some o14 := by kernel_rfl
-- watermeet/watermeetref08.Same N=26
def c15r0 : List SI := [
 ⟨none, .mv 4 (.b false), none, 0⟩]
def c15r1 : List SI := [
 ⟨none, .mv 6 (.t 0), none, 0⟩,
 ⟨none, .len 7 false (.t 6), none, 0⟩,
 ⟨none, .mv 8 (.t 1), none, 0⟩,
 ⟨none, .len 9 false (.t 8), none, 0⟩,
 ⟨none, .bin 10 .neq (.t 7) (.t 9), none, 0⟩]
def c15r2 : List SI := [
 ⟨none, .mv 4 (.b false), none, 0⟩]
def c15r3 : List SI := [
 ⟨none, .mv 5 (.i 0), none, 0⟩]
def c15r4 : List SI := [
 ⟨none, .mv 11 (.t 5), none, 0⟩,
 ⟨none, .mv 12 (.t 0), none, 0⟩,
 ⟨none, .len 13 false (.t 12), none, 0⟩,
 ⟨none, .bin 14 .lss (.t 11) (.t 13), none, 0⟩]
def c15r5 : List SI := [
 ⟨none, .mv 17 (.t 0), none, 0⟩,
 ⟨none, .mv 18 (.t 5), none, 0⟩,
 ⟨none, .ixA 19 (.t 17) (.t 18) 3, none, 0⟩,
 ⟨none, .ld 20 (.t 19) (some 3), none, 0⟩,
 ⟨none, .mv 21 (.t 1), none, 0⟩,
 ⟨none, .mv 22 (.t 5), none, 0⟩,
 ⟨none, .ixA 23 (.t 21) (.t 22) 3, none, 0⟩,
 ⟨none, .ld 24 (.t 23) (some 3), none, 0⟩,
 ⟨none, .eqf 25 true [0, 0, 0] (.t 20) (.t 24), none, 0⟩]
def c15r6 : List SI := [
 ⟨none, .mv 4 (.b false), none, 0⟩]
def c15r7 : List SI := [
 ⟨none, .mv 15 (.t 5), none, 0⟩,
 ⟨none, .bin 16 .add (.t 15) (.i 1), none, 0⟩,
 ⟨none, .mv 5 (.t 16), none, 0⟩]
def c15r8 : List SI := [
 ⟨none, .mv 4 (.b true), none, 0⟩]
def c15 : SC :=
 (.seq (.reg false c15r0)
 (.seq (.seq (.reg false c15r1)
 (.cond (.t 10)
  (.seq (.reg false c15r2)
  .ret)
  .skip))
 (.seq (.seq (.reg false c15r3)
 (.blk 0 (.loop (.seq (.seq (.reg false c15r4)
   (.cond (.t 14)
    .skip
    (.exit 0)))
   (.seq (.blk 1 (.seq (.reg true c15r5)
    (.cond (.t 25)
     (.seq (.reg false c15r6)
     .ret)
     .skip)))
   (.reg false c15r7))))))
 (.seq (.reg false c15r8)
 .ret))))
def v15 : List Nat × List Nat := ([], [])
def o15 : List RS := [.t 4]
theorem s15 : slimC Try.prog Try.f15.ntmps v15.1 v15.2 ((Try.f15.body).getD .skip) = some c15 := by kernel_rfl
theorem q15 : slimR Try.prog Try.f15.ntmps v15.1 v15.2 Try.f15.results.toList = some o15 := by kernel_rfl
-- watermeet/index.Check N=41
def c16r0 : List SI := [
 ⟨none, .bx 2 (.t 0), none, 0⟩,
 ⟨none, .al 4 [(.int .i64 0)], none, 0⟩]
def c16r1 : List SI := [
 ⟨none, .ld 10 (.t 2) (some 2), none, 0⟩,
 ⟨none, .call 11 33 [(.t 10)], none, 0⟩,
 ⟨none, .mv 9 (.t 11), none, 0⟩,
 ⟨none, .ext 12 (.t 9) 0, none, 0⟩,
 ⟨none, .ext 13 (.t 9) 1, none, 0⟩,
 ⟨none, .mv 5 (.t 12), none, 0⟩,
 ⟨none, .mv 6 (.t 13), none, 0⟩]
def c16r2 : List SI := [
 ⟨none, .mv 14 (.t 6), none, 0⟩,
 ⟨none, .un 15 .not (.t 14), none, 0⟩]
def c16r3 : List SI := [
 ⟨none, .st (.t 4) 1 (.i 1), none, 0⟩]
def c16r4 : List SI := [
 ⟨none, .mv 16 (.t 1), none, 0⟩,
 ⟨none, .al 7 [(.slice none 0 0)], none, 0⟩,
 ⟨none, .st (.t 7) 1 (.t 16), none, 0⟩]
def c16r5 : List SI := [
 ⟨none, .mv 17 (.t 5), none, 0⟩,
 ⟨none, .call 18 34 [(.t 17)], none, 0⟩]
def c16r6 : List SI := [
 ⟨none, .alR 8 [(.int .i64 0), (.int .i64 0), (.int .i64 0)], none, 0⟩,
 ⟨none, .stR 8 0 3 (.t 19), none, 0⟩]
def c16r7 : List SI := [
 ⟨none, .ld 22 (.t 7) none, none, 0⟩,
 ⟨none, .len 23 false (.t 22), none, 0⟩,
 ⟨none, .bin 24 .gtr (.t 23) (.i 0), none, 0⟩,
 ⟨none, .mv 25 (.t 24), none, 0⟩,
 ⟨some (25, true), .ld 26 (.t 7) none, none, 26⟩,
 ⟨some (25, true), .ixA 27 (.t 26) (.i 0) 3, none, 27⟩,
 ⟨some (25, true), .ld 28 (.t 27) (some 3), none, 28⟩,
 ⟨some (25, true), .ldR 29 8 0 (some 3), none, 29⟩,
 ⟨some (25, true), .eqf 30 false [0, 0, 0] (.t 28) (.t 29), none, 30⟩,
 ⟨none, .pick 31 (.t 25) (.t 30) (.b false), none, 0⟩,
 ⟨none, .mv 21 (.t 31), none, 0⟩]
def c16r8 : List SI := [
 ⟨none, .ld 32 (.t 7) none, none, 0⟩,
 ⟨none, .sl 33 (.t 32) (some (.i 1)) none none 3, none, 0⟩,
 ⟨none, .st (.t 7) 1 (.t 33), none, 0⟩]
def c16r9 : List SI := [
 ⟨none, .nop, (some 8), 0⟩,
 ⟨none, .ldR 36 8 1 none, none, 0⟩,
 ⟨none, .bin 37 .eql (.t 36) (.i 0), none, 0⟩,
 ⟨none, .mv 34 (.t 37), none, 0⟩]
def c16r10 : List SI := [
 ⟨none, .st (.t 4) 1 (.i 1), none, 0⟩]
def c16r11 : List SI := [
 ⟨none, .ld 38 (.t 7) none, none, 0⟩,
 ⟨none, .len 39 false (.t 38), none, 0⟩,
 ⟨none, .bin 40 .gtr (.t 39) (.i 0), none, 0⟩]
def c16r12 : List SI := [
 ⟨none, .st (.t 4) 1 (.i 1), none, 0⟩]
def c16r13 : List SI := [
 ⟨none, .st (.t 4) 1 (.i 0), none, 0⟩]
def c16 : SC :=
 (.seq (.reg false c16r0)
 (.seq (.reg false c16r1)
 (.seq (.seq (.reg false c16r2)
 (.cond (.t 15)
  (.seq (.reg false c16r3)
  .ret)
  .skip))
 (.seq (.reg false c16r4)
 (.seq (.seq (.reg false c16r5)
 (.blk 0 (.rf (.t 18) [19, 20] (.reg false c16r6)
   (.blk 1 (.blk 2 (.seq (.reg true c16r7)
     (.cond (.t 21)
      (.reg false c16r8)
      (.seq (.reg false c16r9)
      (.cond (.t 34)
       (.seq (.reg false c16r10)
       .ret)
       .skip)))))))))
 (.seq (.seq (.reg false c16r11)
 (.cond (.t 40)
  (.seq (.reg false c16r12)
  .ret)
  .skip))
 (.seq (.reg false c16r13)
 .ret)))))))
def v16 : List Nat × List Nat := ([8], [8, 35])
def o16 : List RS := [.c 4 none]
theorem s16 : slimC Try.prog Try.f16.ntmps v16.1 v16.2 ((Try.f16.body).getD .skip) = some c16 := by kernel_rfl
theorem q16 : slimR Try.prog Try.f16.ntmps v16.1 v16.2 Try.f16.results.toList = some o16 := by kernel_rfl
-- watermeet/watermeetref08.Check N=42
def c17r0 : List SI := [
 ⟨none, .bxR 2 (.t 0), none, 0⟩,
 ⟨none, .mv 4 (.i 0), none, 0⟩]
def c17r1 : List SI := [
 ⟨none, .ldR 8 2 0 (some 2), none, 0⟩,
 ⟨none, .call 9 35 [(.t 8)], none, 0⟩,
 ⟨none, .un 10 .not (.t 9), none, 0⟩]
def c17r2 : List SI := [
 ⟨none, .mv 4 (.i 1), none, 0⟩]
def c17r3 : List SI := [
 ⟨none, .ldR 11 2 0 (some 2), none, 0⟩,
 ⟨none, .call 12 36 [(.t 11)], none, 0⟩,
 ⟨none, .mv 5 (.t 12), none, 0⟩]
def c17r4 : List SI := [
 ⟨none, .mv 6 (.i 0), none, 0⟩]
def c17r5 : List SI := [
 ⟨none, .mv 7 (.i 0), none, 0⟩]
def c17r6 : List SI := [
 ⟨none, .mv 13 (.t 7), none, 0⟩,
 ⟨none, .mv 14 (.t 5), none, 0⟩,
 ⟨none, .len 15 false (.t 14), none, 0⟩,
 ⟨none, .bin 16 .lss (.t 13) (.t 15), none, 0⟩]
def c17r7 : List SI := [
 ⟨none, .mv 19 (.t 6), none, 0⟩,
 ⟨none, .mv 20 (.t 1), none, 0⟩,
 ⟨none, .len 21 false (.t 20), none, 0⟩,
 ⟨none, .bin 22 .lss (.t 19) (.t 21), none, 0⟩,
 ⟨none, .mv 23 (.t 22), none, 0⟩,
 ⟨some (23, true), .mv 24 (.t 1), none, 24⟩,
 ⟨some (23, true), .mv 25 (.t 6), none, 25⟩,
 ⟨some (23, true), .ixA 26 (.t 24) (.t 25) 3, none, 26⟩,
 ⟨some (23, true), .ld 27 (.t 26) (some 3), none, 27⟩,
 ⟨some (23, true), .mv 28 (.t 5), none, 28⟩,
 ⟨some (23, true), .mv 29 (.t 7), none, 29⟩,
 ⟨some (23, true), .ixA 30 (.t 28) (.t 29) 3, none, 30⟩,
 ⟨some (23, true), .ld 31 (.t 30) (some 3), none, 31⟩,
 ⟨some (23, true), .eqf 32 false [0, 0, 0] (.t 27) (.t 31), none, 32⟩,
 ⟨none, .pick 33 (.t 23) (.t 32) (.b false), none, 0⟩]
def c17r8 : List SI := [
 ⟨none, .mv 34 (.t 6), none, 0⟩,
 ⟨none, .bin 35 .add (.t 34) (.i 1), none, 0⟩,
 ⟨none, .mv 6 (.t 35), none, 0⟩]
def c17r9 : List SI := [
 ⟨none, .mv 36 (.t 7), none, 0⟩,
 ⟨none, .bin 37 .eql (.t 36) (.i 0), none, 0⟩]
def c17r10 : List SI := [
 ⟨none, .mv 4 (.i 1), none, 0⟩]
def c17r11 : List SI := [
 ⟨none, .mv 17 (.t 7), none, 0⟩,
 ⟨none, .bin 18 .add (.t 17) (.i 1), none, 0⟩,
 ⟨none, .mv 7 (.t 18), none, 0⟩]
def c17r12 : List SI := [
 ⟨none, .mv 38 (.t 6), none, 0⟩,
 ⟨none, .mv 39 (.t 1), none, 0⟩,
 ⟨none, .len 40 false (.t 39), none, 0⟩,
 ⟨none, .bin 41 .lss (.t 38) (.t 40), none, 0⟩]
def c17r13 : List SI := [
 ⟨none, .mv 4 (.i 1), none, 0⟩]
def c17r14 : List SI := [
 ⟨none, .mv 4 (.i 0), none, 0⟩]
def c17 : SC :=
 (.seq (.reg false c17r0)
 (.seq (.seq (.reg false c17r1)
 (.cond (.t 10)
  (.seq (.reg false c17r2)
  .ret)
  .skip))
 (.seq (.reg false c17r3)
 (.seq (.reg false c17r4)
 (.seq (.seq (.reg false c17r5)
 (.blk 0 (.loop (.seq (.seq (.reg false c17r6)
   (.cond (.t 16)
    .skip
    (.exit 0)))
   (.seq (.blk 1 (.seq (.reg true c17r7)
    (.cond (.t 33)
     (.reg false c17r8)
     (.seq (.reg false c17r9)
     (.cond (.t 37)
      (.seq (.reg false c17r10)
      .ret)
      .skip)))))
   (.reg false c17r11))))))
 (.seq (.seq (.reg false c17r12)
 (.cond (.t 41)
  (.seq (.reg false c17r13)
  .ret)
  .skip))
 (.seq (.reg false c17r14)
 .ret)))))))
def v17 : List Nat × List Nat := ([2], [2])
def o17 : List RS := [.t 4]
theorem s17 : slimC Try.prog Try.f17.ntmps v17.1 v17.2 ((Try.f17.body).getD .skip) = some c17 := by kernel_rfl
theorem q17 : slimR Try.prog Try.f17.ntmps v17.1 v17.2 Try.f17.results.toList = some o17 := by kernel_rfl
-- watermeet/index.Floor N=8
def c18r0 : List SI := [
 ⟨none, .bx 3 (.t 1), none, 0⟩,
 ⟨none, .mv 4 (.i 0), none, 0⟩]
def c18r1 : List SI := [
 ⟨none, .mv 5 (.t 0), none, 0⟩,
 ⟨none, .mkf 6 (.func 38) [(.t 3)], none, 0⟩,
 ⟨none, .call 7 37 [(.t 5), (.t 6)], none, 0⟩,
 ⟨none, .mv 4 (.t 7), none, 0⟩]
def c18 : SC :=
 (.seq (.reg false c18r0)
 (.seq (.reg false c18r1)
 .ret))
def v18 : List Nat × List Nat := ([], [])
def o18 : List RS := [.t 4]
theorem s18 : slimC Try.prog Try.f18.ntmps v18.1 v18.2 ((Try.f18.body).getD .skip) = some c18 := by kernel_rfl
theorem q18 : slimR Try.prog Try.f18.ntmps v18.1 v18.2 Try.f18.results.toList = some o18 := by kernel_rfl
-- watermeet/watermeetref08.Floor N=26
def c20r0 : List SI := [
 ⟨none, .bx 3 (.t 1), none, 0⟩,
 ⟨none, .mv 4 (.i 0), none, 0⟩]
def c20r1 : List SI := [
 ⟨none, .mv 5 (.t 0), none, 0⟩,
 ⟨none, .mkf 6 (.func 39) [(.t 3)], none, 0⟩,
 ⟨none, .call 7 37 [(.t 5), (.t 6)], none, 0⟩,
 ⟨none, .mv 4 (.t 7), none, 0⟩]
def c20 : SC :=
 (.seq (.reg false c20r0)
 (.seq (.reg false c20r1)
 .ret))
def v20 : List Nat × List Nat := ([], [])
def o20 : List RS := [.t 4]
theorem s20 : slimC Try.prog Try.f20.ntmps v20.1 v20.2 ((Try.f20.body).getD .skip) = some c20 := by kernel_rfl
theorem q20 : slimR Try.prog Try.f20.ntmps v20.1 v20.2 Try.f20.results.toList = some o20 := by kernel_rfl
-- watermeet/watermeetref08.When N=26
def c22r0 : List SI := [
 ⟨none, .bx 3 (.t 0), none, 0⟩,
 ⟨none, .bx 5 (.t 2), none, 0⟩,
 ⟨none, .al 6 [(.int .i64 0), (.int .i64 0), (.int .i64 0), (.int .i64 0), (.int .i64 0), (.int .i64 0), (.int .i64 0), (.bool false), (.int .i64 0), (.slice none 0 0)], none, 0⟩,
 ⟨none, .al 7 [(.int .i64 0)], none, 0⟩]
def c22r1 : List SI := [
 ⟨none, .ld 10 (.t 3) (some 2), none, 0⟩,
 ⟨none, .mv 11 (.t 1), none, 0⟩,
 ⟨none, .call 12 16 [(.t 10), (.t 11)], none, 0⟩,
 ⟨none, .mv 8 (.t 12), none, 0⟩]
def c22r2 : List SI := [
 ⟨none, .mv 13 (.t 8), none, 0⟩,
 ⟨none, .bin 14 .neq (.t 13) (.i 0), none, 0⟩]
def c22r3 : List SI := [
 ⟨none, .bld 15 [(.int .i64 0), (.int .i64 0), (.int .i64 0), (.int .i64 0), (.int .i64 0), (.int .i64 0), (.int .i64 0), (.bool false), (.int .i64 0), (.slice none 0 0)] [], none, 0⟩,
 ⟨none, .mv 16 (.t 8), none, 0⟩,
 ⟨none, .st (.t 6) 10 (.t 15), none, 0⟩,
 ⟨none, .st (.t 7) 1 (.t 16), none, 0⟩]
def c22r4 : List (Bool × SI) := [
 (true, ⟨none, .ld 17 (.t 3) (some 2), none, 0⟩),
 (true, ⟨none, .mv 18 (.t 1), none, 0⟩),
 (true, ⟨none, .ld 19 (.t 5) none, none, 0⟩),
 (false, ⟨none, .call 20 18 [(.t 18), (.t 19)], none, 0⟩),
 (false, ⟨none, .call 21 40 [(.t 17), (.t 20)], none, 0⟩)]
def c22r5 : List SI := [
 ⟨none, .alR 9 [(.int .i64 0), (.int .i64 0), (.int .i64 0), (.int .i64 0), (.int .i64 0), (.int .i64 0), (.int .i64 0), (.bool false), (.int .i64 0), (.slice none 0 0)], none, 0⟩,
 ⟨none, .stR 9 0 10 (.t 22), none, 0⟩]
def c22r6 : List SI := [
 ⟨none, .nop, (some 9), 0⟩,
 ⟨none, .ldR 24 9 1 none, none, 0⟩,
 ⟨none, .ld 25 (.t 5) none, none, 0⟩,
 ⟨none, .bin 26 .geq (.t 24) (.t 25), none, 0⟩]
def c22r7 : List SI := [
 ⟨none, .ldR 27 9 0 (some 10), none, 0⟩,
 ⟨none, .st (.t 6) 10 (.t 27), none, 0⟩,
 ⟨none, .st (.t 7) 1 (.i 0), none, 0⟩]
def c22r8 : List SI := [
 ⟨none, .bld 28 [(.int .i64 0), (.int .i64 0), (.int .i64 0), (.int .i64 0), (.int .i64 0), (.int .i64 0), (.int .i64 0), (.bool false), (.int .i64 0), (.slice none 0 0)] [], none, 0⟩,
 ⟨none, .st (.t 6) 10 (.t 28), none, 0⟩,
 ⟨none, .st (.t 7) 1 (.i 90), none, 0⟩]
def c22 : SC :=
 (.seq (.reg false c22r0)
 (.seq (.seq (.reg false c22r1)
 (.seq (.reg false c22r2)
 (.cond (.t 14)
  (.seq (.reg false c22r3)
  .ret)
  .skip)))
 (.seq (.seq (.rgX c22r4)
 (.blk 0 (.rf (.t 21) [22] (.reg false c22r5)
   (.blk 1 (.seq (.reg false c22r6)
    (.cond (.t 26)
     (.seq (.reg false c22r7)
     .ret)
     .skip))))))
 (.seq (.reg false c22r8)
 .ret))))
def v22 : List Nat × List Nat := ([9], [9, 23])
def o22 : List RS := [.c 6 (some 10), .c 7 none]
theorem s22 : slimC Try.prog Try.f22.ntmps v22.1 v22.2 ((Try.f22.body).getD .skip) = some c22 := by kernel_rfl
theorem q22 : slimR Try.prog Try.f22.ntmps v22.1 v22.2 Try.f22.results.toList = some o22 := by kernel_rfl
-- watermeet/watermeetref08.Find N=42
def c24r0 : List SI := [
 ⟨none, .bx 3 (.t 0), none, 0⟩,
 ⟨none, .bx 5 (.t 2), none, 0⟩,
 ⟨none, .al 6 [(.int .i64 0)], none, 0⟩,
 ⟨none, .al 7 [(.int .i64 0)], none, 0⟩]
def c24r1 : List SI := [
 ⟨none, .ld 11 (.t 3) (some 2), none, 0⟩,
 ⟨none, .mv 12 (.t 1), none, 0⟩,
 ⟨none, .call 13 16 [(.t 11), (.t 12)], none, 0⟩,
 ⟨none, .st (.t 7) 1 (.t 13), none, 0⟩]
def c24r2 : List SI := [
 ⟨none, .ld 14 (.t 7) none, none, 0⟩,
 ⟨none, .bin 15 .neq (.t 14) (.i 0), none, 0⟩]
def c24r3 : List WI := [
 (true, false, ⟨none, .ld 16 (.t 7) none, none, 0⟩),
 (false, false, ⟨none, .st (.t 6) 1 (.i 0), none, 0⟩),
 (false, true, ⟨none, .st (.t 7) 1 (.t 16), none, 0⟩)]
def c24r4 : List (Bool × SI) := [
 (true, ⟨none, .ld 17 (.t 3) (some 2), none, 0⟩),
 (true, ⟨none, .mv 18 (.t 1), none, 0⟩),
 (true, ⟨none, .ld 19 (.t 5) none, none, 0⟩),
 (false, ⟨none, .call 20 20 [(.t 18), (.t 19)], none, 0⟩),
 (false, ⟨none, .call 21 40 [(.t 17), (.t 20)], none, 0⟩)]
def c24r5 : List SI := [
 ⟨none, .alR 8 [(.int .i64 0), (.int .i64 0), (.int .i64 0), (.int .i64 0), (.int .i64 0), (.int .i64 0), (.int .i64 0), (.bool false), (.int .i64 0), (.slice none 0 0)], none, 0⟩,
 ⟨none, .stR 8 0 10 (.t 22), none, 0⟩]
def c24r6 : List SI := [
 ⟨none, .nop, (some 8), 0⟩,
 ⟨none, .ldR 24 8 9 none, none, 0⟩,
 ⟨none, .len 25 false (.t 24), none, 0⟩,
 ⟨none, .mv 26 (.i 0), none, 0⟩]
def c24r7 : List SI := [
 ⟨none, .bin 27 .lss (.t 26) (.t 25), none, 0⟩]
def c24r8 : List SI := [
 ⟨none, .ixA 28 (.t 24) (.t 26) 5, none, 0⟩,
 ⟨none, .ld 29 (.t 28) (some 5), none, 0⟩,
 ⟨none, .alR 10 [(.int .i64 0), (.string ⟨#[]⟩), (.string ⟨#[]⟩), (.bool false), (.int .i64 0)], none, 0⟩,
 ⟨none, .stR 10 0 5 (.t 29), none, 0⟩]
def c24r9 : List SI := [
 ⟨none, .nop, (some 10), 0⟩,
 ⟨none, .ldR 31 10 4 none, none, 0⟩,
 ⟨none, .ld 32 (.t 5) none, none, 0⟩,
 ⟨none, .bin 33 .geq (.t 31) (.t 32), none, 0⟩]
def c24r10 : List SI := [
 ⟨none, .nop, (some 10), 0⟩,
 ⟨none, .ldR 35 10 0 none, none, 0⟩,
 ⟨none, .st (.t 6) 1 (.t 35), none, 0⟩,
 ⟨none, .st (.t 7) 1 (.i 0), none, 0⟩]
def c24r11 : List SI := [
 ⟨none, .bin 36 .add (.t 26) (.i 1), none, 0⟩,
 ⟨none, .mv 26 (.t 36), none, 0⟩]
def c24r12 : List SI := [
 ⟨none, .st (.t 6) 1 (.i 0), none, 0⟩,
 ⟨none, .st (.t 7) 1 (.i 90), none, 0⟩]
def c24 : SC :=
 (.seq (.reg false c24r0)
 (.seq (.seq (.reg false c24r1)
 (.seq (.reg false c24r2)
 (.cond (.t 15)
  (.seq (.rgW c24r3)
  .ret)
  .skip)))
 (.seq (.seq (.rgX c24r4)
 (.blk 0 (.rf (.t 21) [22] (.reg false c24r5)
   (.blk 1 (.seq (.reg false c24r6)
    (.blk 2 (.loop (.seq (.reg false c24r7)
      (.seq (.cond (.t 27)
       .skip
       (.exit 2))
      (.seq (.blk 3 (.seq (.reg false c24r8)
       (.seq (.reg false c24r9)
       (.cond (.t 33)
        (.seq (.reg false c24r10)
        .ret)
        .skip))))
      (.reg false c24r11)))))))))))
 (.seq (.reg false c24r12)
 .ret))))
def v24 : List Nat × List Nat := ([8, 10], [8, 10, 23, 30, 34])
def o24 : List RS := [.c 6 none, .c 7 none]
theorem s24 : slimC Try.prog Try.f24.ntmps v24.1 v24.2 ((Try.f24.body).getD .skip) = some c24 := by kernel_rfl
theorem q24 : slimR Try.prog Try.f24.ntmps v24.1 v24.2 Try.f24.results.toList = some o24 := by kernel_rfl
-- watermeet/watermeetref08.Since N=60
def c27r0 : List SI := [
 ⟨none, .bx 1 (.t 0), none, 0⟩,
 ⟨none, .al 2 [(.slice none 0 0)], none, 0⟩,
 ⟨none, .al 3 [(.int .i64 0)], none, 0⟩]
def c27r1 : List SI := [
 ⟨none, .ld 6 (.t 1) (some 2), none, 0⟩,
 ⟨none, .call 7 43 [(.t 6)], none, 0⟩]
def c27r2 : List SI := [
 ⟨none, .alR 4 [(.int .i64 0), (.int .i64 0), (.int .i64 0), (.int .i64 0), (.int .i64 0), (.int .i64 0), (.int .i64 0), (.bool false), (.int .i64 0), (.slice none 0 0)], none, 0⟩,
 ⟨none, .stR 4 0 10 (.t 8), none, 0⟩]
def c27r3 : List SI := [
 ⟨none, .mv 5 (.t 9), none, 0⟩]
def c27r4 : List SI := [
 ⟨none, .ld 10 (.t 2) none, none, 0⟩,
 ⟨none, .ldR 11 4 0 (some 10), none, 0⟩,
 ⟨none, .bls 12 38 1 10 [(.int .i64 0), (.int .i64 0), (.int .i64 0), (.int .i64 0), (.int .i64 0), (.int .i64 0), (.int .i64 0), (.bool false), (.int .i64 0), (.slice none 0 0)] [(0, 10, (.t 11))], none, 0⟩,
 ⟨none, .app 13 (.t 10) (.t 12) 38 10 96, none, 0⟩,
 ⟨none, .mv 14 (.t 5), none, 0⟩,
 ⟨none, .st (.t 2) 1 (.t 13), none, 0⟩,
 ⟨none, .st (.t 3) 1 (.t 14), none, 0⟩]
def c27r5 : List WI := [
 (true, false, ⟨none, .ld 15 (.t 2) none, none, 0⟩),
 (true, false, ⟨none, .ld 16 (.t 3) none, none, 0⟩),
 (false, false, ⟨none, .st (.t 2) 1 (.t 15), none, 0⟩),
 (false, true, ⟨none, .st (.t 3) 1 (.t 16), none, 0⟩)]
def c27 : SC :=
 (.seq (.reg false c27r0)
 (.seq (.seq (.reg false c27r1)
 (.blk 0 (.rf (.t 7) [8, 9] (.seq (.reg false c27r2)
   (.reg false c27r3))
   (.blk 1 (.reg false c27r4)))))
 (.seq (.rgW c27r5)
 .ret)))
def v27 : List Nat × List Nat := ([4], [4])
def o27 : List RS := [.c 2 none, .c 3 none]
theorem s27 : slimC Try.prog Try.f27.ntmps v27.1 v27.2 ((Try.f27.body).getD .skip) = some c27 := by kernel_rfl
theorem q27 : slimR Try.prog Try.f27.ntmps v27.1 v27.2 Try.f27.results.toList = some o27 := by kernel_rfl
-- watermeet/batch.Size N=12
def c28r0 : List SI := [
 ⟨none, .bxR 1 (.t 0), none, 0⟩,
 ⟨none, .mv 2 (.i 0), none, 0⟩]
def c28r1 : List SI := [
 ⟨none, .ldR 6 1 0 (some 10), none, 0⟩,
 ⟨none, .call 7 44 [(.t 6)], none, 0⟩,
 ⟨none, .mv 5 (.t 7), none, 0⟩,
 ⟨none, .ext 8 (.t 5) 0, none, 0⟩,
 ⟨none, .ext 9 (.t 5) 1, none, 0⟩,
 ⟨none, .mv 3 (.t 8), none, 0⟩,
 ⟨none, .mv 4 (.t 9), none, 0⟩]
def c28r2 : List SI := [
 ⟨none, .mv 10 (.t 3), none, 0⟩,
 ⟨none, .len 11 false (.t 10), none, 0⟩,
 ⟨none, .mv 2 (.t 11), none, 0⟩]
def c28 : SC :=
 (.seq (.reg false c28r0)
 (.seq (.reg false c28r1)
 (.seq (.reg false c28r2)
 .ret)))
def v28 : List Nat × List Nat := ([1], [1])
def o28 : List RS := [.t 2]
theorem s28 : slimC Try.prog Try.f28.ntmps v28.1 v28.2 ((Try.f28.body).getD .skip) = some c28 := by kernel_rfl
theorem q28 : slimR Try.prog Try.f28.ntmps v28.1 v28.2 Try.f28.results.toList = some o28 := by kernel_rfl
-- watermeet/watermeetref04.Few N=29
def c30r0 : List SI := [
 ⟨none, .bxR 3 (.t 0), none, 0⟩,
 ⟨none, .bxR 4 (.t 1), none, 0⟩,
 ⟨none, .alR 6 [(.int .i64 0), (.slice none 0 0)], none, 0⟩,
 ⟨none, .mv 7 (.i 0), none, 0⟩]
def c30r1 : List SI := [
 ⟨none, .ldR 13 3 0 (some 2), none, 0⟩,
 ⟨none, .call 14 27 [(.t 13)], none, 0⟩,
 ⟨none, .mv 12 (.t 14), none, 0⟩,
 ⟨none, .ext 15 (.t 12) 0, none, 0⟩,
 ⟨none, .ext 16 (.t 12) 1, none, 0⟩,
 ⟨none, .mv 8 (.t 15), none, 0⟩,
 ⟨none, .mv 9 (.t 16), none, 0⟩]
def c30r2 : List SI := [
 ⟨none, .mv 17 (.t 9), none, 0⟩,
 ⟨none, .nop, (some 3), 0⟩,
 ⟨none, .ldR 19 3 1 none, none, 0⟩,
 ⟨none, .len 20 false (.t 19), none, 0⟩,
 ⟨none, .bin 21 .neq (.t 17) (.t 20), none, 0⟩,
 ⟨none, .mv 22 (.t 21), none, 0⟩,
 ⟨some (22, false), .nop, (some 3), 99999⟩,
 ⟨some (22, false), .ldR 24 3 0 none, none, 24⟩,
 ⟨some (22, false), .call 25 45 [(.t 24)], none, 25⟩,
 ⟨some (22, false), .un 26 .not (.t 25), none, 26⟩,
 ⟨none, .pick 27 (.t 22) (.b true) (.t 26), none, 0⟩,
 ⟨none, .mv 28 (.t 27), none, 0⟩,
 ⟨some (28, false), .mv 29 (.t 2), none, 29⟩,
 ⟨some (28, false), .call 30 46 [(.t 29)], none, 30⟩,
 ⟨some (28, false), .un 31 .not (.t 30), none, 31⟩,
 ⟨none, .pick 32 (.t 28) (.b true) (.t 31), none, 0⟩]
def c30r3 : List SI := [
 ⟨none, .bld 33 [(.int .i64 0), (.slice none 0 0)] [], none, 0⟩,
 ⟨none, .stR 6 0 2 (.t 33), none, 0⟩,
 ⟨none, .mv 7 (.i 1), none, 0⟩]
def c30r4 : List SI := [
 ⟨none, .ldR 35 4 0 (some 10), none, 0⟩,
 ⟨none, .call 36 44 [(.t 35)], none, 0⟩,
 ⟨none, .mv 34 (.t 36), none, 0⟩,
 ⟨none, .ext 37 (.t 34) 0, none, 0⟩,
 ⟨none, .ext 38 (.t 34) 1, none, 0⟩,
 ⟨none, .mv 10 (.t 37), none, 0⟩,
 ⟨none, .mv 11 (.t 38), none, 0⟩]
def c30r5 : List SI := [
 ⟨none, .mv 40 (.t 11), none, 0⟩,
 ⟨none, .bin 41 .neq (.t 40) (.i 0), none, 0⟩,
 ⟨none, .mv 39 (.t 41), none, 0⟩]
def c30r6 : List SI := [
 ⟨none, .bld 42 [(.int .i64 0), (.slice none 0 0)] [], none, 0⟩,
 ⟨none, .mv 43 (.t 11), none, 0⟩,
 ⟨none, .stR 6 0 2 (.t 42), none, 0⟩,
 ⟨none, .mv 7 (.t 43), none, 0⟩]
def c30r7 : List (Bool × SI) := [
 (true, ⟨none, .nop, (some 4), 0⟩),
 (true, ⟨none, .ldR 46 4 0 none, none, 0⟩),
 (true, ⟨none, .ldR 47 3 0 (some 2), none, 0⟩),
 (false, ⟨none, .call 48 47 [(.t 47)], none, 0⟩),
 (true, ⟨none, .bin 49 .lss (.t 46) (.t 48), none, 0⟩),
 (true, ⟨none, .mv 44 (.t 49), none, 0⟩)]
def c30r8 : List SI := [
 ⟨none, .bld 50 [(.int .i64 0), (.slice none 0 0)] [], none, 0⟩,
 ⟨none, .stR 6 0 2 (.t 50), none, 0⟩,
 ⟨none, .mv 7 (.i 71), none, 0⟩]
def c30r9 : List SI := [
 ⟨none, .nop, (some 3), 0⟩,
 ⟨none, .ldR 53 3 1 none, none, 0⟩,
 ⟨none, .len 54 false (.t 53), none, 0⟩,
 ⟨none, .mv 55 (.t 10), none, 0⟩,
 ⟨none, .len 56 false (.t 55), none, 0⟩,
 ⟨none, .bin 57 .add (.t 54) (.t 56), none, 0⟩,
 ⟨none, .mv 58 (.t 2), none, 0⟩,
 ⟨none, .bin 59 .gtr (.t 57) (.t 58), none, 0⟩,
 ⟨none, .mv 51 (.t 59), none, 0⟩]
def c30r10 : List SI := [
 ⟨none, .bld 60 [(.int .i64 0), (.slice none 0 0)] [], none, 0⟩,
 ⟨none, .stR 6 0 2 (.t 60), none, 0⟩,
 ⟨none, .mv 7 (.i 70), none, 0⟩]
def c30r11 : List (Bool × SI) := [
 (true, ⟨none, .nop, (some 3), 0⟩),
 (true, ⟨none, .ldR 62 3 0 none, none, 0⟩),
 (true, ⟨none, .nop, (some 3), 0⟩),
 (true, ⟨none, .ldR 64 3 1 none, none, 0⟩),
 (true, ⟨none, .mv 65 (.t 10), none, 0⟩),
 (false, ⟨none, .bls 66 22 2 1 [(.slice none 0 0), (.slice none 0 0)] [(0, 1, (.t 64)), (1, 1, (.t 65))], none, 0⟩),
 (false, ⟨none, .call 67 48 [(.t 66)], none, 0⟩),
 (true, ⟨none, .bld 68 [(.int .i64 0), (.slice none 0 0)] [(0, 1, (.t 62)), (1, 1, (.t 67))], none, 0⟩)]
def c30r12 : List SI := [
 ⟨none, .stR 6 0 2 (.t 68), none, 0⟩,
 ⟨none, .mv 7 (.i 0), none, 0⟩]
def c30 : SC :=
 (.seq (.reg false c30r0)
 (.seq (.seq (.reg false c30r1)
 (.seq (.reg false c30r2)
 (.cond (.t 32)
  (.seq (.reg false c30r3)
  .ret)
  .skip)))
 (.seq (.reg false c30r4)
 (.seq (.blk 0 (.seq (.reg false c30r5)
  (.cond (.t 39)
   (.seq (.reg false c30r6)
   .ret)
   (.seq (.rgX c30r7)
   (.cond (.t 44)
    (.seq (.reg false c30r8)
    .ret)
    (.seq (.reg false c30r9)
    (.cond (.t 51)
     (.seq (.reg false c30r10)
     .ret)
     .skip)))))))
 (.seq (.rgY c30r11 c30r12)
 .ret)))))
def v30 : List Nat × List Nat := ([3, 4, 6], [3, 4, 6, 18, 23, 45, 52, 61, 63])
def o30 : List RS := [.r 6 (some 2), .t 7]
theorem s30 : slimC Try.prog Try.f30.ntmps v30.1 v30.2 ((Try.f30.body).getD .skip) = some c30 := by kernel_rfl
theorem q30 : slimR Try.prog Try.f30.ntmps v30.1 v30.2 Try.f30.results.toList = some o30 := by kernel_rfl
-- watermeet/batch.Same N=19
def c32r0 : List SI := [
 ⟨none, .alR 0 [(.int .i64 0), (.slice none 0 0)], none, 0⟩,
 ⟨none, .mv 1 (.b false), none, 0⟩]
def c32r1 : List SI := [
 ⟨none, .call 11 51 [(.i 0)], none, 0⟩,
 ⟨none, .mv 10 (.t 11), none, 0⟩,
 ⟨none, .ext 12 (.t 10) 0, none, 0⟩,
 ⟨none, .ext 13 (.t 10) 1, none, 0⟩,
 ⟨none, .alR 2 [(.int .i64 0), (.slice none 0 0)], none, 0⟩,
 ⟨none, .stR 2 0 2 (.t 12), none, 0⟩,
 ⟨none, .mv 3 (.t 13), none, 0⟩]
def c32r2 : List SI := [
 ⟨none, .bld 14 [(.int .i64 0), (.string ⟨#[]⟩), (.string ⟨#[]⟩), (.bool false), (.int .i64 0)] [(2, 1, (.v (.string ⟨#[120]⟩))), (4, 1, (.i 5))], none, 0⟩,
 ⟨none, .bld 15 [(.int .i64 0), (.string ⟨#[]⟩), (.string ⟨#[]⟩), (.bool false), (.int .i64 0)] [(0, 1, (.i 1)), (2, 1, (.v (.string ⟨#[121]⟩))), (4, 1, (.i 7))], none, 0⟩,
 ⟨none, .bls 16 49 2 5 [(.int .i64 0), (.string ⟨#[]⟩), (.string ⟨#[]⟩), (.bool false), (.int .i64 0), (.int .i64 0), (.string ⟨#[]⟩), (.string ⟨#[]⟩), (.bool false), (.int .i64 0)] [(0, 5, (.t 14)), (5, 5, (.t 15))], none, 0⟩,
 ⟨none, .bld 17 [(.int .i64 0), (.int .i64 0), (.int .i64 0), (.int .i64 0), (.int .i64 0), (.int .i64 0), (.int .i64 0), (.bool false), (.int .i64 0), (.slice none 0 0)] [(1, 1, (.i 1)), (4, 1, (.i (-1))), (9, 1, (.t 16))], none, 0⟩,
 ⟨none, .alR 4 [(.int .i64 0), (.int .i64 0), (.int .i64 0), (.int .i64 0), (.int .i64 0), (.int .i64 0), (.int .i64 0), (.bool false), (.int .i64 0), (.slice none 0 0)], none, 0⟩,
 ⟨none, .stR 4 0 10 (.t 17), none, 0⟩]
def c32r3 : List SI := [
 ⟨none, .bld 18 [(.int .i64 0), (.string ⟨#[]⟩), (.string ⟨#[]⟩), (.bool false), (.int .i64 0)] [(0, 1, (.i 2)), (2, 1, (.v (.string ⟨#[122]⟩))), (4, 1, (.i 6))], none, 0⟩,
 ⟨none, .bls 19 49 1 5 [(.int .i64 0), (.string ⟨#[]⟩), (.string ⟨#[]⟩), (.bool false), (.int .i64 0)] [(0, 5, (.t 18))], none, 0⟩,
 ⟨none, .bld 20 [(.int .i64 0), (.int .i64 0), (.int .i64 0), (.int .i64 0), (.int .i64 0), (.int .i64 0), (.int .i64 0), (.bool false), (.int .i64 0), (.slice none 0 0)] [(0, 1, (.i 2)), (1, 1, (.i 2)), (2, 1, (.i 2)), (4, 1, (.i (-1))), (9, 1, (.t 19))], none, 0⟩,
 ⟨none, .alR 5 [(.int .i64 0), (.int .i64 0), (.int .i64 0), (.int .i64 0), (.int .i64 0), (.int .i64 0), (.int .i64 0), (.bool false), (.int .i64 0), (.slice none 0 0)], none, 0⟩,
 ⟨none, .stR 5 0 10 (.t 20), none, 0⟩]
def c32r4 : List SI := [
 ⟨none, .ldR 22 2 0 (some 2), none, 0⟩,
 ⟨none, .ldR 23 4 0 (some 10), none, 0⟩,
 ⟨none, .call 24 30 [(.t 22), (.t 23), (.i 1000)], none, 0⟩,
 ⟨none, .mv 21 (.t 24), none, 0⟩,
 ⟨none, .ext 25 (.t 21) 0, none, 0⟩,
 ⟨none, .ext 26 (.t 21) 1, none, 0⟩,
 ⟨none, .alR 6 [(.int .i64 0), (.slice none 0 0)], none, 0⟩,
 ⟨none, .stR 6 0 2 (.t 25), none, 0⟩,
 ⟨none, .mv 7 (.t 26), none, 0⟩]
def c32r5 : List SI := [
 ⟨none, .ldR 28 6 0 (some 2), none, 0⟩,
 ⟨none, .ldR 29 5 0 (some 10), none, 0⟩,
 ⟨none, .call 30 30 [(.t 28), (.t 29), (.i 1000)], none, 0⟩,
 ⟨none, .mv 27 (.t 30), none, 0⟩,
 ⟨none, .ext 31 (.t 27) 0, none, 0⟩,
 ⟨none, .ext 32 (.t 27) 1, none, 0⟩,
 ⟨none, .alR 8 [(.int .i64 0), (.slice none 0 0)], none, 0⟩,
 ⟨none, .stR 8 0 2 (.t 31), none, 0⟩,
 ⟨none, .mv 9 (.t 32), none, 0⟩]
def c32r6 : List SI := [
 ⟨none, .ldR 33 8 0 (some 2), none, 0⟩,
 ⟨none, .mv 34 (.t 3), none, 0⟩,
 ⟨none, .bin 35 .eql (.t 34) (.i 0), none, 0⟩,
 ⟨none, .mv 36 (.t 35), none, 0⟩,
 ⟨some (36, true), .mv 37 (.t 7), none, 37⟩,
 ⟨some (36, true), .bin 38 .eql (.t 37) (.i 0), none, 38⟩,
 ⟨none, .pick 39 (.t 36) (.t 38) (.b false), none, 0⟩,
 ⟨none, .mv 40 (.t 39), none, 0⟩,
 ⟨some (40, true), .mv 41 (.t 9), none, 41⟩,
 ⟨some (40, true), .bin 42 .eql (.t 41) (.i 0), none, 42⟩,
 ⟨none, .pick 43 (.t 40) (.t 42) (.b false), none, 0⟩,
 ⟨none, .stR 0 0 2 (.t 33), none, 0⟩,
 ⟨none, .mv 1 (.t 43), none, 0⟩]
def c32 : SC :=
 (.seq (.reg false c32r0)
 (.seq (.reg false c32r1)
 (.seq (.reg false c32r2)
 (.seq (.reg false c32r3)
 (.seq (.reg false c32r4)
 (.seq (.reg false c32r5)
 (.seq (.reg false c32r6)
 .ret)))))))
def v32 : List Nat × List Nat := ([0, 2, 4, 5, 6, 8], [0, 2, 4, 5, 6, 8])
def o32 : List RS := [.r 0 (some 2), .t 1]
theorem s32 : slimC Try.prog Try.f32.ntmps v32.1 v32.2 ((Try.f32.body).getD .skip) = some c32 := by kernel_rfl
theorem q32 : slimR Try.prog Try.f32.ntmps v32.1 v32.2 Try.f32.results.toList = some o32 := by kernel_rfl
-- watermeet/index.right N=31
def c33r0 : List SI := [
 ⟨none, .bxR 1 (.t 0), none, 0⟩,
 ⟨none, .mv 2 (.v (.slice none 0 0)), none, 0⟩,
 ⟨none, .mv 3 (.b false), none, 0⟩]
def c33r1 : List SI := [
 ⟨none, .nop, (some 1), 0⟩,
 ⟨none, .ldR 7 1 0 none, none, 0⟩,
 ⟨none, .bin 8 .lss (.t 7) (.i 0), none, 0⟩,
 ⟨none, .mv 9 (.t 8), none, 0⟩,
 ⟨some (9, false), .nop, (some 1), 99999⟩,
 ⟨some (9, false), .ldR 11 1 0 none, none, 11⟩,
 ⟨some (9, false), .bin 12 .gtr (.t 11) (.i 1099511627776), none, 12⟩,
 ⟨none, .pick 13 (.t 9) (.b true) (.t 12), none, 0⟩,
 ⟨none, .mv 14 (.t 13), none, 0⟩,
 ⟨some (14, false), .nop, (some 1), 99999⟩,
 ⟨some (14, false), .ldR 16 1 1 none, none, 16⟩,
 ⟨some (14, false), .len 17 false (.t 16), none, 17⟩,
 ⟨some (14, false), .bin 18 .gtr (.t 17) (.i 4096), none, 18⟩,
 ⟨none, .pick 19 (.t 14) (.b true) (.t 18), none, 0⟩]
def c33r2 : List SI := [
 ⟨none, .mv 2 (.v (.slice none 0 0)), none, 0⟩,
 ⟨none, .mv 3 (.b false), none, 0⟩]
def c33r3 : List SI := [
 ⟨none, .ldR 21 1 0 (some 2), none, 0⟩,
 ⟨none, .call 22 27 [(.t 21)], none, 0⟩,
 ⟨none, .mv 20 (.t 22), none, 0⟩,
 ⟨none, .ext 23 (.t 20) 0, none, 0⟩,
 ⟨none, .ext 24 (.t 20) 1, none, 0⟩,
 ⟨none, .mv 4 (.t 23), none, 0⟩,
 ⟨none, .mv 5 (.t 24), none, 0⟩]
def c33r4 : List SI := [
 ⟨none, .mv 25 (.t 4), none, 0⟩,
 ⟨none, .mv 26 (.t 5), none, 0⟩,
 ⟨none, .nop, (some 1), 0⟩,
 ⟨none, .ldR 28 1 1 none, none, 0⟩,
 ⟨none, .len 29 false (.t 28), none, 0⟩,
 ⟨none, .bin 30 .eql (.t 26) (.t 29), none, 0⟩,
 ⟨none, .mv 2 (.t 25), none, 0⟩,
 ⟨none, .mv 3 (.t 30), none, 0⟩]
def c33 : SC :=
 (.seq (.reg false c33r0)
 (.seq (.seq (.reg false c33r1)
 (.cond (.t 19)
  (.seq (.reg false c33r2)
  .ret)
  .skip))
 (.seq (.reg false c33r3)
 (.seq (.reg true c33r4)
 .ret))))
def v33 : List Nat × List Nat := ([1], [1, 6, 10, 15, 27])
def o33 : List RS := [.t 2, .t 3]
theorem s33 : slimC Try.prog Try.f33.ntmps v33.1 v33.2 ((Try.f33.body).getD .skip) = some c33 := by kernel_rfl
theorem q33 : slimR Try.prog Try.f33.ntmps v33.1 v33.2 Try.f33.results.toList = some o33 := by kernel_rfl
-- watermeet/index.entries N=4
def c34r0 : List SI := [
 ⟨none, .bx 1 (.t 0), none, 0⟩,
 ⟨none, .mv 2 (.v .nilFunc), none, 0⟩]
def c34r1 : List SI := [
 ⟨none, .mkf 3 (.func 52) [(.t 1)], none, 0⟩,
 ⟨none, .mv 2 (.t 3), none, 0⟩]
def c34 : SC :=
 (.seq (.reg false c34r0)
 (.seq (.reg false c34r1)
 .ret))
def v34 : List Nat × List Nat := ([], [])
def o34 : List RS := [.t 2]
theorem s34 : slimC Try.prog Try.f34.ntmps v34.1 v34.2 ((Try.f34.body).getD .skip) = some c34 := by kernel_rfl
theorem q34 : slimR Try.prog Try.f34.ntmps v34.1 v34.2 Try.f34.results.toList = some o34 := by kernel_rfl
-- watermeet/watermeetref08.Right N=29
def c35r0 : List SI := [
 ⟨none, .bxR 1 (.t 0), none, 0⟩,
 ⟨none, .mv 2 (.b false), none, 0⟩]
def c35r1 : List SI := [
 ⟨none, .nop, (some 1), 0⟩,
 ⟨none, .ldR 6 1 0 none, none, 0⟩,
 ⟨none, .bin 7 .lss (.t 6) (.i 0), none, 0⟩,
 ⟨none, .mv 8 (.t 7), none, 0⟩,
 ⟨some (8, false), .nop, (some 1), 99999⟩,
 ⟨some (8, false), .ldR 10 1 0 none, none, 10⟩,
 ⟨some (8, false), .bin 11 .gtr (.t 10) (.i 1099511627776), none, 11⟩,
 ⟨none, .pick 12 (.t 8) (.b true) (.t 11), none, 0⟩,
 ⟨none, .mv 13 (.t 12), none, 0⟩,
 ⟨some (13, false), .nop, (some 1), 99999⟩,
 ⟨some (13, false), .ldR 15 1 1 none, none, 15⟩,
 ⟨some (13, false), .len 16 false (.t 15), none, 16⟩,
 ⟨some (13, false), .bin 17 .gtr (.t 16) (.i 4096), none, 17⟩,
 ⟨none, .pick 18 (.t 13) (.b true) (.t 17), none, 0⟩]
def c35r2 : List SI := [
 ⟨none, .mv 2 (.b false), none, 0⟩]
def c35r3 : List SI := [
 ⟨none, .ldR 20 1 0 (some 2), none, 0⟩,
 ⟨none, .call 21 41 [(.t 20)], none, 0⟩,
 ⟨none, .mv 19 (.t 21), none, 0⟩,
 ⟨none, .ext 22 (.t 19) 0, none, 0⟩,
 ⟨none, .ext 23 (.t 19) 1, none, 0⟩,
 ⟨none, .mv 3 (.t 22), none, 0⟩,
 ⟨none, .mv 4 (.t 23), none, 0⟩]
def c35r4 : List SI := [
 ⟨none, .mv 24 (.t 4), none, 0⟩,
 ⟨none, .nop, (some 1), 0⟩,
 ⟨none, .ldR 26 1 1 none, none, 0⟩,
 ⟨none, .len 27 false (.t 26), none, 0⟩,
 ⟨none, .bin 28 .eql (.t 24) (.t 27), none, 0⟩,
 ⟨none, .mv 2 (.t 28), none, 0⟩]
def c35 : SC :=
 (.seq (.reg false c35r0)
 (.seq (.seq (.reg false c35r1)
 (.cond (.t 18)
  (.seq (.reg false c35r2)
  .ret)
  .skip))
 (.seq (.reg false c35r3)
 (.seq (.reg false c35r4)
 .ret))))
def v35 : List Nat × List Nat := ([1], [1, 5, 9, 14, 25])
def o35 : List RS := [.t 2]
theorem s35 : slimC Try.prog Try.f35.ntmps v35.1 v35.2 ((Try.f35.body).getD .skip) = some c35 := by kernel_rfl
theorem q35 : slimR Try.prog Try.f35.ntmps v35.1 v35.2 Try.f35.results.toList = some o35 := by kernel_rfl
-- watermeet/watermeetref08.entries N=61
def c36r0 : List SI := [
 ⟨none, .bxR 1 (.t 0), none, 0⟩,
 ⟨none, .mv 2 (.v (.slice none 0 0)), none, 0⟩]
def c36r1 : List SI := [
 ⟨none, .ldR 11 1 0 (some 2), none, 0⟩,
 ⟨none, .call 12 41 [(.t 11)], none, 0⟩,
 ⟨none, .mv 10 (.t 12), none, 0⟩,
 ⟨none, .ext 13 (.t 10) 0, none, 0⟩,
 ⟨none, .ext 14 (.t 10) 1, none, 0⟩,
 ⟨none, .mv 3 (.t 13), none, 0⟩,
 ⟨none, .mv 4 (.t 14), none, 0⟩]
def c36r2 : List SI := [
 ⟨none, .mv 5 (.i 0), none, 0⟩]
def c36r3 : List SI := [
 ⟨none, .mv 6 (.i (-1)), none, 0⟩]
def c36r4 : List SI := [
 ⟨none, .mv 7 (.v (.slice none 0 0)), none, 0⟩]
def c36r5 : List SI := [
 ⟨none, .mv 8 (.i 0), none, 0⟩]
def c36r6 : List SI := [
 ⟨none, .mv 15 (.t 8), none, 0⟩,
 ⟨none, .mv 16 (.t 3), none, 0⟩,
 ⟨none, .len 17 false (.t 16), none, 0⟩,
 ⟨none, .bin 18 .lss (.t 15) (.t 17), none, 0⟩]
def c36r7 : List SI := [
 ⟨none, .mv 9 (.i 0), none, 0⟩]
def c36r8 : List SI := [
 ⟨none, .mv 21 (.t 9), none, 0⟩,
 ⟨none, .mv 22 (.t 3), none, 0⟩,
 ⟨none, .mv 23 (.t 8), none, 0⟩,
 ⟨none, .ixA 24 (.t 22) (.t 23) 10, none, 0⟩,
 ⟨none, .flA 25 (.t 24) 9, none, 0⟩,
 ⟨none, .ld 26 (.t 25) none, none, 0⟩,
 ⟨none, .len 27 false (.t 26), none, 0⟩,
 ⟨none, .bin 28 .lss (.t 21) (.t 27), none, 0⟩]
def c36r9 : List SI := [
 ⟨none, .mv 31 (.t 6), none, 0⟩,
 ⟨none, .mv 32 (.t 3), none, 0⟩,
 ⟨none, .mv 33 (.t 8), none, 0⟩,
 ⟨none, .ixA 34 (.t 32) (.t 33) 10, none, 0⟩,
 ⟨none, .flA 35 (.t 34) 9, none, 0⟩,
 ⟨none, .ld 36 (.t 35) none, none, 0⟩,
 ⟨none, .mv 37 (.t 9), none, 0⟩,
 ⟨none, .ixA 38 (.t 36) (.t 37) 5, none, 0⟩,
 ⟨none, .flA 39 (.t 38) 4, none, 0⟩,
 ⟨none, .ld 40 (.t 39) none, none, 0⟩,
 ⟨none, .mm 41 true (.t 31) (.t 40), none, 0⟩,
 ⟨none, .mv 6 (.t 41), none, 0⟩]
def c36r10 : List SI := [
 ⟨none, .mv 29 (.t 9), none, 0⟩,
 ⟨none, .bin 30 .add (.t 29) (.i 1), none, 0⟩,
 ⟨none, .mv 9 (.t 30), none, 0⟩]
def c36r11 : List SI := [
 ⟨none, .mv 42 (.t 7), none, 0⟩,
 ⟨none, .mv 43 (.t 3), none, 0⟩,
 ⟨none, .mv 44 (.t 8), none, 0⟩,
 ⟨none, .ixA 45 (.t 43) (.t 44) 10, none, 0⟩,
 ⟨none, .flA 46 (.t 45) 0, none, 0⟩,
 ⟨none, .ld 47 (.t 46) none, none, 0⟩,
 ⟨none, .mv 48 (.t 5), none, 0⟩,
 ⟨none, .mv 49 (.t 6), none, 0⟩,
 ⟨none, .bld 50 [(.int .i64 0), (.int .i64 0), (.int .i64 0)] [(0, 1, (.t 47)), (1, 1, (.t 48)), (2, 1, (.t 49))], none, 0⟩,
 ⟨none, .bls 51 53 1 3 [(.int .i64 0), (.int .i64 0), (.int .i64 0)] [(0, 3, (.t 50))], none, 0⟩,
 ⟨none, .app 52 (.t 42) (.t 51) 53 3 24, none, 0⟩,
 ⟨none, .mv 7 (.t 52), none, 0⟩]
def c36r12 : List SI := [
 ⟨none, .mv 53 (.t 5), none, 0⟩,
 ⟨none, .mv 54 (.t 3), none, 0⟩,
 ⟨none, .mv 55 (.t 8), none, 0⟩,
 ⟨none, .ixA 56 (.t 54) (.t 55) 10, none, 0⟩,
 ⟨none, .ld 57 (.t 56) (some 10), none, 0⟩,
 ⟨none, .call 58 53 [(.t 57)], none, 0⟩,
 ⟨none, .bin 59 .add (.t 53) (.t 58), none, 0⟩,
 ⟨none, .mv 5 (.t 59), none, 0⟩]
def c36r13 : List SI := [
 ⟨none, .mv 19 (.t 8), none, 0⟩,
 ⟨none, .bin 20 .add (.t 19) (.i 1), none, 0⟩,
 ⟨none, .mv 8 (.t 20), none, 0⟩]
def c36r14 : List SI := [
 ⟨none, .mv 60 (.t 7), none, 0⟩,
 ⟨none, .mv 2 (.t 60), none, 0⟩]
def c36 : SC :=
 (.seq (.reg false c36r0)
 (.seq (.reg false c36r1)
 (.seq (.reg false c36r2)
 (.seq (.reg false c36r3)
 (.seq (.reg false c36r4)
 (.seq (.seq (.reg false c36r5)
 (.blk 0 (.loop (.seq (.seq (.reg false c36r6)
   (.cond (.t 18)
    .skip
    (.exit 0)))
   (.seq (.blk 1 (.seq (.seq (.reg false c36r7)
    (.blk 2 (.loop (.seq (.seq (.reg false c36r8)
      (.cond (.t 28)
       .skip
       (.exit 2)))
      (.seq (.blk 3 (.reg false c36r9))
      (.reg false c36r10))))))
    (.seq (.reg false c36r11)
    (.reg false c36r12))))
   (.reg false c36r13))))))
 (.seq (.reg false c36r14)
 .ret)))))))
def v36 : List Nat × List Nat := ([1], [1])
def o36 : List RS := [.t 2]
theorem s36 : slimC Try.prog Try.f36.ntmps v36.1 v36.2 ((Try.f36.body).getD .skip) = some c36 := by kernel_rfl
theorem q36 : slimR Try.prog Try.f36.ntmps v36.1 v36.2 Try.f36.results.toList = some o36 := by kernel_rfl
-- watermeet/index.last N=16
def c37r0 : List SI := [
 ⟨none, .bx 3 (.t 1), none, 0⟩,
 ⟨none, .al 4 [(.int .i64 0)], none, 0⟩]
def c37r1 : List SI := [
 ⟨none, .mv 7 (.t 0), none, 0⟩,
 ⟨none, .call 8 54 [(.t 7)], none, 0⟩]
def c37r2 : List SI := [
 ⟨none, .alR 6 [(.int .i64 0), (.int .i64 0), (.int .i64 0)], none, 0⟩,
 ⟨none, .stR 6 0 3 (.t 10), none, 0⟩]
def c37r3 : List SI := [
 ⟨none, .ld 11 (.t 3) none, none, 0⟩,
 ⟨none, .ldR 12 6 0 (some 3), none, 0⟩,
 ⟨none, .cav 13 (.t 11) [(.t 12)], none, 0⟩]
def c37r4 : List SI := [
 ⟨none, .nop, (some 6), 0⟩,
 ⟨none, .ldR 15 6 1 none, none, 0⟩,
 ⟨none, .st (.t 4) 1 (.t 15), none, 0⟩]
def c37r5 : List SI := [
 ⟨none, .st (.t 4) 1 (.i 0), none, 0⟩]
def c37 : SC :=
 (.seq (.reg false c37r0)
 (.seq (.seq (.reg false c37r1)
 (.blk 0 (.rf (.t 8) [9, 10] (.reg false c37r2)
   (.blk 1 (.seq (.reg false c37r3)
    (.cond (.t 13)
     (.seq (.reg false c37r4)
     .ret)
     .skip))))))
 (.seq (.reg false c37r5)
 .ret)))
def v37 : List Nat × List Nat := ([6], [6, 14])
def o37 : List RS := [.c 4 none]
theorem s37 : slimC Try.prog Try.f37.ntmps v37.1 v37.2 ((Try.f37.body).getD .skip) = some c37 := by kernel_rfl
theorem q37 : slimR Try.prog Try.f37.ntmps v37.1 v37.2 Try.f37.results.toList = some o37 := by kernel_rfl
-- watermeet/index.Floor$1 N=8
def c38r0 : List SI := [
 ⟨none, .bxR 2 (.t 0), none, 0⟩,
 ⟨none, .mv 3 (.b false), none, 0⟩]
def c38r1 : List SI := [
 ⟨none, .nop, (some 2), 0⟩,
 ⟨none, .ldR 5 2 0 none, none, 0⟩,
 ⟨none, .ld 6 (.t 1) none, none, 0⟩,
 ⟨none, .bin 7 .leq (.t 5) (.t 6), none, 0⟩,
 ⟨none, .mv 3 (.t 7), none, 0⟩]
def c38 : SC :=
 (.seq (.reg false c38r0)
 (.seq (.reg false c38r1)
 .ret))
def v38 : List Nat × List Nat := ([2], [2, 4])
def o38 : List RS := [.t 3]
theorem s38 : slimC Try.prog Try.f38.ntmps v38.1 v38.2 ((Try.f38.body).getD .skip) = some c38 := by kernel_rfl
theorem q38 : slimR Try.prog Try.f38.ntmps v38.1 v38.2 Try.f38.results.toList = some o38 := by kernel_rfl
-- watermeet/index.When$1 N=8
def c39r0 : List SI := [
 ⟨none, .bxR 2 (.t 0), none, 0⟩,
 ⟨none, .mv 3 (.b false), none, 0⟩]
def c39r1 : List SI := [
 ⟨none, .nop, (some 2), 0⟩,
 ⟨none, .ldR 5 2 2 none, none, 0⟩,
 ⟨none, .ld 6 (.t 1) none, none, 0⟩,
 ⟨none, .bin 7 .lss (.t 5) (.t 6), none, 0⟩,
 ⟨none, .mv 3 (.t 7), none, 0⟩]
def c39 : SC :=
 (.seq (.reg false c39r0)
 (.seq (.reg false c39r1)
 .ret))
def v39 : List Nat × List Nat := ([2], [2, 4])
def o39 : List RS := [.t 3]
theorem s39 : slimC Try.prog Try.f39.ntmps v39.1 v39.2 ((Try.f39.body).getD .skip) = some c39 := by kernel_rfl
theorem q39 : slimR Try.prog Try.f39.ntmps v39.1 v39.2 Try.f39.results.toList = some o39 := by kernel_rfl
-- watermeet/index.from N=6
def c40r0 : List SI := [
 ⟨none, .bx 2 (.t 0), none, 0⟩,
 ⟨none, .bx 3 (.t 1), none, 0⟩,
 ⟨none, .mv 4 (.v .nilFunc), none, 0⟩]
def c40r1 : List SI := [
 ⟨none, .mkf 5 (.func 55) [(.t 3), (.t 2)], none, 0⟩,
 ⟨none, .mv 4 (.t 5), none, 0⟩]
def c40 : SC :=
 (.seq (.reg false c40r0)
 (.seq (.reg false c40r1)
 .ret))
def v40 : List Nat × List Nat := ([], [])
def o40 : List RS := [.t 4]
theorem s40 : slimC Try.prog Try.f40.ntmps v40.1 v40.2 ((Try.f40.body).getD .skip) = some c40 := by kernel_rfl
theorem q40 : slimR Try.prog Try.f40.ntmps v40.1 v40.2 Try.f40.results.toList = some o40 := by kernel_rfl
-- watermeet/watermeetref07.Scan N=50
def c41r0 : List SI := [
 ⟨none, .bxR 1 (.t 0), none, 0⟩,
 ⟨none, .mv 2 (.v (.slice none 0 0)), none, 0⟩,
 ⟨none, .mv 3 (.i 0), none, 0⟩]
def c41r1 : List SI := [
 ⟨none, .mv 4 (.v (.slice none 0 0)), none, 0⟩]
def c41r2 : List SI := [
 ⟨none, .mv 5 (.i 0), none, 0⟩]
def c41r3 : List SI := [
 ⟨none, .nop, (some 1), 0⟩,
 ⟨none, .ldR 11 1 1 none, none, 0⟩,
 ⟨none, .mv 12 (.t 5), none, 0⟩,
 ⟨none, .call 13 57 [(.t 11), (.t 12)], none, 0⟩,
 ⟨none, .mv 9 (.t 13), none, 0⟩,
 ⟨none, .ext 14 (.t 9) 0, none, 0⟩,
 ⟨none, .ext 15 (.t 9) 1, none, 0⟩,
 ⟨none, .ext 16 (.t 9) 2, none, 0⟩,
 ⟨none, .alR 6 [(.int .i64 0), (.int .i64 0), (.int .i64 0), (.int .i64 0), (.int .i64 0), (.int .i64 0), (.int .i64 0), (.bool false), (.int .i64 0), (.slice none 0 0)], none, 0⟩,
 ⟨none, .stR 6 0 10 (.t 14), none, 0⟩,
 ⟨none, .mv 7 (.t 15), none, 0⟩,
 ⟨none, .mv 8 (.t 16), none, 0⟩]
def c41r4 : List SI := [
 ⟨none, .mv 17 (.t 8), none, 0⟩,
 ⟨none, .bin 18 .neq (.t 17) (.i 0), none, 0⟩,
 ⟨none, .mv 19 (.t 18), none, 0⟩,
 ⟨some (19, false), .nop, (some 6), 99999⟩,
 ⟨some (19, false), .ldR 21 6 0 none, none, 21⟩,
 ⟨some (19, false), .nop, (some 1), 99999⟩,
 ⟨some (19, false), .ldR 23 1 0 none, none, 23⟩,
 ⟨some (19, false), .bin 24 .lss (.t 21) (.t 23), none, 24⟩,
 ⟨none, .pick 25 (.t 19) (.b true) (.t 24), none, 0⟩,
 ⟨none, .mv 26 (.t 25), none, 0⟩,
 ⟨some (26, false), .mv 27 (.t 4), none, 27⟩,
 ⟨some (26, false), .len 28 false (.t 27), none, 28⟩,
 ⟨some (26, false), .bin 29 .gtr (.t 28) (.i 0), none, 29⟩,
 ⟨some (26, false), .mv 30 (.t 29), none, 30⟩,
 ⟨some (30, true), .nop, (some 6), 99999⟩,
 ⟨some (30, true), .ldR 32 6 0 none, none, 32⟩,
 ⟨some (30, true), .mv 33 (.t 4), none, 33⟩,
 ⟨some (30, true), .mv 34 (.t 4), none, 34⟩,
 ⟨some (30, true), .len 35 false (.t 34), none, 35⟩,
 ⟨some (30, true), .bin 36 .sub (.t 35) (.i 1), none, 36⟩,
 ⟨some (30, true), .ixA 37 (.t 33) (.t 36) 10, none, 37⟩,
 ⟨some (30, true), .flA 38 (.t 37) 1, none, 38⟩,
 ⟨some (30, true), .ld 39 (.t 38) none, none, 39⟩,
 ⟨some (30, true), .bin 40 .leq (.t 32) (.t 39), none, 40⟩,
 ⟨some (26, false), .pick 41 (.t 30) (.t 40) (.b false), none, 41⟩,
 ⟨none, .pick 42 (.t 26) (.b true) (.t 41), none, 0⟩]
def c41r5 : List SI := [
 ⟨none, .mv 43 (.t 4), none, 0⟩,
 ⟨none, .mv 44 (.t 5), none, 0⟩,
 ⟨none, .mv 2 (.t 43), none, 0⟩,
 ⟨none, .mv 3 (.t 44), none, 0⟩]
def c41r6 : List SI := [
 ⟨none, .mv 45 (.t 4), none, 0⟩,
 ⟨none, .ldR 46 6 0 (some 10), none, 0⟩,
 ⟨none, .bls 47 38 1 10 [(.int .i64 0), (.int .i64 0), (.int .i64 0), (.int .i64 0), (.int .i64 0), (.int .i64 0), (.int .i64 0), (.bool false), (.int .i64 0), (.slice none 0 0)] [(0, 10, (.t 46))], none, 0⟩,
 ⟨none, .app 48 (.t 45) (.t 47) 38 10 96, none, 0⟩,
 ⟨none, .mv 4 (.t 48), none, 0⟩]
def c41r7 : List SI := [
 ⟨none, .mv 49 (.t 7), none, 0⟩,
 ⟨none, .mv 5 (.t 49), none, 0⟩]
def c41 : SC :=
 (.seq (.reg false c41r0)
 (.seq (.reg false c41r1)
 (.seq (.reg false c41r2)
 (.blk 0 (.loop (.blk 1 (.seq (.reg false c41r3)
    (.seq (.seq (.reg true c41r4)
    (.cond (.t 42)
     (.seq (.reg false c41r5)
     .ret)
     .skip))
    (.seq (.reg false c41r6)
    (.reg false c41r7))))))))))
def v41 : List Nat × List Nat := ([1, 6], [1, 6, 10, 20, 22, 31])
def o41 : List RS := [.t 2, .t 3]
theorem s41 : slimC Try.prog Try.f41.ntmps v41.1 v41.2 ((Try.f41.body).getD .skip) = some c41 := by kernel_rfl
theorem q41 : slimR Try.prog Try.f41.ntmps v41.1 v41.2 Try.f41.results.toList = some o41 := by kernel_rfl
-- watermeet/watermeetref04.SameRecs N=26
def c43r0 : List SI := [
 ⟨none, .bx 1 (.t 0), none, 0⟩,
 ⟨none, .mv 2 (.v .nilFunc), none, 0⟩]
def c43r1 : List SI := [
 ⟨none, .mkf 3 (.func 58) [(.t 1)], none, 0⟩,
 ⟨none, .mv 2 (.t 3), none, 0⟩]
def c43 : SC :=
 (.seq (.reg false c43r0)
 (.seq (.reg false c43r1)
 .ret))
def v43 : List Nat × List Nat := ([], [])
def o43 : List RS := [.t 2]
theorem s43 : slimC Try.prog Try.f43.ntmps v43.1 v43.2 ((Try.f43.body).getD .skip) = some c43 := by kernel_rfl
theorem q43 : slimR Try.prog Try.f43.ntmps v43.1 v43.2 Try.f43.results.toList = some o43 := by kernel_rfl
-- watermeet/batch.Put N=14
def c44r0 : List SI := [
 ⟨none, .bxR 1 (.t 0), none, 0⟩,
 ⟨none, .mv 2 (.v (.slice none 0 0)), none, 0⟩,
 ⟨none, .mv 3 (.i 0), none, 0⟩]
def c44r1 : List SI := [
 ⟨none, .ldR 5 1 0 (some 10), none, 0⟩,
 ⟨none, .call 6 59 [(.t 5)], none, 0⟩,
 ⟨none, .un 7 .not (.t 6), none, 0⟩]
def c44r2 : List SI := [
 ⟨none, .mv 2 (.v (.slice none 0 0)), none, 0⟩,
 ⟨none, .mv 3 (.i 1), none, 0⟩]
def c44r3 : List SI := [
 ⟨none, .ldR 8 1 0 (some 10), none, 0⟩,
 ⟨none, .call 9 60 [(.t 8)], none, 0⟩,
 ⟨none, .mv 4 (.t 9), none, 0⟩]
def c44r4 : List SI := [
 ⟨none, .mv 10 (.t 4), none, 0⟩,
 ⟨none, .len 11 false (.t 10), none, 0⟩,
 ⟨none, .bin 12 .gtr (.t 11) (.i 2048), none, 0⟩]
def c44r5 : List SI := [
 ⟨none, .mv 2 (.v (.slice none 0 0)), none, 0⟩,
 ⟨none, .mv 3 (.i 2), none, 0⟩]
def c44r6 : List SI := [
 ⟨none, .mv 13 (.t 4), none, 0⟩,
 ⟨none, .mv 2 (.t 13), none, 0⟩,
 ⟨none, .mv 3 (.i 0), none, 0⟩]
def c44 : SC :=
 (.seq (.reg false c44r0)
 (.seq (.seq (.reg false c44r1)
 (.cond (.t 7)
  (.seq (.reg false c44r2)
  .ret)
  .skip))
 (.seq (.reg false c44r3)
 (.seq (.seq (.reg false c44r4)
 (.cond (.t 12)
  (.seq (.reg false c44r5)
  .ret)
  .skip))
 (.seq (.reg false c44r6)
 .ret)))))
def v44 : List Nat × List Nat := ([1], [1])
def o44 : List RS := [.t 2, .t 3]
theorem s44 : slimC Try.prog Try.f44.ntmps v44.1 v44.2 ((Try.f44.body).getD .skip) = some c44 := by kernel_rfl
theorem q44 : slimR Try.prog Try.f44.ntmps v44.1 v44.2 Try.f44.results.toList = some o44 := by kernel_rfl
-- watermeet/seg.based N=9
def c45r0 : List SI := [
 ⟨none, .mv 2 (.b false), none, 0⟩]
def c45r1 : List SI := [
 ⟨none, .mv 3 (.t 0), none, 0⟩,
 ⟨none, .bin 4 .geq (.t 3) (.i 0), none, 0⟩,
 ⟨none, .mv 5 (.t 4), none, 0⟩,
 ⟨some (5, true), .mv 6 (.t 0), none, 6⟩,
 ⟨some (5, true), .bin 7 .leq (.t 6) (.i 1099511627776), none, 7⟩,
 ⟨none, .pick 8 (.t 5) (.t 7) (.b false), none, 0⟩,
 ⟨none, .mv 2 (.t 8), none, 0⟩]
def c45 : SC :=
 (.seq (.reg false c45r0)
 (.seq (.reg false c45r1)
 .ret))
def v45 : List Nat × List Nat := ([], [])
def o45 : List RS := [.t 2]
theorem s45 : slimC Try.prog Try.f45.ntmps v45.1 v45.2 ((Try.f45.body).getD .skip) = some c45 := by kernel_rfl
theorem q45 : slimR Try.prog Try.f45.ntmps v45.1 v45.2 Try.f45.results.toList = some o45 := by kernel_rfl
-- watermeet/seg.limited N=9
def c46r0 : List SI := [
 ⟨none, .mv 2 (.b false), none, 0⟩]
def c46r1 : List SI := [
 ⟨none, .mv 3 (.t 0), none, 0⟩,
 ⟨none, .bin 4 .geq (.t 3) (.i 1), none, 0⟩,
 ⟨none, .mv 5 (.t 4), none, 0⟩,
 ⟨some (5, true), .mv 6 (.t 0), none, 6⟩,
 ⟨some (5, true), .bin 7 .leq (.t 6) (.i 4096), none, 7⟩,
 ⟨none, .pick 8 (.t 5) (.t 7) (.b false), none, 0⟩,
 ⟨none, .mv 2 (.t 8), none, 0⟩]
def c46 : SC :=
 (.seq (.reg false c46r0)
 (.seq (.reg false c46r1)
 .ret))
def v46 : List Nat × List Nat := ([], [])
def o46 : List RS := [.t 2]
theorem s46 : slimC Try.prog Try.f46.ntmps v46.1 v46.2 ((Try.f46.body).getD .skip) = some c46 := by kernel_rfl
theorem q46 : slimR Try.prog Try.f46.ntmps v46.1 v46.2 Try.f46.results.toList = some o46 := by kernel_rfl
-- watermeet/seg.End N=15
def c47r0 : List SI := [
 ⟨none, .bx 1 (.t 0), none, 0⟩,
 ⟨none, .mv 2 (.i 0), none, 0⟩]
def c47r1 : List SI := [
 ⟨none, .flA 5 (.t 1) 0, none, 0⟩,
 ⟨none, .ld 6 (.t 5) none, none, 0⟩,
 ⟨none, .al 3 [(.int .i64 0)], none, 0⟩,
 ⟨none, .st (.t 3) 1 (.t 6), none, 0⟩]
def c47r2 : List SI := [
 ⟨none, .ld 7 (.t 1) (some 2), none, 0⟩,
 ⟨none, .call 8 43 [(.t 7)], none, 0⟩]
def c47r3 : List SI := [
 ⟨none, .alR 4 [(.int .i64 0), (.int .i64 0), (.int .i64 0), (.int .i64 0), (.int .i64 0), (.int .i64 0), (.int .i64 0), (.bool false), (.int .i64 0), (.slice none 0 0)], none, 0⟩,
 ⟨none, .stR 4 0 10 (.t 9), none, 0⟩]
def c47r4 : List SI := [
 ⟨none, .nop, (some 4), 0⟩,
 ⟨none, .ldR 12 4 1 none, none, 0⟩,
 ⟨none, .bin 13 .add (.t 12) (.i 1), none, 0⟩,
 ⟨none, .st (.t 3) 1 (.t 13), none, 0⟩]
def c47r5 : List SI := [
 ⟨none, .ld 14 (.t 3) none, none, 0⟩,
 ⟨none, .mv 2 (.t 14), none, 0⟩]
def c47 : SC :=
 (.seq (.reg false c47r0)
 (.seq (.reg false c47r1)
 (.seq (.seq (.reg false c47r2)
 (.blk 0 (.rf (.t 8) [9, 10] (.reg false c47r3)
   (.blk 1 (.reg false c47r4)))))
 (.seq (.reg false c47r5)
 .ret))))
def v47 : List Nat × List Nat := ([4], [4, 11])
def o47 : List RS := [.t 2]
theorem s47 : slimC Try.prog Try.f47.ntmps v47.1 v47.2 ((Try.f47.body).getD .skip) = some c47 := by kernel_rfl
theorem q47 : slimR Try.prog Try.f47.ntmps v47.1 v47.2 Try.f47.results.toList = some o47 := by kernel_rfl
-- slices.Concat[[]byte,byte] N=36
def c48r0 : List SI := [
 ⟨none, .mv 2 (.v (.slice none 0 0)), none, 0⟩]
def c48r1 : List SI := [
 ⟨none, .mv 3 (.i 0), none, 0⟩]
def c48r2 : List SI := [
 ⟨none, .mv 9 (.t 0), none, 0⟩,
 ⟨none, .len 10 false (.t 9), none, 0⟩,
 ⟨none, .mv 11 (.i 0), none, 0⟩]
def c48r3 : List SI := [
 ⟨none, .bin 12 .lss (.t 11) (.t 10), none, 0⟩]
def c48r4 : List SI := [
 ⟨none, .ixA 13 (.t 9) (.t 11) 1, none, 0⟩,
 ⟨none, .ld 14 (.t 13) none, none, 0⟩,
 ⟨none, .mv 5 (.t 14), none, 0⟩]
def c48r5 : List SI := [
 ⟨none, .mv 15 (.t 3), none, 0⟩,
 ⟨none, .mv 16 (.t 5), none, 0⟩,
 ⟨none, .len 17 false (.t 16), none, 0⟩,
 ⟨none, .bin 18 .add (.t 15) (.t 17), none, 0⟩,
 ⟨none, .mv 3 (.t 18), none, 0⟩]
def c48r6 : List SI := [
 ⟨none, .mv 19 (.t 3), none, 0⟩,
 ⟨none, .bin 20 .lss (.t 19) (.i 0), none, 0⟩]
def c48r7 : List SI := [
 ⟨none, .bin 22 .add (.t 11) (.i 1), none, 0⟩,
 ⟨none, .mv 11 (.t 22), none, 0⟩]
def c48r8 : List SI := [
 ⟨none, .mv 23 (.t 3), none, 0⟩,
 ⟨none, .call 24 61 [(.v (.slice none 0 0)), (.t 23)], none, 0⟩,
 ⟨none, .mv 6 (.t 24), none, 0⟩]
def c48r9 : List SI := [
 ⟨none, .mv 25 (.t 0), none, 0⟩,
 ⟨none, .len 26 false (.t 25), none, 0⟩,
 ⟨none, .mv 27 (.i 0), none, 0⟩]
def c48r10 : List SI := [
 ⟨none, .bin 28 .lss (.t 27) (.t 26), none, 0⟩]
def c48r11 : List SI := [
 ⟨none, .ixA 29 (.t 25) (.t 27) 1, none, 0⟩,
 ⟨none, .ld 30 (.t 29) none, none, 0⟩,
 ⟨none, .mv 8 (.t 30), none, 0⟩]
def c48r12 : List SI := [
 ⟨none, .mv 31 (.t 6), none, 0⟩,
 ⟨none, .mv 32 (.t 8), none, 0⟩,
 ⟨none, .app 33 (.t 31) (.t 32) 5 1 1, none, 0⟩,
 ⟨none, .mv 6 (.t 33), none, 0⟩]
def c48r13 : List SI := [
 ⟨none, .bin 34 .add (.t 27) (.i 1), none, 0⟩,
 ⟨none, .mv 27 (.t 34), none, 0⟩]
def c48r14 : List SI := [
 ⟨none, .mv 35 (.t 6), none, 0⟩,
 ⟨none, .mv 2 (.t 35), none, 0⟩]
def c48 : SC :=
 (.seq (.reg false c48r0)
 (.seq (.reg false c48r1)
 (.seq (.seq (.reg false c48r2)
 (.blk 0 (.loop (.seq (.reg false c48r3)
   (.seq (.cond (.t 12)
    .skip
    (.exit 0))
   (.seq (.blk 1 (.seq (.reg false c48r4)
    (.seq (.reg false c48r5)
    (.seq (.reg false c48r6)
    (.cond (.t 20)
     .dead
     .skip)))))
   (.reg false c48r7)))))))
 (.seq (.reg false c48r8)
 (.seq (.seq (.reg false c48r9)
 (.blk 2 (.loop (.seq (.reg false c48r10)
   (.seq (.cond (.t 28)
    .skip
    (.exit 2))
   (.seq (.blk 3 (.seq (.reg false c48r11)
    (.reg false c48r12)))
   (.reg false c48r13)))))))
 (.seq (.reg false c48r14)
 .ret))))))
def v48 : List Nat × List Nat := ([], [])
def o48 : List RS := [.t 2]
theorem s48 : slimC Try.prog Try.f48.ntmps v48.1 v48.2 ((Try.f48.body).getD .skip) = some c48 := by kernel_rfl
theorem q48 : slimR Try.prog Try.f48.ntmps v48.1 v48.2 Try.f48.results.toList = some o48 := by kernel_rfl
-- slices.Equal[[]watermeet/api.Rec,watermeet/api.Rec] N=26
def c51r0 : List SI := [
 ⟨none, .alR 2 [(.int .i64 0), (.slice none 0 0)], none, 0⟩,
 ⟨none, .mv 3 (.i 0), none, 0⟩]
def c51r1 : List SI := [
 ⟨none, .mv 4 (.t 0), none, 0⟩,
 ⟨none, .call 5 45 [(.t 4)], none, 0⟩,
 ⟨none, .un 6 .not (.t 5), none, 0⟩]
def c51r2 : List SI := [
 ⟨none, .bld 7 [(.int .i64 0), (.slice none 0 0)] [], none, 0⟩,
 ⟨none, .stR 2 0 2 (.t 7), none, 0⟩,
 ⟨none, .mv 3 (.i 1), none, 0⟩]
def c51r3 : List SI := [
 ⟨none, .mv 8 (.t 0), none, 0⟩,
 ⟨none, .bld 9 [(.int .i64 0), (.slice none 0 0)] [(0, 1, (.t 8))], none, 0⟩,
 ⟨none, .stR 2 0 2 (.t 9), none, 0⟩,
 ⟨none, .mv 3 (.i 0), none, 0⟩]
def c51 : SC :=
 (.seq (.reg false c51r0)
 (.seq (.seq (.reg false c51r1)
 (.cond (.t 6)
  (.seq (.reg false c51r2)
  .ret)
  .skip))
 (.seq (.reg false c51r3)
 .ret)))
def v51 : List Nat × List Nat := ([2], [2])
def o51 : List RS := [.r 2 (some 2), .t 3]
theorem s51 : slimC Try.prog Try.f51.ntmps v51.1 v51.2 ((Try.f51.body).getD .skip) = some c51 := by kernel_rfl
theorem q51 : slimR Try.prog Try.f51.ntmps v51.1 v51.2 Try.f51.results.toList = some o51 := by kernel_rfl
-- watermeet/index.entries$1 N=44
def c52r0 : List SI := [
 ⟨none, .bld 8 [(.int .i64 0), (.int .i64 0), (.int .i64 0)] [(2, 1, (.i (-1)))], none, 0⟩,
 ⟨none, .alR 3 [(.int .i64 0), (.int .i64 0), (.int .i64 0)], none, 0⟩,
 ⟨none, .stR 3 0 3 (.t 8), none, 0⟩]
def c52r1 : List SI := [
 ⟨none, .ld 9 (.t 1) none, none, 0⟩,
 ⟨none, .len 10 false (.t 9), none, 0⟩,
 ⟨none, .mv 11 (.i 0), none, 0⟩]
def c52r2 : List SI := [
 ⟨none, .bin 12 .lss (.t 11) (.t 10), none, 0⟩]
def c52r3 : List SI := [
 ⟨none, .ixA 13 (.t 9) (.t 11) 10, none, 0⟩,
 ⟨none, .ld 14 (.t 13) (some 10), none, 0⟩,
 ⟨none, .alR 5 [(.int .i64 0), (.int .i64 0), (.int .i64 0), (.int .i64 0), (.int .i64 0), (.int .i64 0), (.int .i64 0), (.bool false), (.int .i64 0), (.slice none 0 0)], none, 0⟩,
 ⟨none, .stR 5 0 10 (.t 14), none, 0⟩]
def c52r4 : List SI := [
 ⟨none, .nop, (some 5), 0⟩,
 ⟨none, .ldR 16 5 0 none, none, 0⟩,
 ⟨none, .nop, (some 3), 0⟩,
 ⟨none, .stR 3 0 1 (.t 16), none, 0⟩]
def c52r5 : List SI := [
 ⟨none, .nop, (some 5), 0⟩,
 ⟨none, .ldR 19 5 9 none, none, 0⟩,
 ⟨none, .len 20 false (.t 19), none, 0⟩,
 ⟨none, .mv 21 (.i 0), none, 0⟩]
def c52r6 : List SI := [
 ⟨none, .bin 22 .lss (.t 21) (.t 20), none, 0⟩]
def c52r7 : List SI := [
 ⟨none, .ixA 23 (.t 19) (.t 21) 5, none, 0⟩,
 ⟨none, .ld 24 (.t 23) (some 5), none, 0⟩,
 ⟨none, .alR 7 [(.int .i64 0), (.string ⟨#[]⟩), (.string ⟨#[]⟩), (.bool false), (.int .i64 0)], none, 0⟩,
 ⟨none, .stR 7 0 5 (.t 24), none, 0⟩]
def c52r8 : List SI := [
 ⟨none, .nop, (some 3), 0⟩,
 ⟨none, .ldR 26 3 2 none, none, 0⟩,
 ⟨none, .nop, (some 7), 0⟩,
 ⟨none, .ldR 28 7 4 none, none, 0⟩,
 ⟨none, .mm 29 true (.t 26) (.t 28), none, 0⟩,
 ⟨none, .nop, (some 3), 0⟩,
 ⟨none, .stR 3 2 1 (.t 29), none, 0⟩]
def c52r9 : List SI := [
 ⟨none, .bin 31 .add (.t 21) (.i 1), none, 0⟩,
 ⟨none, .mv 21 (.t 31), none, 0⟩]
def c52r10 : List SI := [
 ⟨none, .mv 32 (.t 0), none, 0⟩,
 ⟨none, .ldR 33 3 0 (some 3), none, 0⟩,
 ⟨none, .ldR 34 5 0 (some 10), none, 0⟩,
 ⟨none, .cav 35 (.t 32) [(.t 33), (.t 34)], none, 0⟩,
 ⟨none, .un 36 .not (.t 35), none, 0⟩]
def c52r11 : List (Bool × SI) := [
 (true, ⟨none, .nop, (some 3), 0⟩),
 (true, ⟨none, .ldR 38 3 1 none, none, 0⟩),
 (true, ⟨none, .ldR 39 5 0 (some 10), none, 0⟩),
 (false, ⟨none, .call 40 28 [(.t 39)], none, 0⟩),
 (true, ⟨none, .bin 41 .add (.t 38) (.t 40), none, 0⟩),
 (true, ⟨none, .nop, (some 3), 0⟩)]
def c52r12 : List SI := [
 ⟨none, .stR 3 1 1 (.t 41), none, 0⟩]
def c52r13 : List SI := [
 ⟨none, .bin 43 .add (.t 11) (.i 1), none, 0⟩,
 ⟨none, .mv 11 (.t 43), none, 0⟩]
def c52 : SC :=
 (.seq (.reg false c52r0)
 (.seq (.reg false c52r1)
 (.blk 0 (.loop (.seq (.reg false c52r2)
   (.seq (.cond (.t 12)
    .skip
    (.exit 0))
   (.seq (.blk 1 (.seq (.reg false c52r3)
    (.seq (.reg false c52r4)
    (.seq (.seq (.reg false c52r5)
    (.blk 2 (.loop (.seq (.reg false c52r6)
      (.seq (.cond (.t 22)
       .skip
       (.exit 2))
      (.seq (.blk 3 (.seq (.reg false c52r7)
       (.reg false c52r8)))
      (.reg false c52r9)))))))
    (.seq (.seq (.reg false c52r10)
    (.cond (.t 36)
     .ret
     .skip))
    (.rgY c52r11 c52r12))))))
   (.reg false c52r13))))))))
def v52 : List Nat × List Nat := ([3, 5, 7], [3, 5, 7, 15, 17, 18, 25, 27, 30, 37, 42])
def o52 : List RS := []
theorem s52 : slimC Try.prog Try.f52.ntmps v52.1 v52.2 ((Try.f52.body).getD .skip) = some c52 := by kernel_rfl
theorem q52 : slimR Try.prog Try.f52.ntmps v52.1 v52.2 Try.f52.results.toList = some o52 := by kernel_rfl
-- watermeet/watermeetref04.Size N=9
def c53r0 : List SI := [
 ⟨none, .bxR 1 (.t 0), none, 0⟩,
 ⟨none, .mv 2 (.i 0), none, 0⟩]
def c53r1 : List SI := [
 ⟨none, .ldR 3 1 0 (some 10), none, 0⟩,
 ⟨none, .call 4 62 [(.t 3)], none, 0⟩,
 ⟨none, .bin 5 .neq (.t 4) (.i 0), none, 0⟩]
def c53r2 : List SI := [
 ⟨none, .mv 2 (.i 0), none, 0⟩]
def c53r3 : List SI := [
 ⟨none, .ldR 6 1 0 (some 10), none, 0⟩,
 ⟨none, .call 7 63 [(.t 6)], none, 0⟩,
 ⟨none, .len 8 false (.t 7), none, 0⟩,
 ⟨none, .mv 2 (.t 8), none, 0⟩]
def c53 : SC :=
 (.seq (.reg false c53r0)
 (.seq (.seq (.reg false c53r1)
 (.cond (.t 5)
  (.seq (.reg false c53r2)
  .ret)
  .skip))
 (.seq (.reg false c53r3)
 .ret)))
def v53 : List Nat × List Nat := ([1], [1])
def o53 : List RS := [.t 2]
theorem s53 : slimC Try.prog Try.f53.ntmps v53.1 v53.2 ((Try.f53.body).getD .skip) = some c53 := by kernel_rfl
theorem q53 : slimR Try.prog Try.f53.ntmps v53.1 v53.2 Try.f53.results.toList = some o53 := by kernel_rfl
-- slices.Backward[[]watermeet/api.Ent,watermeet/api.Ent] N=4
def c54r0 : List SI := [
 ⟨none, .bx 1 (.t 0), none, 0⟩,
 ⟨none, .mv 2 (.v .nilFunc), none, 0⟩]
def c54r1 : List SI := [
 ⟨none, .mkf 3 (.func 64) [(.t 1)], none, 0⟩,
 ⟨none, .mv 2 (.t 3), none, 0⟩]
def c54 : SC :=
 (.seq (.reg false c54r0)
 (.seq (.reg false c54r1)
 .ret))
def v54 : List Nat × List Nat := ([], [])
def o54 : List RS := [.t 2]
theorem s54 : slimC Try.prog Try.f54.ntmps v54.1 v54.2 ((Try.f54.body).getD .skip) = some c54 := by kernel_rfl
theorem q54 : slimR Try.prog Try.f54.ntmps v54.1 v54.2 Try.f54.results.toList = some o54 := by kernel_rfl
-- watermeet/index.from$1 N=27
def c55r0 : List SI := [
 ⟨none, .ld 7 (.t 1) none, none, 0⟩,
 ⟨none, .flA 8 (.t 2) 1, none, 0⟩,
 ⟨none, .ld 9 (.t 8) none, none, 0⟩,
 ⟨none, .len 10 false (.t 9), none, 0⟩,
 ⟨none, .bin 11 .lss (.t 7) (.t 10), none, 0⟩]
def c55r1 : List SI := [
 ⟨none, .flA 13 (.t 2) 1, none, 0⟩,
 ⟨none, .ld 14 (.t 13) none, none, 0⟩,
 ⟨none, .ld 15 (.t 1) none, none, 0⟩,
 ⟨none, .call 16 56 [(.t 14), (.t 15)], none, 0⟩,
 ⟨none, .mv 12 (.t 16), none, 0⟩,
 ⟨none, .ext 17 (.t 12) 0, none, 0⟩,
 ⟨none, .ext 18 (.t 12) 1, none, 0⟩,
 ⟨none, .ext 19 (.t 12) 2, none, 0⟩,
 ⟨none, .alR 4 [(.int .i64 0), (.int .i64 0), (.int .i64 0), (.int .i64 0), (.int .i64 0), (.int .i64 0), (.int .i64 0), (.bool false), (.int .i64 0), (.slice none 0 0)], none, 0⟩,
 ⟨none, .stR 4 0 10 (.t 17), none, 0⟩,
 ⟨none, .mv 5 (.t 18), none, 0⟩,
 ⟨none, .mv 6 (.t 19), none, 0⟩]
def c55r2 : List SI := [
 ⟨none, .mv 20 (.t 6), none, 0⟩,
 ⟨none, .bin 21 .neq (.t 20) (.i 0), none, 0⟩]
def c55r3 : List SI := [
 ⟨none, .mv 22 (.t 0), none, 0⟩,
 ⟨none, .ldR 23 4 0 (some 10), none, 0⟩,
 ⟨none, .cav 24 (.t 22) [(.t 23)], none, 0⟩,
 ⟨none, .un 25 .not (.t 24), none, 0⟩]
def c55r4 : List SI := [
 ⟨none, .mv 26 (.t 5), none, 0⟩,
 ⟨none, .st (.t 1) 1 (.t 26), none, 0⟩]
def c55 : SC :=
 (.scp (.seq (.lab 0)
  (.blk 0 (.loop (.seq (.seq (.reg false c55r0)
    (.cond (.t 11)
     .skip
     (.exit 0)))
    (.blk 1 (.seq (.reg false c55r1)
     (.seq (.seq (.reg false c55r2)
     (.cond (.t 21)
      (.exit 0)
      .skip))
     (.seq (.seq (.reg false c55r3)
     (.cond (.t 25)
      .ret
      .skip))
     (.reg false c55r4))))))))))
def v55 : List Nat × List Nat := ([4], [4])
def o55 : List RS := []
theorem s55 : slimC Try.prog Try.f55.ntmps v55.1 v55.2 ((Try.f55.body).getD .skip) = some c55 := by kernel_rfl
theorem q55 : slimR Try.prog Try.f55.ntmps v55.1 v55.2 Try.f55.results.toList = some o55 := by kernel_rfl
-- watermeet/batch.Get N=68
def c56r0 : List SI := [
 ⟨none, .alR 4 [(.int .i64 0), (.int .i64 0), (.int .i64 0), (.int .i64 0), (.int .i64 0), (.int .i64 0), (.int .i64 0), (.bool false), (.int .i64 0), (.slice none 0 0)], none, 0⟩,
 ⟨none, .mv 5 (.i 0), none, 0⟩,
 ⟨none, .mv 6 (.i 0), none, 0⟩]
def c56r1 : List SI := [
 ⟨none, .mv 12 (.t 0), none, 0⟩,
 ⟨none, .mv 13 (.t 1), none, 0⟩,
 ⟨none, .call 14 65 [(.t 12), (.t 13), (.i 4)], none, 0⟩,
 ⟨none, .mv 11 (.t 14), none, 0⟩,
 ⟨none, .ext 15 (.t 11) 0, none, 0⟩,
 ⟨none, .ext 16 (.t 11) 1, none, 0⟩,
 ⟨none, .mv 7 (.t 15), none, 0⟩,
 ⟨none, .mv 6 (.t 16), none, 0⟩]
def c56r2 : List SI := [
 ⟨none, .mv 17 (.t 6), none, 0⟩,
 ⟨none, .bin 18 .neq (.t 17) (.i 0), none, 0⟩]
def c56r3 : List SI := [
 ⟨none, .bld 19 [(.int .i64 0), (.int .i64 0), (.int .i64 0), (.int .i64 0), (.int .i64 0), (.int .i64 0), (.int .i64 0), (.bool false), (.int .i64 0), (.slice none 0 0)] [], none, 0⟩,
 ⟨none, .mv 20 (.t 6), none, 0⟩,
 ⟨none, .stR 4 0 10 (.t 19), none, 0⟩,
 ⟨none, .mv 5 (.i 0), none, 0⟩,
 ⟨none, .mv 6 (.t 20), none, 0⟩]
def c56r4 : List SI := [
 ⟨none, .mv 21 (.t 7), none, 0⟩,
 ⟨none, .bin 22 .lss (.t 21) (.v (.int .u64 5)), none, 0⟩,
 ⟨none, .mv 23 (.t 22), none, 0⟩,
 ⟨some (23, false), .mv 24 (.t 7), none, 24⟩,
 ⟨some (23, false), .bin 25 .gtr (.t 24) (.v (.int .u64 2044)), none, 25⟩,
 ⟨none, .pick 26 (.t 23) (.b true) (.t 25), none, 0⟩]
def c56r5 : List SI := [
 ⟨none, .bld 27 [(.int .i64 0), (.int .i64 0), (.int .i64 0), (.int .i64 0), (.int .i64 0), (.int .i64 0), (.int .i64 0), (.bool false), (.int .i64 0), (.slice none 0 0)] [], none, 0⟩,
 ⟨none, .stR 4 0 10 (.t 27), none, 0⟩,
 ⟨none, .mv 5 (.i 0), none, 0⟩,
 ⟨none, .mv 6 (.i 11), none, 0⟩]
def c56r6 : List SI := [
 ⟨none, .mv 28 (.t 0), none, 0⟩,
 ⟨none, .mv 29 (.t 1), none, 0⟩,
 ⟨none, .bin 30 .add (.t 29) (.i 4), none, 0⟩,
 ⟨none, .sl 31 (.t 28) (some (.t 30)) none none 1, none, 0⟩,
 ⟨none, .mv 8 (.t 31), none, 0⟩]
def c56r7 : List SI := [
 ⟨none, .mv 32 (.t 8), none, 0⟩,
 ⟨none, .len 33 false (.t 32), none, 0⟩,
 ⟨none, .cvI 34 .u64 (.t 33), none, 0⟩,
 ⟨none, .mv 35 (.t 7), none, 0⟩,
 ⟨none, .bin 36 .lss (.t 34) (.t 35), none, 0⟩]
def c56r8 : List SI := [
 ⟨none, .bld 37 [(.int .i64 0), (.int .i64 0), (.int .i64 0), (.int .i64 0), (.int .i64 0), (.int .i64 0), (.int .i64 0), (.bool false), (.int .i64 0), (.slice none 0 0)] [], none, 0⟩,
 ⟨none, .stR 4 0 10 (.t 37), none, 0⟩,
 ⟨none, .mv 5 (.i 0), none, 0⟩,
 ⟨none, .mv 6 (.i 10), none, 0⟩]
def c56r9 : List SI := [
 ⟨none, .mv 39 (.t 8), none, 0⟩,
 ⟨none, .mv 40 (.t 7), none, 0⟩,
 ⟨none, .sl 41 (.t 39) none (some (.t 40)) none 1, none, 0⟩,
 ⟨none, .call 42 66 [(.t 41)], none, 0⟩,
 ⟨none, .mv 38 (.t 42), none, 0⟩,
 ⟨none, .ext 43 (.t 38) 0, none, 0⟩,
 ⟨none, .ext 44 (.t 38) 1, none, 0⟩,
 ⟨none, .mv 9 (.t 43), none, 0⟩,
 ⟨none, .mv 6 (.t 44), none, 0⟩]
def c56r10 : List SI := [
 ⟨none, .mv 45 (.t 6), none, 0⟩,
 ⟨none, .bin 46 .neq (.t 45) (.i 0), none, 0⟩]
def c56r11 : List SI := [
 ⟨none, .bld 47 [(.int .i64 0), (.int .i64 0), (.int .i64 0), (.int .i64 0), (.int .i64 0), (.int .i64 0), (.int .i64 0), (.bool false), (.int .i64 0), (.slice none 0 0)] [], none, 0⟩,
 ⟨none, .mv 48 (.t 6), none, 0⟩,
 ⟨none, .stR 4 0 10 (.t 47), none, 0⟩,
 ⟨none, .mv 5 (.i 0), none, 0⟩,
 ⟨none, .mv 6 (.t 48), none, 0⟩]
def c56r12 : List SI := [
 ⟨none, .mv 50 (.t 9), none, 0⟩,
 ⟨none, .call 51 67 [(.t 50)], none, 0⟩,
 ⟨none, .mv 49 (.t 51), none, 0⟩,
 ⟨none, .ext 52 (.t 49) 0, none, 0⟩,
 ⟨none, .ext 53 (.t 49) 1, none, 0⟩,
 ⟨none, .stR 4 0 10 (.t 52), none, 0⟩,
 ⟨none, .mv 10 (.t 53), none, 0⟩]
def c56r13 : List SI := [
 ⟨none, .mv 54 (.t 10), none, 0⟩,
 ⟨none, .un 55 .not (.t 54), none, 0⟩,
 ⟨none, .mv 56 (.t 55), none, 0⟩,
 ⟨some (56, false), .ldR 57 4 0 (some 10), none, 57⟩,
 ⟨some (56, false), .call 58 68 [(.t 57)], none, 58⟩,
 ⟨some (56, false), .bin 59 .neq (.t 58) (.i 0), none, 59⟩,
 ⟨none, .pick 60 (.t 56) (.b true) (.t 59), none, 0⟩]
def c56r14 : List SI := [
 ⟨none, .bld 61 [(.int .i64 0), (.int .i64 0), (.int .i64 0), (.int .i64 0), (.int .i64 0), (.int .i64 0), (.int .i64 0), (.bool false), (.int .i64 0), (.slice none 0 0)] [], none, 0⟩,
 ⟨none, .stR 4 0 10 (.t 61), none, 0⟩,
 ⟨none, .mv 5 (.i 0), none, 0⟩,
 ⟨none, .mv 6 (.i 11), none, 0⟩]
def c56r15 : List SI := [
 ⟨none, .ldR 62 4 0 (some 10), none, 0⟩,
 ⟨none, .mv 63 (.t 1), none, 0⟩,
 ⟨none, .bin 64 .add (.t 63) (.i 4), none, 0⟩,
 ⟨none, .mv 65 (.t 7), none, 0⟩,
 ⟨none, .cvI 66 .i64 (.t 65), none, 0⟩,
 ⟨none, .bin 67 .add (.t 64) (.t 66), none, 0⟩,
 ⟨none, .stR 4 0 10 (.t 62), none, 0⟩,
 ⟨none, .mv 5 (.t 67), none, 0⟩,
 ⟨none, .mv 6 (.i 0), none, 0⟩]
def c56 : SC :=
 (.seq (.reg false c56r0)
 (.seq (.reg false c56r1)
 (.seq (.seq (.reg false c56r2)
 (.cond (.t 18)
  (.seq (.reg false c56r3)
  .ret)
  .skip))
 (.seq (.seq (.reg false c56r4)
 (.cond (.t 26)
  (.seq (.reg false c56r5)
  .ret)
  .skip))
 (.seq (.reg false c56r6)
 (.seq (.seq (.reg false c56r7)
 (.cond (.t 36)
  (.seq (.reg false c56r8)
  .ret)
  .skip))
 (.seq (.reg false c56r9)
 (.seq (.seq (.reg false c56r10)
 (.cond (.t 46)
  (.seq (.reg false c56r11)
  .ret)
  .skip))
 (.seq (.reg false c56r12)
 (.seq (.seq (.reg false c56r13)
 (.cond (.t 60)
  (.seq (.reg false c56r14)
  .ret)
  .skip))
 (.seq (.reg false c56r15)
 .ret)))))))))))
def v56 : List Nat × List Nat := ([4], [4])
def o56 : List RS := [.r 4 (some 10), .t 5, .t 6]
theorem s56 : slimC Try.prog Try.f56.ntmps v56.1 v56.2 ((Try.f56.body).getD .skip) = some c56 := by kernel_rfl
theorem q56 : slimR Try.prog Try.f56.ntmps v56.1 v56.2 Try.f56.results.toList = some o56 := by kernel_rfl
-- watermeet/watermeetref04.Get N=68
def c57r0 : List SI := [
 ⟨none, .alR 4 [(.int .i64 0), (.int .i64 0), (.int .i64 0), (.int .i64 0), (.int .i64 0), (.int .i64 0), (.int .i64 0), (.bool false), (.int .i64 0), (.slice none 0 0)], none, 0⟩,
 ⟨none, .mv 5 (.i 0), none, 0⟩,
 ⟨none, .mv 6 (.i 0), none, 0⟩]
def c57r1 : List SI := [
 ⟨none, .mv 14 (.t 0), none, 0⟩,
 ⟨none, .mv 15 (.t 1), none, 0⟩,
 ⟨none, .call 16 69 [(.t 14), (.t 15), (.i 4)], none, 0⟩,
 ⟨none, .mv 13 (.t 16), none, 0⟩,
 ⟨none, .ext 17 (.t 13) 0, none, 0⟩,
 ⟨none, .ext 18 (.t 13) 1, none, 0⟩,
 ⟨none, .mv 7 (.t 17), none, 0⟩,
 ⟨none, .mv 8 (.t 18), none, 0⟩]
def c57r2 : List SI := [
 ⟨none, .mv 19 (.t 8), none, 0⟩,
 ⟨none, .bin 20 .neq (.t 19) (.i 0), none, 0⟩]
def c57r3 : List SI := [
 ⟨none, .bld 21 [(.int .i64 0), (.int .i64 0), (.int .i64 0), (.int .i64 0), (.int .i64 0), (.int .i64 0), (.int .i64 0), (.bool false), (.int .i64 0), (.slice none 0 0)] [], none, 0⟩,
 ⟨none, .mv 22 (.t 8), none, 0⟩,
 ⟨none, .stR 4 0 10 (.t 21), none, 0⟩,
 ⟨none, .mv 5 (.i 0), none, 0⟩,
 ⟨none, .mv 6 (.t 22), none, 0⟩]
def c57r4 : List SI := [
 ⟨none, .mv 23 (.t 7), none, 0⟩,
 ⟨none, .bin 24 .lss (.t 23) (.v (.int .u64 5)), none, 0⟩,
 ⟨none, .mv 25 (.t 24), none, 0⟩,
 ⟨some (25, false), .mv 26 (.t 7), none, 26⟩,
 ⟨some (25, false), .bin 27 .gtr (.t 26) (.v (.int .u64 2044)), none, 27⟩,
 ⟨none, .pick 28 (.t 25) (.b true) (.t 27), none, 0⟩]
def c57r5 : List SI := [
 ⟨none, .bld 29 [(.int .i64 0), (.int .i64 0), (.int .i64 0), (.int .i64 0), (.int .i64 0), (.int .i64 0), (.int .i64 0), (.bool false), (.int .i64 0), (.slice none 0 0)] [], none, 0⟩,
 ⟨none, .stR 4 0 10 (.t 29), none, 0⟩,
 ⟨none, .mv 5 (.i 0), none, 0⟩,
 ⟨none, .mv 6 (.i 11), none, 0⟩]
def c57r6 : List SI := [
 ⟨none, .mv 30 (.t 1), none, 0⟩,
 ⟨none, .bin 31 .add (.t 30) (.i 4), none, 0⟩,
 ⟨none, .mv 32 (.t 7), none, 0⟩,
 ⟨none, .cvI 33 .i64 (.t 32), none, 0⟩,
 ⟨none, .bin 34 .add (.t 31) (.t 33), none, 0⟩,
 ⟨none, .mv 9 (.t 34), none, 0⟩]
def c57r7 : List SI := [
 ⟨none, .mv 35 (.t 9), none, 0⟩,
 ⟨none, .mv 36 (.t 0), none, 0⟩,
 ⟨none, .len 37 false (.t 36), none, 0⟩,
 ⟨none, .bin 38 .gtr (.t 35) (.t 37), none, 0⟩]
def c57r8 : List SI := [
 ⟨none, .bld 39 [(.int .i64 0), (.int .i64 0), (.int .i64 0), (.int .i64 0), (.int .i64 0), (.int .i64 0), (.int .i64 0), (.bool false), (.int .i64 0), (.slice none 0 0)] [], none, 0⟩,
 ⟨none, .stR 4 0 10 (.t 39), none, 0⟩,
 ⟨none, .mv 5 (.i 0), none, 0⟩,
 ⟨none, .mv 6 (.i 10), none, 0⟩]
def c57r9 : List SI := [
 ⟨none, .mv 41 (.t 0), none, 0⟩,
 ⟨none, .mv 42 (.t 1), none, 0⟩,
 ⟨none, .bin 43 .add (.t 42) (.i 4), none, 0⟩,
 ⟨none, .mv 44 (.t 9), none, 0⟩,
 ⟨none, .sl 45 (.t 41) (some (.t 43)) (some (.t 44)) none 1, none, 0⟩,
 ⟨none, .call 46 70 [(.t 45)], none, 0⟩,
 ⟨none, .mv 40 (.t 46), none, 0⟩,
 ⟨none, .ext 47 (.t 40) 0, none, 0⟩,
 ⟨none, .ext 48 (.t 40) 1, none, 0⟩,
 ⟨none, .mv 10 (.t 47), none, 0⟩,
 ⟨none, .mv 8 (.t 48), none, 0⟩]
def c57r10 : List SI := [
 ⟨none, .mv 49 (.t 8), none, 0⟩,
 ⟨none, .bin 50 .neq (.t 49) (.i 0), none, 0⟩]
def c57r11 : List SI := [
 ⟨none, .bld 51 [(.int .i64 0), (.int .i64 0), (.int .i64 0), (.int .i64 0), (.int .i64 0), (.int .i64 0), (.int .i64 0), (.bool false), (.int .i64 0), (.slice none 0 0)] [], none, 0⟩,
 ⟨none, .mv 52 (.t 8), none, 0⟩,
 ⟨none, .stR 4 0 10 (.t 51), none, 0⟩,
 ⟨none, .mv 5 (.i 0), none, 0⟩,
 ⟨none, .mv 6 (.t 52), none, 0⟩]
def c57r12 : List SI := [
 ⟨none, .mv 54 (.t 10), none, 0⟩,
 ⟨none, .call 55 71 [(.t 54)], none, 0⟩,
 ⟨none, .mv 53 (.t 55), none, 0⟩,
 ⟨none, .ext 56 (.t 53) 0, none, 0⟩,
 ⟨none, .ext 57 (.t 53) 1, none, 0⟩,
 ⟨none, .alR 11 [(.int .i64 0), (.int .i64 0), (.int .i64 0), (.int .i64 0), (.int .i64 0), (.int .i64 0), (.int .i64 0), (.bool false), (.int .i64 0), (.slice none 0 0)], none, 0⟩,
 ⟨none, .stR 11 0 10 (.t 56), none, 0⟩,
 ⟨none, .mv 12 (.t 57), none, 0⟩]
def c57r13 : List SI := [
 ⟨none, .mv 58 (.t 12), none, 0⟩,
 ⟨none, .un 59 .not (.t 58), none, 0⟩,
 ⟨none, .mv 60 (.t 59), none, 0⟩,
 ⟨some (60, false), .ldR 61 11 0 (some 10), none, 61⟩,
 ⟨some (60, false), .call 62 62 [(.t 61)], none, 62⟩,
 ⟨some (60, false), .bin 63 .neq (.t 62) (.i 0), none, 63⟩,
 ⟨none, .pick 64 (.t 60) (.b true) (.t 63), none, 0⟩]
def c57r14 : List SI := [
 ⟨none, .bld 65 [(.int .i64 0), (.int .i64 0), (.int .i64 0), (.int .i64 0), (.int .i64 0), (.int .i64 0), (.int .i64 0), (.bool false), (.int .i64 0), (.slice none 0 0)] [], none, 0⟩,
 ⟨none, .stR 4 0 10 (.t 65), none, 0⟩,
 ⟨none, .mv 5 (.i 0), none, 0⟩,
 ⟨none, .mv 6 (.i 11), none, 0⟩]
def c57r15 : List SI := [
 ⟨none, .ldR 66 11 0 (some 10), none, 0⟩,
 ⟨none, .mv 67 (.t 9), none, 0⟩,
 ⟨none, .stR 4 0 10 (.t 66), none, 0⟩,
 ⟨none, .mv 5 (.t 67), none, 0⟩,
 ⟨none, .mv 6 (.i 0), none, 0⟩]
def c57 : SC :=
 (.seq (.reg false c57r0)
 (.seq (.reg false c57r1)
 (.seq (.seq (.reg false c57r2)
 (.cond (.t 20)
  (.seq (.reg false c57r3)
  .ret)
  .skip))
 (.seq (.seq (.reg false c57r4)
 (.cond (.t 28)
  (.seq (.reg false c57r5)
  .ret)
  .skip))
 (.seq (.reg false c57r6)
 (.seq (.seq (.reg false c57r7)
 (.cond (.t 38)
  (.seq (.reg false c57r8)
  .ret)
  .skip))
 (.seq (.reg false c57r9)
 (.seq (.seq (.reg false c57r10)
 (.cond (.t 50)
  (.seq (.reg false c57r11)
  .ret)
  .skip))
 (.seq (.reg false c57r12)
 (.seq (.seq (.reg false c57r13)
 (.cond (.t 64)
  (.seq (.reg false c57r14)
  .ret)
  .skip))
 (.seq (.reg false c57r15)
 .ret)))))))))))
def v57 : List Nat × List Nat := ([4, 11], [4, 11])
def o57 : List RS := [.r 4 (some 10), .t 5, .t 6]
theorem s57 : slimC Try.prog Try.f57.ntmps v57.1 v57.2 ((Try.f57.body).getD .skip) = some c57 := by kernel_rfl
theorem q57 : slimR Try.prog Try.f57.ntmps v57.1 v57.2 Try.f57.results.toList = some o57 := by kernel_rfl
-- watermeet/seg.each$1 N=37
def c58r0 : List SI := [
 ⟨none, .flA 8 (.t 1) 0, none, 0⟩,
 ⟨none, .ld 9 (.t 8) none, none, 0⟩,
 ⟨none, .mv 3 (.i 0), none, 0⟩,
 ⟨none, .mv 4 (.t 9), none, 0⟩]
def c58r1 : List SI := [
 ⟨none, .flA 11 (.t 1) 1, none, 0⟩,
 ⟨none, .ld 12 (.t 11) none, none, 0⟩,
 ⟨none, .mv 13 (.t 3), none, 0⟩,
 ⟨none, .call 14 56 [(.t 12), (.t 13)], none, 0⟩,
 ⟨none, .mv 10 (.t 14), none, 0⟩,
 ⟨none, .ext 15 (.t 10) 0, none, 0⟩,
 ⟨none, .ext 16 (.t 10) 1, none, 0⟩,
 ⟨none, .ext 17 (.t 10) 2, none, 0⟩,
 ⟨none, .alR 5 [(.int .i64 0), (.int .i64 0), (.int .i64 0), (.int .i64 0), (.int .i64 0), (.int .i64 0), (.int .i64 0), (.bool false), (.int .i64 0), (.slice none 0 0)], none, 0⟩,
 ⟨none, .stR 5 0 10 (.t 15), none, 0⟩,
 ⟨none, .mv 6 (.t 16), none, 0⟩,
 ⟨none, .mv 7 (.t 17), none, 0⟩]
def c58r2 : List SI := [
 ⟨none, .mv 18 (.t 7), none, 0⟩,
 ⟨none, .bin 19 .neq (.t 18) (.i 0), none, 0⟩,
 ⟨none, .mv 20 (.t 19), none, 0⟩,
 ⟨some (20, false), .nop, (some 5), 99999⟩,
 ⟨some (20, false), .ldR 22 5 0 none, none, 22⟩,
 ⟨some (20, false), .mv 23 (.t 4), none, 23⟩,
 ⟨some (20, false), .bin 24 .lss (.t 22) (.t 23), none, 24⟩,
 ⟨none, .pick 25 (.t 20) (.b true) (.t 24), none, 0⟩,
 ⟨none, .mv 26 (.t 25), none, 0⟩,
 ⟨some (26, false), .mv 27 (.t 0), none, 27⟩,
 ⟨some (26, false), .ldR 28 5 0 (some 10), none, 28⟩,
 ⟨some (26, false), .mv 29 (.t 6), none, 29⟩,
 ⟨some (26, false), .cav 30 (.t 27) [(.t 28), (.t 29)], none, 30⟩,
 ⟨some (26, false), .un 31 .not (.t 30), none, 31⟩,
 ⟨none, .pick 32 (.t 26) (.b true) (.t 31), none, 0⟩]
def c58r3 : List SI := [
 ⟨none, .mv 33 (.t 6), none, 0⟩,
 ⟨none, .nop, (some 5), 0⟩,
 ⟨none, .ldR 35 5 1 none, none, 0⟩,
 ⟨none, .bin 36 .add (.t 35) (.i 1), none, 0⟩,
 ⟨none, .mv 3 (.t 33), none, 0⟩,
 ⟨none, .mv 4 (.t 36), none, 0⟩]
def c58 : SC :=
 (.seq (.reg true c58r0)
 (.blk 0 (.loop (.blk 1 (.seq (.reg false c58r1)
    (.seq (.seq (.reg false c58r2)
    (.cond (.t 32)
     .ret
     .skip))
    (.reg true c58r3)))))))
def v58 : List Nat × List Nat := ([5], [5, 21, 34])
def o58 : List RS := []
theorem s58 : slimC Try.prog Try.f58.ntmps v58.1 v58.2 ((Try.f58.body).getD .skip) = some c58 := by kernel_rfl
theorem q58 : slimR Try.prog Try.f58.ntmps v58.1 v58.2 Try.f58.results.toList = some o58 := by kernel_rfl
-- watermeet/batch.formed N=131
def c59r0 : List SI := [
 ⟨none, .bxR 1 (.t 0), none, 0⟩,
 ⟨none, .mv 2 (.b false), none, 0⟩]
def c59r1 : List SI := [
 ⟨none, .nop, (some 1), 0⟩,
 ⟨none, .ldR 8 1 0 none, none, 0⟩,
 ⟨none, .nop, (some 1), 0⟩,
 ⟨none, .ldR 10 1 1 none, none, 0⟩,
 ⟨none, .nop, (some 1), 0⟩,
 ⟨none, .ldR 12 1 2 none, none, 0⟩,
 ⟨none, .bls 13 3 3 1 [(.int .i64 0), (.int .i64 0), (.int .i64 0)] [(0, 1, (.t 8)), (1, 1, (.t 10)), (2, 1, (.t 12))], none, 0⟩,
 ⟨none, .call 14 72 [(.i 1099511627776), (.t 13)], none, 0⟩,
 ⟨none, .un 15 .not (.t 14), none, 0⟩,
 ⟨none, .mv 16 (.t 15), none, 0⟩,
 ⟨some (16, false), .nop, (some 1), 99999⟩,
 ⟨some (16, false), .ldR 18 1 3 none, none, 18⟩,
 ⟨some (16, false), .nop, (some 1), 99999⟩,
 ⟨some (16, false), .ldR 20 1 5 none, none, 20⟩,
 ⟨some (16, false), .nop, (some 1), 99999⟩,
 ⟨some (16, false), .ldR 22 1 6 none, none, 22⟩,
 ⟨some (16, false), .bls 23 3 3 1 [(.int .i64 0), (.int .i64 0), (.int .i64 0)] [(0, 1, (.t 18)), (1, 1, (.t 20)), (2, 1, (.t 22))], none, 23⟩,
 ⟨some (16, false), .call 24 72 [(.i 1048576), (.t 23)], none, 24⟩,
 ⟨some (16, false), .un 25 .not (.t 24), none, 25⟩,
 ⟨none, .pick 26 (.t 16) (.b true) (.t 25), none, 0⟩]
def c59r2 : List SI := [
 ⟨none, .mv 2 (.b false), none, 0⟩]
def c59r3 : List SI := [
 ⟨none, .nop, (some 1), 0⟩,
 ⟨none, .ldR 28 1 1 none, none, 0⟩,
 ⟨none, .nop, (some 1), 0⟩,
 ⟨none, .ldR 30 1 0 none, none, 0⟩,
 ⟨none, .bin 31 .sub (.t 28) (.t 30), none, 0⟩,
 ⟨none, .mv 3 (.t 31), none, 0⟩]
def c59r4 : List SI := [
 ⟨none, .mv 33 (.t 3), none, 0⟩,
 ⟨none, .bin 34 .lss (.t 33) (.i 0), none, 0⟩,
 ⟨none, .mv 35 (.t 34), none, 0⟩,
 ⟨some (35, false), .mv 36 (.t 3), none, 36⟩,
 ⟨some (35, false), .bin 37 .geq (.t 36) (.i 16), none, 37⟩,
 ⟨none, .pick 38 (.t 35) (.b true) (.t 37), none, 0⟩,
 ⟨none, .mv 39 (.t 38), none, 0⟩,
 ⟨some (39, false), .nop, (some 1), 99999⟩,
 ⟨some (39, false), .ldR 41 1 2 none, none, 41⟩,
 ⟨some (39, false), .mv 42 (.t 3), none, 42⟩,
 ⟨some (39, false), .bin 43 .add (.t 41) (.t 42), none, 43⟩,
 ⟨some (39, false), .bin 44 .gtr (.t 43) (.i 1099511627776), none, 44⟩,
 ⟨none, .pick 45 (.t 39) (.b true) (.t 44), none, 0⟩,
 ⟨none, .mv 46 (.t 45), none, 0⟩,
 ⟨some (46, false), .nop, (some 1), 99999⟩,
 ⟨some (46, false), .ldR 48 1 6 none, none, 48⟩,
 ⟨some (46, false), .mv 49 (.t 3), none, 49⟩,
 ⟨some (46, false), .bin 50 .add (.t 48) (.t 49), none, 50⟩,
 ⟨some (46, false), .bin 51 .gtr (.t 50) (.i 1048576), none, 51⟩,
 ⟨none, .pick 52 (.t 46) (.b true) (.t 51), none, 0⟩,
 ⟨none, .mv 32 (.t 52), none, 0⟩]
def c59r5 : List SI := [
 ⟨none, .mv 2 (.b false), none, 0⟩]
def c59r6 : List SI := [
 ⟨none, .nop, (some 1), 0⟩,
 ⟨none, .ldR 55 1 4 none, none, 0⟩,
 ⟨none, .bin 56 .lss (.t 55) (.i (-1)), none, 0⟩,
 ⟨none, .mv 57 (.t 56), none, 0⟩,
 ⟨some (57, false), .nop, (some 1), 99999⟩,
 ⟨some (57, false), .ldR 59 1 4 none, none, 59⟩,
 ⟨some (57, false), .bin 60 .gtr (.t 59) (.i 1099511627776), none, 60⟩,
 ⟨none, .pick 61 (.t 57) (.b true) (.t 60), none, 0⟩,
 ⟨none, .mv 53 (.t 61), none, 0⟩]
def c59r7 : List SI := [
 ⟨none, .mv 2 (.b false), none, 0⟩]
def c59r8 : List SI := [
 ⟨none, .nop, (some 1), 0⟩,
 ⟨none, .ldR 64 1 4 none, none, 0⟩,
 ⟨none, .bin 65 .eql (.t 64) (.i (-1)), none, 0⟩,
 ⟨none, .mv 66 (.t 65), none, 0⟩,
 ⟨some (66, true), .nop, (some 1), 99999⟩,
 ⟨some (66, true), .ldR 68 1 5 none, none, 68⟩,
 ⟨some (66, true), .nop, (some 1), 99999⟩,
 ⟨some (66, true), .ldR 70 1 6 none, none, 70⟩,
 ⟨some (66, true), .bin 71 .add (.t 68) (.t 70), none, 71⟩,
 ⟨some (66, true), .bin 72 .neq (.t 71) (.i 0), none, 72⟩,
 ⟨some (66, true), .mv 73 (.t 72), none, 73⟩,
 ⟨some (73, false), .nop, (some 1), 99999⟩,
 ⟨some (73, false), .ldR 75 1 7 none, none, 75⟩,
 ⟨some (66, true), .pick 76 (.t 73) (.b true) (.t 75), none, 76⟩,
 ⟨some (66, true), .mv 77 (.t 76), none, 77⟩,
 ⟨some (77, false), .nop, (some 1), 99999⟩,
 ⟨some (77, false), .ldR 79 1 8 none, none, 79⟩,
 ⟨some (77, false), .bin 80 .neq (.t 79) (.i 0), none, 80⟩,
 ⟨some (66, true), .pick 81 (.t 77) (.b true) (.t 80), none, 81⟩,
 ⟨none, .pick 82 (.t 66) (.t 81) (.b false), none, 0⟩,
 ⟨none, .mv 62 (.t 82), none, 0⟩]
def c59r9 : List SI := [
 ⟨none, .mv 2 (.b false), none, 0⟩]
def c59r10 : List SI := [
 ⟨none, .nop, (some 1), 0⟩,
 ⟨none, .ldR 84 1 8 none, none, 0⟩]
def c59r11 : List SI := [
 ⟨none, .bin 86 .eql (.t 84) (.i 0), none, 0⟩,
 ⟨none, .mv 85 (.t 86), none, 0⟩]
def c59r12 : List SI := [
 ⟨none, .nop, (some 1), 0⟩,
 ⟨none, .ldR 88 1 0 none, none, 0⟩,
 ⟨none, .mv 4 (.t 88), none, 0⟩]
def c59r13 : List SI := [
 ⟨none, .nop, (some 1), 0⟩,
 ⟨none, .ldR 90 1 9 none, none, 0⟩,
 ⟨none, .len 91 false (.t 90), none, 0⟩,
 ⟨none, .mv 92 (.i 0), none, 0⟩]
def c59r14 : List SI := [
 ⟨none, .bin 93 .lss (.t 92) (.t 91), none, 0⟩]
def c59r15 : List SI := [
 ⟨none, .ixA 94 (.t 90) (.t 92) 5, none, 0⟩,
 ⟨none, .ld 95 (.t 94) (some 5), none, 0⟩,
 ⟨none, .alR 6 [(.int .i64 0), (.string ⟨#[]⟩), (.string ⟨#[]⟩), (.bool false), (.int .i64 0)], none, 0⟩,
 ⟨none, .stR 6 0 5 (.t 95), none, 0⟩]
def c59r16 : List SI := [
 ⟨none, .ldR 96 6 0 (some 5), none, 0⟩,
 ⟨none, .call 97 73 [(.t 96)], none, 0⟩,
 ⟨none, .bin 98 .neq (.t 97) (.i 0), none, 0⟩,
 ⟨none, .mv 99 (.t 98), none, 0⟩,
 ⟨some (99, false), .nop, (some 6), 99999⟩,
 ⟨some (99, false), .ldR 101 6 0 none, none, 101⟩,
 ⟨some (99, false), .mv 102 (.t 4), none, 102⟩,
 ⟨some (99, false), .bin 103 .lss (.t 101) (.t 102), none, 103⟩,
 ⟨none, .pick 104 (.t 99) (.b true) (.t 103), none, 0⟩,
 ⟨none, .mv 105 (.t 104), none, 0⟩,
 ⟨some (105, false), .nop, (some 6), 99999⟩,
 ⟨some (105, false), .ldR 107 6 0 none, none, 107⟩,
 ⟨some (105, false), .nop, (some 1), 99999⟩,
 ⟨some (105, false), .ldR 109 1 1 none, none, 109⟩,
 ⟨some (105, false), .bin 110 .gtr (.t 107) (.t 109), none, 110⟩,
 ⟨none, .pick 111 (.t 105) (.b true) (.t 110), none, 0⟩]
def c59r17 : List SI := [
 ⟨none, .mv 2 (.b false), none, 0⟩]
def c59r18 : List SI := [
 ⟨none, .nop, (some 6), 0⟩,
 ⟨none, .ldR 113 6 0 none, none, 0⟩,
 ⟨none, .bin 114 .add (.t 113) (.i 1), none, 0⟩,
 ⟨none, .mv 4 (.t 114), none, 0⟩]
def c59r19 : List SI := [
 ⟨none, .bin 115 .add (.t 92) (.i 1), none, 0⟩,
 ⟨none, .mv 92 (.t 115), none, 0⟩]
def c59r20 : List SI := [
 ⟨none, .mv 2 (.b true), none, 0⟩]
def c59r21 : List SI := [
 ⟨none, .bin 117 .eql (.t 84) (.i 1), none, 0⟩,
 ⟨none, .mv 116 (.t 117), none, 0⟩]
def c59r22 : List SI := [
 ⟨none, .bin 118 .eql (.t 84) (.i 2), none, 0⟩,
 ⟨none, .mv 116 (.t 118), none, 0⟩]
def c59r23 : List SI := [
 ⟨none, .mv 119 (.t 3), none, 0⟩,
 ⟨none, .bin 120 .eql (.t 119) (.i 0), none, 0⟩,
 ⟨none, .mv 121 (.t 120), none, 0⟩,
 ⟨some (121, true), .nop, (some 1), 99999⟩,
 ⟨some (121, true), .ldR 123 1 9 none, none, 123⟩,
 ⟨some (121, true), .len 124 false (.t 123), none, 124⟩,
 ⟨some (121, true), .bin 125 .eql (.t 124) (.i 0), none, 125⟩,
 ⟨none, .pick 126 (.t 121) (.t 125) (.b false), none, 0⟩,
 ⟨none, .mv 127 (.t 126), none, 0⟩,
 ⟨some (127, true), .nop, (some 1), 99999⟩,
 ⟨some (127, true), .ldR 129 1 7 none, none, 129⟩,
 ⟨none, .pick 130 (.t 127) (.t 129) (.b false), none, 0⟩,
 ⟨none, .mv 2 (.t 130), none, 0⟩]
def c59r24 : List SI := [
 ⟨none, .mv 2 (.b false), none, 0⟩]
def c59 : SC :=
 (.seq (.reg false c59r0)
 (.seq (.seq (.reg false c59r1)
 (.cond (.t 26)
  (.seq (.reg false c59r2)
  .ret)
  .skip))
 (.seq (.reg false c59r3)
 (.seq (.blk 0 (.seq (.reg false c59r4)
  (.cond (.t 32)
   (.seq (.reg false c59r5)
   .ret)
   (.seq (.reg false c59r6)
   (.cond (.t 53)
    (.seq (.reg false c59r7)
    .ret)
    (.seq (.reg false c59r8)
    (.cond (.t 62)
     (.seq (.reg false c59r9)
     .ret)
     .skip)))))))
 (.seq (.seq (.reg false c59r10)
 (.blk 1 (.seq (.reg false c59r11)
  (.cond (.t 85)
   (.seq (.reg false c59r12)
   (.seq (.seq (.reg false c59r13)
   (.blk 2 (.loop (.seq (.reg false c59r14)
     (.seq (.cond (.t 93)
      .skip
      (.exit 2))
     (.seq (.blk 3 (.seq (.reg false c59r15)
      (.seq (.seq (.reg false c59r16)
      (.cond (.t 111)
       (.seq (.reg false c59r17)
       .ret)
       .skip))
      (.reg false c59r18))))
     (.reg false c59r19)))))))
   (.seq (.reg false c59r20)
   .ret)))
   (.seq (.seq (.reg false c59r21)
   (.cond (.t 116)
    .skip
    (.reg false c59r22)))
   (.cond (.t 116)
    (.seq (.reg false c59r23)
    .ret)
    .skip))))))
 (.seq (.reg false c59r24)
 .ret))))))
def v59 : List Nat × List Nat := ([1, 6], [1, 6, 7, 9, 11, 17, 19, 21, 27, 29, 40, 47, 54, 58, 63, 67, 69, 74, 78, 83, 87, 89, 100, 106, 108, 112, 122, 128])
def o59 : List RS := [.t 2]
theorem s59 : slimC Try.prog Try.f59.ntmps v59.1 v59.2 ((Try.f59.body).getD .skip) = some c59 := by kernel_rfl
theorem q59 : slimR Try.prog Try.f59.ntmps v59.1 v59.2 Try.f59.results.toList = some o59 := by kernel_rfl
-- watermeet/batch.write N=91
def c60r0 : List SI := [
 ⟨none, .bxR 1 (.t 0), none, 0⟩,
 ⟨none, .mv 2 (.v (.slice none 0 0)), none, 0⟩]
def c60r1 : List SI := [
 ⟨none, .mv 3 (.v (.slice none 0 0)), none, 0⟩]
def c60r2 : List SI := [
 ⟨none, .nop, (some 1), 0⟩,
 ⟨none, .ldR 13 1 0 none, none, 0⟩,
 ⟨none, .nop, (some 1), 0⟩,
 ⟨none, .ldR 15 1 1 none, none, 0⟩,
 ⟨none, .nop, (some 1), 0⟩,
 ⟨none, .ldR 17 1 0 none, none, 0⟩,
 ⟨none, .bin 18 .sub (.t 15) (.t 17), none, 0⟩,
 ⟨none, .nop, (some 1), 0⟩,
 ⟨none, .ldR 20 1 2 none, none, 0⟩,
 ⟨none, .nop, (some 1), 0⟩,
 ⟨none, .ldR 22 1 3 none, none, 0⟩,
 ⟨none, .nop, (some 1), 0⟩,
 ⟨none, .ldR 24 1 4 none, none, 0⟩,
 ⟨none, .nop, (some 1), 0⟩,
 ⟨none, .ldR 26 1 5 none, none, 0⟩,
 ⟨none, .nop, (some 1), 0⟩,
 ⟨none, .ldR 28 1 6 none, none, 0⟩,
 ⟨none, .bld 29 [(.int .i64 0), (.int .i64 0), (.int .i64 0), (.int .i64 0), (.int .i64 0), (.int .i64 0), (.int .i64 0)] [(0, 1, (.t 13)), (1, 1, (.t 18)), (2, 1, (.t 20)), (3, 1, (.t 22)), (4, 1, (.t 24)), (5, 1, (.t 26)), (6, 1, (.t 28))], none, 0⟩,
 ⟨none, .mv 30 (.i 0), none, 0⟩]
def c60r3 : List SI := [
 ⟨none, .bin 31 .lss (.t 30) (.i 7), none, 0⟩]
def c60r4 : List SI := [
 ⟨none, .ixV 32 (.t 29) (.t 30) 7 1 none, none, 0⟩,
 ⟨none, .mv 5 (.t 32), none, 0⟩]
def c60r5 : List SI := [
 ⟨none, .mv 33 (.t 3), none, 0⟩,
 ⟨none, .mv 34 (.t 5), none, 0⟩,
 ⟨none, .call 35 74 [(.t 33), (.t 34)], none, 0⟩,
 ⟨none, .mv 3 (.t 35), none, 0⟩]
def c60r6 : List SI := [
 ⟨none, .bin 36 .add (.t 30) (.i 1), none, 0⟩,
 ⟨none, .mv 30 (.t 36), none, 0⟩]
def c60r7 : List SI := [
 ⟨none, .nop, (some 1), 0⟩,
 ⟨none, .ldR 38 1 8 none, none, 0⟩,
 ⟨none, .cvI 39 .u8 (.t 38), none, 0⟩,
 ⟨none, .mv 6 (.t 39), none, 0⟩]
def c60r8 : List SI := [
 ⟨none, .nop, (some 1), 0⟩,
 ⟨none, .ldR 41 1 7 none, none, 0⟩]
def c60r9 : List SI := [
 ⟨none, .mv 42 (.t 6), none, 0⟩,
 ⟨none, .bin 43 .or (.t 42) (.v (.int .u8 4)), none, 0⟩,
 ⟨none, .mv 6 (.t 43), none, 0⟩]
def c60r10 : List (Bool × SI) := [
 (true, ⟨none, .mv 44 (.t 3), none, 0⟩),
 (true, ⟨none, .mv 45 (.t 6), none, 0⟩),
 (true, ⟨none, .nop, (some 1), 0⟩),
 (true, ⟨none, .ldR 49 1 9 none, none, 0⟩),
 (true, ⟨none, .len 50 false (.t 49), none, 0⟩),
 (false, ⟨none, .bls 46 5 1 1 [(.int .u8 0)] [(0, 1, (.t 45))], none, 0⟩),
 (false, ⟨none, .app 47 (.t 44) (.t 46) 5 1 1, none, 0⟩),
 (false, ⟨none, .call 51 74 [(.t 47), (.t 50)], none, 0⟩),
 (true, ⟨none, .mv 3 (.t 51), none, 0⟩)]
def c60r11 : List SI := [
 ⟨none, .nop, (some 1), 0⟩,
 ⟨none, .ldR 53 1 9 none, none, 0⟩,
 ⟨none, .len 54 false (.t 53), none, 0⟩,
 ⟨none, .bin 55 .gtr (.t 54) (.i 0), none, 0⟩]
def c60r12 : List SI := [
 ⟨none, .nop, (some 1), 0⟩,
 ⟨none, .ldR 57 1 9 none, none, 0⟩,
 ⟨none, .ixA 58 (.t 57) (.i 0) 5, none, 0⟩,
 ⟨none, .flA 59 (.t 58) 4, none, 0⟩,
 ⟨none, .ld 60 (.t 59) none, none, 0⟩,
 ⟨none, .mv 7 (.t 60), none, 0⟩]
def c60r13 : List SI := [
 ⟨none, .mv 61 (.t 3), none, 0⟩,
 ⟨none, .mv 62 (.t 7), none, 0⟩,
 ⟨none, .call 63 74 [(.t 61), (.t 62)], none, 0⟩,
 ⟨none, .mv 3 (.t 63), none, 0⟩]
def c60r14 : List SI := [
 ⟨none, .nop, (some 1), 0⟩,
 ⟨none, .ldR 65 1 9 none, none, 0⟩,
 ⟨none, .len 66 false (.t 65), none, 0⟩,
 ⟨none, .mv 67 (.i 0), none, 0⟩]
def c60r15 : List SI := [
 ⟨none, .bin 68 .lss (.t 67) (.t 66), none, 0⟩]
def c60r16 : List SI := [
 ⟨none, .ixA 69 (.t 65) (.t 67) 5, none, 0⟩,
 ⟨none, .ld 70 (.t 69) (some 5), none, 0⟩,
 ⟨none, .alR 9 [(.int .i64 0), (.string ⟨#[]⟩), (.string ⟨#[]⟩), (.bool false), (.int .i64 0)], none, 0⟩,
 ⟨none, .stR 9 0 5 (.t 70), none, 0⟩]
def c60r17 : List SI := [
 ⟨none, .ldR 72 9 0 (some 5), none, 0⟩,
 ⟨none, .nop, (some 1), 0⟩,
 ⟨none, .ldR 74 1 0 none, none, 0⟩,
 ⟨none, .mv 75 (.t 7), none, 0⟩,
 ⟨none, .call 76 75 [(.t 72), (.t 74), (.t 75)], none, 0⟩,
 ⟨none, .mv 71 (.t 76), none, 0⟩,
 ⟨none, .ext 77 (.t 71) 0, none, 0⟩,
 ⟨none, .ext 78 (.t 71) 1, none, 0⟩,
 ⟨none, .mv 10 (.t 77), none, 0⟩,
 ⟨none, .mv 11 (.t 78), none, 0⟩]
def c60r18 : List SI := [
 ⟨none, .mv 79 (.t 3), none, 0⟩,
 ⟨none, .mv 80 (.t 10), none, 0⟩,
 ⟨none, .app 81 (.t 79) (.t 80) 5 1 1, none, 0⟩,
 ⟨none, .mv 3 (.t 81), none, 0⟩]
def c60r19 : List SI := [
 ⟨none, .bin 82 .add (.t 67) (.i 1), none, 0⟩,
 ⟨none, .mv 67 (.t 82), none, 0⟩]
def c60r20 : List SI := [
 ⟨none, .mv 83 (.t 3), none, 0⟩,
 ⟨none, .call 84 76 [(.t 83)], none, 0⟩,
 ⟨none, .mv 3 (.t 84), none, 0⟩]
def c60r21 : List SI := [
 ⟨none, .mv 85 (.t 3), none, 0⟩,
 ⟨none, .len 86 false (.t 85), none, 0⟩,
 ⟨none, .cvI 87 .u64 (.t 86), none, 0⟩,
 ⟨none, .call 88 77 [(.v (.slice none 0 0)), (.t 87), (.i 4)], none, 0⟩,
 ⟨none, .mv 89 (.t 3), none, 0⟩,
 ⟨none, .app 90 (.t 88) (.t 89) 5 1 1, none, 0⟩,
 ⟨none, .mv 2 (.t 90), none, 0⟩]
def c60 : SC :=
 (.seq (.reg false c60r0)
 (.seq (.reg false c60r1)
 (.seq (.seq (.reg false c60r2)
 (.blk 0 (.loop (.seq (.reg false c60r3)
   (.seq (.cond (.t 31)
    .skip
    (.exit 0))
   (.seq (.blk 1 (.seq (.reg false c60r4)
    (.reg false c60r5)))
   (.reg false c60r6)))))))
 (.seq (.reg false c60r7)
 (.seq (.seq (.reg false c60r8)
 (.cond (.t 41)
  (.reg false c60r9)
  .skip))
 (.seq (.rgX c60r10)
 (.seq (.seq (.reg false c60r11)
 (.cond (.t 55)
  (.seq (.reg false c60r12)
  (.seq (.reg false c60r13)
  (.seq (.reg false c60r14)
  (.blk 2 (.loop (.seq (.reg false c60r15)
    (.seq (.cond (.t 68)
     .skip
     (.exit 2))
    (.seq (.blk 3 (.seq (.reg false c60r16)
     (.seq (.reg false c60r17)
     (.reg false c60r18))))
    (.reg false c60r19)))))))))
  .skip))
 (.seq (.reg false c60r20)
 (.seq (.reg false c60r21)
 .ret)))))))))
def v60 : List Nat × List Nat := ([1, 9], [1, 9, 12, 14, 16, 19, 21, 23, 25, 27, 37, 40, 48, 52, 56, 64, 73])
def o60 : List RS := [.t 2]
theorem s60 : slimC Try.prog Try.f60.ntmps v60.1 v60.2 ((Try.f60.body).getD .skip) = some c60 := by kernel_rfl
theorem q60 : slimR Try.prog Try.f60.ntmps v60.1 v60.2 Try.f60.results.toList = some o60 := by kernel_rfl
-- slices.Grow[[]byte,byte] N=27
def c61r0 : List SI := [
 ⟨none, .mv 4 (.v (.slice none 0 0)), none, 0⟩]
def c61r1 : List SI := [
 ⟨none, .mv 5 (.t 1), none, 0⟩,
 ⟨none, .bin 6 .lss (.t 5) (.i 0), none, 0⟩]
def c61r2 : List SI := [
 ⟨none, .mv 8 (.t 1), none, 0⟩,
 ⟨none, .mv 9 (.t 0), none, 0⟩,
 ⟨none, .cpc 10 (.t 9), none, 0⟩,
 ⟨none, .mv 11 (.t 0), none, 0⟩,
 ⟨none, .len 12 false (.t 11), none, 0⟩,
 ⟨none, .bin 13 .sub (.t 10) (.t 12), none, 0⟩,
 ⟨none, .bin 14 .sub (.t 8) (.t 13), none, 0⟩,
 ⟨none, .mv 1 (.t 14), none, 0⟩]
def c61r3 : List SI := [
 ⟨none, .mv 15 (.t 1), none, 0⟩,
 ⟨none, .bin 16 .gtr (.t 15) (.i 0), none, 0⟩]
def c61r4 : List SI := [
 ⟨none, .mv 17 (.t 0), none, 0⟩,
 ⟨none, .mv 18 (.t 0), none, 0⟩,
 ⟨none, .cpc 19 (.t 18), none, 0⟩,
 ⟨none, .sl 20 (.t 17) none (some (.t 19)) none 1, none, 0⟩,
 ⟨none, .mv 21 (.t 1), none, 0⟩,
 ⟨none, .apz 22 5 1 1 (.t 20) (.t 21), none, 0⟩,
 ⟨none, .mv 23 (.t 0), none, 0⟩,
 ⟨none, .len 24 false (.t 23), none, 0⟩,
 ⟨none, .sl 25 (.t 22) none (some (.t 24)) none 1, none, 0⟩,
 ⟨none, .mv 0 (.t 25), none, 0⟩]
def c61r5 : List SI := [
 ⟨none, .mv 26 (.t 0), none, 0⟩,
 ⟨none, .mv 4 (.t 26), none, 0⟩]
def c61 : SC :=
 (.seq (.reg false c61r0)
 (.seq (.seq (.reg false c61r1)
 (.cond (.t 6)
  .dead
  .skip))
 (.seq (.seq (.reg false c61r2)
 (.seq (.reg false c61r3)
 (.cond (.t 16)
  (.reg false c61r4)
  .skip)))
 (.seq (.reg false c61r5)
 .ret))))
def v61 : List Nat × List Nat := ([], [])
def o61 : List RS := [.t 4]
theorem s61 : slimC Try.prog Try.f61.ntmps v61.1 v61.2 ((Try.f61.body).getD .skip) = some c61 := by kernel_rfl
theorem q61 : slimR Try.prog Try.f61.ntmps v61.1 v61.2 Try.f61.results.toList = some o61 := by kernel_rfl
-- watermeet/watermeetref04.Check N=10
def c62r0 : List SI := [
 ⟨none, .bxR 1 (.t 0), none, 0⟩,
 ⟨none, .mv 2 (.i 0), none, 0⟩]
def c62r1 : List SI := [
 ⟨none, .ldR 3 1 0 (some 10), none, 0⟩,
 ⟨none, .call 4 78 [(.t 3)], none, 0⟩,
 ⟨none, .un 5 .not (.t 4), none, 0⟩]
def c62r2 : List SI := [
 ⟨none, .mv 2 (.i 1), none, 0⟩]
def c62r3 : List SI := [
 ⟨none, .ldR 6 1 0 (some 10), none, 0⟩,
 ⟨none, .call 7 63 [(.t 6)], none, 0⟩,
 ⟨none, .len 8 false (.t 7), none, 0⟩,
 ⟨none, .bin 9 .gtr (.t 8) (.i 2048), none, 0⟩]
def c62r4 : List SI := [
 ⟨none, .mv 2 (.i 2), none, 0⟩]
def c62r5 : List SI := [
 ⟨none, .mv 2 (.i 0), none, 0⟩]
def c62 : SC :=
 (.seq (.reg false c62r0)
 (.seq (.seq (.reg false c62r1)
 (.cond (.t 5)
  (.seq (.reg false c62r2)
  .ret)
  .skip))
 (.seq (.seq (.reg false c62r3)
 (.cond (.t 9)
  (.seq (.reg false c62r4)
  .ret)
  .skip))
 (.seq (.reg false c62r5)
 .ret))))
def v62 : List Nat × List Nat := ([1], [1])
def o62 : List RS := [.t 2]
theorem s62 : slimC Try.prog Try.f62.ntmps v62.1 v62.2 ((Try.f62.body).getD .skip) = some c62 := by kernel_rfl
theorem q62 : slimR Try.prog Try.f62.ntmps v62.1 v62.2 Try.f62.results.toList = some o62 := by kernel_rfl
-- watermeet/watermeetref04.bytes N=91
def c63r0 : List SI := [
 ⟨none, .bxR 1 (.t 0), none, 0⟩,
 ⟨none, .mv 2 (.v (.slice none 0 0)), none, 0⟩]
def c63r1 : List SI := [
 ⟨none, .mv 3 (.v (.slice none 0 0)), none, 0⟩]
def c63r2 : List SI := [
 ⟨none, .nop, (some 1), 0⟩,
 ⟨none, .ldR 12 1 0 none, none, 0⟩,
 ⟨none, .nop, (some 1), 0⟩,
 ⟨none, .ldR 14 1 1 none, none, 0⟩,
 ⟨none, .nop, (some 1), 0⟩,
 ⟨none, .ldR 16 1 0 none, none, 0⟩,
 ⟨none, .bin 17 .sub (.t 14) (.t 16), none, 0⟩,
 ⟨none, .nop, (some 1), 0⟩,
 ⟨none, .ldR 19 1 2 none, none, 0⟩,
 ⟨none, .nop, (some 1), 0⟩,
 ⟨none, .ldR 21 1 3 none, none, 0⟩,
 ⟨none, .nop, (some 1), 0⟩,
 ⟨none, .ldR 23 1 4 none, none, 0⟩,
 ⟨none, .nop, (some 1), 0⟩,
 ⟨none, .ldR 25 1 5 none, none, 0⟩,
 ⟨none, .nop, (some 1), 0⟩,
 ⟨none, .ldR 27 1 6 none, none, 0⟩,
 ⟨none, .bls 28 3 7 1 [(.int .i64 0), (.int .i64 0), (.int .i64 0), (.int .i64 0), (.int .i64 0), (.int .i64 0), (.int .i64 0)] [(0, 1, (.t 12)), (1, 1, (.t 17)), (2, 1, (.t 19)), (3, 1, (.t 21)), (4, 1, (.t 23)), (5, 1, (.t 25)), (6, 1, (.t 27))], none, 0⟩,
 ⟨none, .len 29 false (.t 28), none, 0⟩,
 ⟨none, .mv 30 (.i 0), none, 0⟩]
def c63r3 : List SI := [
 ⟨none, .bin 31 .lss (.t 30) (.t 29), none, 0⟩]
def c63r4 : List SI := [
 ⟨none, .ixA 32 (.t 28) (.t 30) 1, none, 0⟩,
 ⟨none, .ld 33 (.t 32) none, none, 0⟩,
 ⟨none, .mv 5 (.t 33), none, 0⟩]
def c63r5 : List SI := [
 ⟨none, .mv 34 (.t 3), none, 0⟩,
 ⟨none, .mv 35 (.t 5), none, 0⟩,
 ⟨none, .call 36 79 [(.t 34), (.t 35)], none, 0⟩,
 ⟨none, .mv 3 (.t 36), none, 0⟩]
def c63r6 : List SI := [
 ⟨none, .bin 37 .add (.t 30) (.i 1), none, 0⟩,
 ⟨none, .mv 30 (.t 37), none, 0⟩]
def c63r7 : List SI := [
 ⟨none, .nop, (some 1), 0⟩,
 ⟨none, .ldR 39 1 8 none, none, 0⟩,
 ⟨none, .mv 6 (.t 39), none, 0⟩]
def c63r8 : List SI := [
 ⟨none, .nop, (some 1), 0⟩,
 ⟨none, .ldR 41 1 7 none, none, 0⟩]
def c63r9 : List SI := [
 ⟨none, .mv 42 (.t 6), none, 0⟩,
 ⟨none, .bin 43 .add (.t 42) (.i 4), none, 0⟩,
 ⟨none, .mv 6 (.t 43), none, 0⟩]
def c63r10 : List (Bool × SI) := [
 (true, ⟨none, .mv 44 (.t 3), none, 0⟩),
 (true, ⟨none, .mv 45 (.t 6), none, 0⟩),
 (true, ⟨none, .cvI 46 .u8 (.t 45), none, 0⟩),
 (true, ⟨none, .nop, (some 1), 0⟩),
 (true, ⟨none, .ldR 50 1 9 none, none, 0⟩),
 (true, ⟨none, .len 51 false (.t 50), none, 0⟩),
 (false, ⟨none, .bls 47 5 1 1 [(.int .u8 0)] [(0, 1, (.t 46))], none, 0⟩),
 (false, ⟨none, .app 48 (.t 44) (.t 47) 5 1 1, none, 0⟩),
 (false, ⟨none, .call 52 79 [(.t 48), (.t 51)], none, 0⟩),
 (true, ⟨none, .mv 3 (.t 52), none, 0⟩)]
def c63r11 : List SI := [
 ⟨none, .nop, (some 1), 0⟩,
 ⟨none, .ldR 54 1 9 none, none, 0⟩,
 ⟨none, .len 55 false (.t 54), none, 0⟩,
 ⟨none, .mv 56 (.i 0), none, 0⟩]
def c63r12 : List SI := [
 ⟨none, .bin 57 .lss (.t 56) (.t 55), none, 0⟩]
def c63r13 : List SI := [
 ⟨none, .mv 58 (.t 56), none, 0⟩,
 ⟨none, .ixA 59 (.t 54) (.t 56) 5, none, 0⟩,
 ⟨none, .ld 60 (.t 59) (some 5), none, 0⟩,
 ⟨none, .alR 8 [(.int .i64 0), (.string ⟨#[]⟩), (.string ⟨#[]⟩), (.bool false), (.int .i64 0)], none, 0⟩,
 ⟨none, .mv 7 (.t 58), none, 0⟩,
 ⟨none, .stR 8 0 5 (.t 60), none, 0⟩]
def c63r14 : List SI := [
 ⟨none, .mv 61 (.t 7), none, 0⟩,
 ⟨none, .bin 62 .eql (.t 61) (.i 0), none, 0⟩]
def c63r15 : List SI := [
 ⟨none, .mv 63 (.t 3), none, 0⟩,
 ⟨none, .nop, (some 8), 0⟩,
 ⟨none, .ldR 65 8 4 none, none, 0⟩,
 ⟨none, .call 66 79 [(.t 63), (.t 65)], none, 0⟩,
 ⟨none, .mv 3 (.t 66), none, 0⟩]
def c63r16 : List (Bool × SI) := [
 (true, ⟨none, .ldR 68 8 0 (some 5), none, 0⟩),
 (true, ⟨none, .nop, (some 1), 0⟩),
 (true, ⟨none, .ldR 70 1 0 none, none, 0⟩),
 (true, ⟨none, .nop, (some 1), 0⟩),
 (true, ⟨none, .ldR 72 1 9 none, none, 0⟩),
 (true, ⟨none, .ixA 73 (.t 72) (.i 0) 5, none, 0⟩),
 (true, ⟨none, .flA 74 (.t 73) 4, none, 0⟩),
 (true, ⟨none, .ld 75 (.t 74) none, none, 0⟩),
 (false, ⟨none, .call 76 80 [(.t 68), (.t 70), (.t 75)], none, 0⟩),
 (true, ⟨none, .mv 67 (.t 76), none, 0⟩),
 (true, ⟨none, .ext 77 (.t 67) 0, none, 0⟩),
 (true, ⟨none, .ext 78 (.t 67) 1, none, 0⟩),
 (true, ⟨none, .mv 9 (.t 77), none, 0⟩),
 (true, ⟨none, .mv 10 (.t 78), none, 0⟩)]
def c63r17 : List SI := [
 ⟨none, .mv 79 (.t 3), none, 0⟩,
 ⟨none, .mv 80 (.t 9), none, 0⟩,
 ⟨none, .app 81 (.t 79) (.t 80) 5 1 1, none, 0⟩,
 ⟨none, .mv 3 (.t 81), none, 0⟩]
def c63r18 : List SI := [
 ⟨none, .bin 82 .add (.t 56) (.i 1), none, 0⟩,
 ⟨none, .mv 56 (.t 82), none, 0⟩]
def c63r19 : List SI := [
 ⟨none, .mv 83 (.t 3), none, 0⟩,
 ⟨none, .call 84 81 [(.t 83)], none, 0⟩,
 ⟨none, .mv 3 (.t 84), none, 0⟩]
def c63r20 : List SI := [
 ⟨none, .mv 85 (.t 3), none, 0⟩,
 ⟨none, .len 86 false (.t 85), none, 0⟩,
 ⟨none, .cvI 87 .u64 (.t 86), none, 0⟩,
 ⟨none, .call 88 82 [(.v (.slice none 0 0)), (.t 87), (.i 4)], none, 0⟩,
 ⟨none, .mv 89 (.t 3), none, 0⟩,
 ⟨none, .app 90 (.t 88) (.t 89) 5 1 1, none, 0⟩,
 ⟨none, .mv 2 (.t 90), none, 0⟩]
def c63 : SC :=
 (.seq (.reg false c63r0)
 (.seq (.reg false c63r1)
 (.seq (.seq (.reg false c63r2)
 (.blk 0 (.loop (.seq (.reg false c63r3)
   (.seq (.cond (.t 31)
    .skip
    (.exit 0))
   (.seq (.blk 1 (.seq (.reg false c63r4)
    (.reg false c63r5)))
   (.reg false c63r6)))))))
 (.seq (.reg false c63r7)
 (.seq (.seq (.reg false c63r8)
 (.cond (.t 41)
  (.reg false c63r9)
  .skip))
 (.seq (.rgX c63r10)
 (.seq (.seq (.reg false c63r11)
 (.blk 2 (.loop (.seq (.reg false c63r12)
   (.seq (.cond (.t 57)
    .skip
    (.exit 2))
   (.seq (.blk 3 (.seq (.reg false c63r13)
    (.seq (.seq (.reg false c63r14)
    (.cond (.t 62)
     (.reg false c63r15)
     .skip))
    (.seq (.rgX c63r16)
    (.reg false c63r17)))))
   (.reg false c63r18)))))))
 (.seq (.reg false c63r19)
 (.seq (.reg false c63r20)
 .ret)))))))))
def v63 : List Nat × List Nat := ([1, 8], [1, 8, 11, 13, 15, 18, 20, 22, 24, 26, 38, 40, 49, 53, 64, 69, 71])
def o63 : List RS := [.t 2]
theorem s63 : slimC Try.prog Try.f63.ntmps v63.1 v63.2 ((Try.f63.body).getD .skip) = some c63 := by kernel_rfl
theorem q63 : slimR Try.prog Try.f63.ntmps v63.1 v63.2 Try.f63.results.toList = some o63 := by kernel_rfl
-- slices.Backward[[]watermeet/api.Ent,watermeet/api.Ent]$1 N=19
def c64r0 : List SI := [
 ⟨none, .ld 4 (.t 1) none, none, 0⟩,
 ⟨none, .len 5 false (.t 4), none, 0⟩,
 ⟨none, .bin 6 .sub (.t 5) (.i 1), none, 0⟩,
 ⟨none, .mv 3 (.t 6), none, 0⟩]
def c64r1 : List SI := [
 ⟨none, .mv 7 (.t 3), none, 0⟩,
 ⟨none, .bin 8 .geq (.t 7) (.i 0), none, 0⟩]
def c64r2 : List SI := [
 ⟨none, .mv 11 (.t 0), none, 0⟩,
 ⟨none, .mv 12 (.t 3), none, 0⟩,
 ⟨none, .ld 13 (.t 1) none, none, 0⟩,
 ⟨none, .mv 14 (.t 3), none, 0⟩,
 ⟨none, .ixA 15 (.t 13) (.t 14) 3, none, 0⟩,
 ⟨none, .ld 16 (.t 15) (some 3), none, 0⟩,
 ⟨none, .cav 17 (.t 11) [(.t 12), (.t 16)], none, 0⟩,
 ⟨none, .un 18 .not (.t 17), none, 0⟩]
def c64r3 : List SI := [
 ⟨none, .mv 9 (.t 3), none, 0⟩,
 ⟨none, .bin 10 .sub (.t 9) (.i 1), none, 0⟩,
 ⟨none, .mv 3 (.t 10), none, 0⟩]
def c64 : SC :=
 (.seq (.reg false c64r0)
 (.blk 0 (.loop (.seq (.seq (.reg false c64r1)
   (.cond (.t 8)
    .skip
    (.exit 0)))
   (.seq (.blk 1 (.seq (.reg false c64r2)
    (.cond (.t 18)
     .ret
     .skip)))
   (.reg false c64r3))))))
def v64 : List Nat × List Nat := ([], [])
def o64 : List RS := []
theorem s64 : slimC Try.prog Try.f64.ntmps v64.1 v64.2 ((Try.f64.body).getD .skip) = some c64 := by kernel_rfl
theorem q64 : slimR Try.prog Try.f64.ntmps v64.1 v64.2 Try.f64.results.toList = some o64 := by kernel_rfl
-- watermeet/octet.Get N=44
def c65r0 : List SI := [
 ⟨none, .mv 6 (.v (.int .u64 0)), none, 0⟩,
 ⟨none, .mv 7 (.i 0), none, 0⟩]
def c65r1 : List SI := [
 ⟨none, .mv 12 (.t 2), none, 0⟩,
 ⟨none, .bin 13 .lss (.t 12) (.i 1), none, 0⟩,
 ⟨none, .mv 14 (.t 13), none, 0⟩,
 ⟨some (14, false), .mv 15 (.t 2), none, 15⟩,
 ⟨some (14, false), .bin 16 .gtr (.t 15) (.i 8), none, 16⟩,
 ⟨none, .pick 17 (.t 14) (.b true) (.t 16), none, 0⟩,
 ⟨none, .mv 18 (.t 17), none, 0⟩,
 ⟨some (18, false), .mv 19 (.t 1), none, 19⟩,
 ⟨some (18, false), .bin 20 .lss (.t 19) (.i 0), none, 20⟩,
 ⟨none, .pick 21 (.t 18) (.b true) (.t 20), none, 0⟩]
def c65r2 : List SI := [
 ⟨none, .mv 6 (.v (.int .u64 0)), none, 0⟩,
 ⟨none, .mv 7 (.i 1), none, 0⟩]
def c65r3 : List SI := [
 ⟨none, .mv 22 (.t 0), none, 0⟩,
 ⟨none, .mv 23 (.t 1), none, 0⟩,
 ⟨none, .call 24 83 [(.t 22), (.t 23)], none, 0⟩,
 ⟨none, .mv 8 (.t 24), none, 0⟩]
def c65r4 : List SI := [
 ⟨none, .mv 25 (.t 8), none, 0⟩,
 ⟨none, .len 26 false (.t 25), none, 0⟩,
 ⟨none, .mv 27 (.t 2), none, 0⟩,
 ⟨none, .bin 28 .lss (.t 26) (.t 27), none, 0⟩]
def c65r5 : List SI := [
 ⟨none, .mv 6 (.v (.int .u64 0)), none, 0⟩,
 ⟨none, .mv 7 (.i 10), none, 0⟩]
def c65r6 : List SI := [
 ⟨none, .mv 9 (.v (.int .u64 0)), none, 0⟩]
def c65r7 : List SI := [
 ⟨none, .mv 29 (.t 8), none, 0⟩,
 ⟨none, .mv 30 (.t 2), none, 0⟩,
 ⟨none, .sl 31 (.t 29) none (some (.t 30)) none 1, none, 0⟩,
 ⟨none, .len 32 false (.t 31), none, 0⟩,
 ⟨none, .mv 33 (.i 0), none, 0⟩]
def c65r8 : List SI := [
 ⟨none, .bin 34 .lss (.t 33) (.t 32), none, 0⟩]
def c65r9 : List SI := [
 ⟨none, .ixA 35 (.t 31) (.t 33) 1, none, 0⟩,
 ⟨none, .ld 36 (.t 35) none, none, 0⟩,
 ⟨none, .mv 11 (.t 36), none, 0⟩]
def c65r10 : List SI := [
 ⟨none, .mv 37 (.t 9), none, 0⟩,
 ⟨none, .bin 38 .shl (.t 37) (.v (.int .u64 8)), none, 0⟩,
 ⟨none, .mv 39 (.t 11), none, 0⟩,
 ⟨none, .cvI 40 .u64 (.t 39), none, 0⟩,
 ⟨none, .bin 41 .or (.t 38) (.t 40), none, 0⟩,
 ⟨none, .mv 9 (.t 41), none, 0⟩]
def c65r11 : List SI := [
 ⟨none, .bin 42 .add (.t 33) (.i 1), none, 0⟩,
 ⟨none, .mv 33 (.t 42), none, 0⟩]
def c65r12 : List SI := [
 ⟨none, .mv 43 (.t 9), none, 0⟩,
 ⟨none, .mv 6 (.t 43), none, 0⟩,
 ⟨none, .mv 7 (.i 0), none, 0⟩]
def c65 : SC :=
 (.seq (.reg false c65r0)
 (.seq (.seq (.reg false c65r1)
 (.cond (.t 21)
  (.seq (.reg false c65r2)
  .ret)
  .skip))
 (.seq (.reg false c65r3)
 (.seq (.seq (.reg false c65r4)
 (.cond (.t 28)
  (.seq (.reg false c65r5)
  .ret)
  .skip))
 (.seq (.reg false c65r6)
 (.seq (.seq (.reg false c65r7)
 (.blk 0 (.loop (.seq (.reg false c65r8)
   (.seq (.cond (.t 34)
    .skip
    (.exit 0))
   (.seq (.blk 1 (.seq (.reg false c65r9)
    (.reg false c65r10)))
   (.reg false c65r11)))))))
 (.seq (.reg false c65r12)
 .ret)))))))
def v65 : List Nat × List Nat := ([], [])
def o65 : List RS := [.t 6, .t 7]
theorem s65 : slimC Try.prog Try.f65.ntmps v65.1 v65.2 ((Try.f65.body).getD .skip) = some c65 := by kernel_rfl
theorem q65 : slimR Try.prog Try.f65.ntmps v65.1 v65.2 Try.f65.results.toList = some o65 := by kernel_rfl
-- watermeet/crc.Open N=33
def c66r0 : List SI := [
 ⟨none, .mv 2 (.v (.slice none 0 0)), none, 0⟩,
 ⟨none, .mv 3 (.i 0), none, 0⟩]
def c66r1 : List SI := [
 ⟨none, .mv 7 (.t 0), none, 0⟩,
 ⟨none, .len 8 false (.t 7), none, 0⟩,
 ⟨none, .bin 9 .sub (.t 8) (.i 4), none, 0⟩,
 ⟨none, .mv 4 (.t 9), none, 0⟩]
def c66r2 : List SI := [
 ⟨none, .mv 10 (.t 4), none, 0⟩,
 ⟨none, .bin 11 .lss (.t 10) (.i 0), none, 0⟩]
def c66r3 : List SI := [
 ⟨none, .mv 2 (.v (.slice none 0 0)), none, 0⟩,
 ⟨none, .mv 3 (.i 10), none, 0⟩]
def c66r4 : List SI := [
 ⟨none, .mv 13 (.t 0), none, 0⟩,
 ⟨none, .mv 14 (.t 4), none, 0⟩,
 ⟨none, .call 15 65 [(.t 13), (.t 14), (.i 4)], none, 0⟩,
 ⟨none, .mv 12 (.t 15), none, 0⟩,
 ⟨none, .ext 16 (.t 12) 0, none, 0⟩,
 ⟨none, .ext 17 (.t 12) 1, none, 0⟩,
 ⟨none, .mv 5 (.t 16), none, 0⟩,
 ⟨none, .mv 6 (.t 17), none, 0⟩]
def c66r5 : List SI := [
 ⟨none, .mv 18 (.t 6), none, 0⟩,
 ⟨none, .bin 19 .neq (.t 18) (.i 0), none, 0⟩,
 ⟨none, .mv 20 (.t 19), none, 0⟩,
 ⟨some (20, false), .mv 21 (.t 5), none, 21⟩,
 ⟨some (20, false), .mv 22 (.t 0), none, 22⟩,
 ⟨some (20, false), .mv 23 (.t 4), none, 23⟩,
 ⟨some (20, false), .sl 24 (.t 22) none (some (.t 23)) none 1, none, 24⟩,
 ⟨some (20, false), .call 25 84 [(.t 24)], none, 25⟩,
 ⟨some (20, false), .cvI 26 .u64 (.t 25), none, 26⟩,
 ⟨some (20, false), .bin 27 .neq (.t 21) (.t 26), none, 27⟩,
 ⟨none, .pick 28 (.t 20) (.b true) (.t 27), none, 0⟩]
def c66r6 : List SI := [
 ⟨none, .mv 2 (.v (.slice none 0 0)), none, 0⟩,
 ⟨none, .mv 3 (.i 20), none, 0⟩]
def c66r7 : List SI := [
 ⟨none, .mv 29 (.t 0), none, 0⟩,
 ⟨none, .mv 30 (.t 4), none, 0⟩,
 ⟨none, .sl 31 (.t 29) none (some (.t 30)) none 1, none, 0⟩,
 ⟨none, .app 32 (.v (.slice none 0 0)) (.t 31) 5 1 1, none, 0⟩,
 ⟨none, .mv 2 (.t 32), none, 0⟩,
 ⟨none, .mv 3 (.i 0), none, 0⟩]
def c66 : SC :=
 (.seq (.reg false c66r0)
 (.seq (.reg false c66r1)
 (.seq (.seq (.reg false c66r2)
 (.cond (.t 11)
  (.seq (.reg false c66r3)
  .ret)
  .skip))
 (.seq (.seq (.reg false c66r4)
 (.seq (.reg false c66r5)
 (.cond (.t 28)
  (.seq (.reg false c66r6)
  .ret)
  .skip)))
 (.seq (.reg false c66r7)
 .ret)))))
def v66 : List Nat × List Nat := ([], [])
def o66 : List RS := [.t 2, .t 3]
theorem s66 : slimC Try.prog Try.f66.ntmps v66.1 v66.2 ((Try.f66.body).getD .skip) = some c66 := by kernel_rfl
theorem q66 : slimR Try.prog Try.f66.ntmps v66.1 v66.2 Try.f66.results.toList = some o66 := by kernel_rfl
end Go.Proofs.Ytedljandnpigpaa

/- The code of the functions, types resolved, as a program of the prover reads it off the translation; each is held by the kernel. No condition. -/
import Derived.Test.YtbddbogdhkikoaaRows
import Derived.Test.YtbddbogdhkikoaaKo
namespace Go.Proofs.Ytbddbogdhkikoaa
open Go Go.Kx
-- watermeet/watermeetlaw28.CarryMakes
def c3r0 : List SI := [
  ⟨none, .bxR 3 (.t 0), none, 0⟩,
  ⟨none, .mv 6 (.b false), none, 0⟩]
def c3r1 : List SI := [
  ⟨none, .call 18 12 [], none, 0⟩,
  ⟨none, .mv 7 (.t 18), none, 0⟩]
def c3r2 : List SI := [
  ⟨none, .mv 19 (.t 7), none, 0⟩,
  ⟨none, .un 20 .not (.t 19), none, 0⟩]
def c3r3 : List SI := [
  ⟨none, .mv 6 (.b false), none, 0⟩]
def c3r4 : List SI := [
  ⟨none, .ldR 21 3 0 (some 2), none, 0⟩,
  ⟨none, .call 22 13 [(.t 21)], none, 0⟩,
  ⟨none, .mv 8 (.t 22), none, 0⟩]
def c3r5 : List SI := [
  ⟨none, .mv 23 (.t 8), none, 0⟩,
  ⟨none, .un 24 .not (.t 23), none, 0⟩]
def c3r6 : List SI := [
  ⟨none, .mv 25 (.t 7), none, 0⟩,
  ⟨none, .mv 6 (.t 25), none, 0⟩]
def c3r7 : List SI := [
  ⟨none, .ldR 27 3 0 (some 2), none, 0⟩,
  ⟨none, .mv 28 (.t 1), none, 0⟩,
  ⟨none, .mv 29 (.t 2), none, 0⟩,
  ⟨none, .call 30 14 [(.t 27), (.t 28), (.t 29)], none, 0⟩,
  ⟨none, .mv 26 (.t 30), none, 0⟩,
  ⟨none, .ext 31 (.t 26) 0, none, 0⟩,
  ⟨none, .ext 32 (.t 26) 1, none, 0⟩,
  ⟨none, .alR 9 [(.int .i64 0), (.slice none 0 0)], none, 0⟩,
  ⟨none, .stR 9 0 2 (.t 31), none, 0⟩,
  ⟨none, .mv 10 (.t 32), none, 0⟩]
def c3r8 : List SI := [
  ⟨none, .ldR 34 3 0 (some 2), none, 0⟩,
  ⟨none, .mv 35 (.t 1), none, 0⟩,
  ⟨none, .mv 36 (.t 2), none, 0⟩,
  ⟨none, .call 37 15 [(.t 34), (.t 35), (.t 36)], none, 0⟩,
  ⟨none, .mv 33 (.t 37), none, 0⟩,
  ⟨none, .ext 38 (.t 33) 0, none, 0⟩,
  ⟨none, .ext 39 (.t 33) 1, none, 0⟩,
  ⟨none, .alR 11 [(.int .i64 0), (.slice none 0 0)], none, 0⟩,
  ⟨none, .stR 11 0 2 (.t 38), none, 0⟩,
  ⟨none, .mv 12 (.t 39), none, 0⟩]
def c3r9 : List SI := [
  ⟨none, .mv 41 (.t 1), none, 0⟩,
  ⟨none, .call 42 16 [(.t 41)], none, 0⟩,
  ⟨none, .mv 40 (.t 42), none, 0⟩,
  ⟨none, .ext 43 (.t 40) 0, none, 0⟩,
  ⟨none, .ext 44 (.t 40) 1, none, 0⟩,
  ⟨none, .alR 13 [(.int .i64 0), (.slice none 0 0)], none, 0⟩,
  ⟨none, .stR 13 0 2 (.t 43), none, 0⟩,
  ⟨none, .mv 14 (.t 44), none, 0⟩]
def c3r10 : List SI := [
  ⟨none, .mv 46 (.t 1), none, 0⟩,
  ⟨none, .call 47 17 [(.t 46)], none, 0⟩,
  ⟨none, .mv 45 (.t 47), none, 0⟩,
  ⟨none, .ext 48 (.t 45) 0, none, 0⟩,
  ⟨none, .ext 49 (.t 45) 1, none, 0⟩,
  ⟨none, .alR 15 [(.int .i64 0), (.slice none 0 0)], none, 0⟩,
  ⟨none, .stR 15 0 2 (.t 48), none, 0⟩,
  ⟨none, .mv 16 (.t 49), none, 0⟩]
def c3r11 : List (Bool × SI) := [
  (true, ⟨none, .ldR 50 9 0 (some 2), none, 0⟩),
  (true, ⟨none, .ldR 51 11 0 (some 2), none, 0⟩),
  (false, ⟨none, .call 52 18 [(.t 50), (.t 51)], none, 0⟩),
  (true, ⟨none, .mv 53 (.t 52), none, 0⟩),
  (true, ⟨some (53, true), .ldR 54 13 0 (some 2), none, 54⟩),
  (true, ⟨some (53, true), .ldR 55 15 0 (some 2), none, 55⟩),
  (false, ⟨some (53, true), .call 56 18 [(.t 54), (.t 55)], none, 56⟩),
  (true, ⟨none, .pick 57 (.t 53) (.t 56) (.b false), none, 0⟩),
  (true, ⟨none, .mv 58 (.t 57), none, 0⟩),
  (true, ⟨some (58, true), .ldR 59 3 0 (some 2), none, 59⟩),
  (true, ⟨some (58, true), .mv 60 (.t 1), none, 60⟩),
  (true, ⟨some (58, true), .ldR 62 3 0 (some 2), none, 62⟩),
  (true, ⟨some (58, true), .mv 63 (.t 1), none, 63⟩),
  (false, ⟨some (58, true), .call 61 19 [(.t 59), (.t 60)], none, 61⟩),
  (false, ⟨some (58, true), .call 64 20 [(.t 62), (.t 63)], none, 64⟩),
  (false, ⟨some (58, true), .call 65 18 [(.t 61), (.t 64)], none, 65⟩),
  (true, ⟨none, .pick 66 (.t 58) (.t 65) (.b false), none, 0⟩),
  (true, ⟨none, .mv 17 (.t 66), none, 0⟩)]
def c3r12 : List (Bool × SI) := [
  (true, ⟨none, .mv 67 (.t 7), none, 0⟩),
  (true, ⟨none, .mv 68 (.t 67), none, 0⟩),
  (true, ⟨some (68, true), .mv 69 (.t 17), none, 69⟩),
  (true, ⟨none, .pick 70 (.t 68) (.t 69) (.b false), none, 0⟩),
  (true, ⟨none, .mv 71 (.t 70), none, 0⟩),
  (true, ⟨some (71, true), .mv 72 (.t 10), none, 72⟩),
  (true, ⟨some (71, true), .mv 73 (.t 12), none, 73⟩),
  (true, ⟨some (71, true), .bin 74 .eql (.t 72) (.t 73), none, 74⟩),
  (true, ⟨none, .pick 75 (.t 71) (.t 74) (.b false), none, 0⟩),
  (true, ⟨none, .mv 76 (.t 75), none, 0⟩),
  (true, ⟨some (76, true), .mv 77 (.t 14), none, 77⟩),
  (true, ⟨some (76, true), .mv 78 (.t 16), none, 78⟩),
  (true, ⟨some (76, true), .bin 79 .eql (.t 77) (.t 78), none, 79⟩),
  (true, ⟨none, .pick 80 (.t 76) (.t 79) (.b false), none, 0⟩),
  (true, ⟨none, .mv 81 (.t 80), none, 0⟩),
  (true, ⟨some (81, true), .ldR 82 3 0 (some 2), none, 82⟩),
  (true, ⟨some (81, true), .ldR 84 3 0 (some 2), none, 84⟩),
  (false, ⟨some (81, true), .call 83 21 [(.t 82)], none, 83⟩),
  (false, ⟨some (81, true), .call 85 22 [(.t 84)], none, 85⟩),
  (true, ⟨some (81, true), .bin 86 .eql (.t 83) (.t 85), none, 86⟩),
  (true, ⟨none, .pick 87 (.t 81) (.t 86) (.b false), none, 0⟩),
  (true, ⟨none, .mv 6 (.t 87), none, 0⟩)]
def c3 : SC :=
  (.seq (.reg false c3r0)
  (.seq (.reg false c3r1)
  (.seq (.seq (.reg false c3r2)
  (.cond (.t 20)
   (.seq (.reg false c3r3)
   .ret)
   .skip))
  (.seq (.reg false c3r4)
  (.seq (.seq (.reg false c3r5)
  (.cond (.t 24)
   (.seq (.reg false c3r6)
   .ret)
   .skip))
  (.seq (.reg false c3r7)
  (.seq (.reg false c3r8)
  (.seq (.reg false c3r9)
  (.seq (.reg false c3r10)
  (.seq (.rgX c3r11)
  (.seq (.rgX c3r12)
  .ret)))))))))))
def v3 : List Nat × List Nat := ([3, 9, 11, 13, 15], [3, 9, 11, 13, 15])
def o3 : List RS := [.t 6]
theorem s3 : slimC Try.prog Try.f3.ntmps v3.1 v3.2 ((Try.f3.body).getD .skip) = some c3 := by kernel_rfl
theorem q3 : slimR Try.prog Try.f3.ntmps v3.1 v3.2 Try.f3.results.toList = some o3 := by kernel_rfl
-- watermeet/watermeetlaw28.CarryTells
def c4r0 : List SI := [
  ⟨none, .bxR 3 (.t 0), none, 0⟩,
  ⟨none, .mv 6 (.b false), none, 0⟩]
def c4r1 : List SI := [
  ⟨none, .call 17 12 [], none, 0⟩,
  ⟨none, .mv 7 (.t 17), none, 0⟩]
def c4r2 : List SI := [
  ⟨none, .mv 18 (.t 7), none, 0⟩,
  ⟨none, .un 19 .not (.t 18), none, 0⟩]
def c4r3 : List SI := [
  ⟨none, .mv 6 (.b false), none, 0⟩]
def c4r4 : List SI := [
  ⟨none, .ldR 20 3 0 (some 2), none, 0⟩,
  ⟨none, .call 21 13 [(.t 20)], none, 0⟩,
  ⟨none, .mv 8 (.t 21), none, 0⟩]
def c4r5 : List SI := [
  ⟨none, .mv 22 (.t 8), none, 0⟩,
  ⟨none, .un 23 .not (.t 22), none, 0⟩]
def c4r6 : List SI := [
  ⟨none, .mv 24 (.t 7), none, 0⟩,
  ⟨none, .mv 6 (.t 24), none, 0⟩]
def c4r7 : List SI := [
  ⟨none, .ldR 26 3 0 (some 2), none, 0⟩,
  ⟨none, .mv 27 (.t 1), none, 0⟩,
  ⟨none, .call 28 23 [(.t 26), (.t 27)], none, 0⟩,
  ⟨none, .mv 25 (.t 28), none, 0⟩,
  ⟨none, .ext 29 (.t 25) 0, none, 0⟩,
  ⟨none, .ext 30 (.t 25) 1, none, 0⟩,
  ⟨none, .mv 9 (.t 29), none, 0⟩,
  ⟨none, .mv 10 (.t 30), none, 0⟩]
def c4r8 : List SI := [
  ⟨none, .ldR 32 3 0 (some 2), none, 0⟩,
  ⟨none, .mv 33 (.t 1), none, 0⟩,
  ⟨none, .call 34 24 [(.t 32), (.t 33)], none, 0⟩,
  ⟨none, .mv 31 (.t 34), none, 0⟩,
  ⟨none, .ext 35 (.t 31) 0, none, 0⟩,
  ⟨none, .ext 36 (.t 31) 1, none, 0⟩,
  ⟨none, .mv 11 (.t 35), none, 0⟩,
  ⟨none, .mv 12 (.t 36), none, 0⟩]
def c4r9 : List SI := [
  ⟨none, .ldR 38 3 0 (some 2), none, 0⟩,
  ⟨none, .mv 39 (.t 2), none, 0⟩,
  ⟨none, .call 40 25 [(.t 38), (.t 39)], none, 0⟩,
  ⟨none, .mv 37 (.t 40), none, 0⟩,
  ⟨none, .ext 41 (.t 37) 0, none, 0⟩,
  ⟨none, .ext 42 (.t 37) 1, none, 0⟩,
  ⟨none, .mv 13 (.t 41), none, 0⟩,
  ⟨none, .mv 14 (.t 42), none, 0⟩]
def c4r10 : List SI := [
  ⟨none, .ldR 44 3 0 (some 2), none, 0⟩,
  ⟨none, .mv 45 (.t 2), none, 0⟩,
  ⟨none, .call 46 26 [(.t 44), (.t 45)], none, 0⟩,
  ⟨none, .mv 43 (.t 46), none, 0⟩,
  ⟨none, .ext 47 (.t 43) 0, none, 0⟩,
  ⟨none, .ext 48 (.t 43) 1, none, 0⟩,
  ⟨none, .mv 15 (.t 47), none, 0⟩,
  ⟨none, .mv 16 (.t 48), none, 0⟩]
def c4r11 : List SI := [
  ⟨none, .mv 49 (.t 7), none, 0⟩,
  ⟨none, .mv 50 (.t 49), none, 0⟩,
  ⟨some (50, true), .mv 51 (.t 9), none, 51⟩,
  ⟨some (50, true), .mv 52 (.t 11), none, 52⟩,
  ⟨some (50, true), .bin 53 .eql (.t 51) (.t 52), none, 53⟩,
  ⟨none, .pick 54 (.t 50) (.t 53) (.b false), none, 0⟩,
  ⟨none, .mv 55 (.t 54), none, 0⟩,
  ⟨some (55, true), .mv 56 (.t 10), none, 56⟩,
  ⟨some (55, true), .mv 57 (.t 12), none, 57⟩,
  ⟨some (55, true), .eqb 58 false (.t 56) (.t 57), none, 58⟩,
  ⟨none, .pick 59 (.t 55) (.t 58) (.b false), none, 0⟩,
  ⟨none, .mv 60 (.t 59), none, 0⟩,
  ⟨some (60, true), .mv 61 (.t 13), none, 61⟩,
  ⟨some (60, true), .mv 62 (.t 15), none, 62⟩,
  ⟨some (60, true), .bin 63 .eql (.t 61) (.t 62), none, 63⟩,
  ⟨none, .pick 64 (.t 60) (.t 63) (.b false), none, 0⟩,
  ⟨none, .mv 65 (.t 64), none, 0⟩,
  ⟨some (65, true), .mv 66 (.t 14), none, 66⟩,
  ⟨some (65, true), .mv 67 (.t 16), none, 67⟩,
  ⟨some (65, true), .eqb 68 false (.t 66) (.t 67), none, 68⟩,
  ⟨none, .pick 69 (.t 65) (.t 68) (.b false), none, 0⟩,
  ⟨none, .mv 6 (.t 69), none, 0⟩]
def c4 : SC :=
  (.seq (.reg false c4r0)
  (.seq (.reg false c4r1)
  (.seq (.seq (.reg false c4r2)
  (.cond (.t 19)
   (.seq (.reg false c4r3)
   .ret)
   .skip))
  (.seq (.reg false c4r4)
  (.seq (.seq (.reg false c4r5)
  (.cond (.t 23)
   (.seq (.reg false c4r6)
   .ret)
   .skip))
  (.seq (.reg false c4r7)
  (.seq (.reg false c4r8)
  (.seq (.reg false c4r9)
  (.seq (.reg false c4r10)
  (.seq (.reg false c4r11)
  .ret))))))))))
def v4 : List Nat × List Nat := ([3], [3])
def o4 : List RS := [.t 6]
theorem s4 : slimC Try.prog Try.f4.ntmps v4.1 v4.2 ((Try.f4.body).getD .skip) = some c4 := by kernel_rfl
theorem q4 : slimR Try.prog Try.f4.ntmps v4.1 v4.2 Try.f4.results.toList = some o4 := by kernel_rfl
-- watermeet/watermeetlaw28.CarryChains
def c5r0 : List SI := [
  ⟨none, .bxR 2 (.t 0), none, 0⟩,
  ⟨none, .bxR 3 (.t 1), none, 0⟩,
  ⟨none, .mv 4 (.b false), none, 0⟩]
def c5r1 : List SI := [
  ⟨none, .call 12 12 [], none, 0⟩,
  ⟨none, .mv 5 (.t 12), none, 0⟩]
def c5r2 : List SI := [
  ⟨none, .mv 13 (.t 5), none, 0⟩,
  ⟨none, .un 14 .not (.t 13), none, 0⟩]
def c5r3 : List SI := [
  ⟨none, .mv 4 (.b false), none, 0⟩]
def c5r4 : List SI := [
  ⟨none, .ldR 15 2 0 (some 2), none, 0⟩,
  ⟨none, .call 16 13 [(.t 15)], none, 0⟩,
  ⟨none, .mv 17 (.t 16), none, 0⟩,
  ⟨some (17, true), .ldR 18 3 0 (some 2), none, 18⟩,
  ⟨some (17, true), .call 19 13 [(.t 18)], none, 19⟩,
  ⟨none, .pick 20 (.t 17) (.t 19) (.b false), none, 0⟩,
  ⟨none, .mv 6 (.t 20), none, 0⟩]
def c5r5 : List SI := [
  ⟨none, .mv 21 (.t 6), none, 0⟩,
  ⟨none, .un 22 .not (.t 21), none, 0⟩]
def c5r6 : List SI := [
  ⟨none, .mv 23 (.t 5), none, 0⟩,
  ⟨none, .mv 4 (.t 23), none, 0⟩]
def c5r7 : List SI := [
  ⟨none, .ldR 25 2 0 (some 2), none, 0⟩,
  ⟨none, .ldR 26 3 0 (some 2), none, 0⟩,
  ⟨none, .call 27 27 [(.t 25), (.t 26)], none, 0⟩,
  ⟨none, .mv 24 (.t 27), none, 0⟩,
  ⟨none, .ext 28 (.t 24) 0, none, 0⟩,
  ⟨none, .ext 29 (.t 24) 1, none, 0⟩,
  ⟨none, .alR 7 [(.int .i64 0), (.slice none 0 0)], none, 0⟩,
  ⟨none, .stR 7 0 2 (.t 28), none, 0⟩,
  ⟨none, .mv 8 (.t 29), none, 0⟩]
def c5r8 : List SI := [
  ⟨none, .ldR 31 2 0 (some 2), none, 0⟩,
  ⟨none, .ldR 32 3 0 (some 2), none, 0⟩,
  ⟨none, .call 33 28 [(.t 31), (.t 32)], none, 0⟩,
  ⟨none, .mv 30 (.t 33), none, 0⟩,
  ⟨none, .ext 34 (.t 30) 0, none, 0⟩,
  ⟨none, .ext 35 (.t 30) 1, none, 0⟩,
  ⟨none, .alR 9 [(.int .i64 0), (.slice none 0 0)], none, 0⟩,
  ⟨none, .stR 9 0 2 (.t 34), none, 0⟩,
  ⟨none, .mv 10 (.t 35), none, 0⟩]
def c5r9 : List SI := [
  ⟨none, .ldR 36 7 0 (some 2), none, 0⟩,
  ⟨none, .ldR 37 9 0 (some 2), none, 0⟩,
  ⟨none, .call 38 18 [(.t 36), (.t 37)], none, 0⟩,
  ⟨none, .mv 11 (.t 38), none, 0⟩]
def c5r10 : List SI := [
  ⟨none, .mv 39 (.t 5), none, 0⟩,
  ⟨none, .mv 40 (.t 39), none, 0⟩,
  ⟨some (40, true), .mv 41 (.t 11), none, 41⟩,
  ⟨none, .pick 42 (.t 40) (.t 41) (.b false), none, 0⟩,
  ⟨none, .mv 43 (.t 42), none, 0⟩,
  ⟨some (43, true), .mv 44 (.t 8), none, 44⟩,
  ⟨some (43, true), .mv 45 (.t 10), none, 45⟩,
  ⟨some (43, true), .bin 46 .eql (.t 44) (.t 45), none, 46⟩,
  ⟨none, .pick 47 (.t 43) (.t 46) (.b false), none, 0⟩,
  ⟨none, .mv 4 (.t 47), none, 0⟩]
def c5 : SC :=
  (.seq (.reg false c5r0)
  (.seq (.reg false c5r1)
  (.seq (.seq (.reg false c5r2)
  (.cond (.t 14)
   (.seq (.reg false c5r3)
   .ret)
   .skip))
  (.seq (.reg false c5r4)
  (.seq (.seq (.reg false c5r5)
  (.cond (.t 22)
   (.seq (.reg false c5r6)
   .ret)
   .skip))
  (.seq (.reg false c5r7)
  (.seq (.reg false c5r8)
  (.seq (.reg false c5r9)
  (.seq (.reg false c5r10)
  .ret)))))))))
def v5 : List Nat × List Nat := ([2, 3, 7, 9], [2, 3, 7, 9])
def o5 : List RS := [.t 4]
theorem s5 : slimC Try.prog Try.f5.ntmps v5.1 v5.2 ((Try.f5.body).getD .skip) = some c5 := by kernel_rfl
theorem q5 : slimR Try.prog Try.f5.ntmps v5.1 v5.2 Try.f5.results.toList = some o5 := by kernel_rfl
-- watermeet/watermeetlaw28.CarrySafe
def c6r0 : List SI := [
  ⟨none, .mv 8 (.b false), none, 0⟩]
def c6r1 : List SI := [
  ⟨none, .call 22 12 [], none, 0⟩,
  ⟨none, .mv 9 (.t 22), none, 0⟩]
def c6r2 : List SI := [
  ⟨none, .mv 23 (.t 9), none, 0⟩,
  ⟨none, .un 24 .not (.t 23), none, 0⟩]
def c6r3 : List SI := [
  ⟨none, .mv 8 (.b false), none, 0⟩]
def c6r4 : List SI := [
  ⟨none, .mv 26 (.t 0), none, 0⟩,
  ⟨none, .call 27 16 [(.t 26)], none, 0⟩,
  ⟨none, .mv 25 (.t 27), none, 0⟩,
  ⟨none, .ext 28 (.t 25) 0, none, 0⟩,
  ⟨none, .ext 29 (.t 25) 1, none, 0⟩,
  ⟨none, .alR 10 [(.int .i64 0), (.slice none 0 0)], none, 0⟩,
  ⟨none, .stR 10 0 2 (.t 28), none, 0⟩,
  ⟨none, .mv 11 (.t 29), none, 0⟩]
def c6r5 : List SI := [
  ⟨none, .mv 30 (.t 11), none, 0⟩,
  ⟨none, .bin 31 .neq (.t 30) (.i 0), none, 0⟩,
  ⟨none, .mv 32 (.t 31), none, 0⟩,
  ⟨some (32, false), .mv 33 (.t 1), none, 33⟩,
  ⟨some (32, false), .len 34 false (.t 33), none, 34⟩,
  ⟨some (32, false), .mv 35 (.t 2), none, 35⟩,
  ⟨some (32, false), .len 36 false (.t 35), none, 36⟩,
  ⟨some (32, false), .bin 37 .neq (.t 34) (.t 36), none, 37⟩,
  ⟨none, .pick 38 (.t 32) (.b true) (.t 37), none, 0⟩,
  ⟨none, .mv 39 (.t 38), none, 0⟩,
  ⟨some (39, false), .mv 40 (.t 1), none, 40⟩,
  ⟨some (39, false), .len 41 false (.t 40), none, 41⟩,
  ⟨some (39, false), .bin 42 .gtr (.t 41) (.i 60), none, 42⟩,
  ⟨none, .pick 43 (.t 39) (.b true) (.t 42), none, 0⟩]
def c6r6 : List SI := [
  ⟨none, .mv 44 (.t 9), none, 0⟩,
  ⟨none, .mv 8 (.t 44), none, 0⟩]
def c6r7 : List SI := [
  ⟨none, .mv 12 (.i (-1)), none, 0⟩]
def c6r8 : List SI := [
  ⟨none, .mv 13 (.i (-1)), none, 0⟩]
def c6r9 : List SI := [
  ⟨none, .mv 14 (.i 0), none, 0⟩]
def c6r10 : List SI := [
  ⟨none, .mv 45 (.t 14), none, 0⟩,
  ⟨none, .mv 46 (.t 1), none, 0⟩,
  ⟨none, .len 47 false (.t 46), none, 0⟩,
  ⟨none, .bin 48 .lss (.t 45) (.t 47), none, 0⟩]
def c6r11 : List SI := [
  ⟨none, .mv 51 (.t 1), none, 0⟩,
  ⟨none, .mv 52 (.t 14), none, 0⟩,
  ⟨none, .ixA 53 (.t 51) (.t 52) 1, none, 0⟩,
  ⟨none, .ld 54 (.t 53) none, none, 0⟩,
  ⟨none, .bin 55 .lss (.t 54) (.i 0), none, 0⟩,
  ⟨none, .mv 56 (.t 55), none, 0⟩,
  ⟨some (56, false), .mv 57 (.t 2), none, 57⟩,
  ⟨some (56, false), .mv 58 (.t 14), none, 58⟩,
  ⟨some (56, false), .ixA 59 (.t 57) (.t 58) 1, none, 59⟩,
  ⟨some (56, false), .ld 60 (.t 59) none, none, 60⟩,
  ⟨some (56, false), .bin 61 .lss (.t 60) (.i 0), none, 61⟩,
  ⟨none, .pick 62 (.t 56) (.b true) (.t 61), none, 0⟩,
  ⟨none, .mv 63 (.t 62), none, 0⟩,
  ⟨some (63, false), .mv 64 (.t 1), none, 64⟩,
  ⟨some (63, false), .mv 65 (.t 14), none, 65⟩,
  ⟨some (63, false), .ixA 66 (.t 64) (.t 65) 1, none, 66⟩,
  ⟨some (63, false), .ld 67 (.t 66) none, none, 67⟩,
  ⟨some (63, false), .bin 68 .gtr (.t 67) (.i 1099511627776), none, 68⟩,
  ⟨none, .pick 69 (.t 63) (.b true) (.t 68), none, 0⟩,
  ⟨none, .mv 70 (.t 69), none, 0⟩,
  ⟨some (70, false), .mv 71 (.t 2), none, 71⟩,
  ⟨some (70, false), .mv 72 (.t 14), none, 72⟩,
  ⟨some (70, false), .ixA 73 (.t 71) (.t 72) 1, none, 73⟩,
  ⟨some (70, false), .ld 74 (.t 73) none, none, 74⟩,
  ⟨some (70, false), .bin 75 .gtr (.t 74) (.i 1099511627776), none, 75⟩,
  ⟨none, .pick 76 (.t 70) (.b true) (.t 75), none, 0⟩,
  ⟨none, .mv 77 (.t 76), none, 0⟩,
  ⟨some (77, false), .mv 78 (.t 14), none, 78⟩,
  ⟨some (77, false), .bin 79 .gtr (.t 78) (.i 0), none, 79⟩,
  ⟨some (77, false), .mv 80 (.t 79), none, 80⟩,
  ⟨some (80, true), .mv 81 (.t 1), none, 81⟩,
  ⟨some (80, true), .mv 82 (.t 14), none, 82⟩,
  ⟨some (80, true), .ixA 83 (.t 81) (.t 82) 1, none, 83⟩,
  ⟨some (80, true), .ld 84 (.t 83) none, none, 84⟩,
  ⟨some (80, true), .mv 85 (.t 1), none, 85⟩,
  ⟨some (80, true), .mv 86 (.t 14), none, 86⟩,
  ⟨some (80, true), .bin 87 .sub (.t 86) (.i 1), none, 87⟩,
  ⟨some (80, true), .ixA 88 (.t 85) (.t 87) 1, none, 88⟩,
  ⟨some (80, true), .ld 89 (.t 88) none, none, 89⟩,
  ⟨some (80, true), .bin 90 .leq (.t 84) (.t 89), none, 90⟩,
  ⟨some (80, true), .mv 91 (.t 90), none, 91⟩,
  ⟨some (91, false), .mv 92 (.t 2), none, 92⟩,
  ⟨some (91, false), .mv 93 (.t 14), none, 93⟩,
  ⟨some (91, false), .ixA 94 (.t 92) (.t 93) 1, none, 94⟩,
  ⟨some (91, false), .ld 95 (.t 94) none, none, 95⟩,
  ⟨some (91, false), .mv 96 (.t 2), none, 96⟩,
  ⟨some (91, false), .mv 97 (.t 14), none, 97⟩,
  ⟨some (91, false), .bin 98 .sub (.t 97) (.i 1), none, 98⟩,
  ⟨some (91, false), .ixA 99 (.t 96) (.t 98) 1, none, 99⟩,
  ⟨some (91, false), .ld 100 (.t 99) none, none, 100⟩,
  ⟨some (91, false), .bin 101 .leq (.t 95) (.t 100), none, 101⟩,
  ⟨some (80, true), .pick 102 (.t 91) (.b true) (.t 101), none, 102⟩,
  ⟨some (77, false), .pick 103 (.t 80) (.t 102) (.b false), none, 103⟩,
  ⟨none, .pick 104 (.t 77) (.b true) (.t 103), none, 0⟩]
def c6r12 : List SI := [
  ⟨none, .mv 105 (.t 9), none, 0⟩,
  ⟨none, .mv 8 (.t 105), none, 0⟩]
def c6r13 : RX := .br [(true, ⟨none, .ldR 107 10 0 (some 2), none, 0⟩),
  (true, ⟨none, .mv 108 (.t 1), none, 0⟩),
  (true, ⟨none, .mv 109 (.t 14), none, 0⟩),
  (true, ⟨none, .ixA 110 (.t 108) (.t 109) 1, none, 0⟩),
  (true, ⟨none, .ld 111 (.t 110) none, none, 0⟩),
  (true, ⟨none, .mv 112 (.t 2), none, 0⟩),
  (true, ⟨none, .mv 113 (.t 14), none, 0⟩),
  (true, ⟨none, .ixA 114 (.t 112) (.t 113) 1, none, 0⟩),
  (true, ⟨none, .ld 115 (.t 114) none, none, 0⟩)]
  ⟨none, .call 116 14 [(.t 107), (.t 111), (.t 115)], none, 0⟩
  (.leaf [(true, ⟨none, .mv 106 (.t 116), none, 0⟩),
  (true, ⟨none, .ext 117 (.t 106) 0, none, 0⟩),
  (true, ⟨none, .ext 118 (.t 106) 1, none, 0⟩),
  (false, ⟨none, .al 15 [(.int .i64 0), (.slice none 0 0)], none, 0⟩),
  (false, ⟨none, .st (.t 15) 2 (.t 117), none, 0⟩),
  (true, ⟨none, .mv 16 (.t 118), none, 0⟩)])
  ⟨none, .al 15 [(.int .i64 0), (.slice none 0 0)], none, 0⟩
  (.leaf [(false, ⟨none, .call 116 14 [(.t 107), (.t 111), (.t 115)], none, 0⟩),
  (true, ⟨none, .mv 106 (.t 116), none, 0⟩),
  (true, ⟨none, .ext 117 (.t 106) 0, none, 0⟩),
  (true, ⟨none, .ext 118 (.t 106) 1, none, 0⟩),
  (false, ⟨none, .st (.t 15) 2 (.t 117), none, 0⟩),
  (true, ⟨none, .mv 16 (.t 118), none, 0⟩)])
def c6r14 : List SI := [
  ⟨none, .mv 119 (.t 16), none, 0⟩,
  ⟨none, .bin 120 .neq (.t 119) (.i 0), none, 0⟩]
def c6r15 : List SI := [
  ⟨none, .mv 8 (.b false), none, 0⟩]
def c6r16 : List SI := [
  ⟨none, .ld 121 (.t 15) (some 2), none, 0⟩,
  ⟨none, .stR 10 0 2 (.t 121), none, 0⟩]
def c6r17 : List SI := [
  ⟨none, .mv 122 (.t 1), none, 0⟩,
  ⟨none, .mv 123 (.t 14), none, 0⟩,
  ⟨none, .ixA 124 (.t 122) (.t 123) 1, none, 0⟩,
  ⟨none, .ld 125 (.t 124) none, none, 0⟩,
  ⟨none, .mv 126 (.t 3), none, 0⟩,
  ⟨none, .bin 127 .leq (.t 125) (.t 126), none, 0⟩]
def c6r18 : List SI := [
  ⟨none, .mv 128 (.t 1), none, 0⟩,
  ⟨none, .mv 129 (.t 14), none, 0⟩,
  ⟨none, .ixA 130 (.t 128) (.t 129) 1, none, 0⟩,
  ⟨none, .ld 131 (.t 130) none, none, 0⟩,
  ⟨none, .mv 12 (.t 131), none, 0⟩]
def c6r19 : List SI := [
  ⟨none, .mv 132 (.t 2), none, 0⟩,
  ⟨none, .mv 133 (.t 14), none, 0⟩,
  ⟨none, .ixA 134 (.t 132) (.t 133) 1, none, 0⟩,
  ⟨none, .ld 135 (.t 134) none, none, 0⟩,
  ⟨none, .mv 13 (.t 135), none, 0⟩]
def c6r20 : List SI := [
  ⟨none, .mv 49 (.t 14), none, 0⟩,
  ⟨none, .bin 50 .add (.t 49) (.i 1), none, 0⟩,
  ⟨none, .mv 14 (.t 50), none, 0⟩]
def c6r21 : List SI := [
  ⟨none, .ldR 137 10 0 (some 2), none, 0⟩,
  ⟨none, .mv 138 (.t 3), none, 0⟩,
  ⟨none, .call 139 23 [(.t 137), (.t 138)], none, 0⟩,
  ⟨none, .mv 136 (.t 139), none, 0⟩,
  ⟨none, .ext 140 (.t 136) 0, none, 0⟩,
  ⟨none, .ext 141 (.t 136) 1, none, 0⟩,
  ⟨none, .mv 17 (.t 140), none, 0⟩,
  ⟨none, .mv 18 (.t 141), none, 0⟩]
def c6r22 : List SI := [
  ⟨none, .mv 142 (.t 18), none, 0⟩,
  ⟨none, .un 143 .not (.t 142), none, 0⟩]
def c6r23 : List SI := [
  ⟨none, .mv 144 (.t 9), none, 0⟩,
  ⟨none, .mv 145 (.t 144), none, 0⟩,
  ⟨some (145, true), .mv 146 (.t 12), none, 146⟩,
  ⟨some (145, true), .bin 147 .lss (.t 146) (.i 0), none, 147⟩,
  ⟨none, .pick 148 (.t 145) (.t 147) (.b false), none, 0⟩,
  ⟨none, .mv 8 (.t 148), none, 0⟩]
def c6r24 : List SI := [
  ⟨none, .mv 149 (.t 17), none, 0⟩,
  ⟨none, .mv 150 (.t 13), none, 0⟩,
  ⟨none, .bin 151 .gtr (.t 149) (.t 150), none, 0⟩]
def c6r25 : List SI := [
  ⟨none, .mv 8 (.b false), none, 0⟩]
def c6r26 : List SI := [
  ⟨none, .mv 19 (.b false), none, 0⟩]
def c6r27 : List SI := [
  ⟨none, .mv 20 (.b false), none, 0⟩]
def c6r28 : List SI := [
  ⟨none, .mv 21 (.i 0), none, 0⟩]
def c6r29 : List SI := [
  ⟨none, .mv 152 (.t 21), none, 0⟩,
  ⟨none, .mv 153 (.t 1), none, 0⟩,
  ⟨none, .len 154 false (.t 153), none, 0⟩,
  ⟨none, .bin 155 .lss (.t 152) (.t 154), none, 0⟩]
def c6r30 : List SI := [
  ⟨none, .mv 158 (.t 2), none, 0⟩,
  ⟨none, .mv 159 (.t 21), none, 0⟩,
  ⟨none, .ixA 160 (.t 158) (.t 159) 1, none, 0⟩,
  ⟨none, .ld 161 (.t 160) none, none, 0⟩,
  ⟨none, .mv 162 (.t 17), none, 0⟩,
  ⟨none, .bin 163 .eql (.t 161) (.t 162), none, 0⟩]
def c6r31 : List SI := [
  ⟨none, .mv 19 (.b true), none, 0⟩]
def c6r32 : List SI := [
  ⟨none, .mv 164 (.t 12), none, 0⟩,
  ⟨none, .mv 165 (.t 1), none, 0⟩,
  ⟨none, .mv 166 (.t 21), none, 0⟩,
  ⟨none, .ixA 167 (.t 165) (.t 166) 1, none, 0⟩,
  ⟨none, .ld 168 (.t 167) none, none, 0⟩,
  ⟨none, .bin 169 .sub (.t 164) (.t 168), none, 0⟩,
  ⟨none, .mv 170 (.t 0), none, 0⟩,
  ⟨none, .bin 171 .lss (.t 169) (.t 170), none, 0⟩,
  ⟨none, .mv 20 (.t 171), none, 0⟩]
def c6r33 : List SI := [
  ⟨none, .mv 156 (.t 21), none, 0⟩,
  ⟨none, .bin 157 .add (.t 156) (.i 1), none, 0⟩,
  ⟨none, .mv 21 (.t 157), none, 0⟩]
def c6r34 : List SI := [
  ⟨none, .mv 172 (.t 9), none, 0⟩,
  ⟨none, .mv 173 (.t 172), none, 0⟩,
  ⟨some (173, true), .mv 174 (.t 19), none, 174⟩,
  ⟨none, .pick 175 (.t 173) (.t 174) (.b false), none, 0⟩,
  ⟨none, .mv 176 (.t 175), none, 0⟩,
  ⟨some (176, true), .mv 177 (.t 20), none, 177⟩,
  ⟨none, .pick 178 (.t 176) (.t 177) (.b false), none, 0⟩,
  ⟨none, .mv 8 (.t 178), none, 0⟩]
def c6 : SC :=
  (.seq (.reg false c6r0)
  (.seq (.reg false c6r1)
  (.seq (.seq (.reg false c6r2)
  (.cond (.t 24)
   (.seq (.reg false c6r3)
   .ret)
   .skip))
  (.seq (.reg false c6r4)
  (.seq (.seq (.reg false c6r5)
  (.cond (.t 43)
   (.seq (.reg false c6r6)
   .ret)
   .skip))
  (.seq (.reg false c6r7)
  (.seq (.reg false c6r8)
  (.seq (.seq (.reg false c6r9)
  (.blk 0 (.loop (.seq (.seq (.reg false c6r10)
    (.cond (.t 48)
     .skip
     (.exit 0)))
    (.seq (.blk 1 (.seq (.seq (.reg true c6r11)
     (.cond (.t 104)
      (.seq (.reg false c6r12)
      .ret)
      .skip))
     (.seq (.rgZ c6r13)
     (.seq (.seq (.reg false c6r14)
     (.cond (.t 120)
      (.seq (.reg false c6r15)
      .ret)
      .skip))
     (.seq (.reg false c6r16)
     (.seq (.reg false c6r17)
     (.cond (.t 127)
      (.seq (.reg false c6r18)
      (.reg false c6r19))
      .skip)))))))
    (.reg false c6r20))))))
  (.seq (.reg false c6r21)
  (.seq (.seq (.reg false c6r22)
  (.cond (.t 143)
   (.seq (.reg false c6r23)
   .ret)
   .skip))
  (.seq (.seq (.reg false c6r24)
  (.cond (.t 151)
   (.seq (.reg false c6r25)
   .ret)
   .skip))
  (.seq (.reg false c6r26)
  (.seq (.reg false c6r27)
  (.seq (.seq (.reg false c6r28)
  (.blk 2 (.loop (.seq (.seq (.reg false c6r29)
    (.cond (.t 155)
     .skip
     (.exit 2)))
    (.seq (.blk 3 (.seq (.reg false c6r30)
     (.cond (.t 163)
      (.seq (.reg false c6r31)
      (.reg false c6r32))
      .skip)))
    (.reg false c6r33))))))
  (.seq (.reg false c6r34)
  .ret)))))))))))))))
def v6 : List Nat × List Nat := ([10], [10])
def o6 : List RS := [.t 8]
theorem s6 : slimC Try.prog Try.f6.ntmps v6.1 v6.2 ((Try.f6.body).getD .skip) = some c6 := by kernel_rfl
theorem q6 : slimR Try.prog Try.f6.ntmps v6.1 v6.2 Try.f6.results.toList = some o6 := by kernel_rfl
-- watermeet/watermeetlaw28.CarryBack
def c7r0 : List SI := [
  ⟨none, .bxR 2 (.t 0), none, 0⟩,
  ⟨none, .mv 4 (.b false), none, 0⟩]
def c7r1 : List SI := [
  ⟨none, .call 13 12 [], none, 0⟩,
  ⟨none, .mv 5 (.t 13), none, 0⟩]
def c7r2 : List SI := [
  ⟨none, .mv 14 (.t 5), none, 0⟩,
  ⟨none, .un 15 .not (.t 14), none, 0⟩]
def c7r3 : List SI := [
  ⟨none, .mv 4 (.b false), none, 0⟩]
def c7r4 : List SI := [
  ⟨none, .ldR 16 2 0 (some 2), none, 0⟩,
  ⟨none, .call 17 13 [(.t 16)], none, 0⟩,
  ⟨none, .mv 6 (.t 17), none, 0⟩]
def c7r5 : List SI := [
  ⟨none, .mv 18 (.t 6), none, 0⟩,
  ⟨none, .un 19 .not (.t 18), none, 0⟩]
def c7r6 : List SI := [
  ⟨none, .mv 20 (.t 5), none, 0⟩,
  ⟨none, .mv 4 (.t 20), none, 0⟩]
def c7r7 : List SI := [
  ⟨none, .ldR 22 2 0 (some 2), none, 0⟩,
  ⟨none, .mv 23 (.t 1), none, 0⟩,
  ⟨none, .call 24 23 [(.t 22), (.t 23)], none, 0⟩,
  ⟨none, .mv 21 (.t 24), none, 0⟩,
  ⟨none, .ext 25 (.t 21) 0, none, 0⟩,
  ⟨none, .ext 26 (.t 21) 1, none, 0⟩,
  ⟨none, .mv 7 (.t 25), none, 0⟩,
  ⟨none, .mv 8 (.t 26), none, 0⟩]
def c7r8 : List SI := [
  ⟨none, .mv 27 (.t 8), none, 0⟩,
  ⟨none, .un 28 .not (.t 27), none, 0⟩]
def c7r9 : List SI := [
  ⟨none, .mv 29 (.t 5), none, 0⟩,
  ⟨none, .mv 30 (.t 29), none, 0⟩,
  ⟨some (30, true), .mv 31 (.t 7), none, 31⟩,
  ⟨some (30, true), .bin 32 .eql (.t 31) (.i 0), none, 32⟩,
  ⟨none, .pick 33 (.t 30) (.t 32) (.b false), none, 0⟩,
  ⟨none, .mv 4 (.t 33), none, 0⟩]
def c7r10 : List SI := [
  ⟨none, .ldR 35 2 0 (some 2), none, 0⟩,
  ⟨none, .mv 36 (.t 7), none, 0⟩,
  ⟨none, .call 37 25 [(.t 35), (.t 36)], none, 0⟩,
  ⟨none, .mv 34 (.t 37), none, 0⟩,
  ⟨none, .ext 38 (.t 34) 0, none, 0⟩,
  ⟨none, .ext 39 (.t 34) 1, none, 0⟩,
  ⟨none, .mv 9 (.t 38), none, 0⟩,
  ⟨none, .mv 10 (.t 39), none, 0⟩]
def c7r11 : List SI := [
  ⟨none, .ldR 41 2 0 (some 2), none, 0⟩,
  ⟨none, .mv 42 (.t 9), none, 0⟩,
  ⟨none, .call 43 23 [(.t 41), (.t 42)], none, 0⟩,
  ⟨none, .mv 40 (.t 43), none, 0⟩,
  ⟨none, .ext 44 (.t 40) 0, none, 0⟩,
  ⟨none, .ext 45 (.t 40) 1, none, 0⟩,
  ⟨none, .mv 11 (.t 44), none, 0⟩,
  ⟨none, .mv 12 (.t 45), none, 0⟩]
def c7r12 : List SI := [
  ⟨none, .mv 46 (.t 5), none, 0⟩,
  ⟨none, .mv 47 (.t 46), none, 0⟩,
  ⟨some (47, true), .mv 48 (.t 10), none, 48⟩,
  ⟨none, .pick 49 (.t 47) (.t 48) (.b false), none, 0⟩,
  ⟨none, .mv 50 (.t 49), none, 0⟩,
  ⟨some (50, true), .mv 51 (.t 9), none, 51⟩,
  ⟨some (50, true), .mv 52 (.t 1), none, 52⟩,
  ⟨some (50, true), .bin 53 .leq (.t 51) (.t 52), none, 53⟩,
  ⟨none, .pick 54 (.t 50) (.t 53) (.b false), none, 0⟩,
  ⟨none, .mv 55 (.t 54), none, 0⟩,
  ⟨some (55, true), .mv 56 (.t 12), none, 56⟩,
  ⟨none, .pick 57 (.t 55) (.t 56) (.b false), none, 0⟩,
  ⟨none, .mv 58 (.t 57), none, 0⟩,
  ⟨some (58, true), .mv 59 (.t 11), none, 59⟩,
  ⟨some (58, true), .mv 60 (.t 7), none, 60⟩,
  ⟨some (58, true), .bin 61 .eql (.t 59) (.t 60), none, 61⟩,
  ⟨none, .pick 62 (.t 58) (.t 61) (.b false), none, 0⟩,
  ⟨none, .mv 4 (.t 62), none, 0⟩]
def c7 : SC :=
  (.seq (.reg false c7r0)
  (.seq (.reg false c7r1)
  (.seq (.seq (.reg false c7r2)
  (.cond (.t 15)
   (.seq (.reg false c7r3)
   .ret)
   .skip))
  (.seq (.reg false c7r4)
  (.seq (.seq (.reg false c7r5)
  (.cond (.t 19)
   (.seq (.reg false c7r6)
   .ret)
   .skip))
  (.seq (.reg false c7r7)
  (.seq (.seq (.reg false c7r8)
  (.cond (.t 28)
   (.seq (.reg false c7r9)
   .ret)
   .skip))
  (.seq (.reg false c7r10)
  (.seq (.reg false c7r11)
  (.seq (.reg false c7r12)
  .ret))))))))))
def v7 : List Nat × List Nat := ([2], [2])
def o7 : List RS := [.t 4]
theorem s7 : slimC Try.prog Try.f7.ntmps v7.1 v7.2 ((Try.f7.body).getD .skip) = some c7 := by kernel_rfl
theorem q7 : slimR Try.prog Try.f7.ntmps v7.1 v7.2 Try.f7.results.toList = some o7 := by kernel_rfl
-- watermeet/watermeetlaw28.CarryRises
def c8r0 : List SI := [
  ⟨none, .bxR 3 (.t 0), none, 0⟩,
  ⟨none, .mv 6 (.b false), none, 0⟩]
def c8r1 : List SI := [
  ⟨none, .call 17 12 [], none, 0⟩,
  ⟨none, .mv 7 (.t 17), none, 0⟩]
def c8r2 : List SI := [
  ⟨none, .mv 18 (.t 7), none, 0⟩,
  ⟨none, .un 19 .not (.t 18), none, 0⟩]
def c8r3 : List SI := [
  ⟨none, .mv 6 (.b false), none, 0⟩]
def c8r4 : List SI := [
  ⟨none, .ldR 20 3 0 (some 2), none, 0⟩,
  ⟨none, .call 21 13 [(.t 20)], none, 0⟩,
  ⟨none, .mv 8 (.t 21), none, 0⟩]
def c8r5 : List SI := [
  ⟨none, .mv 22 (.t 8), none, 0⟩,
  ⟨none, .un 23 .not (.t 22), none, 0⟩,
  ⟨none, .mv 24 (.t 23), none, 0⟩,
  ⟨some (24, false), .mv 25 (.t 1), none, 25⟩,
  ⟨some (24, false), .mv 26 (.t 2), none, 26⟩,
  ⟨some (24, false), .bin 27 .gtr (.t 25) (.t 26), none, 27⟩,
  ⟨none, .pick 28 (.t 24) (.b true) (.t 27), none, 0⟩]
def c8r6 : List SI := [
  ⟨none, .mv 29 (.t 7), none, 0⟩,
  ⟨none, .mv 6 (.t 29), none, 0⟩]
def c8r7 : List SI := [
  ⟨none, .ldR 31 3 0 (some 2), none, 0⟩,
  ⟨none, .mv 32 (.t 1), none, 0⟩,
  ⟨none, .call 33 23 [(.t 31), (.t 32)], none, 0⟩,
  ⟨none, .mv 30 (.t 33), none, 0⟩,
  ⟨none, .ext 34 (.t 30) 0, none, 0⟩,
  ⟨none, .ext 35 (.t 30) 1, none, 0⟩,
  ⟨none, .mv 9 (.t 34), none, 0⟩,
  ⟨none, .mv 10 (.t 35), none, 0⟩]
def c8r8 : List SI := [
  ⟨none, .ldR 37 3 0 (some 2), none, 0⟩,
  ⟨none, .mv 38 (.t 2), none, 0⟩,
  ⟨none, .call 39 23 [(.t 37), (.t 38)], none, 0⟩,
  ⟨none, .mv 36 (.t 39), none, 0⟩,
  ⟨none, .ext 40 (.t 36) 0, none, 0⟩,
  ⟨none, .ext 41 (.t 36) 1, none, 0⟩,
  ⟨none, .mv 11 (.t 40), none, 0⟩,
  ⟨none, .mv 12 (.t 41), none, 0⟩]
def c8r9 : List SI := [
  ⟨none, .ldR 43 3 0 (some 2), none, 0⟩,
  ⟨none, .mv 44 (.t 1), none, 0⟩,
  ⟨none, .call 45 25 [(.t 43), (.t 44)], none, 0⟩,
  ⟨none, .mv 42 (.t 45), none, 0⟩,
  ⟨none, .ext 46 (.t 42) 0, none, 0⟩,
  ⟨none, .ext 47 (.t 42) 1, none, 0⟩,
  ⟨none, .mv 13 (.t 46), none, 0⟩,
  ⟨none, .mv 14 (.t 47), none, 0⟩]
def c8r10 : List SI := [
  ⟨none, .ldR 49 3 0 (some 2), none, 0⟩,
  ⟨none, .mv 50 (.t 2), none, 0⟩,
  ⟨none, .call 51 25 [(.t 49), (.t 50)], none, 0⟩,
  ⟨none, .mv 48 (.t 51), none, 0⟩,
  ⟨none, .ext 52 (.t 48) 0, none, 0⟩,
  ⟨none, .ext 53 (.t 48) 1, none, 0⟩,
  ⟨none, .mv 15 (.t 52), none, 0⟩,
  ⟨none, .mv 16 (.t 53), none, 0⟩]
def c8r11 : List SI := [
  ⟨none, .mv 54 (.t 7), none, 0⟩,
  ⟨none, .mv 55 (.t 54), none, 0⟩,
  ⟨some (55, true), .mv 56 (.t 10), none, 56⟩,
  ⟨some (55, true), .un 57 .not (.t 56), none, 57⟩,
  ⟨some (55, true), .mv 58 (.t 57), none, 58⟩,
  ⟨some (58, false), .mv 59 (.t 12), none, 59⟩,
  ⟨some (58, false), .mv 60 (.t 59), none, 60⟩,
  ⟨some (60, true), .mv 61 (.t 9), none, 61⟩,
  ⟨some (60, true), .mv 62 (.t 11), none, 62⟩,
  ⟨some (60, true), .bin 63 .leq (.t 61) (.t 62), none, 63⟩,
  ⟨some (58, false), .pick 64 (.t 60) (.t 63) (.b false), none, 64⟩,
  ⟨some (55, true), .pick 65 (.t 58) (.b true) (.t 64), none, 65⟩,
  ⟨none, .pick 66 (.t 55) (.t 65) (.b false), none, 0⟩,
  ⟨none, .mv 67 (.t 66), none, 0⟩,
  ⟨some (67, true), .mv 68 (.t 14), none, 68⟩,
  ⟨some (67, true), .un 69 .not (.t 68), none, 69⟩,
  ⟨some (67, true), .mv 70 (.t 69), none, 70⟩,
  ⟨some (70, false), .mv 71 (.t 16), none, 71⟩,
  ⟨some (70, false), .mv 72 (.t 71), none, 72⟩,
  ⟨some (72, true), .mv 73 (.t 13), none, 73⟩,
  ⟨some (72, true), .mv 74 (.t 15), none, 74⟩,
  ⟨some (72, true), .bin 75 .leq (.t 73) (.t 74), none, 75⟩,
  ⟨some (70, false), .pick 76 (.t 72) (.t 75) (.b false), none, 76⟩,
  ⟨some (67, true), .pick 77 (.t 70) (.b true) (.t 76), none, 77⟩,
  ⟨none, .pick 78 (.t 67) (.t 77) (.b false), none, 0⟩,
  ⟨none, .mv 6 (.t 78), none, 0⟩]
def c8 : SC :=
  (.seq (.reg false c8r0)
  (.seq (.reg false c8r1)
  (.seq (.seq (.reg false c8r2)
  (.cond (.t 19)
   (.seq (.reg false c8r3)
   .ret)
   .skip))
  (.seq (.reg false c8r4)
  (.seq (.seq (.reg false c8r5)
  (.cond (.t 28)
   (.seq (.reg false c8r6)
   .ret)
   .skip))
  (.seq (.reg false c8r7)
  (.seq (.reg false c8r8)
  (.seq (.reg false c8r9)
  (.seq (.reg false c8r10)
  (.seq (.reg false c8r11)
  .ret))))))))))
def v8 : List Nat × List Nat := ([3], [3])
def o8 : List RS := [.t 6]
theorem s8 : slimC Try.prog Try.f8.ntmps v8.1 v8.2 ((Try.f8.body).getD .skip) = some c8 := by kernel_rfl
theorem q8 : slimR Try.prog Try.f8.ntmps v8.1 v8.2 Try.f8.results.toList = some o8 := by kernel_rfl
-- watermeet/watermeetlaw28.CarryTwo
def c9r0 : List SI := [
  ⟨none, .bxR 3 (.t 0), none, 0⟩,
  ⟨none, .bxR 4 (.t 1), none, 0⟩,
  ⟨none, .mv 6 (.b false), none, 0⟩]
def c9r1 : List SI := [
  ⟨none, .call 17 12 [], none, 0⟩,
  ⟨none, .mv 7 (.t 17), none, 0⟩]
def c9r2 : List SI := [
  ⟨none, .mv 18 (.t 7), none, 0⟩,
  ⟨none, .un 19 .not (.t 18), none, 0⟩]
def c9r3 : List SI := [
  ⟨none, .mv 6 (.b false), none, 0⟩]
def c9r4 : List SI := [
  ⟨none, .ldR 20 3 0 (some 2), none, 0⟩,
  ⟨none, .call 21 13 [(.t 20)], none, 0⟩,
  ⟨none, .mv 22 (.t 21), none, 0⟩,
  ⟨some (22, true), .ldR 23 4 0 (some 2), none, 23⟩,
  ⟨some (22, true), .call 24 13 [(.t 23)], none, 24⟩,
  ⟨none, .pick 25 (.t 22) (.t 24) (.b false), none, 0⟩,
  ⟨none, .mv 8 (.t 25), none, 0⟩]
def c9r5 : List SI := [
  ⟨none, .mv 26 (.t 8), none, 0⟩,
  ⟨none, .un 27 .not (.t 26), none, 0⟩]
def c9r6 : List SI := [
  ⟨none, .mv 28 (.t 7), none, 0⟩,
  ⟨none, .mv 6 (.t 28), none, 0⟩]
def c9r7 : List SI := [
  ⟨none, .ldR 30 3 0 (some 2), none, 0⟩,
  ⟨none, .ldR 31 4 0 (some 2), none, 0⟩,
  ⟨none, .call 32 27 [(.t 30), (.t 31)], none, 0⟩,
  ⟨none, .mv 29 (.t 32), none, 0⟩,
  ⟨none, .ext 33 (.t 29) 0, none, 0⟩,
  ⟨none, .ext 34 (.t 29) 1, none, 0⟩,
  ⟨none, .alR 9 [(.int .i64 0), (.slice none 0 0)], none, 0⟩,
  ⟨none, .stR 9 0 2 (.t 33), none, 0⟩,
  ⟨none, .mv 10 (.t 34), none, 0⟩]
def c9r8 : List SI := [
  ⟨none, .mv 35 (.t 10), none, 0⟩,
  ⟨none, .bin 36 .neq (.t 35) (.i 0), none, 0⟩]
def c9r9 : List SI := [
  ⟨none, .mv 37 (.t 7), none, 0⟩,
  ⟨none, .mv 38 (.t 37), none, 0⟩,
  ⟨some (38, true), .ldR 39 3 0 (some 2), none, 39⟩,
  ⟨some (38, true), .call 40 21 [(.t 39)], none, 40⟩,
  ⟨some (38, true), .mv 41 (.t 10), none, 41⟩,
  ⟨some (38, true), .bin 42 .eql (.t 40) (.t 41), none, 42⟩,
  ⟨some (38, true), .mv 43 (.t 42), none, 43⟩,
  ⟨some (43, false), .ldR 44 4 0 (some 2), none, 44⟩,
  ⟨some (43, false), .call 45 21 [(.t 44)], none, 45⟩,
  ⟨some (43, false), .mv 46 (.t 10), none, 46⟩,
  ⟨some (43, false), .bin 47 .eql (.t 45) (.t 46), none, 47⟩,
  ⟨some (38, true), .pick 48 (.t 43) (.b true) (.t 47), none, 48⟩,
  ⟨none, .pick 49 (.t 38) (.t 48) (.b false), none, 0⟩,
  ⟨none, .mv 50 (.t 49), none, 0⟩,
  ⟨some (50, true), .nop, (some 9), 99999⟩,
  ⟨some (50, true), .ldR 52 9 1 none, none, 52⟩,
  ⟨some (50, true), .len 53 false (.t 52), none, 53⟩,
  ⟨some (50, true), .bin 54 .eql (.t 53) (.i 0), none, 54⟩,
  ⟨none, .pick 55 (.t 50) (.t 54) (.b false), none, 0⟩,
  ⟨none, .mv 6 (.t 55), none, 0⟩]
def c9r10 : List SI := [
  ⟨none, .ldR 57 9 0 (some 2), none, 0⟩,
  ⟨none, .mv 58 (.t 2), none, 0⟩,
  ⟨none, .call 59 23 [(.t 57), (.t 58)], none, 0⟩,
  ⟨none, .mv 56 (.t 59), none, 0⟩,
  ⟨none, .ext 60 (.t 56) 0, none, 0⟩,
  ⟨none, .ext 61 (.t 56) 1, none, 0⟩,
  ⟨none, .mv 11 (.t 60), none, 0⟩,
  ⟨none, .mv 12 (.t 61), none, 0⟩]
def c9r11 : List SI := [
  ⟨none, .ldR 63 3 0 (some 2), none, 0⟩,
  ⟨none, .mv 64 (.t 2), none, 0⟩,
  ⟨none, .call 65 23 [(.t 63), (.t 64)], none, 0⟩,
  ⟨none, .mv 62 (.t 65), none, 0⟩,
  ⟨none, .ext 66 (.t 62) 0, none, 0⟩,
  ⟨none, .ext 67 (.t 62) 1, none, 0⟩,
  ⟨none, .mv 13 (.t 66), none, 0⟩,
  ⟨none, .mv 14 (.t 67), none, 0⟩]
def c9r12 : List SI := [
  ⟨none, .ldR 69 4 0 (some 2), none, 0⟩,
  ⟨none, .mv 70 (.t 13), none, 0⟩,
  ⟨none, .call 71 23 [(.t 69), (.t 70)], none, 0⟩,
  ⟨none, .mv 68 (.t 71), none, 0⟩,
  ⟨none, .ext 72 (.t 68) 0, none, 0⟩,
  ⟨none, .ext 73 (.t 68) 1, none, 0⟩,
  ⟨none, .mv 15 (.t 72), none, 0⟩,
  ⟨none, .mv 16 (.t 73), none, 0⟩]
def c9r13 : List SI := [
  ⟨none, .mv 74 (.t 14), none, 0⟩,
  ⟨none, .un 75 .not (.t 74), none, 0⟩,
  ⟨none, .mv 76 (.t 75), none, 0⟩,
  ⟨some (76, false), .mv 77 (.t 16), none, 77⟩,
  ⟨some (76, false), .un 78 .not (.t 77), none, 78⟩,
  ⟨none, .pick 79 (.t 76) (.b true) (.t 78), none, 0⟩]
def c9r14 : List SI := [
  ⟨none, .mv 80 (.t 7), none, 0⟩,
  ⟨none, .mv 81 (.t 80), none, 0⟩,
  ⟨some (81, true), .mv 82 (.t 12), none, 82⟩,
  ⟨some (81, true), .un 83 .not (.t 82), none, 83⟩,
  ⟨none, .pick 84 (.t 81) (.t 83) (.b false), none, 0⟩,
  ⟨none, .mv 6 (.t 84), none, 0⟩]
def c9r15 : List SI := [
  ⟨none, .mv 85 (.t 7), none, 0⟩,
  ⟨none, .mv 86 (.t 85), none, 0⟩,
  ⟨some (86, true), .ldR 87 9 0 (some 2), none, 87⟩,
  ⟨some (86, true), .call 88 21 [(.t 87)], none, 88⟩,
  ⟨some (86, true), .bin 89 .eql (.t 88) (.i 0), none, 89⟩,
  ⟨none, .pick 90 (.t 86) (.t 89) (.b false), none, 0⟩,
  ⟨none, .mv 91 (.t 90), none, 0⟩,
  ⟨some (91, true), .mv 92 (.t 12), none, 92⟩,
  ⟨none, .pick 93 (.t 91) (.t 92) (.b false), none, 0⟩,
  ⟨none, .mv 94 (.t 93), none, 0⟩,
  ⟨some (94, true), .mv 95 (.t 11), none, 95⟩,
  ⟨some (94, true), .mv 96 (.t 15), none, 96⟩,
  ⟨some (94, true), .bin 97 .eql (.t 95) (.t 96), none, 97⟩,
  ⟨none, .pick 98 (.t 94) (.t 97) (.b false), none, 0⟩,
  ⟨none, .mv 6 (.t 98), none, 0⟩]
def c9 : SC :=
  (.seq (.reg false c9r0)
  (.seq (.reg false c9r1)
  (.seq (.seq (.reg false c9r2)
  (.cond (.t 19)
   (.seq (.reg false c9r3)
   .ret)
   .skip))
  (.seq (.reg false c9r4)
  (.seq (.seq (.reg false c9r5)
  (.cond (.t 27)
   (.seq (.reg false c9r6)
   .ret)
   .skip))
  (.seq (.reg false c9r7)
  (.seq (.seq (.reg false c9r8)
  (.cond (.t 36)
   (.seq (.reg false c9r9)
   .ret)
   .skip))
  (.seq (.reg false c9r10)
  (.seq (.reg false c9r11)
  (.seq (.reg false c9r12)
  (.seq (.seq (.reg false c9r13)
  (.cond (.t 79)
   (.seq (.reg false c9r14)
   .ret)
   .skip))
  (.seq (.reg false c9r15)
  .ret))))))))))))
def v9 : List Nat × List Nat := ([3, 4, 9], [3, 4, 9, 51])
def o9 : List RS := [.t 6]
theorem s9 : slimC Try.prog Try.f9.ntmps v9.1 v9.2 ((Try.f9.body).getD .skip) = some c9 := by kernel_rfl
theorem q9 : slimR Try.prog Try.f9.ntmps v9.1 v9.2 Try.f9.results.toList = some o9 := by kernel_rfl
-- watermeet/watermeetlaw28.CarryTrims
def c10r0 : List SI := [
  ⟨none, .bxR 3 (.t 0), none, 0⟩,
  ⟨none, .mv 6 (.b false), none, 0⟩]
def c10r1 : List SI := [
  ⟨none, .call 15 12 [], none, 0⟩,
  ⟨none, .mv 7 (.t 15), none, 0⟩]
def c10r2 : List SI := [
  ⟨none, .mv 16 (.t 7), none, 0⟩,
  ⟨none, .un 17 .not (.t 16), none, 0⟩]
def c10r3 : List SI := [
  ⟨none, .mv 6 (.b false), none, 0⟩]
def c10r4 : List SI := [
  ⟨none, .ldR 18 3 0 (some 2), none, 0⟩,
  ⟨none, .call 19 13 [(.t 18)], none, 0⟩,
  ⟨none, .mv 8 (.t 19), none, 0⟩]
def c10r5 : List SI := [
  ⟨none, .mv 20 (.t 8), none, 0⟩,
  ⟨none, .un 21 .not (.t 20), none, 0⟩,
  ⟨none, .mv 22 (.t 21), none, 0⟩,
  ⟨some (22, false), .mv 23 (.t 2), none, 23⟩,
  ⟨some (22, false), .mv 24 (.t 1), none, 24⟩,
  ⟨some (22, false), .bin 25 .lss (.t 23) (.t 24), none, 25⟩,
  ⟨none, .pick 26 (.t 22) (.b true) (.t 25), none, 0⟩,
  ⟨none, .mv 27 (.t 26), none, 0⟩,
  ⟨some (27, false), .ldR 28 3 0 (some 2), none, 28⟩,
  ⟨some (27, false), .call 29 21 [(.t 28)], none, 29⟩,
  ⟨some (27, false), .bin 30 .neq (.t 29) (.i 0), none, 30⟩,
  ⟨none, .pick 31 (.t 27) (.b true) (.t 30), none, 0⟩]
def c10r6 : List SI := [
  ⟨none, .mv 32 (.t 7), none, 0⟩,
  ⟨none, .mv 6 (.t 32), none, 0⟩]
def c10r7 : List SI := [
  ⟨none, .ldR 33 3 0 (some 2), none, 0⟩,
  ⟨none, .mv 34 (.t 1), none, 0⟩,
  ⟨none, .call 35 19 [(.t 33), (.t 34)], none, 0⟩,
  ⟨none, .alR 9 [(.int .i64 0), (.slice none 0 0)], none, 0⟩,
  ⟨none, .stR 9 0 2 (.t 35), none, 0⟩]
def c10r8 : List SI := [
  ⟨none, .ldR 37 3 0 (some 2), none, 0⟩,
  ⟨none, .mv 38 (.t 2), none, 0⟩,
  ⟨none, .call 39 23 [(.t 37), (.t 38)], none, 0⟩,
  ⟨none, .mv 36 (.t 39), none, 0⟩,
  ⟨none, .ext 40 (.t 36) 0, none, 0⟩,
  ⟨none, .ext 41 (.t 36) 1, none, 0⟩,
  ⟨none, .mv 10 (.t 40), none, 0⟩,
  ⟨none, .mv 11 (.t 41), none, 0⟩]
def c10r9 : List SI := [
  ⟨none, .ldR 43 9 0 (some 2), none, 0⟩,
  ⟨none, .mv 44 (.t 2), none, 0⟩,
  ⟨none, .call 45 23 [(.t 43), (.t 44)], none, 0⟩,
  ⟨none, .mv 42 (.t 45), none, 0⟩,
  ⟨none, .ext 46 (.t 42) 0, none, 0⟩,
  ⟨none, .ext 47 (.t 42) 1, none, 0⟩,
  ⟨none, .mv 12 (.t 46), none, 0⟩,
  ⟨none, .mv 13 (.t 47), none, 0⟩]
def c10r10 : List (Bool × SI) := [
  (true, ⟨none, .ldR 48 9 0 (some 2), none, 0⟩),
  (true, ⟨none, .ldR 49 9 0 (some 2), none, 0⟩),
  (true, ⟨none, .mv 50 (.t 1), none, 0⟩),
  (false, ⟨none, .call 51 19 [(.t 49), (.t 50)], none, 0⟩),
  (false, ⟨none, .call 52 18 [(.t 48), (.t 51)], none, 0⟩),
  (true, ⟨none, .mv 14 (.t 52), none, 0⟩)]
def c10r11 : List SI := [
  ⟨none, .mv 53 (.t 7), none, 0⟩,
  ⟨none, .mv 54 (.t 53), none, 0⟩,
  ⟨some (54, true), .ldR 55 9 0 (some 2), none, 55⟩,
  ⟨some (54, true), .call 56 21 [(.t 55)], none, 56⟩,
  ⟨some (54, true), .bin 57 .eql (.t 56) (.i 0), none, 57⟩,
  ⟨none, .pick 58 (.t 54) (.t 57) (.b false), none, 0⟩,
  ⟨none, .mv 59 (.t 58), none, 0⟩,
  ⟨some (59, true), .mv 60 (.t 10), none, 60⟩,
  ⟨some (59, true), .mv 61 (.t 12), none, 61⟩,
  ⟨some (59, true), .bin 62 .eql (.t 60) (.t 61), none, 62⟩,
  ⟨none, .pick 63 (.t 59) (.t 62) (.b false), none, 0⟩,
  ⟨none, .mv 64 (.t 63), none, 0⟩,
  ⟨some (64, true), .mv 65 (.t 11), none, 65⟩,
  ⟨some (64, true), .mv 66 (.t 13), none, 66⟩,
  ⟨some (64, true), .eqb 67 false (.t 65) (.t 66), none, 67⟩,
  ⟨none, .pick 68 (.t 64) (.t 67) (.b false), none, 0⟩,
  ⟨none, .mv 69 (.t 68), none, 0⟩,
  ⟨some (69, true), .mv 70 (.t 14), none, 70⟩,
  ⟨none, .pick 71 (.t 69) (.t 70) (.b false), none, 0⟩,
  ⟨none, .mv 72 (.t 71), none, 0⟩,
  ⟨some (72, true), .nop, (some 9), 99999⟩,
  ⟨some (72, true), .ldR 74 9 1 none, none, 74⟩,
  ⟨some (72, true), .len 75 false (.t 74), none, 75⟩,
  ⟨some (72, true), .nop, (some 3), 99999⟩,
  ⟨some (72, true), .ldR 77 3 1 none, none, 77⟩,
  ⟨some (72, true), .len 78 false (.t 77), none, 78⟩,
  ⟨some (72, true), .bin 79 .leq (.t 75) (.t 78), none, 79⟩,
  ⟨none, .pick 80 (.t 72) (.t 79) (.b false), none, 0⟩,
  ⟨none, .mv 81 (.t 80), none, 0⟩,
  ⟨some (81, true), .nop, (some 9), 99999⟩,
  ⟨some (81, true), .ldR 83 9 0 none, none, 83⟩,
  ⟨some (81, true), .nop, (some 3), 99999⟩,
  ⟨some (81, true), .ldR 85 3 0 none, none, 85⟩,
  ⟨some (81, true), .bin 86 .eql (.t 83) (.t 85), none, 86⟩,
  ⟨none, .pick 87 (.t 81) (.t 86) (.b false), none, 0⟩,
  ⟨none, .mv 6 (.t 87), none, 0⟩]
def c10 : SC :=
  (.seq (.reg false c10r0)
  (.seq (.reg false c10r1)
  (.seq (.seq (.reg false c10r2)
  (.cond (.t 17)
   (.seq (.reg false c10r3)
   .ret)
   .skip))
  (.seq (.reg false c10r4)
  (.seq (.seq (.reg false c10r5)
  (.cond (.t 31)
   (.seq (.reg false c10r6)
   .ret)
   .skip))
  (.seq (.reg false c10r7)
  (.seq (.reg false c10r8)
  (.seq (.reg false c10r9)
  (.seq (.rgX c10r10)
  (.seq (.reg false c10r11)
  .ret))))))))))
def v10 : List Nat × List Nat := ([3, 9], [3, 9, 73, 76, 82, 84])
def o10 : List RS := [.t 6]
theorem s10 : slimC Try.prog Try.f10.ntmps v10.1 v10.2 ((Try.f10.body).getD .skip) = some c10 := by kernel_rfl
theorem q10 : slimR Try.prog Try.f10.ntmps v10.1 v10.2 Try.f10.results.toList = some o10 := by kernel_rfl
-- watermeet/watermeetlaw28.CarryGoes
def c11r0 : List SI := [
  ⟨none, .bxR 4 (.t 0), none, 0⟩,
  ⟨none, .mv 8 (.b false), none, 0⟩]
def c11r1 : List SI := [
  ⟨none, .call 17 12 [], none, 0⟩,
  ⟨none, .mv 9 (.t 17), none, 0⟩]
def c11r2 : List SI := [
  ⟨none, .mv 18 (.t 9), none, 0⟩,
  ⟨none, .un 19 .not (.t 18), none, 0⟩]
def c11r3 : List SI := [
  ⟨none, .mv 8 (.b false), none, 0⟩]
def c11r4 : List SI := [
  ⟨none, .ldR 20 4 0 (some 2), none, 0⟩,
  ⟨none, .call 21 13 [(.t 20)], none, 0⟩,
  ⟨none, .mv 10 (.t 21), none, 0⟩]
def c11r5 : List SI := [
  ⟨none, .mv 22 (.t 10), none, 0⟩,
  ⟨none, .un 23 .not (.t 22), none, 0⟩]
def c11r6 : List SI := [
  ⟨none, .mv 24 (.t 9), none, 0⟩,
  ⟨none, .mv 8 (.t 24), none, 0⟩]
def c11r7 : List SI := [
  ⟨none, .ldR 26 4 0 (some 2), none, 0⟩,
  ⟨none, .mv 27 (.t 1), none, 0⟩,
  ⟨none, .mv 28 (.t 2), none, 0⟩,
  ⟨none, .call 29 14 [(.t 26), (.t 27), (.t 28)], none, 0⟩,
  ⟨none, .mv 25 (.t 29), none, 0⟩,
  ⟨none, .ext 30 (.t 25) 0, none, 0⟩,
  ⟨none, .ext 31 (.t 25) 1, none, 0⟩,
  ⟨none, .alR 11 [(.int .i64 0), (.slice none 0 0)], none, 0⟩,
  ⟨none, .stR 11 0 2 (.t 30), none, 0⟩,
  ⟨none, .mv 12 (.t 31), none, 0⟩]
def c11r8 : List SI := [
  ⟨none, .mv 32 (.t 12), none, 0⟩,
  ⟨none, .bin 33 .neq (.t 32) (.i 0), none, 0⟩]
def c11r9 : List SI := [
  ⟨none, .mv 34 (.t 9), none, 0⟩,
  ⟨none, .mv 35 (.t 34), none, 0⟩,
  ⟨some (35, true), .nop, (some 11), 99999⟩,
  ⟨some (35, true), .ldR 37 11 1 none, none, 37⟩,
  ⟨some (35, true), .len 38 false (.t 37), none, 38⟩,
  ⟨some (35, true), .bin 39 .eql (.t 38) (.i 0), none, 39⟩,
  ⟨none, .pick 40 (.t 35) (.t 39) (.b false), none, 0⟩,
  ⟨none, .mv 8 (.t 40), none, 0⟩]
def c11r10 : List SI := [
  ⟨none, .ldR 42 4 0 (some 2), none, 0⟩,
  ⟨none, .mv 43 (.t 3), none, 0⟩,
  ⟨none, .call 44 23 [(.t 42), (.t 43)], none, 0⟩,
  ⟨none, .mv 41 (.t 44), none, 0⟩,
  ⟨none, .ext 45 (.t 41) 0, none, 0⟩,
  ⟨none, .ext 46 (.t 41) 1, none, 0⟩,
  ⟨none, .mv 13 (.t 45), none, 0⟩,
  ⟨none, .mv 14 (.t 46), none, 0⟩]
def c11r11 : List SI := [
  ⟨none, .ldR 48 11 0 (some 2), none, 0⟩,
  ⟨none, .mv 49 (.t 3), none, 0⟩,
  ⟨none, .call 50 23 [(.t 48), (.t 49)], none, 0⟩,
  ⟨none, .mv 47 (.t 50), none, 0⟩,
  ⟨none, .ext 51 (.t 47) 0, none, 0⟩,
  ⟨none, .ext 52 (.t 47) 1, none, 0⟩,
  ⟨none, .mv 15 (.t 51), none, 0⟩,
  ⟨none, .mv 16 (.t 52), none, 0⟩]
def c11r12 : List SI := [
  ⟨none, .mv 53 (.t 3), none, 0⟩,
  ⟨none, .mv 54 (.t 1), none, 0⟩,
  ⟨none, .bin 55 .lss (.t 53) (.t 54), none, 0⟩]
def c11r13 : List SI := [
  ⟨none, .mv 56 (.t 9), none, 0⟩,
  ⟨none, .mv 57 (.t 56), none, 0⟩,
  ⟨some (57, true), .mv 58 (.t 13), none, 58⟩,
  ⟨some (57, true), .mv 59 (.t 15), none, 59⟩,
  ⟨some (57, true), .bin 60 .eql (.t 58) (.t 59), none, 60⟩,
  ⟨none, .pick 61 (.t 57) (.t 60) (.b false), none, 0⟩,
  ⟨none, .mv 62 (.t 61), none, 0⟩,
  ⟨some (62, true), .mv 63 (.t 14), none, 63⟩,
  ⟨some (62, true), .mv 64 (.t 16), none, 64⟩,
  ⟨some (62, true), .eqb 65 false (.t 63) (.t 64), none, 65⟩,
  ⟨none, .pick 66 (.t 62) (.t 65) (.b false), none, 0⟩,
  ⟨none, .mv 8 (.t 66), none, 0⟩]
def c11r14 : List SI := [
  ⟨none, .mv 67 (.t 9), none, 0⟩,
  ⟨none, .mv 68 (.t 67), none, 0⟩,
  ⟨some (68, true), .ldR 69 11 0 (some 2), none, 69⟩,
  ⟨some (68, true), .call 70 21 [(.t 69)], none, 70⟩,
  ⟨some (68, true), .bin 71 .eql (.t 70) (.i 0), none, 71⟩,
  ⟨none, .pick 72 (.t 68) (.t 71) (.b false), none, 0⟩,
  ⟨none, .mv 73 (.t 72), none, 0⟩,
  ⟨some (73, true), .mv 74 (.t 16), none, 74⟩,
  ⟨none, .pick 75 (.t 73) (.t 74) (.b false), none, 0⟩,
  ⟨none, .mv 76 (.t 75), none, 0⟩,
  ⟨some (76, true), .mv 77 (.t 15), none, 77⟩,
  ⟨some (76, true), .mv 78 (.t 13), none, 78⟩,
  ⟨some (76, true), .bin 79 .geq (.t 77) (.t 78), none, 79⟩,
  ⟨none, .pick 80 (.t 76) (.t 79) (.b false), none, 0⟩,
  ⟨none, .mv 81 (.t 80), none, 0⟩,
  ⟨some (81, true), .mv 82 (.t 15), none, 82⟩,
  ⟨some (81, true), .mv 83 (.t 2), none, 83⟩,
  ⟨some (81, true), .bin 84 .leq (.t 82) (.t 83), none, 84⟩,
  ⟨none, .pick 85 (.t 81) (.t 84) (.b false), none, 0⟩,
  ⟨none, .mv 86 (.t 85), none, 0⟩,
  ⟨some (86, true), .mv 87 (.t 14), none, 87⟩,
  ⟨some (86, true), .un 88 .not (.t 87), none, 88⟩,
  ⟨some (86, true), .mv 89 (.t 88), none, 89⟩,
  ⟨some (89, false), .mv 90 (.t 15), none, 90⟩,
  ⟨some (89, false), .mv 91 (.t 13), none, 91⟩,
  ⟨some (89, false), .bin 92 .eql (.t 90) (.t 91), none, 92⟩,
  ⟨some (86, true), .pick 93 (.t 89) (.b true) (.t 92), none, 93⟩,
  ⟨some (86, true), .mv 94 (.t 93), none, 94⟩,
  ⟨some (94, false), .mv 95 (.t 15), none, 95⟩,
  ⟨some (94, false), .mv 96 (.t 2), none, 96⟩,
  ⟨some (94, false), .bin 97 .eql (.t 95) (.t 96), none, 97⟩,
  ⟨some (86, true), .pick 98 (.t 94) (.b true) (.t 97), none, 98⟩,
  ⟨none, .pick 99 (.t 86) (.t 98) (.b false), none, 0⟩,
  ⟨none, .mv 8 (.t 99), none, 0⟩]
def c11 : SC :=
  (.seq (.reg false c11r0)
  (.seq (.reg false c11r1)
  (.seq (.seq (.reg false c11r2)
  (.cond (.t 19)
   (.seq (.reg false c11r3)
   .ret)
   .skip))
  (.seq (.reg false c11r4)
  (.seq (.seq (.reg false c11r5)
  (.cond (.t 23)
   (.seq (.reg false c11r6)
   .ret)
   .skip))
  (.seq (.reg false c11r7)
  (.seq (.seq (.reg false c11r8)
  (.cond (.t 33)
   (.seq (.reg false c11r9)
   .ret)
   .skip))
  (.seq (.reg false c11r10)
  (.seq (.reg false c11r11)
  (.seq (.seq (.reg false c11r12)
  (.cond (.t 55)
   (.seq (.reg false c11r13)
   .ret)
   .skip))
  (.seq (.reg false c11r14)
  .ret)))))))))))
def v11 : List Nat × List Nat := ([4, 11], [4, 11, 36])
def o11 : List RS := [.t 8]
theorem s11 : slimC Try.prog Try.f11.ntmps v11.1 v11.2 ((Try.f11.body).getD .skip) = some c11 := by kernel_rfl
theorem q11 : slimR Try.prog Try.f11.ntmps v11.1 v11.2 Try.f11.results.toList = some o11 := by kernel_rfl
-- watermeet/watermeetlaw28.live
def c12r0 : List SI := [
  ⟨none, .mv 0 (.b false), none, 0⟩]
def c12r1 : List SI := [
  ⟨none, .call 25 16 [(.i 10)], none, 0⟩,
  ⟨none, .mv 24 (.t 25), none, 0⟩,
  ⟨none, .ext 26 (.t 24) 0, none, 0⟩,
  ⟨none, .ext 27 (.t 24) 1, none, 0⟩,
  ⟨none, .alR 1 [(.int .i64 0), (.slice none 0 0)], none, 0⟩,
  ⟨none, .stR 1 0 2 (.t 26), none, 0⟩,
  ⟨none, .mv 2 (.t 27), none, 0⟩]
def c12r2 : List SI := [
  ⟨none, .ldR 29 1 0 (some 2), none, 0⟩,
  ⟨none, .call 30 14 [(.t 29), (.i 0), (.i 5)], none, 0⟩,
  ⟨none, .mv 28 (.t 30), none, 0⟩,
  ⟨none, .ext 31 (.t 28) 0, none, 0⟩,
  ⟨none, .ext 32 (.t 28) 1, none, 0⟩,
  ⟨none, .alR 3 [(.int .i64 0), (.slice none 0 0)], none, 0⟩,
  ⟨none, .stR 3 0 2 (.t 31), none, 0⟩,
  ⟨none, .mv 4 (.t 32), none, 0⟩]
def c12r3 : List SI := [
  ⟨none, .ldR 34 3 0 (some 2), none, 0⟩,
  ⟨none, .call 35 14 [(.t 34), (.i 7), (.i 12)], none, 0⟩,
  ⟨none, .mv 33 (.t 35), none, 0⟩,
  ⟨none, .ext 36 (.t 33) 0, none, 0⟩,
  ⟨none, .ext 37 (.t 33) 1, none, 0⟩,
  ⟨none, .alR 5 [(.int .i64 0), (.slice none 0 0)], none, 0⟩,
  ⟨none, .stR 5 0 2 (.t 36), none, 0⟩,
  ⟨none, .mv 6 (.t 37), none, 0⟩]
def c12r4 : List SI := [
  ⟨none, .ldR 39 5 0 (some 2), none, 0⟩,
  ⟨none, .call 40 14 [(.t 39), (.i 10), (.i 14)], none, 0⟩,
  ⟨none, .mv 38 (.t 40), none, 0⟩,
  ⟨none, .ext 41 (.t 38) 0, none, 0⟩,
  ⟨none, .ext 42 (.t 38) 1, none, 0⟩,
  ⟨none, .alR 7 [(.int .i64 0), (.slice none 0 0)], none, 0⟩,
  ⟨none, .stR 7 0 2 (.t 41), none, 0⟩,
  ⟨none, .mv 8 (.t 42), none, 0⟩]
def c12r5 : List SI := [
  ⟨none, .ldR 43 7 0 (some 2), none, 0⟩,
  ⟨none, .bld 44 [(.int .i64 0), (.int .i64 0)] [(1, 1, (.i 5))], none, 0⟩,
  ⟨none, .bld 45 [(.int .i64 0), (.int .i64 0)] [(0, 1, (.i 10)), (1, 1, (.i 14))], none, 0⟩,
  ⟨none, .bls 46 44 2 2 [(.int .i64 0), (.int .i64 0), (.int .i64 0), (.int .i64 0)] [(0, 2, (.t 44)), (2, 2, (.t 45))], none, 0⟩,
  ⟨none, .bld 47 [(.int .i64 0), (.slice none 0 0)] [(0, 1, (.i 10)), (1, 1, (.t 46))], none, 0⟩,
  ⟨none, .call 48 18 [(.t 43), (.t 47)], none, 0⟩,
  ⟨none, .mv 9 (.t 48), none, 0⟩]
def c12r6 : List SI := [
  ⟨none, .ldR 50 7 0 (some 2), none, 0⟩,
  ⟨none, .call 51 23 [(.t 50), (.i 9)], none, 0⟩,
  ⟨none, .mv 49 (.t 51), none, 0⟩,
  ⟨none, .ext 52 (.t 49) 0, none, 0⟩,
  ⟨none, .ext 53 (.t 49) 1, none, 0⟩,
  ⟨none, .mv 10 (.t 52), none, 0⟩,
  ⟨none, .mv 11 (.t 53), none, 0⟩]
def c12r7 : List SI := [
  ⟨none, .ldR 55 7 0 (some 2), none, 0⟩,
  ⟨none, .call 56 23 [(.t 55), (.i 30)], none, 0⟩,
  ⟨none, .mv 54 (.t 56), none, 0⟩,
  ⟨none, .ext 57 (.t 54) 0, none, 0⟩,
  ⟨none, .ext 58 (.t 54) 1, none, 0⟩,
  ⟨none, .mv 12 (.t 57), none, 0⟩,
  ⟨none, .mv 13 (.t 58), none, 0⟩]
def c12r8 : List SI := [
  ⟨none, .ldR 60 7 0 (some 2), none, 0⟩,
  ⟨none, .call 61 25 [(.t 60), (.i 13)], none, 0⟩,
  ⟨none, .mv 59 (.t 61), none, 0⟩,
  ⟨none, .ext 62 (.t 59) 0, none, 0⟩,
  ⟨none, .ext 63 (.t 59) 1, none, 0⟩,
  ⟨none, .mv 14 (.t 62), none, 0⟩,
  ⟨none, .mv 15 (.t 63), none, 0⟩]
def c12r9 : List SI := [
  ⟨none, .ldR 65 7 0 (some 2), none, 0⟩,
  ⟨none, .call 66 25 [(.t 65), (.i 4)], none, 0⟩,
  ⟨none, .mv 64 (.t 66), none, 0⟩,
  ⟨none, .ext 67 (.t 64) 0, none, 0⟩,
  ⟨none, .ext 68 (.t 64) 1, none, 0⟩,
  ⟨none, .mv 16 (.t 67), none, 0⟩,
  ⟨none, .mv 17 (.t 68), none, 0⟩]
def c12r10 : List SI := [
  ⟨none, .ldR 70 7 0 (some 2), none, 0⟩,
  ⟨none, .call 71 14 [(.t 70), (.i 9), (.i 20)], none, 0⟩,
  ⟨none, .mv 69 (.t 71), none, 0⟩,
  ⟨none, .ext 72 (.t 69) 0, none, 0⟩,
  ⟨none, .ext 73 (.t 69) 1, none, 0⟩,
  ⟨none, .alR 18 [(.int .i64 0), (.slice none 0 0)], none, 0⟩,
  ⟨none, .stR 18 0 2 (.t 72), none, 0⟩,
  ⟨none, .mv 19 (.t 73), none, 0⟩]
def c12r11 : List SI := [
  ⟨none, .ldR 75 7 0 (some 2), none, 0⟩,
  ⟨none, .ldR 76 7 0 (some 2), none, 0⟩,
  ⟨none, .call 77 27 [(.t 75), (.t 76)], none, 0⟩,
  ⟨none, .mv 74 (.t 77), none, 0⟩,
  ⟨none, .ext 78 (.t 74) 0, none, 0⟩,
  ⟨none, .ext 79 (.t 74) 1, none, 0⟩,
  ⟨none, .alR 20 [(.int .i64 0), (.slice none 0 0)], none, 0⟩,
  ⟨none, .stR 20 0 2 (.t 78), none, 0⟩,
  ⟨none, .mv 21 (.t 79), none, 0⟩]
def c12r12 : List SI := [
  ⟨none, .ldR 80 20 0 (some 2), none, 0⟩,
  ⟨none, .bld 81 [(.int .i64 0), (.int .i64 0)] [(1, 1, (.i 5))], none, 0⟩,
  ⟨none, .bld 82 [(.int .i64 0), (.int .i64 0)] [(0, 1, (.i 10)), (1, 1, (.i 14))], none, 0⟩,
  ⟨none, .bls 83 44 2 2 [(.int .i64 0), (.int .i64 0), (.int .i64 0), (.int .i64 0)] [(0, 2, (.t 81)), (2, 2, (.t 82))], none, 0⟩,
  ⟨none, .bld 84 [(.int .i64 0), (.slice none 0 0)] [(0, 1, (.i 10)), (1, 1, (.t 83))], none, 0⟩,
  ⟨none, .call 85 18 [(.t 80), (.t 84)], none, 0⟩,
  ⟨none, .mv 22 (.t 85), none, 0⟩]
def c12r13 : List SI := [
  ⟨none, .ldR 86 7 0 (some 2), none, 0⟩,
  ⟨none, .call 87 19 [(.t 86), (.i 12)], none, 0⟩,
  ⟨none, .alR 23 [(.int .i64 0), (.slice none 0 0)], none, 0⟩,
  ⟨none, .stR 23 0 2 (.t 87), none, 0⟩]
def c12r14 : List SI := [
  ⟨none, .mv 88 (.t 2), none, 0⟩,
  ⟨none, .bin 89 .eql (.t 88) (.i 0), none, 0⟩,
  ⟨none, .mv 90 (.t 89), none, 0⟩,
  ⟨some (90, true), .mv 91 (.t 4), none, 91⟩,
  ⟨some (90, true), .bin 92 .eql (.t 91) (.i 0), none, 92⟩,
  ⟨none, .pick 93 (.t 90) (.t 92) (.b false), none, 0⟩,
  ⟨none, .mv 94 (.t 93), none, 0⟩,
  ⟨some (94, true), .mv 95 (.t 6), none, 95⟩,
  ⟨some (94, true), .bin 96 .eql (.t 95) (.i 0), none, 96⟩,
  ⟨none, .pick 97 (.t 94) (.t 96) (.b false), none, 0⟩,
  ⟨none, .mv 98 (.t 97), none, 0⟩,
  ⟨some (98, true), .mv 99 (.t 8), none, 99⟩,
  ⟨some (98, true), .bin 100 .eql (.t 99) (.i 0), none, 100⟩,
  ⟨none, .pick 101 (.t 98) (.t 100) (.b false), none, 0⟩,
  ⟨none, .mv 102 (.t 101), none, 0⟩,
  ⟨some (102, true), .mv 103 (.t 9), none, 103⟩,
  ⟨none, .pick 104 (.t 102) (.t 103) (.b false), none, 0⟩,
  ⟨none, .mv 105 (.t 104), none, 0⟩,
  ⟨some (105, true), .mv 106 (.t 10), none, 106⟩,
  ⟨some (105, true), .bin 107 .eql (.t 106) (.i 5), none, 107⟩,
  ⟨none, .pick 108 (.t 105) (.t 107) (.b false), none, 0⟩,
  ⟨none, .mv 109 (.t 108), none, 0⟩,
  ⟨some (109, true), .mv 110 (.t 11), none, 110⟩,
  ⟨none, .pick 111 (.t 109) (.t 110) (.b false), none, 0⟩,
  ⟨none, .mv 112 (.t 111), none, 0⟩,
  ⟨some (112, true), .mv 113 (.t 12), none, 113⟩,
  ⟨some (112, true), .bin 114 .eql (.t 113) (.i 14), none, 114⟩,
  ⟨none, .pick 115 (.t 112) (.t 114) (.b false), none, 0⟩,
  ⟨none, .mv 116 (.t 115), none, 0⟩,
  ⟨some (116, true), .mv 117 (.t 13), none, 117⟩,
  ⟨none, .pick 118 (.t 116) (.t 117) (.b false), none, 0⟩,
  ⟨none, .mv 119 (.t 118), none, 0⟩,
  ⟨some (119, true), .mv 120 (.t 14), none, 120⟩,
  ⟨some (119, true), .bin 121 .eql (.t 120) (.i 0), none, 121⟩,
  ⟨none, .pick 122 (.t 119) (.t 121) (.b false), none, 0⟩,
  ⟨none, .mv 123 (.t 122), none, 0⟩,
  ⟨some (123, true), .mv 124 (.t 15), none, 124⟩,
  ⟨none, .pick 125 (.t 123) (.t 124) (.b false), none, 0⟩,
  ⟨none, .mv 126 (.t 125), none, 0⟩,
  ⟨some (126, true), .mv 127 (.t 17), none, 127⟩,
  ⟨some (126, true), .un 128 .not (.t 127), none, 128⟩,
  ⟨none, .pick 129 (.t 126) (.t 128) (.b false), none, 0⟩,
  ⟨none, .mv 130 (.t 129), none, 0⟩,
  ⟨some (130, true), .mv 131 (.t 19), none, 131⟩,
  ⟨some (130, true), .bin 132 .eql (.t 131) (.i 71), none, 132⟩,
  ⟨none, .pick 133 (.t 130) (.t 132) (.b false), none, 0⟩,
  ⟨none, .mv 134 (.t 133), none, 0⟩,
  ⟨some (134, true), .mv 135 (.t 21), none, 135⟩,
  ⟨some (134, true), .bin 136 .eql (.t 135) (.i 0), none, 136⟩,
  ⟨none, .pick 137 (.t 134) (.t 136) (.b false), none, 0⟩,
  ⟨none, .mv 138 (.t 137), none, 0⟩,
  ⟨some (138, true), .mv 139 (.t 22), none, 139⟩,
  ⟨none, .pick 140 (.t 138) (.t 139) (.b false), none, 0⟩,
  ⟨none, .mv 141 (.t 140), none, 0⟩,
  ⟨some (141, true), .nop, (some 23), 99999⟩,
  ⟨some (141, true), .ldR 143 23 1 none, none, 143⟩,
  ⟨some (141, true), .len 144 false (.t 143), none, 144⟩,
  ⟨some (141, true), .bin 145 .eql (.t 144) (.i 1), none, 145⟩,
  ⟨none, .pick 146 (.t 141) (.t 145) (.b false), none, 0⟩,
  ⟨none, .mv 147 (.t 146), none, 0⟩,
  ⟨some (147, true), .ldR 148 7 0 (some 2), none, 148⟩,
  ⟨some (147, true), .call 149 21 [(.t 148)], none, 149⟩,
  ⟨some (147, true), .bin 150 .eql (.t 149) (.i 0), none, 150⟩,
  ⟨none, .pick 151 (.t 147) (.t 150) (.b false), none, 0⟩,
  ⟨none, .mv 152 (.t 151), none, 0⟩,
  ⟨some (152, true), .bld 153 [(.int .i64 0), (.slice none 0 0)] [], none, 153⟩,
  ⟨some (152, true), .call 154 21 [(.t 153)], none, 154⟩,
  ⟨some (152, true), .bin 155 .eql (.t 154) (.i 1), none, 155⟩,
  ⟨none, .pick 156 (.t 152) (.t 155) (.b false), none, 0⟩,
  ⟨none, .mv 0 (.t 156), none, 0⟩]
def c12 : SC :=
  (.seq (.reg false c12r0)
  (.seq (.reg false c12r1)
  (.seq (.reg false c12r2)
  (.seq (.reg false c12r3)
  (.seq (.reg false c12r4)
  (.seq (.reg false c12r5)
  (.seq (.reg false c12r6)
  (.seq (.reg false c12r7)
  (.seq (.reg false c12r8)
  (.seq (.reg false c12r9)
  (.seq (.reg false c12r10)
  (.seq (.reg false c12r11)
  (.seq (.reg false c12r12)
  (.seq (.reg false c12r13)
  (.seq (.reg false c12r14)
  .ret)))))))))))))))
def v12 : List Nat × List Nat := ([1, 3, 5, 7, 18, 20, 23], [1, 3, 5, 7, 18, 20, 23, 142])
def o12 : List RS := [.t 0]
theorem s12 : slimC Try.prog Try.f12.ntmps v12.1 v12.2 ((Try.f12.body).getD .skip) = some c12 := by kernel_rfl
theorem q12 : slimR Try.prog Try.f12.ntmps v12.1 v12.2 Try.f12.results.toList = some o12 := by kernel_rfl
-- watermeet/watermeetref28.Few
def c13r0 : List SI := [
  ⟨none, .bxR 1 (.t 0), none, 0⟩,
  ⟨none, .mv 2 (.b false), none, 0⟩]
def c13r1 : List SI := [
  ⟨none, .nop, (some 1), 0⟩,
  ⟨none, .ldR 4 1 1 none, none, 0⟩,
  ⟨none, .len 5 false (.t 4), none, 0⟩,
  ⟨none, .bin 6 .leq (.t 5) (.i 200), none, 0⟩,
  ⟨none, .mv 7 (.t 6), none, 0⟩,
  ⟨some (7, false), .nop, (some 1), 99999⟩,
  ⟨some (7, false), .ldR 9 1 1 none, none, 9⟩,
  ⟨some (7, false), .len 10 false (.t 9), none, 10⟩,
  ⟨some (7, false), .bin 11 .gtr (.t 10) (.i 4096), none, 11⟩,
  ⟨none, .pick 12 (.t 7) (.b true) (.t 11), none, 0⟩,
  ⟨none, .mv 2 (.t 12), none, 0⟩]
def c13 : SC :=
  (.seq (.reg false c13r0)
  (.seq (.reg false c13r1)
  .ret))
def v13 : List Nat × List Nat := ([1], [1, 3, 8])
def o13 : List RS := [.t 2]
theorem s13 : slimC Try.prog Try.f13.ntmps v13.1 v13.2 ((Try.f13.body).getD .skip) = some c13 := by kernel_rfl
theorem q13 : slimR Try.prog Try.f13.ntmps v13.1 v13.2 Try.f13.results.toList = some o13 := by kernel_rfl
-- watermeet/carry.Add
def c14r0 : List SI := [
  ⟨none, .bxR 3 (.t 0), none, 0⟩,
  ⟨none, .alR 6 [(.int .i64 0), (.slice none 0 0)], none, 0⟩,
  ⟨none, .mv 7 (.i 0), none, 0⟩]
def c14r1 : List SI := [
  ⟨none, .ldR 12 3 0 (some 2), none, 0⟩,
  ⟨none, .call 13 21 [(.t 12)], none, 0⟩,
  ⟨none, .mv 8 (.t 13), none, 0⟩]
def c14r2 : List SI := [
  ⟨none, .mv 14 (.t 8), none, 0⟩,
  ⟨none, .bin 15 .neq (.t 14) (.i 0), none, 0⟩]
def c14r3 : List SI := [
  ⟨none, .bld 16 [(.int .i64 0), (.slice none 0 0)] [], none, 0⟩,
  ⟨none, .mv 17 (.t 8), none, 0⟩,
  ⟨none, .stR 6 0 2 (.t 16), none, 0⟩,
  ⟨none, .mv 7 (.t 17), none, 0⟩]
def c14r4 : List SI := [
  ⟨none, .mv 18 (.t 1), none, 0⟩,
  ⟨none, .mv 19 (.t 2), none, 0⟩,
  ⟨none, .bls 20 3 2 1 [(.int .i64 0), (.int .i64 0)] [(0, 1, (.t 18)), (1, 1, (.t 19))], none, 0⟩,
  ⟨none, .call 21 29 [(.t 20)], none, 0⟩,
  ⟨none, .un 22 .not (.t 21), none, 0⟩]
def c14r5 : List SI := [
  ⟨none, .bld 23 [(.int .i64 0), (.slice none 0 0)] [], none, 0⟩,
  ⟨none, .stR 6 0 2 (.t 23), none, 0⟩,
  ⟨none, .mv 7 (.i 1), none, 0⟩]
def c14r6 : List SI := [
  ⟨none, .nop, (some 3), 0⟩,
  ⟨none, .ldR 25 3 1 none, none, 0⟩,
  ⟨none, .app 26 (.v (.slice none 0 0)) (.t 25) 44 2 16, none, 0⟩,
  ⟨none, .mv 9 (.t 26), none, 0⟩]
def c14r7 : List SI := [
  ⟨none, .mv 27 (.t 9), none, 0⟩,
  ⟨none, .len 28 false (.t 27), none, 0⟩,
  ⟨none, .mv 10 (.t 28), none, 0⟩]
def c14r8 : List SI := [
  ⟨none, .mv 29 (.t 10), none, 0⟩,
  ⟨none, .bin 30 .gtr (.t 29) (.i 0), none, 0⟩]
def c14r9 : List SI := [
  ⟨none, .mv 31 (.t 9), none, 0⟩,
  ⟨none, .mv 32 (.t 10), none, 0⟩,
  ⟨none, .bin 33 .sub (.t 32) (.i 1), none, 0⟩,
  ⟨none, .ixA 34 (.t 31) (.t 33) 2, none, 0⟩,
  ⟨none, .ld 35 (.t 34) (some 2), none, 0⟩,
  ⟨none, .alR 11 [(.int .i64 0), (.int .i64 0)], none, 0⟩,
  ⟨none, .stR 11 0 2 (.t 35), none, 0⟩]
def c14r10 : List SI := [
  ⟨none, .mv 37 (.t 1), none, 0⟩,
  ⟨none, .nop, (some 11), 0⟩,
  ⟨none, .ldR 39 11 0 none, none, 0⟩,
  ⟨none, .bin 40 .lss (.t 37) (.t 39), none, 0⟩,
  ⟨none, .mv 41 (.t 40), none, 0⟩,
  ⟨some (41, false), .mv 42 (.t 2), none, 42⟩,
  ⟨some (41, false), .nop, (some 11), 99999⟩,
  ⟨some (41, false), .ldR 44 11 1 none, none, 44⟩,
  ⟨some (41, false), .bin 45 .lss (.t 42) (.t 44), none, 45⟩,
  ⟨none, .pick 46 (.t 41) (.b true) (.t 45), none, 0⟩,
  ⟨none, .mv 36 (.t 46), none, 0⟩]
def c14r11 : List SI := [
  ⟨none, .bld 47 [(.int .i64 0), (.slice none 0 0)] [], none, 0⟩,
  ⟨none, .stR 6 0 2 (.t 47), none, 0⟩,
  ⟨none, .mv 7 (.i 71), none, 0⟩]
def c14r12 : List SI := [
  ⟨none, .mv 49 (.t 1), none, 0⟩,
  ⟨none, .nop, (some 11), 0⟩,
  ⟨none, .ldR 51 11 0 none, none, 0⟩,
  ⟨none, .bin 52 .sub (.t 49) (.t 51), none, 0⟩,
  ⟨none, .nop, (some 3), 0⟩,
  ⟨none, .ldR 54 3 0 none, none, 0⟩,
  ⟨none, .bin 55 .lss (.t 52) (.t 54), none, 0⟩,
  ⟨none, .mv 56 (.t 55), none, 0⟩,
  ⟨some (56, false), .mv 57 (.t 2), none, 57⟩,
  ⟨some (56, false), .nop, (some 11), 99999⟩,
  ⟨some (56, false), .ldR 59 11 1 none, none, 59⟩,
  ⟨some (56, false), .bin 60 .eql (.t 57) (.t 59), none, 60⟩,
  ⟨none, .pick 61 (.t 56) (.b true) (.t 60), none, 0⟩,
  ⟨none, .mv 48 (.t 61), none, 0⟩]
def c14r13 : List SI := [
  ⟨none, .nop, (some 3), 0⟩,
  ⟨none, .ldR 63 3 0 none, none, 0⟩,
  ⟨none, .mv 64 (.t 9), none, 0⟩,
  ⟨none, .bld 65 [(.int .i64 0), (.slice none 0 0)] [(0, 1, (.t 63)), (1, 1, (.t 64))], none, 0⟩,
  ⟨none, .stR 6 0 2 (.t 65), none, 0⟩,
  ⟨none, .mv 7 (.i 0), none, 0⟩]
def c14r14 : List SI := [
  ⟨none, .mv 67 (.t 10), none, 0⟩,
  ⟨none, .bin 68 .geq (.t 67) (.i 4096), none, 0⟩,
  ⟨none, .mv 66 (.t 68), none, 0⟩]
def c14r15 : List SI := [
  ⟨none, .bld 69 [(.int .i64 0), (.slice none 0 0)] [], none, 0⟩,
  ⟨none, .stR 6 0 2 (.t 69), none, 0⟩,
  ⟨none, .mv 7 (.i 2), none, 0⟩]
def c14r16 : List (Bool × SI) := [
  (true, ⟨none, .nop, (some 3), 0⟩),
  (true, ⟨none, .ldR 71 3 0 none, none, 0⟩),
  (true, ⟨none, .mv 72 (.t 9), none, 0⟩),
  (true, ⟨none, .mv 73 (.t 1), none, 0⟩),
  (true, ⟨none, .mv 74 (.t 2), none, 0⟩),
  (true, ⟨none, .bld 75 [(.int .i64 0), (.int .i64 0)] [(0, 1, (.t 73)), (1, 1, (.t 74))], none, 0⟩),
  (false, ⟨none, .bls 76 44 1 2 [(.int .i64 0), (.int .i64 0)] [(0, 2, (.t 75))], none, 0⟩),
  (false, ⟨none, .app 77 (.t 72) (.t 76) 44 2 16, none, 0⟩),
  (true, ⟨none, .bld 78 [(.int .i64 0), (.slice none 0 0)] [(0, 1, (.t 71)), (1, 1, (.t 77))], none, 0⟩)]
def c14r17 : List SI := [
  ⟨none, .stR 6 0 2 (.t 78), none, 0⟩,
  ⟨none, .mv 7 (.i 0), none, 0⟩]
def c14 : SC :=
  (.seq (.reg false c14r0)
  (.seq (.seq (.reg false c14r1)
  (.seq (.reg false c14r2)
  (.cond (.t 15)
   (.seq (.reg false c14r3)
   .ret)
   .skip)))
  (.seq (.seq (.reg false c14r4)
  (.cond (.t 22)
   (.seq (.reg false c14r5)
   .ret)
   .skip))
  (.seq (.reg false c14r6)
  (.seq (.seq (.reg false c14r7)
  (.seq (.reg false c14r8)
  (.cond (.t 30)
   (.seq (.reg false c14r9)
   (.blk 0 (.seq (.reg false c14r10)
    (.cond (.t 36)
     (.seq (.reg false c14r11)
     .ret)
     (.seq (.reg false c14r12)
     (.cond (.t 48)
      (.seq (.reg false c14r13)
      .ret)
      (.seq (.reg false c14r14)
      (.cond (.t 66)
       (.seq (.reg false c14r15)
       .ret)
       .skip))))))))
   .skip)))
  (.seq (.rgY c14r16 c14r17)
  .ret))))))
def v14 : List Nat × List Nat := ([3, 6, 11], [3, 6, 11, 24, 38, 43, 50, 53, 58, 62, 70])
def o14 : List RS := [.r 6 (some 2), .t 7]
theorem s14 : slimC Try.prog Try.f14.ntmps v14.1 v14.2 ((Try.f14.body).getD .skip) = some c14 := by kernel_rfl
theorem q14 : slimR Try.prog Try.f14.ntmps v14.1 v14.2 Try.f14.results.toList = some o14 := by kernel_rfl
-- watermeet/watermeetref28.Add
def c15r0 : List SI := [
  ⟨none, .bxR 3 (.t 0), none, 0⟩,
  ⟨none, .alR 6 [(.int .i64 0), (.slice none 0 0)], none, 0⟩,
  ⟨none, .mv 7 (.i 0), none, 0⟩]
def c15r1 : List SI := [
  ⟨none, .ldR 12 3 0 (some 2), none, 0⟩,
  ⟨none, .call 13 22 [(.t 12)], none, 0⟩,
  ⟨none, .mv 8 (.t 13), none, 0⟩]
def c15r2 : List SI := [
  ⟨none, .mv 14 (.t 8), none, 0⟩,
  ⟨none, .bin 15 .neq (.t 14) (.i 0), none, 0⟩]
def c15r3 : List SI := [
  ⟨none, .bld 16 [(.int .i64 0), (.slice none 0 0)] [], none, 0⟩,
  ⟨none, .mv 17 (.t 8), none, 0⟩,
  ⟨none, .stR 6 0 2 (.t 16), none, 0⟩,
  ⟨none, .mv 7 (.t 17), none, 0⟩]
def c15r4 : List SI := [
  ⟨none, .mv 18 (.t 1), none, 0⟩,
  ⟨none, .bin 19 .lss (.t 18) (.i 0), none, 0⟩,
  ⟨none, .mv 20 (.t 19), none, 0⟩,
  ⟨some (20, false), .mv 21 (.t 1), none, 21⟩,
  ⟨some (20, false), .bin 22 .gtr (.t 21) (.i 1099511627776), none, 22⟩,
  ⟨none, .pick 23 (.t 20) (.b true) (.t 22), none, 0⟩,
  ⟨none, .mv 24 (.t 23), none, 0⟩,
  ⟨some (24, false), .mv 25 (.t 2), none, 25⟩,
  ⟨some (24, false), .bin 26 .lss (.t 25) (.i 0), none, 26⟩,
  ⟨none, .pick 27 (.t 24) (.b true) (.t 26), none, 0⟩,
  ⟨none, .mv 28 (.t 27), none, 0⟩,
  ⟨some (28, false), .mv 29 (.t 2), none, 29⟩,
  ⟨some (28, false), .bin 30 .gtr (.t 29) (.i 1099511627776), none, 30⟩,
  ⟨none, .pick 31 (.t 28) (.b true) (.t 30), none, 0⟩]
def c15r5 : List SI := [
  ⟨none, .bld 32 [(.int .i64 0), (.slice none 0 0)] [], none, 0⟩,
  ⟨none, .stR 6 0 2 (.t 32), none, 0⟩,
  ⟨none, .mv 7 (.i 1), none, 0⟩]
def c15r6 : List SI := [
  ⟨none, .ldR 33 3 0 (some 2), none, 0⟩,
  ⟨none, .call 34 30 [(.t 33)], none, 0⟩,
  ⟨none, .alR 9 [(.int .i64 0), (.slice none 0 0)], none, 0⟩,
  ⟨none, .stR 9 0 2 (.t 34), none, 0⟩]
def c15r7 : List SI := [
  ⟨none, .nop, (some 3), 0⟩,
  ⟨none, .ldR 36 3 1 none, none, 0⟩,
  ⟨none, .len 37 false (.t 36), none, 0⟩,
  ⟨none, .mv 10 (.t 37), none, 0⟩]
def c15r8 : List SI := [
  ⟨none, .mv 38 (.t 10), none, 0⟩,
  ⟨none, .bin 39 .gtr (.t 38) (.i 0), none, 0⟩]
def c15r9 : List SI := [
  ⟨none, .nop, (some 3), 0⟩,
  ⟨none, .ldR 41 3 1 none, none, 0⟩,
  ⟨none, .mv 42 (.t 10), none, 0⟩,
  ⟨none, .bin 43 .sub (.t 42) (.i 1), none, 0⟩,
  ⟨none, .ixA 44 (.t 41) (.t 43) 2, none, 0⟩,
  ⟨none, .ld 45 (.t 44) (some 2), none, 0⟩,
  ⟨none, .alR 11 [(.int .i64 0), (.int .i64 0)], none, 0⟩,
  ⟨none, .stR 11 0 2 (.t 45), none, 0⟩]
def c15r10 : List SI := [
  ⟨none, .mv 46 (.t 1), none, 0⟩,
  ⟨none, .nop, (some 11), 0⟩,
  ⟨none, .ldR 48 11 0 none, none, 0⟩,
  ⟨none, .bin 49 .lss (.t 46) (.t 48), none, 0⟩,
  ⟨none, .mv 50 (.t 49), none, 0⟩,
  ⟨some (50, false), .mv 51 (.t 2), none, 51⟩,
  ⟨some (50, false), .nop, (some 11), 99999⟩,
  ⟨some (50, false), .ldR 53 11 1 none, none, 53⟩,
  ⟨some (50, false), .bin 54 .lss (.t 51) (.t 53), none, 54⟩,
  ⟨none, .pick 55 (.t 50) (.b true) (.t 54), none, 0⟩]
def c15r11 : List SI := [
  ⟨none, .bld 56 [(.int .i64 0), (.slice none 0 0)] [], none, 0⟩,
  ⟨none, .stR 6 0 2 (.t 56), none, 0⟩,
  ⟨none, .mv 7 (.i 71), none, 0⟩]
def c15r12 : List SI := [
  ⟨none, .mv 57 (.t 1), none, 0⟩,
  ⟨none, .nop, (some 11), 0⟩,
  ⟨none, .ldR 59 11 0 none, none, 0⟩,
  ⟨none, .nop, (some 3), 0⟩,
  ⟨none, .ldR 61 3 0 none, none, 0⟩,
  ⟨none, .bin 62 .add (.t 59) (.t 61), none, 0⟩,
  ⟨none, .bin 63 .lss (.t 57) (.t 62), none, 0⟩,
  ⟨none, .mv 64 (.t 63), none, 0⟩,
  ⟨some (64, false), .mv 65 (.t 2), none, 65⟩,
  ⟨some (64, false), .nop, (some 11), 99999⟩,
  ⟨some (64, false), .ldR 67 11 1 none, none, 67⟩,
  ⟨some (64, false), .bin 68 .eql (.t 65) (.t 67), none, 68⟩,
  ⟨none, .pick 69 (.t 64) (.b true) (.t 68), none, 0⟩]
def c15r13 : List SI := [
  ⟨none, .ldR 70 9 0 (some 2), none, 0⟩,
  ⟨none, .stR 6 0 2 (.t 70), none, 0⟩,
  ⟨none, .mv 7 (.i 0), none, 0⟩]
def c15r14 : List SI := [
  ⟨none, .mv 71 (.t 10), none, 0⟩,
  ⟨none, .bin 72 .geq (.t 71) (.i 4096), none, 0⟩]
def c15r15 : List SI := [
  ⟨none, .bld 73 [(.int .i64 0), (.slice none 0 0)] [], none, 0⟩,
  ⟨none, .stR 6 0 2 (.t 73), none, 0⟩,
  ⟨none, .mv 7 (.i 2), none, 0⟩]
def c15r16 : List SI := [
  ⟨none, .nop, (some 9), 0⟩,
  ⟨none, .ldR 75 9 1 none, none, 0⟩,
  ⟨none, .mv 76 (.t 1), none, 0⟩,
  ⟨none, .mv 77 (.t 2), none, 0⟩,
  ⟨none, .bld 78 [(.int .i64 0), (.int .i64 0)] [(0, 1, (.t 76)), (1, 1, (.t 77))], none, 0⟩,
  ⟨none, .bls 79 44 1 2 [(.int .i64 0), (.int .i64 0)] [(0, 2, (.t 78))], none, 0⟩,
  ⟨none, .app 80 (.t 75) (.t 79) 44 2 16, none, 0⟩,
  ⟨none, .nop, (some 9), 0⟩,
  ⟨none, .stR 9 1 1 (.t 80), none, 0⟩]
def c15r17 : List SI := [
  ⟨none, .ldR 82 9 0 (some 2), none, 0⟩,
  ⟨none, .stR 6 0 2 (.t 82), none, 0⟩,
  ⟨none, .mv 7 (.i 0), none, 0⟩]
def c15 : SC :=
  (.seq (.reg false c15r0)
  (.seq (.reg false c15r1)
  (.seq (.seq (.reg false c15r2)
  (.cond (.t 15)
   (.seq (.reg false c15r3)
   .ret)
   .skip))
  (.seq (.seq (.reg false c15r4)
  (.cond (.t 31)
   (.seq (.reg false c15r5)
   .ret)
   .skip))
  (.seq (.reg false c15r6)
  (.seq (.reg false c15r7)
  (.seq (.seq (.reg false c15r8)
  (.cond (.t 39)
   (.seq (.reg false c15r9)
   (.seq (.seq (.reg false c15r10)
   (.cond (.t 55)
    (.seq (.reg false c15r11)
    .ret)
    .skip))
   (.seq (.reg false c15r12)
   (.cond (.t 69)
    (.seq (.reg false c15r13)
    .ret)
    .skip))))
   .skip))
  (.seq (.seq (.reg false c15r14)
  (.cond (.t 72)
   (.seq (.reg false c15r15)
   .ret)
   .skip))
  (.seq (.reg false c15r16)
  (.seq (.reg false c15r17)
  .ret))))))))))
def v15 : List Nat × List Nat := ([3, 6, 9, 11], [3, 6, 9, 11, 35, 40, 47, 52, 58, 60, 66, 74, 81])
def o15 : List RS := [.r 6 (some 2), .t 7]
theorem s15 : slimC Try.prog Try.f15.ntmps v15.1 v15.2 ((Try.f15.body).getD .skip) = some c15 := by kernel_rfl
theorem q15 : slimR Try.prog Try.f15.ntmps v15.1 v15.2 Try.f15.results.toList = some o15 := by kernel_rfl
-- watermeet/carry.New
def c16r0 : List SI := [
  ⟨none, .alR 2 [(.int .i64 0), (.slice none 0 0)], none, 0⟩,
  ⟨none, .mv 3 (.i 0), none, 0⟩]
def c16r1 : List SI := [
  ⟨none, .mv 6 (.t 0), none, 0⟩,
  ⟨none, .bld 7 [(.int .i64 0), (.slice none 0 0)] [(0, 1, (.t 6))], none, 0⟩,
  ⟨none, .alR 4 [(.int .i64 0), (.slice none 0 0)], none, 0⟩,
  ⟨none, .stR 4 0 2 (.t 7), none, 0⟩]
def c16r2 : List SI := [
  ⟨none, .ldR 8 4 0 (some 2), none, 0⟩,
  ⟨none, .call 9 21 [(.t 8)], none, 0⟩,
  ⟨none, .mv 5 (.t 9), none, 0⟩]
def c16r3 : List SI := [
  ⟨none, .mv 10 (.t 5), none, 0⟩,
  ⟨none, .bin 11 .neq (.t 10) (.i 0), none, 0⟩]
def c16r4 : List SI := [
  ⟨none, .bld 12 [(.int .i64 0), (.slice none 0 0)] [], none, 0⟩,
  ⟨none, .mv 13 (.t 5), none, 0⟩,
  ⟨none, .stR 2 0 2 (.t 12), none, 0⟩,
  ⟨none, .mv 3 (.t 13), none, 0⟩]
def c16r5 : List SI := [
  ⟨none, .ldR 14 4 0 (some 2), none, 0⟩,
  ⟨none, .stR 2 0 2 (.t 14), none, 0⟩,
  ⟨none, .mv 3 (.i 0), none, 0⟩]
def c16 : SC :=
  (.seq (.reg false c16r0)
  (.seq (.reg false c16r1)
  (.seq (.seq (.reg false c16r2)
  (.seq (.reg false c16r3)
  (.cond (.t 11)
   (.seq (.reg false c16r4)
   .ret)
   .skip)))
  (.seq (.reg false c16r5)
  .ret))))
def v16 : List Nat × List Nat := ([2, 4], [2, 4])
def o16 : List RS := [.r 2 (some 2), .t 3]
theorem s16 : slimC Try.prog Try.f16.ntmps v16.1 v16.2 ((Try.f16.body).getD .skip) = some c16 := by kernel_rfl
theorem q16 : slimR Try.prog Try.f16.ntmps v16.1 v16.2 Try.f16.results.toList = some o16 := by kernel_rfl
-- watermeet/watermeetref28.New
def c17r0 : List SI := [
  ⟨none, .alR 2 [(.int .i64 0), (.slice none 0 0)], none, 0⟩,
  ⟨none, .mv 3 (.i 0), none, 0⟩]
def c17r1 : List SI := [
  ⟨none, .mv 4 (.t 0), none, 0⟩,
  ⟨none, .bin 5 .lss (.t 4) (.i 1), none, 0⟩,
  ⟨none, .mv 6 (.t 5), none, 0⟩,
  ⟨some (6, false), .mv 7 (.t 0), none, 7⟩,
  ⟨some (6, false), .bin 8 .gtr (.t 7) (.i 1048576), none, 8⟩,
  ⟨none, .pick 9 (.t 6) (.b true) (.t 8), none, 0⟩]
def c17r2 : List SI := [
  ⟨none, .bld 10 [(.int .i64 0), (.slice none 0 0)] [], none, 0⟩,
  ⟨none, .stR 2 0 2 (.t 10), none, 0⟩,
  ⟨none, .mv 3 (.i 1), none, 0⟩]
def c17r3 : List SI := [
  ⟨none, .mv 11 (.t 0), none, 0⟩,
  ⟨none, .bld 12 [(.int .i64 0), (.slice none 0 0)] [(0, 1, (.t 11))], none, 0⟩,
  ⟨none, .stR 2 0 2 (.t 12), none, 0⟩,
  ⟨none, .mv 3 (.i 0), none, 0⟩]
def c17 : SC :=
  (.seq (.reg false c17r0)
  (.seq (.seq (.reg false c17r1)
  (.cond (.t 9)
   (.seq (.reg false c17r2)
   .ret)
   .skip))
  (.seq (.reg false c17r3)
  .ret)))
def v17 : List Nat × List Nat := ([2], [2])
def o17 : List RS := [.r 2 (some 2), .t 3]
theorem s17 : slimC Try.prog Try.f17.ntmps v17.1 v17.2 ((Try.f17.body).getD .skip) = some c17 := by kernel_rfl
theorem q17 : slimR Try.prog Try.f17.ntmps v17.1 v17.2 Try.f17.results.toList = some o17 := by kernel_rfl
-- watermeet/watermeetref28.Same
def c18r0 : List SI := [
  ⟨none, .bxR 2 (.t 0), none, 0⟩,
  ⟨none, .bxR 3 (.t 1), none, 0⟩,
  ⟨none, .mv 4 (.b false), none, 0⟩]
def c18r1 : List SI := [
  ⟨none, .nop, (some 2), 0⟩,
  ⟨none, .ldR 7 2 0 none, none, 0⟩,
  ⟨none, .nop, (some 3), 0⟩,
  ⟨none, .ldR 9 3 0 none, none, 0⟩,
  ⟨none, .bin 10 .neq (.t 7) (.t 9), none, 0⟩,
  ⟨none, .mv 11 (.t 10), none, 0⟩,
  ⟨some (11, false), .nop, (some 2), 99999⟩,
  ⟨some (11, false), .ldR 13 2 1 none, none, 13⟩,
  ⟨some (11, false), .len 14 false (.t 13), none, 14⟩,
  ⟨some (11, false), .nop, (some 3), 99999⟩,
  ⟨some (11, false), .ldR 16 3 1 none, none, 16⟩,
  ⟨some (11, false), .len 17 false (.t 16), none, 17⟩,
  ⟨some (11, false), .bin 18 .neq (.t 14) (.t 17), none, 18⟩,
  ⟨none, .pick 19 (.t 11) (.b true) (.t 18), none, 0⟩]
def c18r2 : List SI := [
  ⟨none, .mv 4 (.b false), none, 0⟩]
def c18r3 : List SI := [
  ⟨none, .mv 5 (.i 0), none, 0⟩]
def c18r4 : List SI := [
  ⟨none, .mv 20 (.t 5), none, 0⟩,
  ⟨none, .nop, (some 2), 0⟩,
  ⟨none, .ldR 22 2 1 none, none, 0⟩,
  ⟨none, .len 23 false (.t 22), none, 0⟩,
  ⟨none, .bin 24 .lss (.t 20) (.t 23), none, 0⟩]
def c18r5 : List SI := [
  ⟨none, .nop, (some 2), 0⟩,
  ⟨none, .ldR 28 2 1 none, none, 0⟩,
  ⟨none, .mv 29 (.t 5), none, 0⟩,
  ⟨none, .ixA 30 (.t 28) (.t 29) 2, none, 0⟩,
  ⟨none, .ld 31 (.t 30) (some 2), none, 0⟩,
  ⟨none, .nop, (some 3), 0⟩,
  ⟨none, .ldR 33 3 1 none, none, 0⟩,
  ⟨none, .mv 34 (.t 5), none, 0⟩,
  ⟨none, .ixA 35 (.t 33) (.t 34) 2, none, 0⟩,
  ⟨none, .ld 36 (.t 35) (some 2), none, 0⟩,
  ⟨none, .eqf 37 true [0, 0] (.t 31) (.t 36), none, 0⟩]
def c18r6 : List SI := [
  ⟨none, .mv 4 (.b false), none, 0⟩]
def c18r7 : List SI := [
  ⟨none, .mv 25 (.t 5), none, 0⟩,
  ⟨none, .bin 26 .add (.t 25) (.i 1), none, 0⟩,
  ⟨none, .mv 5 (.t 26), none, 0⟩]
def c18r8 : List SI := [
  ⟨none, .mv 4 (.b true), none, 0⟩]
def c18 : SC :=
  (.seq (.reg false c18r0)
  (.seq (.seq (.reg false c18r1)
  (.cond (.t 19)
   (.seq (.reg false c18r2)
   .ret)
   .skip))
  (.seq (.seq (.reg false c18r3)
  (.blk 0 (.loop (.seq (.seq (.reg false c18r4)
    (.cond (.t 24)
     .skip
     (.exit 0)))
    (.seq (.blk 1 (.seq (.reg true c18r5)
     (.cond (.t 37)
      (.seq (.reg false c18r6)
      .ret)
      .skip)))
    (.reg false c18r7))))))
  (.seq (.reg false c18r8)
  .ret))))
def v18 : List Nat × List Nat := ([2, 3], [2, 3, 6, 8, 12, 15, 21, 27, 32])
def o18 : List RS := [.t 4]
theorem s18 : slimC Try.prog Try.f18.ntmps v18.1 v18.2 ((Try.f18.body).getD .skip) = some c18 := by kernel_rfl
theorem q18 : slimR Try.prog Try.f18.ntmps v18.1 v18.2 Try.f18.results.toList = some o18 := by kernel_rfl
-- watermeet/carry.Trim
def c19r0 : List SI := [
  ⟨none, .bxR 2 (.t 0), none, 0⟩,
  ⟨none, .alR 4 [(.int .i64 0), (.slice none 0 0)], none, 0⟩]
def c19r1 : List SI := [
  ⟨none, .ldR 6 2 0 (some 2), none, 0⟩,
  ⟨none, .call 7 21 [(.t 6)], none, 0⟩,
  ⟨none, .bin 8 .neq (.t 7) (.i 0), none, 0⟩]
def c19r2 : List SI := [
  ⟨none, .bld 9 [(.int .i64 0), (.slice none 0 0)] [], none, 0⟩,
  ⟨none, .stR 4 0 2 (.t 9), none, 0⟩]
def c19r3 : List SI := [
  ⟨none, .nop, (some 2), 0⟩,
  ⟨none, .ldR 11 2 1 none, none, 0⟩,
  ⟨none, .bld 12 [(.bool false)] [(0, 1, (.b true))], none, 0⟩,
  ⟨none, .mv 13 (.t 1), none, 0⟩,
  ⟨none, .call 14 31 [(.t 11), (.t 12), (.t 13), (.v (.func (.func 32) #[] #[]))], none, 0⟩,
  ⟨none, .mm 15 true (.i 0) (.t 14), none, 0⟩,
  ⟨none, .mv 5 (.t 15), none, 0⟩]
def c19r4 : List (Bool × SI) := [
  (true, ⟨none, .nop, (some 2), 0⟩),
  (true, ⟨none, .ldR 17 2 0 none, none, 0⟩),
  (true, ⟨none, .nop, (some 2), 0⟩),
  (true, ⟨none, .ldR 19 2 1 none, none, 0⟩),
  (true, ⟨none, .mv 20 (.t 5), none, 0⟩),
  (true, ⟨none, .sl 21 (.t 19) (some (.t 20)) none none 2, none, 0⟩),
  (false, ⟨none, .app 22 (.v (.slice none 0 0)) (.t 21) 44 2 16, none, 0⟩),
  (true, ⟨none, .bld 23 [(.int .i64 0), (.slice none 0 0)] [(0, 1, (.t 17)), (1, 1, (.t 22))], none, 0⟩)]
def c19r5 : List SI := [
  ⟨none, .stR 4 0 2 (.t 23), none, 0⟩]
def c19 : SC :=
  (.seq (.reg false c19r0)
  (.seq (.seq (.reg false c19r1)
  (.cond (.t 8)
   (.seq (.reg false c19r2)
   .ret)
   .skip))
  (.seq (.reg false c19r3)
  (.seq (.rgY c19r4 c19r5)
  .ret))))
def v19 : List Nat × List Nat := ([2, 4], [2, 4, 10, 16, 18])
def o19 : List RS := [.r 4 (some 2)]
theorem s19 : slimC Try.prog Try.f19.ntmps v19.1 v19.2 ((Try.f19.body).getD .skip) = some c19 := by kernel_rfl
theorem q19 : slimR Try.prog Try.f19.ntmps v19.1 v19.2 Try.f19.results.toList = some o19 := by kernel_rfl
-- watermeet/watermeetref28.Trim
def c20r0 : List SI := [
  ⟨none, .bxR 2 (.t 0), none, 0⟩,
  ⟨none, .alR 4 [(.int .i64 0), (.slice none 0 0)], none, 0⟩]
def c20r1 : List SI := [
  ⟨none, .ldR 7 2 0 (some 2), none, 0⟩,
  ⟨none, .call 8 22 [(.t 7)], none, 0⟩,
  ⟨none, .bin 9 .neq (.t 8) (.i 0), none, 0⟩]
def c20r2 : List SI := [
  ⟨none, .bld 10 [(.int .i64 0), (.slice none 0 0)] [], none, 0⟩,
  ⟨none, .stR 4 0 2 (.t 10), none, 0⟩]
def c20r3 : List SI := [
  ⟨none, .mv 5 (.i 0), none, 0⟩]
def c20r4 : List SI := [
  ⟨none, .mv 6 (.i 0), none, 0⟩]
def c20r5 : List SI := [
  ⟨none, .mv 11 (.t 6), none, 0⟩,
  ⟨none, .nop, (some 2), 0⟩,
  ⟨none, .ldR 13 2 1 none, none, 0⟩,
  ⟨none, .len 14 false (.t 13), none, 0⟩,
  ⟨none, .bin 15 .lss (.t 11) (.t 14), none, 0⟩]
def c20r6 : List SI := [
  ⟨none, .nop, (some 2), 0⟩,
  ⟨none, .ldR 19 2 1 none, none, 0⟩,
  ⟨none, .mv 20 (.t 6), none, 0⟩,
  ⟨none, .ixA 21 (.t 19) (.t 20) 2, none, 0⟩,
  ⟨none, .flA 22 (.t 21) 0, none, 0⟩,
  ⟨none, .ld 23 (.t 22) none, none, 0⟩,
  ⟨none, .mv 24 (.t 1), none, 0⟩,
  ⟨none, .bin 25 .leq (.t 23) (.t 24), none, 0⟩]
def c20r7 : List SI := [
  ⟨none, .mv 26 (.t 6), none, 0⟩,
  ⟨none, .mv 5 (.t 26), none, 0⟩]
def c20r8 : List SI := [
  ⟨none, .mv 16 (.t 6), none, 0⟩,
  ⟨none, .bin 17 .add (.t 16) (.i 1), none, 0⟩,
  ⟨none, .mv 6 (.t 17), none, 0⟩]
def c20r9 : List (Bool × SI) := [
  (true, ⟨none, .nop, (some 2), 0⟩),
  (true, ⟨none, .ldR 28 2 0 none, none, 0⟩),
  (true, ⟨none, .nop, (some 2), 0⟩),
  (true, ⟨none, .ldR 31 2 1 none, none, 0⟩),
  (true, ⟨none, .mv 32 (.t 5), none, 0⟩),
  (true, ⟨none, .sl 33 (.t 31) (some (.t 32)) none none 2, none, 0⟩),
  (false, ⟨none, .bl0 29, none, 0⟩),
  (false, ⟨none, .app 34 (.t 29) (.t 33) 44 2 16, none, 0⟩),
  (true, ⟨none, .bld 35 [(.int .i64 0), (.slice none 0 0)] [(0, 1, (.t 28)), (1, 1, (.t 34))], none, 0⟩)]
def c20r10 : List SI := [
  ⟨none, .stR 4 0 2 (.t 35), none, 0⟩]
def c20 : SC :=
  (.seq (.reg false c20r0)
  (.seq (.seq (.reg false c20r1)
  (.cond (.t 9)
   (.seq (.reg false c20r2)
   .ret)
   .skip))
  (.seq (.reg false c20r3)
  (.seq (.seq (.reg false c20r4)
  (.blk 0 (.loop (.seq (.seq (.reg false c20r5)
    (.cond (.t 15)
     .skip
     (.exit 0)))
    (.seq (.blk 1 (.seq (.reg false c20r6)
     (.cond (.t 25)
      (.reg false c20r7)
      .skip)))
    (.reg false c20r8))))))
  (.seq (.rgY c20r9 c20r10)
  .ret)))))
def v20 : List Nat × List Nat := ([2, 4], [2, 4, 12, 18, 27, 30])
def o20 : List RS := [.r 4 (some 2)]
theorem s20 : slimC Try.prog Try.f20.ntmps v20.1 v20.2 ((Try.f20.body).getD .skip) = some c20 := by kernel_rfl
theorem q20 : slimR Try.prog Try.f20.ntmps v20.1 v20.2 Try.f20.results.toList = some o20 := by kernel_rfl
-- watermeet/carry.Check
def c21r0 : List SI := [
  ⟨none, .bxR 1 (.t 0), none, 0⟩,
  ⟨none, .mv 2 (.i 0), none, 0⟩]
def c21r1 : List SI := [
  ⟨none, .nop, (some 1), 0⟩,
  ⟨none, .ldR 7 1 1 none, none, 0⟩,
  ⟨none, .len 8 false (.t 7), none, 0⟩,
  ⟨none, .bin 9 .gtr (.t 8) (.i 4096), none, 0⟩]
def c21r2 : List SI := [
  ⟨none, .mv 2 (.i 2), none, 0⟩]
def c21r3 : List SI := [
  ⟨none, .bld 10 [(.int .i64 0), (.int .i64 0)] [(0, 1, (.i (-1))), (1, 1, (.i (-1)))], none, 0⟩,
  ⟨none, .alR 3 [(.int .i64 0), (.int .i64 0)], none, 0⟩,
  ⟨none, .stR 3 0 2 (.t 10), none, 0⟩]
def c21r4 : List SI := [
  ⟨none, .nop, (some 1), 0⟩,
  ⟨none, .ldR 12 1 1 none, none, 0⟩,
  ⟨none, .len 13 false (.t 12), none, 0⟩,
  ⟨none, .mv 14 (.i 0), none, 0⟩]
def c21r5 : List SI := [
  ⟨none, .bin 15 .lss (.t 14) (.t 13), none, 0⟩]
def c21r6 : List SI := [
  ⟨none, .ixA 16 (.t 12) (.t 14) 2, none, 0⟩,
  ⟨none, .ld 17 (.t 16) (some 2), none, 0⟩,
  ⟨none, .alR 5 [(.int .i64 0), (.int .i64 0)], none, 0⟩,
  ⟨none, .stR 5 0 2 (.t 17), none, 0⟩]
def c21r7 : List SI := [
  ⟨none, .nop, (some 5), 0⟩,
  ⟨none, .ldR 19 5 0 none, none, 0⟩,
  ⟨none, .nop, (some 3), 0⟩,
  ⟨none, .ldR 21 3 0 none, none, 0⟩,
  ⟨none, .bin 22 .leq (.t 19) (.t 21), none, 0⟩,
  ⟨none, .mv 23 (.t 22), none, 0⟩,
  ⟨some (23, false), .nop, (some 5), 99999⟩,
  ⟨some (23, false), .ldR 25 5 1 none, none, 25⟩,
  ⟨some (23, false), .nop, (some 3), 99999⟩,
  ⟨some (23, false), .ldR 27 3 1 none, none, 27⟩,
  ⟨some (23, false), .bin 28 .leq (.t 25) (.t 27), none, 28⟩,
  ⟨none, .pick 29 (.t 23) (.b true) (.t 28), none, 0⟩,
  ⟨none, .mv 30 (.t 29), none, 0⟩,
  ⟨some (30, false), .nop, (some 5), 99999⟩,
  ⟨some (30, false), .ldR 32 5 0 none, none, 32⟩,
  ⟨some (30, false), .nop, (some 5), 99999⟩,
  ⟨some (30, false), .ldR 34 5 1 none, none, 34⟩,
  ⟨some (30, false), .bls 35 3 2 1 [(.int .i64 0), (.int .i64 0)] [(0, 1, (.t 32)), (1, 1, (.t 34))], none, 35⟩,
  ⟨some (30, false), .call 36 29 [(.t 35)], none, 36⟩,
  ⟨some (30, false), .un 37 .not (.t 36), none, 37⟩,
  ⟨none, .pick 38 (.t 30) (.b true) (.t 37), none, 0⟩]
def c21r8 : List SI := [
  ⟨none, .mv 2 (.i 1), none, 0⟩]
def c21r9 : List SI := [
  ⟨none, .ldR 39 5 0 (some 2), none, 0⟩,
  ⟨none, .stR 3 0 2 (.t 39), none, 0⟩]
def c21r10 : List SI := [
  ⟨none, .bin 40 .add (.t 14) (.i 1), none, 0⟩,
  ⟨none, .mv 14 (.t 40), none, 0⟩]
def c21r11 : List SI := [
  ⟨none, .nop, (some 1), 0⟩,
  ⟨none, .ldR 42 1 0 none, none, 0⟩,
  ⟨none, .bin 43 .lss (.t 42) (.i 1), none, 0⟩,
  ⟨none, .mv 44 (.t 43), none, 0⟩,
  ⟨some (44, false), .nop, (some 1), 99999⟩,
  ⟨some (44, false), .ldR 46 1 0 none, none, 46⟩,
  ⟨some (44, false), .bin 47 .gtr (.t 46) (.i 1048576), none, 47⟩,
  ⟨none, .pick 48 (.t 44) (.b true) (.t 47), none, 0⟩]
def c21r12 : List SI := [
  ⟨none, .mv 2 (.i 1), none, 0⟩]
def c21r13 : List SI := [
  ⟨none, .mv 2 (.i 0), none, 0⟩]
def c21 : SC :=
  (.seq (.reg false c21r0)
  (.seq (.seq (.reg false c21r1)
  (.cond (.t 9)
   (.seq (.reg false c21r2)
   .ret)
   .skip))
  (.seq (.reg false c21r3)
  (.seq (.seq (.reg false c21r4)
  (.blk 0 (.loop (.seq (.reg false c21r5)
    (.seq (.cond (.t 15)
     .skip
     (.exit 0))
    (.seq (.blk 1 (.seq (.reg false c21r6)
     (.seq (.seq (.reg false c21r7)
     (.cond (.t 38)
      (.seq (.reg false c21r8)
      .ret)
      .skip))
     (.reg false c21r9))))
    (.reg false c21r10)))))))
  (.seq (.seq (.reg false c21r11)
  (.cond (.t 48)
   (.seq (.reg false c21r12)
   .ret)
   .skip))
  (.seq (.reg false c21r13)
  .ret))))))
def v21 : List Nat × List Nat := ([1, 3, 5], [1, 3, 5, 6, 11, 18, 20, 24, 26, 31, 33, 41, 45])
def o21 : List RS := [.t 2]
theorem s21 : slimC Try.prog Try.f21.ntmps v21.1 v21.2 ((Try.f21.body).getD .skip) = some c21 := by kernel_rfl
theorem q21 : slimR Try.prog Try.f21.ntmps v21.1 v21.2 Try.f21.results.toList = some o21 := by kernel_rfl
-- watermeet/watermeetref28.Check
def c22r0 : List SI := [
  ⟨none, .bxR 1 (.t 0), none, 0⟩,
  ⟨none, .mv 2 (.i 0), none, 0⟩]
def c22r1 : List SI := [
  ⟨none, .nop, (some 1), 0⟩,
  ⟨none, .ldR 6 1 1 none, none, 0⟩,
  ⟨none, .len 7 false (.t 6), none, 0⟩,
  ⟨none, .bin 8 .gtr (.t 7) (.i 4096), none, 0⟩]
def c22r2 : List SI := [
  ⟨none, .mv 2 (.i 2), none, 0⟩]
def c22r3 : List SI := [
  ⟨none, .nop, (some 1), 0⟩,
  ⟨none, .ldR 10 1 0 none, none, 0⟩,
  ⟨none, .bin 11 .lss (.t 10) (.i 1), none, 0⟩,
  ⟨none, .mv 12 (.t 11), none, 0⟩,
  ⟨some (12, false), .nop, (some 1), 99999⟩,
  ⟨some (12, false), .ldR 14 1 0 none, none, 14⟩,
  ⟨some (12, false), .bin 15 .gtr (.t 14) (.i 1048576), none, 15⟩,
  ⟨none, .pick 16 (.t 12) (.b true) (.t 15), none, 0⟩]
def c22r4 : List SI := [
  ⟨none, .mv 2 (.i 1), none, 0⟩]
def c22r5 : List SI := [
  ⟨none, .mv 3 (.i 0), none, 0⟩]
def c22r6 : List SI := [
  ⟨none, .mv 17 (.t 3), none, 0⟩,
  ⟨none, .nop, (some 1), 0⟩,
  ⟨none, .ldR 19 1 1 none, none, 0⟩,
  ⟨none, .len 20 false (.t 19), none, 0⟩,
  ⟨none, .bin 21 .lss (.t 17) (.t 20), none, 0⟩]
def c22r7 : List SI := [
  ⟨none, .nop, (some 1), 0⟩,
  ⟨none, .ldR 25 1 1 none, none, 0⟩,
  ⟨none, .mv 26 (.t 3), none, 0⟩,
  ⟨none, .ixA 27 (.t 25) (.t 26) 2, none, 0⟩,
  ⟨none, .ld 28 (.t 27) (some 2), none, 0⟩,
  ⟨none, .alR 4 [(.int .i64 0), (.int .i64 0)], none, 0⟩,
  ⟨none, .stR 4 0 2 (.t 28), none, 0⟩]
def c22r8 : List SI := [
  ⟨none, .nop, (some 4), 0⟩,
  ⟨none, .ldR 30 4 0 none, none, 0⟩,
  ⟨none, .bin 31 .lss (.t 30) (.i 0), none, 0⟩,
  ⟨none, .mv 32 (.t 31), none, 0⟩,
  ⟨some (32, false), .nop, (some 4), 99999⟩,
  ⟨some (32, false), .ldR 34 4 0 none, none, 34⟩,
  ⟨some (32, false), .bin 35 .gtr (.t 34) (.i 1099511627776), none, 35⟩,
  ⟨none, .pick 36 (.t 32) (.b true) (.t 35), none, 0⟩,
  ⟨none, .mv 37 (.t 36), none, 0⟩,
  ⟨some (37, false), .nop, (some 4), 99999⟩,
  ⟨some (37, false), .ldR 39 4 1 none, none, 39⟩,
  ⟨some (37, false), .bin 40 .lss (.t 39) (.i 0), none, 40⟩,
  ⟨none, .pick 41 (.t 37) (.b true) (.t 40), none, 0⟩,
  ⟨none, .mv 42 (.t 41), none, 0⟩,
  ⟨some (42, false), .nop, (some 4), 99999⟩,
  ⟨some (42, false), .ldR 44 4 1 none, none, 44⟩,
  ⟨some (42, false), .bin 45 .gtr (.t 44) (.i 1099511627776), none, 45⟩,
  ⟨none, .pick 46 (.t 42) (.b true) (.t 45), none, 0⟩]
def c22r9 : List SI := [
  ⟨none, .mv 2 (.i 1), none, 0⟩]
def c22r10 : List SI := [
  ⟨none, .mv 47 (.t 3), none, 0⟩,
  ⟨none, .bin 48 .gtr (.t 47) (.i 0), none, 0⟩,
  ⟨none, .mv 49 (.t 48), none, 0⟩,
  ⟨some (49, true), .nop, (some 4), 99999⟩,
  ⟨some (49, true), .ldR 51 4 0 none, none, 51⟩,
  ⟨some (49, true), .nop, (some 1), 99999⟩,
  ⟨some (49, true), .ldR 53 1 1 none, none, 53⟩,
  ⟨some (49, true), .mv 54 (.t 3), none, 54⟩,
  ⟨some (49, true), .bin 55 .sub (.t 54) (.i 1), none, 55⟩,
  ⟨some (49, true), .ixA 56 (.t 53) (.t 55) 2, none, 56⟩,
  ⟨some (49, true), .flA 57 (.t 56) 0, none, 57⟩,
  ⟨some (49, true), .ld 58 (.t 57) none, none, 58⟩,
  ⟨some (49, true), .bin 59 .leq (.t 51) (.t 58), none, 59⟩,
  ⟨some (49, true), .mv 60 (.t 59), none, 60⟩,
  ⟨some (60, false), .nop, (some 4), 99999⟩,
  ⟨some (60, false), .ldR 62 4 1 none, none, 62⟩,
  ⟨some (60, false), .nop, (some 1), 99999⟩,
  ⟨some (60, false), .ldR 64 1 1 none, none, 64⟩,
  ⟨some (60, false), .mv 65 (.t 3), none, 65⟩,
  ⟨some (60, false), .bin 66 .sub (.t 65) (.i 1), none, 66⟩,
  ⟨some (60, false), .ixA 67 (.t 64) (.t 66) 2, none, 67⟩,
  ⟨some (60, false), .flA 68 (.t 67) 1, none, 68⟩,
  ⟨some (60, false), .ld 69 (.t 68) none, none, 69⟩,
  ⟨some (60, false), .bin 70 .leq (.t 62) (.t 69), none, 70⟩,
  ⟨some (49, true), .pick 71 (.t 60) (.b true) (.t 70), none, 71⟩,
  ⟨none, .pick 72 (.t 49) (.t 71) (.b false), none, 0⟩]
def c22r11 : List SI := [
  ⟨none, .mv 2 (.i 1), none, 0⟩]
def c22r12 : List SI := [
  ⟨none, .mv 22 (.t 3), none, 0⟩,
  ⟨none, .bin 23 .add (.t 22) (.i 1), none, 0⟩,
  ⟨none, .mv 3 (.t 23), none, 0⟩]
def c22r13 : List SI := [
  ⟨none, .mv 2 (.i 0), none, 0⟩]
def c22 : SC :=
  (.seq (.reg false c22r0)
  (.seq (.seq (.reg false c22r1)
  (.cond (.t 8)
   (.seq (.reg false c22r2)
   .ret)
   .skip))
  (.seq (.seq (.reg false c22r3)
  (.cond (.t 16)
   (.seq (.reg false c22r4)
   .ret)
   .skip))
  (.seq (.seq (.reg false c22r5)
  (.blk 0 (.loop (.seq (.seq (.reg false c22r6)
    (.cond (.t 21)
     .skip
     (.exit 0)))
    (.seq (.blk 1 (.seq (.reg false c22r7)
     (.seq (.seq (.reg false c22r8)
     (.cond (.t 46)
      (.seq (.reg false c22r9)
      .ret)
      .skip))
     (.seq (.reg true c22r10)
     (.cond (.t 72)
      (.seq (.reg false c22r11)
      .ret)
      .skip)))))
    (.reg false c22r12))))))
  (.seq (.reg false c22r13)
  .ret)))))
def v22 : List Nat × List Nat := ([1, 4], [1, 4, 5, 9, 13, 18, 24, 29, 33, 38, 43, 50, 52, 61, 63])
def o22 : List RS := [.t 2]
theorem s22 : slimC Try.prog Try.f22.ntmps v22.1 v22.2 ((Try.f22.body).getD .skip) = some c22 := by kernel_rfl
theorem q22 : slimR Try.prog Try.f22.ntmps v22.1 v22.2 Try.f22.results.toList = some o22 := by kernel_rfl
-- watermeet/carry.Down
def c23r0 : List SI := [
  ⟨none, .bxR 2 (.t 0), none, 0⟩,
  ⟨none, .mv 4 (.i 0), none, 0⟩,
  ⟨none, .mv 5 (.b false), none, 0⟩]
def c23r1 : List SI := [
  ⟨none, .ldR 6 2 0 (some 2), none, 0⟩,
  ⟨none, .bld 7 [(.bool false)] [(0, 1, (.b true))], none, 0⟩,
  ⟨none, .mv 8 (.t 1), none, 0⟩,
  ⟨none, .call 9 33 [(.t 6), (.t 7), (.t 8)], none, 0⟩,
  ⟨none, .ext 10 (.t 9) 0, none, 0⟩,
  ⟨none, .ext 11 (.t 9) 1, none, 0⟩,
  ⟨none, .mv 4 (.t 10), none, 0⟩,
  ⟨none, .mv 5 (.t 11), none, 0⟩]
def c23 : SC :=
  (.seq (.reg false c23r0)
  (.seq (.reg false c23r1)
  .ret))
def v23 : List Nat × List Nat := ([2], [2])
def o23 : List RS := [.t 4, .t 5]
theorem s23 : slimC Try.prog Try.f23.ntmps v23.1 v23.2 ((Try.f23.body).getD .skip) = some c23 := by kernel_rfl
theorem q23 : slimR Try.prog Try.f23.ntmps v23.1 v23.2 Try.f23.results.toList = some o23 := by kernel_rfl
-- watermeet/watermeetref28.Down
def c24r0 : List SI := [
  ⟨none, .bxR 2 (.t 0), none, 0⟩,
  ⟨none, .mv 4 (.i 0), none, 0⟩,
  ⟨none, .mv 5 (.b false), none, 0⟩]
def c24r1 : List SI := [
  ⟨none, .mv 6 (.i 0), none, 0⟩,
  ⟨none, .mv 7 (.b false), none, 0⟩]
def c24r2 : List SI := [
  ⟨none, .ldR 9 2 0 (some 2), none, 0⟩,
  ⟨none, .call 10 22 [(.t 9)], none, 0⟩,
  ⟨none, .bin 11 .neq (.t 10) (.i 0), none, 0⟩]
def c24r3 : List SI := [
  ⟨none, .mv 4 (.i 0), none, 0⟩,
  ⟨none, .mv 5 (.b false), none, 0⟩]
def c24r4 : List SI := [
  ⟨none, .mv 8 (.i 0), none, 0⟩]
def c24r5 : List SI := [
  ⟨none, .mv 12 (.t 8), none, 0⟩,
  ⟨none, .nop, (some 2), 0⟩,
  ⟨none, .ldR 14 2 1 none, none, 0⟩,
  ⟨none, .len 15 false (.t 14), none, 0⟩,
  ⟨none, .bin 16 .lss (.t 12) (.t 15), none, 0⟩]
def c24r6 : List SI := [
  ⟨none, .nop, (some 2), 0⟩,
  ⟨none, .ldR 20 2 1 none, none, 0⟩,
  ⟨none, .mv 21 (.t 8), none, 0⟩,
  ⟨none, .ixA 22 (.t 20) (.t 21) 2, none, 0⟩,
  ⟨none, .flA 23 (.t 22) 0, none, 0⟩,
  ⟨none, .ld 24 (.t 23) none, none, 0⟩,
  ⟨none, .mv 25 (.t 1), none, 0⟩,
  ⟨none, .bin 26 .leq (.t 24) (.t 25), none, 0⟩]
def c24r7 : List SI := [
  ⟨none, .nop, (some 2), 0⟩,
  ⟨none, .ldR 28 2 1 none, none, 0⟩,
  ⟨none, .mv 29 (.t 8), none, 0⟩,
  ⟨none, .ixA 30 (.t 28) (.t 29) 2, none, 0⟩,
  ⟨none, .flA 31 (.t 30) 1, none, 0⟩,
  ⟨none, .ld 32 (.t 31) none, none, 0⟩,
  ⟨none, .mv 6 (.t 32), none, 0⟩,
  ⟨none, .mv 7 (.b true), none, 0⟩]
def c24r8 : List SI := [
  ⟨none, .mv 17 (.t 8), none, 0⟩,
  ⟨none, .bin 18 .add (.t 17) (.i 1), none, 0⟩,
  ⟨none, .mv 8 (.t 18), none, 0⟩]
def c24r9 : List SI := [
  ⟨none, .mv 33 (.t 6), none, 0⟩,
  ⟨none, .mv 34 (.t 7), none, 0⟩,
  ⟨none, .mv 4 (.t 33), none, 0⟩,
  ⟨none, .mv 5 (.t 34), none, 0⟩]
def c24 : SC :=
  (.seq (.reg false c24r0)
  (.seq (.reg false c24r1)
  (.seq (.seq (.reg false c24r2)
  (.cond (.t 11)
   (.seq (.reg false c24r3)
   .ret)
   .skip))
  (.seq (.seq (.reg false c24r4)
  (.blk 0 (.loop (.seq (.seq (.reg false c24r5)
    (.cond (.t 16)
     .skip
     (.exit 0)))
    (.seq (.blk 1 (.seq (.reg false c24r6)
     (.cond (.t 26)
      (.reg false c24r7)
      .skip)))
    (.reg false c24r8))))))
  (.seq (.reg false c24r9)
  .ret)))))
def v24 : List Nat × List Nat := ([2], [2, 13, 19, 27])
def o24 : List RS := [.t 4, .t 5]
theorem s24 : slimC Try.prog Try.f24.ntmps v24.1 v24.2 ((Try.f24.body).getD .skip) = some c24 := by kernel_rfl
theorem q24 : slimR Try.prog Try.f24.ntmps v24.1 v24.2 Try.f24.results.toList = some o24 := by kernel_rfl
-- watermeet/carry.Up
def c25r0 : List SI := [
  ⟨none, .bxR 2 (.t 0), none, 0⟩,
  ⟨none, .mv 4 (.i 0), none, 0⟩,
  ⟨none, .mv 5 (.b false), none, 0⟩]
def c25r1 : List SI := [
  ⟨none, .ldR 6 2 0 (some 2), none, 0⟩,
  ⟨none, .bld 7 [(.bool false)] [], none, 0⟩,
  ⟨none, .mv 8 (.t 1), none, 0⟩,
  ⟨none, .call 9 33 [(.t 6), (.t 7), (.t 8)], none, 0⟩,
  ⟨none, .ext 10 (.t 9) 0, none, 0⟩,
  ⟨none, .ext 11 (.t 9) 1, none, 0⟩,
  ⟨none, .mv 4 (.t 10), none, 0⟩,
  ⟨none, .mv 5 (.t 11), none, 0⟩]
def c25 : SC :=
  (.seq (.reg false c25r0)
  (.seq (.reg false c25r1)
  .ret))
def v25 : List Nat × List Nat := ([2], [2])
def o25 : List RS := [.t 4, .t 5]
theorem s25 : slimC Try.prog Try.f25.ntmps v25.1 v25.2 ((Try.f25.body).getD .skip) = some c25 := by kernel_rfl
theorem q25 : slimR Try.prog Try.f25.ntmps v25.1 v25.2 Try.f25.results.toList = some o25 := by kernel_rfl
-- watermeet/watermeetref28.Up
def c26r0 : List SI := [
  ⟨none, .bxR 2 (.t 0), none, 0⟩,
  ⟨none, .mv 4 (.i 0), none, 0⟩,
  ⟨none, .mv 5 (.b false), none, 0⟩]
def c26r1 : List SI := [
  ⟨none, .mv 6 (.i 0), none, 0⟩,
  ⟨none, .mv 7 (.b false), none, 0⟩]
def c26r2 : List SI := [
  ⟨none, .ldR 9 2 0 (some 2), none, 0⟩,
  ⟨none, .call 10 22 [(.t 9)], none, 0⟩,
  ⟨none, .bin 11 .neq (.t 10) (.i 0), none, 0⟩]
def c26r3 : List SI := [
  ⟨none, .mv 4 (.i 0), none, 0⟩,
  ⟨none, .mv 5 (.b false), none, 0⟩]
def c26r4 : List SI := [
  ⟨none, .mv 8 (.i 0), none, 0⟩]
def c26r5 : List SI := [
  ⟨none, .mv 12 (.t 8), none, 0⟩,
  ⟨none, .nop, (some 2), 0⟩,
  ⟨none, .ldR 14 2 1 none, none, 0⟩,
  ⟨none, .len 15 false (.t 14), none, 0⟩,
  ⟨none, .bin 16 .lss (.t 12) (.t 15), none, 0⟩]
def c26r6 : List SI := [
  ⟨none, .nop, (some 2), 0⟩,
  ⟨none, .ldR 20 2 1 none, none, 0⟩,
  ⟨none, .mv 21 (.t 8), none, 0⟩,
  ⟨none, .ixA 22 (.t 20) (.t 21) 2, none, 0⟩,
  ⟨none, .flA 23 (.t 22) 1, none, 0⟩,
  ⟨none, .ld 24 (.t 23) none, none, 0⟩,
  ⟨none, .mv 25 (.t 1), none, 0⟩,
  ⟨none, .bin 26 .leq (.t 24) (.t 25), none, 0⟩]
def c26r7 : List SI := [
  ⟨none, .nop, (some 2), 0⟩,
  ⟨none, .ldR 28 2 1 none, none, 0⟩,
  ⟨none, .mv 29 (.t 8), none, 0⟩,
  ⟨none, .ixA 30 (.t 28) (.t 29) 2, none, 0⟩,
  ⟨none, .flA 31 (.t 30) 0, none, 0⟩,
  ⟨none, .ld 32 (.t 31) none, none, 0⟩,
  ⟨none, .mv 6 (.t 32), none, 0⟩,
  ⟨none, .mv 7 (.b true), none, 0⟩]
def c26r8 : List SI := [
  ⟨none, .mv 17 (.t 8), none, 0⟩,
  ⟨none, .bin 18 .add (.t 17) (.i 1), none, 0⟩,
  ⟨none, .mv 8 (.t 18), none, 0⟩]
def c26r9 : List SI := [
  ⟨none, .mv 33 (.t 6), none, 0⟩,
  ⟨none, .mv 34 (.t 7), none, 0⟩,
  ⟨none, .mv 4 (.t 33), none, 0⟩,
  ⟨none, .mv 5 (.t 34), none, 0⟩]
def c26 : SC :=
  (.seq (.reg false c26r0)
  (.seq (.reg false c26r1)
  (.seq (.seq (.reg false c26r2)
  (.cond (.t 11)
   (.seq (.reg false c26r3)
   .ret)
   .skip))
  (.seq (.seq (.reg false c26r4)
  (.blk 0 (.loop (.seq (.seq (.reg false c26r5)
    (.cond (.t 16)
     .skip
     (.exit 0)))
    (.seq (.blk 1 (.seq (.reg false c26r6)
     (.cond (.t 26)
      (.reg false c26r7)
      .skip)))
    (.reg false c26r8))))))
  (.seq (.reg false c26r9)
  .ret)))))
def v26 : List Nat × List Nat := ([2], [2, 13, 19, 27])
def o26 : List RS := [.t 4, .t 5]
theorem s26 : slimC Try.prog Try.f26.ntmps v26.1 v26.2 ((Try.f26.body).getD .skip) = some c26 := by kernel_rfl
theorem q26 : slimR Try.prog Try.f26.ntmps v26.1 v26.2 Try.f26.results.toList = some o26 := by kernel_rfl
-- watermeet/carry.Chain
def c27r0 : List SI := [
  ⟨none, .bxR 2 (.t 0), none, 0⟩,
  ⟨none, .bxR 3 (.t 1), none, 0⟩,
  ⟨none, .alR 4 [(.int .i64 0), (.slice none 0 0)], none, 0⟩,
  ⟨none, .mv 5 (.i 0), none, 0⟩]
def c27r1 : List SI := [
  ⟨none, .ldR 12 2 0 (some 2), none, 0⟩,
  ⟨none, .ldR 13 3 0 (some 2), none, 0⟩,
  ⟨none, .bls 14 24 2 2 [(.int .i64 0), (.slice none 0 0), (.int .i64 0), (.slice none 0 0)] [(0, 2, (.t 12)), (2, 2, (.t 13))], none, 0⟩,
  ⟨none, .call 15 34 [(.t 14)], none, 0⟩,
  ⟨none, .mv 6 (.t 15), none, 0⟩]
def c27r2 : List SI := [
  ⟨none, .mv 16 (.t 6), none, 0⟩,
  ⟨none, .bin 17 .neq (.t 16) (.i 0), none, 0⟩]
def c27r3 : List SI := [
  ⟨none, .bld 18 [(.int .i64 0), (.slice none 0 0)] [], none, 0⟩,
  ⟨none, .mv 19 (.t 6), none, 0⟩,
  ⟨none, .stR 4 0 2 (.t 18), none, 0⟩,
  ⟨none, .mv 5 (.t 19), none, 0⟩]
def c27r4 : List SI := [
  ⟨none, .nop, (some 2), 0⟩,
  ⟨none, .ldR 21 2 0 none, none, 0⟩,
  ⟨none, .nop, (some 3), 0⟩,
  ⟨none, .ldR 23 3 0 none, none, 0⟩,
  ⟨none, .mm 24 true (.t 21) (.t 23), none, 0⟩,
  ⟨none, .bld 25 [(.int .i64 0), (.slice none 0 0)] [(0, 1, (.t 24))], none, 0⟩,
  ⟨none, .alR 7 [(.int .i64 0), (.slice none 0 0)], none, 0⟩,
  ⟨none, .stR 7 0 2 (.t 25), none, 0⟩]
def c27r5 : List SI := [
  ⟨none, .mv 8 (.i (-1)), none, 0⟩]
def c27r6 : List SI := [
  ⟨none, .nop, (some 2), 0⟩,
  ⟨none, .ldR 27 2 1 none, none, 0⟩,
  ⟨none, .len 28 false (.t 27), none, 0⟩,
  ⟨none, .mv 29 (.i 0), none, 0⟩]
def c27r7 : List SI := [
  ⟨none, .bin 30 .lss (.t 29) (.t 28), none, 0⟩]
def c27r8 : List SI := [
  ⟨none, .ixA 31 (.t 27) (.t 29) 2, none, 0⟩,
  ⟨none, .ld 32 (.t 31) (some 2), none, 0⟩,
  ⟨none, .alR 10 [(.int .i64 0), (.int .i64 0)], none, 0⟩,
  ⟨none, .stR 10 0 2 (.t 32), none, 0⟩]
def c27r9 : List SI := [
  ⟨none, .nop, (some 3), 0⟩,
  ⟨none, .ldR 34 3 1 none, none, 0⟩,
  ⟨none, .bld 35 [(.bool false)] [(0, 1, (.b true))], none, 0⟩,
  ⟨none, .nop, (some 10), 0⟩,
  ⟨none, .ldR 37 10 1 none, none, 0⟩,
  ⟨none, .call 38 31 [(.t 34), (.t 35), (.t 37), (.v (.func (.func 32) #[] #[]))], none, 0⟩,
  ⟨none, .mv 11 (.t 38), none, 0⟩]
def c27r10 : List SI := [
  ⟨none, .mv 39 (.t 11), none, 0⟩,
  ⟨none, .bin 40 .lss (.t 39) (.i 0), none, 0⟩,
  ⟨none, .mv 41 (.t 40), none, 0⟩,
  ⟨some (41, false), .nop, (some 3), 99999⟩,
  ⟨some (41, false), .ldR 43 3 1 none, none, 43⟩,
  ⟨some (41, false), .mv 44 (.t 11), none, 44⟩,
  ⟨some (41, false), .ixA 45 (.t 43) (.t 44) 2, none, 45⟩,
  ⟨some (41, false), .flA 46 (.t 45) 1, none, 46⟩,
  ⟨some (41, false), .ld 47 (.t 46) none, none, 47⟩,
  ⟨some (41, false), .mv 48 (.t 8), none, 48⟩,
  ⟨some (41, false), .bin 49 .eql (.t 47) (.t 48), none, 49⟩,
  ⟨none, .pick 50 (.t 41) (.b true) (.t 49), none, 0⟩]
def c27r11 : List SI := [
  ⟨none, .nop, (some 3), 0⟩,
  ⟨none, .ldR 52 3 1 none, none, 0⟩,
  ⟨none, .mv 53 (.t 11), none, 0⟩,
  ⟨none, .ixA 54 (.t 52) (.t 53) 2, none, 0⟩,
  ⟨none, .flA 55 (.t 54) 1, none, 0⟩,
  ⟨none, .ld 56 (.t 55) none, none, 0⟩,
  ⟨none, .mv 8 (.t 56), none, 0⟩]
def c27r12 : List SI := [
  ⟨none, .nop, (some 7), 0⟩,
  ⟨none, .ldR 58 7 1 none, none, 0⟩,
  ⟨none, .nop, (some 10), 0⟩,
  ⟨none, .ldR 60 10 0 none, none, 0⟩,
  ⟨none, .mv 61 (.t 8), none, 0⟩,
  ⟨none, .bld 62 [(.int .i64 0), (.int .i64 0)] [(0, 1, (.t 60)), (1, 1, (.t 61))], none, 0⟩,
  ⟨none, .bls 63 44 1 2 [(.int .i64 0), (.int .i64 0)] [(0, 2, (.t 62))], none, 0⟩,
  ⟨none, .app 64 (.t 58) (.t 63) 44 2 16, none, 0⟩,
  ⟨none, .nop, (some 7), 0⟩,
  ⟨none, .stR 7 1 1 (.t 64), none, 0⟩]
def c27r13 : List SI := [
  ⟨none, .bin 66 .add (.t 29) (.i 1), none, 0⟩,
  ⟨none, .mv 29 (.t 66), none, 0⟩]
def c27r14 : List SI := [
  ⟨none, .ldR 67 7 0 (some 2), none, 0⟩,
  ⟨none, .stR 4 0 2 (.t 67), none, 0⟩,
  ⟨none, .mv 5 (.i 0), none, 0⟩]
def c27 : SC :=
  (.seq (.reg false c27r0)
  (.scp (.seq (.seq (.reg false c27r1)
   (.seq (.reg false c27r2)
   (.cond (.t 17)
    (.seq (.reg false c27r3)
    .ret)
    .skip)))
   (.seq (.reg false c27r4)
   (.seq (.reg false c27r5)
   (.seq (.lab 0)
   (.seq (.seq (.reg false c27r6)
   (.blk 0 (.loop (.seq (.reg false c27r7)
     (.seq (.cond (.t 30)
      .skip
      (.exit 0))
     (.seq (.blk 1 (.seq (.reg false c27r8)
      (.seq (.reg false c27r9)
      (.seq (.seq (.reg false c27r10)
      (.cond (.t 50)
       (.exit 1)
       .skip))
      (.seq (.reg false c27r11)
      (.reg false c27r12))))))
     (.reg false c27r13)))))))
   (.seq (.reg false c27r14)
   .ret))))))))
def v27 : List Nat × List Nat := ([2, 3, 4, 7, 10], [2, 3, 4, 7, 10, 20, 22, 26, 33, 36, 42, 51, 57, 59, 65])
def o27 : List RS := [.r 4 (some 2), .t 5]
theorem s27 : slimC Try.prog Try.f27.ntmps v27.1 v27.2 ((Try.f27.body).getD .skip) = some c27 := by kernel_rfl
theorem q27 : slimR Try.prog Try.f27.ntmps v27.1 v27.2 Try.f27.results.toList = some o27 := by kernel_rfl
-- watermeet/watermeetref28.Chain
def c28r0 : List SI := [
  ⟨none, .bxR 2 (.t 0), none, 0⟩,
  ⟨none, .bxR 3 (.t 1), none, 0⟩,
  ⟨none, .alR 4 [(.int .i64 0), (.slice none 0 0)], none, 0⟩,
  ⟨none, .mv 5 (.i 0), none, 0⟩]
def c28r1 : List SI := [
  ⟨none, .ldR 12 2 0 (some 2), none, 0⟩,
  ⟨none, .call 13 22 [(.t 12)], none, 0⟩,
  ⟨none, .mv 6 (.t 13), none, 0⟩]
def c28r2 : List SI := [
  ⟨none, .mv 14 (.t 6), none, 0⟩,
  ⟨none, .bin 15 .eql (.t 14) (.i 0), none, 0⟩]
def c28r3 : List SI := [
  ⟨none, .ldR 16 3 0 (some 2), none, 0⟩,
  ⟨none, .call 17 22 [(.t 16)], none, 0⟩,
  ⟨none, .mv 6 (.t 17), none, 0⟩]
def c28r4 : List SI := [
  ⟨none, .mv 18 (.t 6), none, 0⟩,
  ⟨none, .bin 19 .neq (.t 18) (.i 0), none, 0⟩]
def c28r5 : List SI := [
  ⟨none, .bld 20 [(.int .i64 0), (.slice none 0 0)] [], none, 0⟩,
  ⟨none, .mv 21 (.t 6), none, 0⟩,
  ⟨none, .stR 4 0 2 (.t 20), none, 0⟩,
  ⟨none, .mv 5 (.t 21), none, 0⟩]
def c28r6 : List SI := [
  ⟨none, .nop, (some 2), 0⟩,
  ⟨none, .ldR 23 2 0 none, none, 0⟩,
  ⟨none, .nop, (some 3), 0⟩,
  ⟨none, .ldR 25 3 0 none, none, 0⟩,
  ⟨none, .mm 26 true (.t 23) (.t 25), none, 0⟩,
  ⟨none, .bld 27 [(.int .i64 0), (.slice none 0 0)] [(0, 1, (.t 26))], none, 0⟩,
  ⟨none, .alR 7 [(.int .i64 0), (.slice none 0 0)], none, 0⟩,
  ⟨none, .stR 7 0 2 (.t 27), none, 0⟩]
def c28r7 : List SI := [
  ⟨none, .mv 8 (.i 0), none, 0⟩]
def c28r8 : List SI := [
  ⟨none, .mv 28 (.t 8), none, 0⟩,
  ⟨none, .nop, (some 2), 0⟩,
  ⟨none, .ldR 30 2 1 none, none, 0⟩,
  ⟨none, .len 31 false (.t 30), none, 0⟩,
  ⟨none, .bin 32 .lss (.t 28) (.t 31), none, 0⟩]
def c28r9 : List (Bool × SI) := [
  (true, ⟨none, .ldR 36 3 0 (some 2), none, 0⟩),
  (true, ⟨none, .nop, (some 2), 0⟩),
  (true, ⟨none, .ldR 38 2 1 none, none, 0⟩),
  (true, ⟨none, .mv 39 (.t 8), none, 0⟩),
  (true, ⟨none, .ixA 40 (.t 38) (.t 39) 2, none, 0⟩),
  (true, ⟨none, .flA 41 (.t 40) 1, none, 0⟩),
  (true, ⟨none, .ld 42 (.t 41) none, none, 0⟩),
  (false, ⟨none, .call 43 24 [(.t 36), (.t 42)], none, 0⟩),
  (true, ⟨none, .mv 35 (.t 43), none, 0⟩),
  (true, ⟨none, .ext 44 (.t 35) 0, none, 0⟩),
  (true, ⟨none, .ext 45 (.t 35) 1, none, 0⟩),
  (true, ⟨none, .mv 9 (.t 44), none, 0⟩),
  (true, ⟨none, .mv 10 (.t 45), none, 0⟩)]
def c28r10 : List SI := [
  ⟨none, .nop, (some 7), 0⟩,
  ⟨none, .ldR 47 7 1 none, none, 0⟩,
  ⟨none, .len 48 false (.t 47), none, 0⟩,
  ⟨none, .mv 11 (.t 48), none, 0⟩]
def c28r11 : List SI := [
  ⟨none, .mv 49 (.t 10), none, 0⟩,
  ⟨none, .mv 50 (.t 49), none, 0⟩,
  ⟨some (50, true), .mv 51 (.t 11), none, 51⟩,
  ⟨some (50, true), .bin 52 .eql (.t 51) (.i 0), none, 52⟩,
  ⟨some (50, true), .mv 53 (.t 52), none, 53⟩,
  ⟨some (53, false), .nop, (some 7), 99999⟩,
  ⟨some (53, false), .ldR 55 7 1 none, none, 55⟩,
  ⟨some (53, false), .mv 56 (.t 11), none, 56⟩,
  ⟨some (53, false), .bin 57 .sub (.t 56) (.i 1), none, 57⟩,
  ⟨some (53, false), .ixA 58 (.t 55) (.t 57) 2, none, 58⟩,
  ⟨some (53, false), .flA 59 (.t 58) 1, none, 59⟩,
  ⟨some (53, false), .ld 60 (.t 59) none, none, 60⟩,
  ⟨some (53, false), .mv 61 (.t 9), none, 61⟩,
  ⟨some (53, false), .bin 62 .neq (.t 60) (.t 61), none, 62⟩,
  ⟨some (50, true), .pick 63 (.t 53) (.b true) (.t 62), none, 63⟩,
  ⟨none, .pick 64 (.t 50) (.t 63) (.b false), none, 0⟩]
def c28r12 : List (Bool × SI) := [
  (true, ⟨none, .nop, (some 7), 0⟩),
  (true, ⟨none, .ldR 66 7 1 none, none, 0⟩),
  (true, ⟨none, .nop, (some 2), 0⟩),
  (true, ⟨none, .ldR 68 2 1 none, none, 0⟩),
  (true, ⟨none, .mv 69 (.t 8), none, 0⟩),
  (true, ⟨none, .ixA 70 (.t 68) (.t 69) 2, none, 0⟩),
  (true, ⟨none, .flA 71 (.t 70) 0, none, 0⟩),
  (true, ⟨none, .ld 72 (.t 71) none, none, 0⟩),
  (true, ⟨none, .mv 73 (.t 9), none, 0⟩),
  (true, ⟨none, .bld 74 [(.int .i64 0), (.int .i64 0)] [(0, 1, (.t 72)), (1, 1, (.t 73))], none, 0⟩),
  (false, ⟨none, .bls 75 44 1 2 [(.int .i64 0), (.int .i64 0)] [(0, 2, (.t 74))], none, 0⟩),
  (false, ⟨none, .app 76 (.t 66) (.t 75) 44 2 16, none, 0⟩),
  (true, ⟨none, .nop, (some 7), 0⟩)]
def c28r13 : List SI := [
  ⟨none, .stR 7 1 1 (.t 76), none, 0⟩]
def c28r14 : List SI := [
  ⟨none, .mv 33 (.t 8), none, 0⟩,
  ⟨none, .bin 34 .add (.t 33) (.i 1), none, 0⟩,
  ⟨none, .mv 8 (.t 34), none, 0⟩]
def c28r15 : List SI := [
  ⟨none, .ldR 78 7 0 (some 2), none, 0⟩,
  ⟨none, .stR 4 0 2 (.t 78), none, 0⟩,
  ⟨none, .mv 5 (.i 0), none, 0⟩]
def c28 : SC :=
  (.seq (.reg false c28r0)
  (.seq (.reg false c28r1)
  (.seq (.seq (.reg false c28r2)
  (.cond (.t 15)
   (.reg false c28r3)
   .skip))
  (.seq (.seq (.reg false c28r4)
  (.cond (.t 19)
   (.seq (.reg false c28r5)
   .ret)
   .skip))
  (.seq (.reg false c28r6)
  (.seq (.seq (.reg false c28r7)
  (.blk 0 (.loop (.seq (.seq (.reg false c28r8)
    (.cond (.t 32)
     .skip
     (.exit 0)))
    (.seq (.blk 1 (.seq (.rgX c28r9)
     (.seq (.reg false c28r10)
     (.seq (.reg false c28r11)
     (.cond (.t 64)
      (.rgY c28r12 c28r13)
      .skip)))))
    (.reg false c28r14))))))
  (.seq (.reg false c28r15)
  .ret)))))))
def v28 : List Nat × List Nat := ([2, 3, 4, 7], [2, 3, 4, 7, 22, 24, 29, 37, 46, 54, 65, 67, 77])
def o28 : List RS := [.r 4 (some 2), .t 5]
theorem s28 : slimC Try.prog Try.f28.ntmps v28.1 v28.2 ((Try.f28.body).getD .skip) = some c28 := by kernel_rfl
theorem q28 : slimR Try.prog Try.f28.ntmps v28.1 v28.2 Try.f28.results.toList = some o28 := by kernel_rfl
-- watermeet/carry.off
def c29r0 : List SI := [
  ⟨none, .mv 2 (.b false), none, 0⟩]
def c29r1 : List SI := [
  ⟨none, .mv 5 (.t 0), none, 0⟩,
  ⟨none, .len 6 false (.t 5), none, 0⟩,
  ⟨none, .mv 7 (.i 0), none, 0⟩]
def c29r2 : List SI := [
  ⟨none, .bin 8 .lss (.t 7) (.t 6), none, 0⟩]
def c29r3 : List SI := [
  ⟨none, .ixA 9 (.t 5) (.t 7) 1, none, 0⟩,
  ⟨none, .ld 10 (.t 9) none, none, 0⟩,
  ⟨none, .mv 4 (.t 10), none, 0⟩]
def c29r4 : List SI := [
  ⟨none, .mv 11 (.t 4), none, 0⟩,
  ⟨none, .bin 12 .lss (.t 11) (.i 0), none, 0⟩,
  ⟨none, .mv 13 (.t 12), none, 0⟩,
  ⟨some (13, false), .mv 14 (.t 4), none, 14⟩,
  ⟨some (13, false), .bin 15 .gtr (.t 14) (.i 1099511627776), none, 15⟩,
  ⟨none, .pick 16 (.t 13) (.b true) (.t 15), none, 0⟩]
def c29r5 : List SI := [
  ⟨none, .mv 2 (.b false), none, 0⟩]
def c29r6 : List SI := [
  ⟨none, .bin 17 .add (.t 7) (.i 1), none, 0⟩,
  ⟨none, .mv 7 (.t 17), none, 0⟩]
def c29r7 : List SI := [
  ⟨none, .mv 2 (.b true), none, 0⟩]
def c29 : SC :=
  (.seq (.reg false c29r0)
  (.seq (.seq (.reg false c29r1)
  (.blk 0 (.loop (.seq (.reg false c29r2)
    (.seq (.cond (.t 8)
     .skip
     (.exit 0))
    (.seq (.blk 1 (.seq (.reg false c29r3)
     (.seq (.reg false c29r4)
     (.cond (.t 16)
      (.seq (.reg false c29r5)
      .ret)
      .skip))))
    (.reg false c29r6)))))))
  (.seq (.reg false c29r7)
  .ret)))
def v29 : List Nat × List Nat := ([], [])
def o29 : List RS := [.t 2]
theorem s29 : slimC Try.prog Try.f29.ntmps v29.1 v29.2 ((Try.f29.body).getD .skip) = some c29 := by kernel_rfl
theorem q29 : slimR Try.prog Try.f29.ntmps v29.1 v29.2 Try.f29.results.toList = some o29 := by kernel_rfl
-- watermeet/watermeetref28.copied
def c30r0 : List SI := [
  ⟨none, .bxR 1 (.t 0), none, 0⟩,
  ⟨none, .alR 2 [(.int .i64 0), (.slice none 0 0)], none, 0⟩]
def c30r1 : List (Bool × SI) := [
  (true, ⟨none, .nop, (some 1), 0⟩),
  (true, ⟨none, .ldR 4 1 0 none, none, 0⟩),
  (true, ⟨none, .nop, (some 1), 0⟩),
  (true, ⟨none, .ldR 7 1 1 none, none, 0⟩),
  (false, ⟨none, .bl0 5, none, 0⟩),
  (false, ⟨none, .app 8 (.t 5) (.t 7) 44 2 16, none, 0⟩),
  (true, ⟨none, .bld 9 [(.int .i64 0), (.slice none 0 0)] [(0, 1, (.t 4)), (1, 1, (.t 8))], none, 0⟩)]
def c30r2 : List SI := [
  ⟨none, .stR 2 0 2 (.t 9), none, 0⟩]
def c30 : SC :=
  (.seq (.reg false c30r0)
  (.seq (.rgY c30r1 c30r2)
  .ret))
def v30 : List Nat × List Nat := ([1, 2], [1, 2, 3, 6])
def o30 : List RS := [.r 2 (some 2)]
theorem s30 : slimC Try.prog Try.f30.ntmps v30.1 v30.2 ((Try.f30.body).getD .skip) = some c30 := by kernel_rfl
theorem q30 : slimR Try.prog Try.f30.ntmps v30.1 v30.2 Try.f30.results.toList = some o30 := by kernel_rfl
-- watermeet/carry.last
def c31r0 : List SI := [
  ⟨none, .bx 4 (.t 0), none, 0⟩,
  ⟨none, .bx 5 (.t 1), none, 0⟩,
  ⟨none, .bx 6 (.t 2), none, 0⟩,
  ⟨none, .bx 7 (.t 3), none, 0⟩,
  ⟨none, .mv 8 (.i 0), none, 0⟩]
def c31r1 : List SI := [
  ⟨none, .ld 9 (.t 4) none, none, 0⟩,
  ⟨none, .len 10 false (.t 9), none, 0⟩,
  ⟨none, .mkf 11 (.func 36) [(.t 7), (.t 5), (.t 4), (.t 6)], none, 0⟩,
  ⟨none, .call 12 35 [(.t 10), (.t 11)], none, 0⟩,
  ⟨none, .bin 13 .sub (.t 12) (.i 1), none, 0⟩,
  ⟨none, .mv 8 (.t 13), none, 0⟩]
def c31 : SC :=
  (.seq (.reg false c31r0)
  (.seq (.reg false c31r1)
  .ret))
def v31 : List Nat × List Nat := ([], [])
def o31 : List RS := [.t 8]
theorem s31 : slimC Try.prog Try.f31.ntmps v31.1 v31.2 ((Try.f31.body).getD .skip) = some c31 := by kernel_rfl
theorem q31 : slimR Try.prog Try.f31.ntmps v31.1 v31.2 Try.f31.results.toList = some o31 := by kernel_rfl
-- (watermeet/carry.side).of
def c32r0 : List SI := [
  ⟨none, .bxR 2 (.t 0), none, 0⟩,
  ⟨none, .bxR 3 (.t 1), none, 0⟩,
  ⟨none, .mv 4 (.i 0), none, 0⟩]
def c32r1 : List SI := [
  ⟨none, .nop, (some 2), 0⟩,
  ⟨none, .ldR 6 2 0 none, none, 0⟩]
def c32r2 : List SI := [
  ⟨none, .nop, (some 3), 0⟩,
  ⟨none, .ldR 8 3 0 none, none, 0⟩,
  ⟨none, .mv 4 (.t 8), none, 0⟩]
def c32r3 : List SI := [
  ⟨none, .nop, (some 3), 0⟩,
  ⟨none, .ldR 10 3 1 none, none, 0⟩,
  ⟨none, .mv 4 (.t 10), none, 0⟩]
def c32 : SC :=
  (.seq (.reg false c32r0)
  (.seq (.seq (.reg false c32r1)
  (.cond (.t 6)
   (.seq (.reg false c32r2)
   .ret)
   .skip))
  (.seq (.reg false c32r3)
  .ret)))
def v32 : List Nat × List Nat := ([2, 3], [2, 3, 5, 7, 9])
def o32 : List RS := [.t 4]
theorem s32 : slimC Try.prog Try.f32.ntmps v32.1 v32.2 ((Try.f32.body).getD .skip) = some c32 := by kernel_rfl
theorem q32 : slimR Try.prog Try.f32.ntmps v32.1 v32.2 Try.f32.results.toList = some o32 := by kernel_rfl
-- watermeet/carry.told
def c33r0 : List SI := [
  ⟨none, .bxR 3 (.t 0), none, 0⟩,
  ⟨none, .bxR 4 (.t 1), none, 0⟩,
  ⟨none, .mv 6 (.i 0), none, 0⟩,
  ⟨none, .mv 7 (.b false), none, 0⟩]
def c33r1 : List SI := [
  ⟨none, .ldR 9 3 0 (some 2), none, 0⟩,
  ⟨none, .call 10 21 [(.t 9)], none, 0⟩,
  ⟨none, .bin 11 .neq (.t 10) (.i 0), none, 0⟩]
def c33r2 : List SI := [
  ⟨none, .mv 6 (.i 0), none, 0⟩,
  ⟨none, .mv 7 (.b false), none, 0⟩]
def c33r3 : List SI := [
  ⟨none, .nop, (some 3), 0⟩,
  ⟨none, .ldR 13 3 1 none, none, 0⟩,
  ⟨none, .ldR 14 4 0 (some 1), none, 0⟩,
  ⟨none, .mv 15 (.t 2), none, 0⟩,
  ⟨none, .call 16 31 [(.t 13), (.t 14), (.t 15), (.v (.func (.func 32) #[] #[]))], none, 0⟩,
  ⟨none, .mv 8 (.t 16), none, 0⟩]
def c33r4 : List SI := [
  ⟨none, .mv 17 (.t 8), none, 0⟩,
  ⟨none, .bin 18 .lss (.t 17) (.i 0), none, 0⟩]
def c33r5 : List SI := [
  ⟨none, .mv 6 (.i 0), none, 0⟩,
  ⟨none, .mv 7 (.b false), none, 0⟩]
def c33r6 : List (Bool × SI) := [
  (true, ⟨none, .nop, (some 4), 0⟩),
  (true, ⟨none, .ldR 20 4 0 none, none, 0⟩),
  (true, ⟨none, .un 21 .not (.t 20), none, 0⟩),
  (true, ⟨none, .bld 22 [(.bool false)] [(0, 1, (.t 21))], none, 0⟩),
  (true, ⟨none, .nop, (some 3), 0⟩),
  (true, ⟨none, .ldR 24 3 1 none, none, 0⟩),
  (true, ⟨none, .mv 25 (.t 8), none, 0⟩),
  (true, ⟨none, .ixA 26 (.t 24) (.t 25) 2, none, 0⟩),
  (true, ⟨none, .ld 27 (.t 26) (some 2), none, 0⟩),
  (false, ⟨none, .call 28 32 [(.t 22), (.t 27)], none, 0⟩),
  (true, ⟨none, .mv 6 (.t 28), none, 0⟩),
  (true, ⟨none, .mv 7 (.b true), none, 0⟩)]
def c33 : SC :=
  (.seq (.reg false c33r0)
  (.seq (.seq (.reg false c33r1)
  (.cond (.t 11)
   (.seq (.reg false c33r2)
   .ret)
   .skip))
  (.seq (.reg false c33r3)
  (.seq (.seq (.reg false c33r4)
  (.cond (.t 18)
   (.seq (.reg false c33r5)
   .ret)
   .skip))
  (.seq (.rgX c33r6)
  .ret)))))
def v33 : List Nat × List Nat := ([3, 4], [3, 4, 12, 19, 23])
def o33 : List RS := [.t 6, .t 7]
theorem s33 : slimC Try.prog Try.f33.ntmps v33.1 v33.2 ((Try.f33.body).getD .skip) = some c33 := by kernel_rfl
theorem q33 : slimR Try.prog Try.f33.ntmps v33.1 v33.2 Try.f33.results.toList = some o33 := by kernel_rfl
-- watermeet/carry.checks
def c34r0 : List SI := [
  ⟨none, .mv 2 (.i 0), none, 0⟩]
def c34r1 : List SI := [
  ⟨none, .mv 6 (.t 0), none, 0⟩,
  ⟨none, .len 7 false (.t 6), none, 0⟩,
  ⟨none, .mv 8 (.i 0), none, 0⟩]
def c34r2 : List SI := [
  ⟨none, .bin 9 .lss (.t 8) (.t 7), none, 0⟩]
def c34r3 : List SI := [
  ⟨none, .ixA 10 (.t 6) (.t 8) 2, none, 0⟩,
  ⟨none, .ld 11 (.t 10) (some 2), none, 0⟩,
  ⟨none, .alR 4 [(.int .i64 0), (.slice none 0 0)], none, 0⟩,
  ⟨none, .stR 4 0 2 (.t 11), none, 0⟩]
def c34r4 : List SI := [
  ⟨none, .ldR 12 4 0 (some 2), none, 0⟩,
  ⟨none, .call 13 21 [(.t 12)], none, 0⟩,
  ⟨none, .mv 5 (.t 13), none, 0⟩]
def c34r5 : List SI := [
  ⟨none, .mv 14 (.t 5), none, 0⟩,
  ⟨none, .bin 15 .neq (.t 14) (.i 0), none, 0⟩]
def c34r6 : List SI := [
  ⟨none, .mv 16 (.t 5), none, 0⟩,
  ⟨none, .mv 2 (.t 16), none, 0⟩]
def c34r7 : List SI := [
  ⟨none, .bin 17 .add (.t 8) (.i 1), none, 0⟩,
  ⟨none, .mv 8 (.t 17), none, 0⟩]
def c34r8 : List SI := [
  ⟨none, .mv 2 (.i 0), none, 0⟩]
def c34 : SC :=
  (.seq (.reg false c34r0)
  (.seq (.seq (.reg false c34r1)
  (.blk 0 (.loop (.seq (.reg false c34r2)
    (.seq (.cond (.t 9)
     .skip
     (.exit 0))
    (.seq (.blk 1 (.seq (.reg false c34r3)
     (.seq (.reg false c34r4)
     (.seq (.reg false c34r5)
     (.cond (.t 15)
      (.seq (.reg false c34r6)
      .ret)
      .skip)))))
    (.reg false c34r7)))))))
  (.seq (.reg false c34r8)
  .ret)))
def v34 : List Nat × List Nat := ([4], [4])
def o34 : List RS := [.t 2]
theorem s34 : slimC Try.prog Try.f34.ntmps v34.1 v34.2 ((Try.f34.body).getD .skip) = some c34 := by kernel_rfl
theorem q34 : slimR Try.prog Try.f34.ntmps v34.1 v34.2 Try.f34.results.toList = some o34 := by kernel_rfl
-- sort.Search
def c35r0 : List SI := [
  ⟨none, .mv 4 (.i 0), none, 0⟩]
def c35r1 : List SI := [
  ⟨none, .mv 8 (.t 0), none, 0⟩,
  ⟨none, .mv 5 (.i 0), none, 0⟩,
  ⟨none, .mv 6 (.t 8), none, 0⟩]
def c35r2 : List SI := [
  ⟨none, .mv 9 (.t 5), none, 0⟩,
  ⟨none, .mv 10 (.t 6), none, 0⟩,
  ⟨none, .bin 11 .lss (.t 9) (.t 10), none, 0⟩]
def c35r3 : List SI := [
  ⟨none, .mv 12 (.t 5), none, 0⟩,
  ⟨none, .mv 13 (.t 6), none, 0⟩,
  ⟨none, .bin 14 .add (.t 12) (.t 13), none, 0⟩,
  ⟨none, .cvI 15 .u64 (.t 14), none, 0⟩,
  ⟨none, .bin 16 .shr (.t 15) (.v (.int .u64 1)), none, 0⟩,
  ⟨none, .cvI 17 .i64 (.t 16), none, 0⟩,
  ⟨none, .mv 7 (.t 17), none, 0⟩]
def c35r4 : List SI := [
  ⟨none, .mv 18 (.t 1), none, 0⟩,
  ⟨none, .mv 19 (.t 7), none, 0⟩,
  ⟨none, .cav 20 (.t 18) [(.t 19)], none, 0⟩,
  ⟨none, .un 21 .not (.t 20), none, 0⟩]
def c35r5 : List SI := [
  ⟨none, .mv 22 (.t 7), none, 0⟩,
  ⟨none, .bin 23 .add (.t 22) (.i 1), none, 0⟩,
  ⟨none, .mv 5 (.t 23), none, 0⟩]
def c35r6 : List SI := [
  ⟨none, .mv 24 (.t 7), none, 0⟩,
  ⟨none, .mv 6 (.t 24), none, 0⟩]
def c35r7 : List SI := [
  ⟨none, .mv 25 (.t 5), none, 0⟩,
  ⟨none, .mv 4 (.t 25), none, 0⟩]
def c35 : SC :=
  (.seq (.reg false c35r0)
  (.seq (.reg false c35r1)
  (.seq (.blk 0 (.loop (.seq (.seq (.reg false c35r2)
    (.cond (.t 11)
     .skip
     (.exit 0)))
    (.blk 1 (.seq (.reg false c35r3)
     (.seq (.reg false c35r4)
     (.cond (.t 21)
      (.reg false c35r5)
      (.reg false c35r6))))))))
  (.seq (.reg false c35r7)
  .ret))))
def v35 : List Nat × List Nat := ([], [])
def o35 : List RS := [.t 4]
theorem s35 : slimC Try.prog Try.f35.ntmps v35.1 v35.2 ((Try.f35.body).getD .skip) = some c35 := by kernel_rfl
theorem q35 : slimR Try.prog Try.f35.ntmps v35.1 v35.2 Try.f35.results.toList = some o35 := by kernel_rfl
-- watermeet/carry.last$1
def c36r0 : List SI := [
  ⟨none, .mv 6 (.b false), none, 0⟩]
def c36r1 : List (Bool × SI) := [
  (true, ⟨none, .ld 7 (.t 1) none, none, 0⟩),
  (true, ⟨none, .ld 8 (.t 2) (some 1), none, 0⟩),
  (true, ⟨none, .ld 9 (.t 3) none, none, 0⟩),
  (true, ⟨none, .mv 10 (.t 0), none, 0⟩),
  (true, ⟨none, .ixA 11 (.t 9) (.t 10) 2, none, 0⟩),
  (true, ⟨none, .ld 12 (.t 11) (some 2), none, 0⟩),
  (true, ⟨none, .ld 14 (.t 4) none, none, 0⟩),
  (false, ⟨none, .cav 13 (.t 7) [(.t 8), (.t 12)], none, 0⟩),
  (true, ⟨none, .bin 15 .gtr (.t 13) (.t 14), none, 0⟩),
  (true, ⟨none, .mv 6 (.t 15), none, 0⟩)]
def c36 : SC :=
  (.seq (.reg false c36r0)
  (.seq (.rgX c36r1)
  .ret))
def v36 : List Nat × List Nat := ([], [])
def o36 : List RS := [.t 6]
theorem s36 : slimC Try.prog Try.f36.ntmps v36.1 v36.2 ((Try.f36.body).getD .skip) = some c36 := by kernel_rfl
theorem q36 : slimR Try.prog Try.f36.ntmps v36.1 v36.2 Try.f36.results.toList = some o36 := by kernel_rfl
end Go.Proofs.Ytbddbogdhkikoaa

/- Parts of a proof, 3 texts in one file. No condition. -/
import Derived.Test.YtdiccicokbbcoaaRows
import Derived.Test.YtdiccicokbbcoaaM1
import Derived.Test.YtdiccicokbbcoaaM2

/- The code of the functions, types resolved, as a program of the prover reads it off the translation; each is held by the kernel. No condition. -/
namespace Go.Proofs.Ytdiccicokbbcoaa
open Go Go.Kx
-- watermeet/watermeetlaw04.BatchWrites N=30
def c3r0 : List SI := [
  ⟨none, .bxR 1 (.t 0), none, 0⟩,
  ⟨none, .mv 2 (.b false), none, 0⟩]
def c3r1 : List SI := [
  ⟨none, .call 7 12 [], none, 0⟩,
  ⟨none, .un 8 .not (.t 7), none, 0⟩]
def c3r2 : List SI := [
  ⟨none, .mv 2 (.b false), none, 0⟩]
def c3r3 : List SI := [
  ⟨none, .ldR 9 1 0 (some 10), none, 0⟩,
  ⟨none, .call 10 13 [(.t 9)], none, 0⟩,
  ⟨none, .un 11 .not (.t 10), none, 0⟩]
def c3r4 : List SI := [
  ⟨none, .mv 2 (.b true), none, 0⟩]
def c3r5 : List SI := [
  ⟨none, .ldR 13 1 0 (some 10), none, 0⟩,
  ⟨none, .call 14 14 [(.t 13)], none, 0⟩,
  ⟨none, .mv 12 (.t 14), none, 0⟩,
  ⟨none, .ext 15 (.t 12) 0, none, 0⟩,
  ⟨none, .ext 16 (.t 12) 1, none, 0⟩,
  ⟨none, .mv 3 (.t 15), none, 0⟩,
  ⟨none, .mv 4 (.t 16), none, 0⟩]
def c3r6 : List SI := [
  ⟨none, .ldR 18 1 0 (some 10), none, 0⟩,
  ⟨none, .call 19 15 [(.t 18)], none, 0⟩,
  ⟨none, .mv 17 (.t 19), none, 0⟩,
  ⟨none, .ext 20 (.t 17) 0, none, 0⟩,
  ⟨none, .ext 21 (.t 17) 1, none, 0⟩,
  ⟨none, .mv 5 (.t 20), none, 0⟩,
  ⟨none, .mv 6 (.t 21), none, 0⟩]
def c3r7 : List SI := [
  ⟨none, .mv 22 (.t 3), none, 0⟩,
  ⟨none, .mv 23 (.t 5), none, 0⟩,
  ⟨none, .call 24 16 [(.t 22), (.t 23)], none, 0⟩,
  ⟨none, .mv 25 (.t 24), none, 0⟩,
  ⟨some (25, true), .mv 26 (.t 4), none, 26⟩,
  ⟨some (25, true), .mv 27 (.t 6), none, 27⟩,
  ⟨some (25, true), .bin 28 .eql (.t 26) (.t 27), none, 28⟩,
  ⟨none, .pick 29 (.t 25) (.t 28) (.b false), none, 0⟩,
  ⟨none, .mv 2 (.t 29), none, 0⟩]
def c3 : SC :=
  (.seq (.reg false c3r0)
  (.seq (.seq (.reg false c3r1)
  (.cond (.t 8)
   (.seq (.reg false c3r2)
   .ret)
   .skip))
  (.seq (.seq (.reg false c3r3)
  (.cond (.t 11)
   (.seq (.reg false c3r4)
   .ret)
   .skip))
  (.seq (.reg false c3r5)
  (.seq (.reg false c3r6)
  (.seq (.reg false c3r7)
  .ret))))))
def v3 : List Nat × List Nat := ([1], [1])
def o3 : List RS := [.t 2]
theorem s3 : slimC Try.prog Try.f3.ntmps v3.1 v3.2 ((Try.f3.body).getD .skip) = some c3 := by kernel_rfl
theorem q3 : slimR Try.prog Try.f3.ntmps v3.1 v3.2 Try.f3.results.toList = some o3 := by kernel_rfl
-- watermeet/watermeetlaw04.BatchChecks N=20
def c4r0 : List SI := [
  ⟨none, .bxR 1 (.t 0), none, 0⟩,
  ⟨none, .mv 2 (.b false), none, 0⟩]
def c4r1 : List SI := [
  ⟨none, .call 3 12 [], none, 0⟩,
  ⟨none, .un 4 .not (.t 3), none, 0⟩]
def c4r2 : List SI := [
  ⟨none, .mv 2 (.b false), none, 0⟩]
def c4r3 : List SI := [
  ⟨none, .ldR 5 1 0 (some 10), none, 0⟩,
  ⟨none, .call 6 13 [(.t 5)], none, 0⟩,
  ⟨none, .un 7 .not (.t 6), none, 0⟩]
def c4r4 : List SI := [
  ⟨none, .mv 2 (.b true), none, 0⟩]
def c4r5 : List (Bool × SI) := [
  (true, ⟨none, .ldR 8 1 0 (some 10), none, 0⟩),
  (true, ⟨none, .ldR 10 1 0 (some 10), none, 0⟩),
  (false, ⟨none, .call 9 17 [(.t 8)], none, 0⟩),
  (false, ⟨none, .call 11 18 [(.t 10)], none, 0⟩),
  (true, ⟨none, .bin 12 .eql (.t 9) (.t 11), none, 0⟩),
  (true, ⟨none, .mv 13 (.t 12), none, 0⟩),
  (true, ⟨some (13, true), .ldR 14 1 0 (some 10), none, 14⟩),
  (true, ⟨some (13, true), .ldR 16 1 0 (some 10), none, 16⟩),
  (false, ⟨some (13, true), .call 15 19 [(.t 14)], none, 15⟩),
  (false, ⟨some (13, true), .call 17 20 [(.t 16)], none, 17⟩),
  (true, ⟨some (13, true), .bin 18 .eql (.t 15) (.t 17), none, 18⟩),
  (true, ⟨none, .pick 19 (.t 13) (.t 18) (.b false), none, 0⟩),
  (true, ⟨none, .mv 2 (.t 19), none, 0⟩)]
def c4 : SC :=
  (.seq (.reg false c4r0)
  (.seq (.seq (.reg false c4r1)
  (.cond (.t 4)
   (.seq (.reg false c4r2)
   .ret)
   .skip))
  (.seq (.seq (.reg false c4r3)
  (.cond (.t 7)
   (.seq (.reg false c4r4)
   .ret)
   .skip))
  (.seq (.rgX c4r5)
  .ret))))
def v4 : List Nat × List Nat := ([1], [1])
def o4 : List RS := [.t 2]
theorem s4 : slimC Try.prog Try.f4.ntmps v4.1 v4.2 ((Try.f4.body).getD .skip) = some c4 := by kernel_rfl
theorem q4 : slimR Try.prog Try.f4.ntmps v4.1 v4.2 Try.f4.results.toList = some o4 := by kernel_rfl
-- watermeet/watermeetlaw04.BatchMoves N=77
def c5r0 : List SI := [
  ⟨none, .bxR 3 (.t 0), none, 0⟩,
  ⟨none, .bxR 4 (.t 1), none, 0⟩,
  ⟨none, .mv 6 (.b false), none, 0⟩]
def c5r1 : List SI := [
  ⟨none, .call 14 12 [], none, 0⟩,
  ⟨none, .un 15 .not (.t 14), none, 0⟩]
def c5r2 : List SI := [
  ⟨none, .mv 6 (.b false), none, 0⟩]
def c5r3 : List SI := [
  ⟨none, .ldR 16 3 0 (some 10), none, 0⟩,
  ⟨none, .call 17 13 [(.t 16)], none, 0⟩,
  ⟨none, .un 18 .not (.t 17), none, 0⟩,
  ⟨none, .mv 19 (.t 18), none, 0⟩,
  ⟨some (19, false), .ldR 20 4 0 (some 10), none, 20⟩,
  ⟨some (19, false), .call 21 13 [(.t 20)], none, 21⟩,
  ⟨some (19, false), .un 22 .not (.t 21), none, 22⟩,
  ⟨none, .pick 23 (.t 19) (.b true) (.t 22), none, 0⟩]
def c5r4 : List SI := [
  ⟨none, .mv 6 (.b true), none, 0⟩]
def c5r5 : List SI := [
  ⟨none, .ldR 24 3 0 (some 10), none, 0⟩,
  ⟨none, .call 25 21 [(.t 24)], none, 0⟩,
  ⟨none, .alR 7 [(.int .i64 0), (.int .i64 0), (.int .i64 0), (.int .i64 0), (.int .i64 0), (.int .i64 0), (.int .i64 0), (.bool false), (.int .i64 0), (.slice none 0 0)], none, 0⟩,
  ⟨none, .stR 7 0 10 (.t 25), none, 0⟩]
def c5r6 : List SI := [
  ⟨none, .ldR 27 3 0 (some 10), none, 0⟩,
  ⟨none, .mv 28 (.t 2), none, 0⟩,
  ⟨none, .call 29 22 [(.t 27), (.t 28)], none, 0⟩,
  ⟨none, .mv 26 (.t 29), none, 0⟩,
  ⟨none, .ext 30 (.t 26) 0, none, 0⟩,
  ⟨none, .ext 31 (.t 26) 1, none, 0⟩,
  ⟨none, .alR 8 [(.int .i64 0), (.int .i64 0), (.int .i64 0), (.int .i64 0), (.int .i64 0), (.int .i64 0), (.int .i64 0), (.bool false), (.int .i64 0), (.slice none 0 0)], none, 0⟩,
  ⟨none, .stR 8 0 10 (.t 30), none, 0⟩,
  ⟨none, .mv 9 (.t 31), none, 0⟩]
def c5r7 : List SI := [
  ⟨none, .ldR 33 3 0 (some 10), none, 0⟩,
  ⟨none, .mv 34 (.t 2), none, 0⟩,
  ⟨none, .call 35 23 [(.t 33), (.t 34)], none, 0⟩,
  ⟨none, .mv 32 (.t 35), none, 0⟩,
  ⟨none, .ext 36 (.t 32) 0, none, 0⟩,
  ⟨none, .ext 37 (.t 32) 1, none, 0⟩,
  ⟨none, .alR 10 [(.int .i64 0), (.int .i64 0), (.int .i64 0), (.int .i64 0), (.int .i64 0), (.int .i64 0), (.int .i64 0), (.bool false), (.int .i64 0), (.slice none 0 0)], none, 0⟩,
  ⟨none, .stR 10 0 10 (.t 36), none, 0⟩,
  ⟨none, .mv 11 (.t 37), none, 0⟩]
def c5r8 : List (Bool × SI) := [
  (true, ⟨none, .ldR 38 8 0 (some 10), none, 0⟩),
  (true, ⟨none, .ldR 39 10 0 (some 10), none, 0⟩),
  (false, ⟨none, .call 40 24 [(.t 38), (.t 39)], none, 0⟩),
  (true, ⟨none, .mv 41 (.t 40), none, 0⟩),
  (true, ⟨some (41, true), .mv 42 (.t 9), none, 42⟩),
  (true, ⟨some (41, true), .mv 43 (.t 11), none, 43⟩),
  (true, ⟨some (41, true), .bin 44 .eql (.t 42) (.t 43), none, 44⟩),
  (true, ⟨none, .pick 45 (.t 41) (.t 44) (.b false), none, 0⟩),
  (true, ⟨none, .mv 46 (.t 45), none, 0⟩),
  (true, ⟨some (46, true), .ldR 47 3 0 (some 10), none, 47⟩),
  (true, ⟨some (46, true), .ldR 48 4 0 (some 10), none, 48⟩),
  (true, ⟨some (46, true), .ldR 50 3 0 (some 10), none, 50⟩),
  (true, ⟨some (46, true), .ldR 51 4 0 (some 10), none, 51⟩),
  (false, ⟨some (46, true), .call 49 25 [(.t 47), (.t 48)], none, 49⟩),
  (false, ⟨some (46, true), .call 52 24 [(.t 50), (.t 51)], none, 52⟩),
  (true, ⟨some (46, true), .eqb 53 false (.t 49) (.t 52), none, 53⟩),
  (true, ⟨none, .pick 54 (.t 46) (.t 53) (.b false), none, 0⟩),
  (true, ⟨none, .mv 12 (.t 54), none, 0⟩)]
def c5r9 : List SI := [
  ⟨none, .nop, (some 8), 0⟩,
  ⟨none, .ldR 56 8 9 none, none, 0⟩,
  ⟨none, .len 57 false (.t 56), none, 0⟩,
  ⟨none, .mv 58 (.i 0), none, 0⟩]
def c5r10 : List SI := [
  ⟨none, .bin 59 .lss (.t 58) (.t 57), none, 0⟩]
def c5r11 : List SI := [
  ⟨none, .mv 60 (.t 58), none, 0⟩,
  ⟨none, .mv 13 (.t 60), none, 0⟩]
def c5r12 : List SI := [
  ⟨none, .nop, (some 8), 0⟩,
  ⟨none, .ldR 62 8 9 none, none, 0⟩,
  ⟨none, .mv 63 (.t 13), none, 0⟩,
  ⟨none, .ixA 64 (.t 62) (.t 63) 5, none, 0⟩,
  ⟨none, .flA 65 (.t 64) 0, none, 0⟩,
  ⟨none, .ld 66 (.t 65) none, none, 0⟩,
  ⟨none, .bin 67 .add (.t 66) (.i 1), none, 0⟩,
  ⟨none, .ixA 68 (.t 62) (.t 63) 5, none, 0⟩,
  ⟨none, .flA 69 (.t 68) 0, none, 0⟩,
  ⟨none, .st (.t 69) 1 (.t 67), none, 0⟩]
def c5r13 : List SI := [
  ⟨none, .bin 70 .add (.t 58) (.i 1), none, 0⟩,
  ⟨none, .mv 58 (.t 70), none, 0⟩]
def c5r14 : List SI := [
  ⟨none, .mv 71 (.t 12), none, 0⟩,
  ⟨none, .mv 72 (.t 71), none, 0⟩,
  ⟨some (72, true), .ldR 73 3 0 (some 10), none, 73⟩,
  ⟨some (72, true), .ldR 74 7 0 (some 10), none, 74⟩,
  ⟨some (72, true), .call 75 24 [(.t 73), (.t 74)], none, 75⟩,
  ⟨none, .pick 76 (.t 72) (.t 75) (.b false), none, 0⟩,
  ⟨none, .mv 6 (.t 76), none, 0⟩]
def c5 : SC :=
  (.seq (.reg false c5r0)
  (.seq (.seq (.reg false c5r1)
  (.cond (.t 15)
   (.seq (.reg false c5r2)
   .ret)
   .skip))
  (.seq (.seq (.reg false c5r3)
  (.cond (.t 23)
   (.seq (.reg false c5r4)
   .ret)
   .skip))
  (.seq (.reg false c5r5)
  (.seq (.reg false c5r6)
  (.seq (.reg false c5r7)
  (.seq (.rgX c5r8)
  (.seq (.seq (.reg false c5r9)
  (.blk 0 (.loop (.seq (.reg false c5r10)
    (.seq (.cond (.t 59)
     .skip
     (.exit 0))
    (.seq (.blk 1 (.seq (.reg false c5r11)
     (.reg false c5r12)))
    (.reg false c5r13)))))))
  (.seq (.reg false c5r14)
  .ret)))))))))
def v5 : List Nat × List Nat := ([3, 4, 7, 8, 10], [3, 4, 7, 8, 10, 55, 61])
def o5 : List RS := [.t 6]
theorem s5 : slimC Try.prog Try.f5.ntmps v5.1 v5.2 ((Try.f5.body).getD .skip) = some c5 := by kernel_rfl
theorem q5 : slimR Try.prog Try.f5.ntmps v5.1 v5.2 Try.f5.results.toList = some o5 := by kernel_rfl
-- watermeet/watermeetlaw04.BatchThere N=104
def c6r0 : List SI := [
  ⟨none, .bxR 2 (.t 0), none, 0⟩,
  ⟨none, .mv 4 (.b false), none, 0⟩]
def c6r1 : List SI := [
  ⟨none, .call 11 12 [], none, 0⟩,
  ⟨none, .un 12 .not (.t 11), none, 0⟩]
def c6r2 : List SI := [
  ⟨none, .mv 4 (.b false), none, 0⟩]
def c6r3 : List SI := [
  ⟨none, .ldR 13 2 0 (some 10), none, 0⟩,
  ⟨none, .call 14 13 [(.t 13)], none, 0⟩,
  ⟨none, .un 15 .not (.t 14), none, 0⟩]
def c6r4 : List SI := [
  ⟨none, .mv 4 (.b true), none, 0⟩]
def c6r5 : List SI := [
  ⟨none, .ldR 17 2 0 (some 10), none, 0⟩,
  ⟨none, .mv 18 (.t 1), none, 0⟩,
  ⟨none, .call 19 22 [(.t 17), (.t 18)], none, 0⟩,
  ⟨none, .mv 16 (.t 19), none, 0⟩,
  ⟨none, .ext 20 (.t 16) 0, none, 0⟩,
  ⟨none, .ext 21 (.t 16) 1, none, 0⟩,
  ⟨none, .alR 5 [(.int .i64 0), (.int .i64 0), (.int .i64 0), (.int .i64 0), (.int .i64 0), (.int .i64 0), (.int .i64 0), (.bool false), (.int .i64 0), (.slice none 0 0)], none, 0⟩,
  ⟨none, .stR 5 0 10 (.t 20), none, 0⟩,
  ⟨none, .mv 6 (.t 21), none, 0⟩]
def c6r6 : List SI := [
  ⟨none, .mv 22 (.t 6), none, 0⟩,
  ⟨none, .bin 23 .neq (.t 22) (.i 0), none, 0⟩]
def c6r7 : List SI := [
  ⟨none, .ldR 24 5 0 (some 10), none, 0⟩,
  ⟨none, .bld 25 [(.int .i64 0), (.int .i64 0), (.int .i64 0), (.int .i64 0), (.int .i64 0), (.int .i64 0), (.int .i64 0), (.bool false), (.int .i64 0), (.slice none 0 0)] [], none, 0⟩,
  ⟨none, .call 26 25 [(.t 24), (.t 25)], none, 0⟩,
  ⟨none, .mv 4 (.t 26), none, 0⟩]
def c6r8 : List SI := [
  ⟨none, .ldR 28 5 0 (some 10), none, 0⟩,
  ⟨none, .nop, (some 2), 0⟩,
  ⟨none, .ldR 30 2 0 none, none, 0⟩,
  ⟨none, .call 31 22 [(.t 28), (.t 30)], none, 0⟩,
  ⟨none, .mv 27 (.t 31), none, 0⟩,
  ⟨none, .ext 32 (.t 27) 0, none, 0⟩,
  ⟨none, .ext 33 (.t 27) 1, none, 0⟩,
  ⟨none, .alR 7 [(.int .i64 0), (.int .i64 0), (.int .i64 0), (.int .i64 0), (.int .i64 0), (.int .i64 0), (.int .i64 0), (.bool false), (.int .i64 0), (.slice none 0 0)], none, 0⟩,
  ⟨none, .stR 7 0 10 (.t 32), none, 0⟩,
  ⟨none, .mv 8 (.t 33), none, 0⟩]
def c6r9 : List SI := [
  ⟨none, .mv 34 (.t 8), none, 0⟩,
  ⟨none, .bin 35 .neq (.t 34) (.i 0), none, 0⟩,
  ⟨none, .mv 36 (.t 35), none, 0⟩,
  ⟨some (36, false), .ldR 37 7 0 (some 10), none, 37⟩,
  ⟨some (36, false), .ldR 38 2 0 (some 10), none, 38⟩,
  ⟨some (36, false), .call 39 25 [(.t 37), (.t 38)], none, 39⟩,
  ⟨some (36, false), .un 40 .not (.t 39), none, 40⟩,
  ⟨none, .pick 41 (.t 36) (.b true) (.t 40), none, 0⟩,
  ⟨none, .mv 42 (.t 41), none, 0⟩,
  ⟨some (42, false), .nop, (some 5), 99999⟩,
  ⟨some (42, false), .ldR 44 5 0 none, none, 44⟩,
  ⟨some (42, false), .mv 45 (.t 1), none, 45⟩,
  ⟨some (42, false), .bin 46 .neq (.t 44) (.t 45), none, 46⟩,
  ⟨none, .pick 47 (.t 42) (.b true) (.t 46), none, 0⟩,
  ⟨none, .mv 48 (.t 47), none, 0⟩,
  ⟨some (48, false), .nop, (some 5), 99999⟩,
  ⟨some (48, false), .ldR 50 5 1 none, none, 50⟩,
  ⟨some (48, false), .nop, (some 5), 99999⟩,
  ⟨some (48, false), .ldR 52 5 0 none, none, 52⟩,
  ⟨some (48, false), .bin 53 .sub (.t 50) (.t 52), none, 53⟩,
  ⟨some (48, false), .nop, (some 2), 99999⟩,
  ⟨some (48, false), .ldR 55 2 1 none, none, 55⟩,
  ⟨some (48, false), .nop, (some 2), 99999⟩,
  ⟨some (48, false), .ldR 57 2 0 none, none, 57⟩,
  ⟨some (48, false), .bin 58 .sub (.t 55) (.t 57), none, 58⟩,
  ⟨some (48, false), .bin 59 .neq (.t 53) (.t 58), none, 59⟩,
  ⟨none, .pick 60 (.t 48) (.b true) (.t 59), none, 0⟩,
  ⟨none, .mv 61 (.t 60), none, 0⟩,
  ⟨some (61, false), .nop, (some 5), 99999⟩,
  ⟨some (61, false), .ldR 63 5 2 none, none, 63⟩,
  ⟨some (61, false), .nop, (some 2), 99999⟩,
  ⟨some (61, false), .ldR 65 2 2 none, none, 65⟩,
  ⟨some (61, false), .bin 66 .neq (.t 63) (.t 65), none, 66⟩,
  ⟨none, .pick 67 (.t 61) (.b true) (.t 66), none, 0⟩,
  ⟨none, .mv 68 (.t 67), none, 0⟩,
  ⟨some (68, false), .nop, (some 5), 99999⟩,
  ⟨some (68, false), .ldR 70 5 9 none, none, 70⟩,
  ⟨some (68, false), .len 71 false (.t 70), none, 71⟩,
  ⟨some (68, false), .nop, (some 2), 99999⟩,
  ⟨some (68, false), .ldR 73 2 9 none, none, 73⟩,
  ⟨some (68, false), .len 74 false (.t 73), none, 74⟩,
  ⟨some (68, false), .bin 75 .neq (.t 71) (.t 74), none, 75⟩,
  ⟨none, .pick 76 (.t 68) (.b true) (.t 75), none, 0⟩]
def c6r10 : List SI := [
  ⟨none, .mv 4 (.b false), none, 0⟩]
def c6r11 : List SI := [
  ⟨none, .nop, (some 5), 0⟩,
  ⟨none, .ldR 78 5 9 none, none, 0⟩,
  ⟨none, .len 79 false (.t 78), none, 0⟩,
  ⟨none, .mv 80 (.i 0), none, 0⟩]
def c6r12 : List SI := [
  ⟨none, .bin 81 .lss (.t 80) (.t 79), none, 0⟩]
def c6r13 : List SI := [
  ⟨none, .mv 82 (.t 80), none, 0⟩,
  ⟨none, .ixA 83 (.t 78) (.t 80) 5, none, 0⟩,
  ⟨none, .ld 84 (.t 83) (some 5), none, 0⟩,
  ⟨none, .alR 10 [(.int .i64 0), (.string ⟨#[]⟩), (.string ⟨#[]⟩), (.bool false), (.int .i64 0)], none, 0⟩,
  ⟨none, .mv 9 (.t 82), none, 0⟩,
  ⟨none, .stR 10 0 5 (.t 84), none, 0⟩]
def c6r14 : List SI := [
  ⟨none, .nop, (some 10), 0⟩,
  ⟨none, .ldR 86 10 0 none, none, 0⟩,
  ⟨none, .nop, (some 2), 0⟩,
  ⟨none, .ldR 88 2 0 none, none, 0⟩,
  ⟨none, .mv 89 (.t 1), none, 0⟩,
  ⟨none, .bin 90 .sub (.t 88) (.t 89), none, 0⟩,
  ⟨none, .bin 91 .add (.t 86) (.t 90), none, 0⟩,
  ⟨none, .nop, (some 10), 0⟩,
  ⟨none, .stR 10 0 1 (.t 91), none, 0⟩]
def c6r15 : List SI := [
  ⟨none, .ldR 93 10 0 (some 5), none, 0⟩,
  ⟨none, .nop, (some 2), 0⟩,
  ⟨none, .ldR 95 2 9 none, none, 0⟩,
  ⟨none, .mv 96 (.t 9), none, 0⟩,
  ⟨none, .ixA 97 (.t 95) (.t 96) 5, none, 0⟩,
  ⟨none, .ld 98 (.t 97) (some 5), none, 0⟩,
  ⟨none, .eqf 99 true [0, 2, 2, 1, 0] (.t 93) (.t 98), none, 0⟩]
def c6r16 : List SI := [
  ⟨none, .mv 4 (.b false), none, 0⟩]
def c6r17 : List SI := [
  ⟨none, .bin 100 .add (.t 80) (.i 1), none, 0⟩,
  ⟨none, .mv 80 (.t 100), none, 0⟩]
def c6r18 : List SI := [
  ⟨none, .ldR 101 5 0 (some 10), none, 0⟩,
  ⟨none, .call 102 17 [(.t 101)], none, 0⟩,
  ⟨none, .bin 103 .eql (.t 102) (.i 0), none, 0⟩,
  ⟨none, .mv 4 (.t 103), none, 0⟩]
def c6 : SC :=
  (.seq (.reg false c6r0)
  (.seq (.seq (.reg false c6r1)
  (.cond (.t 12)
   (.seq (.reg false c6r2)
   .ret)
   .skip))
  (.seq (.seq (.reg false c6r3)
  (.cond (.t 15)
   (.seq (.reg false c6r4)
   .ret)
   .skip))
  (.seq (.reg false c6r5)
  (.seq (.seq (.reg false c6r6)
  (.cond (.t 23)
   (.seq (.reg false c6r7)
   .ret)
   .skip))
  (.seq (.reg false c6r8)
  (.seq (.seq (.reg false c6r9)
  (.cond (.t 76)
   (.seq (.reg false c6r10)
   .ret)
   .skip))
  (.seq (.seq (.reg false c6r11)
  (.blk 0 (.loop (.seq (.reg false c6r12)
    (.seq (.cond (.t 81)
     .skip
     (.exit 0))
    (.seq (.blk 1 (.seq (.reg false c6r13)
     (.seq (.reg false c6r14)
     (.seq (.reg true c6r15)
     (.cond (.t 99)
      (.seq (.reg false c6r16)
      .ret)
      .skip)))))
    (.reg false c6r17)))))))
  (.seq (.reg false c6r18)
  .ret)))))))))
def v6 : List Nat × List Nat := ([2, 5, 7, 10], [2, 5, 7, 10, 29, 43, 49, 51, 54, 56, 62, 64, 69, 72, 77, 85, 87, 92, 94])
def o6 : List RS := [.t 4]
theorem s6 : slimC Try.prog Try.f6.ntmps v6.1 v6.2 ((Try.f6.body).getD .skip) = some c6 := by kernel_rfl
theorem q6 : slimR Try.prog Try.f6.ntmps v6.1 v6.2 Try.f6.results.toList = some o6 := by kernel_rfl
-- watermeet/watermeetlaw04.BatchReads N=51
def c7r0 : List SI := [
  ⟨none, .mv 4 (.b false), none, 0⟩]
def c7r1 : List SI := [
  ⟨none, .call 12 12 [], none, 0⟩,
  ⟨none, .un 13 .not (.t 12), none, 0⟩]
def c7r2 : List SI := [
  ⟨none, .mv 4 (.b false), none, 0⟩]
def c7r3 : List SI := [
  ⟨none, .mv 14 (.t 0), none, 0⟩,
  ⟨none, .len 15 false (.t 14), none, 0⟩,
  ⟨none, .bin 16 .gtr (.t 15) (.i 5000), none, 0⟩]
def c7r4 : List SI := [
  ⟨none, .mv 4 (.b true), none, 0⟩]
def c7r5 : List SI := [
  ⟨none, .mv 17 (.t 0), none, 0⟩,
  ⟨none, .call 18 26 [(.t 17)], none, 0⟩,
  ⟨none, .mv 5 (.t 18), none, 0⟩]
def c7r6 : List SI := [
  ⟨none, .mv 20 (.t 0), none, 0⟩,
  ⟨none, .mv 21 (.t 1), none, 0⟩,
  ⟨none, .call 22 27 [(.t 20), (.t 21)], none, 0⟩,
  ⟨none, .mv 19 (.t 22), none, 0⟩,
  ⟨none, .ext 23 (.t 19) 0, none, 0⟩,
  ⟨none, .ext 24 (.t 19) 1, none, 0⟩,
  ⟨none, .ext 25 (.t 19) 2, none, 0⟩,
  ⟨none, .alR 6 [(.int .i64 0), (.int .i64 0), (.int .i64 0), (.int .i64 0), (.int .i64 0), (.int .i64 0), (.int .i64 0), (.bool false), (.int .i64 0), (.slice none 0 0)], none, 0⟩,
  ⟨none, .stR 6 0 10 (.t 23), none, 0⟩,
  ⟨none, .mv 7 (.t 24), none, 0⟩,
  ⟨none, .mv 8 (.t 25), none, 0⟩]
def c7r7 : List SI := [
  ⟨none, .mv 27 (.t 0), none, 0⟩,
  ⟨none, .mv 28 (.t 1), none, 0⟩,
  ⟨none, .call 29 28 [(.t 27), (.t 28)], none, 0⟩,
  ⟨none, .mv 26 (.t 29), none, 0⟩,
  ⟨none, .ext 30 (.t 26) 0, none, 0⟩,
  ⟨none, .ext 31 (.t 26) 1, none, 0⟩,
  ⟨none, .ext 32 (.t 26) 2, none, 0⟩,
  ⟨none, .alR 9 [(.int .i64 0), (.int .i64 0), (.int .i64 0), (.int .i64 0), (.int .i64 0), (.int .i64 0), (.int .i64 0), (.bool false), (.int .i64 0), (.slice none 0 0)], none, 0⟩,
  ⟨none, .stR 9 0 10 (.t 30), none, 0⟩,
  ⟨none, .mv 10 (.t 31), none, 0⟩,
  ⟨none, .mv 11 (.t 32), none, 0⟩]
def c7r8 : List SI := [
  ⟨none, .ldR 33 6 0 (some 10), none, 0⟩,
  ⟨none, .ldR 34 9 0 (some 10), none, 0⟩,
  ⟨none, .call 35 24 [(.t 33), (.t 34)], none, 0⟩,
  ⟨none, .mv 36 (.t 35), none, 0⟩,
  ⟨some (36, true), .mv 37 (.t 7), none, 37⟩,
  ⟨some (36, true), .mv 38 (.t 10), none, 38⟩,
  ⟨some (36, true), .bin 39 .eql (.t 37) (.t 38), none, 39⟩,
  ⟨none, .pick 40 (.t 36) (.t 39) (.b false), none, 0⟩,
  ⟨none, .mv 41 (.t 40), none, 0⟩,
  ⟨some (41, true), .mv 42 (.t 8), none, 42⟩,
  ⟨some (41, true), .mv 43 (.t 11), none, 43⟩,
  ⟨some (41, true), .bin 44 .eql (.t 42) (.t 43), none, 44⟩,
  ⟨none, .pick 45 (.t 41) (.t 44) (.b false), none, 0⟩,
  ⟨none, .mv 46 (.t 45), none, 0⟩,
  ⟨some (46, true), .mv 47 (.t 0), none, 47⟩,
  ⟨some (46, true), .mv 48 (.t 5), none, 48⟩,
  ⟨some (46, true), .call 49 16 [(.t 47), (.t 48)], none, 49⟩,
  ⟨none, .pick 50 (.t 46) (.t 49) (.b false), none, 0⟩,
  ⟨none, .mv 4 (.t 50), none, 0⟩]
def c7 : SC :=
  (.seq (.reg false c7r0)
  (.seq (.seq (.reg false c7r1)
  (.cond (.t 13)
   (.seq (.reg false c7r2)
   .ret)
   .skip))
  (.seq (.seq (.reg false c7r3)
  (.cond (.t 16)
   (.seq (.reg false c7r4)
   .ret)
   .skip))
  (.seq (.reg false c7r5)
  (.seq (.reg false c7r6)
  (.seq (.reg false c7r7)
  (.seq (.reg false c7r8)
  .ret)))))))
def v7 : List Nat × List Nat := ([6, 9], [6, 9])
def o7 : List RS := [.t 4]
theorem s7 : slimC Try.prog Try.f7.ntmps v7.1 v7.2 ((Try.f7.body).getD .skip) = some c7 := by kernel_rfl
theorem q7 : slimR Try.prog Try.f7.ntmps v7.1 v7.2 Try.f7.results.toList = some o7 := by kernel_rfl
-- watermeet/watermeetlaw04.BatchBack N=86
def c8r0 : List SI := [
  ⟨none, .bxR 3 (.t 0), none, 0⟩,
  ⟨none, .mv 6 (.b false), none, 0⟩]
def c8r1 : List SI := [
  ⟨none, .call 13 12 [], none, 0⟩,
  ⟨none, .un 14 .not (.t 13), none, 0⟩]
def c8r2 : List SI := [
  ⟨none, .mv 6 (.b false), none, 0⟩]
def c8r3 : List SI := [
  ⟨none, .ldR 15 3 0 (some 10), none, 0⟩,
  ⟨none, .call 16 13 [(.t 15)], none, 0⟩,
  ⟨none, .un 17 .not (.t 16), none, 0⟩,
  ⟨none, .mv 18 (.t 17), none, 0⟩,
  ⟨some (18, false), .mv 19 (.t 1), none, 19⟩,
  ⟨some (18, false), .len 20 false (.t 19), none, 20⟩,
  ⟨some (18, false), .bin 21 .gtr (.t 20) (.i 3000), none, 21⟩,
  ⟨none, .pick 22 (.t 18) (.b true) (.t 21), none, 0⟩,
  ⟨none, .mv 23 (.t 22), none, 0⟩,
  ⟨some (23, false), .mv 24 (.t 2), none, 24⟩,
  ⟨some (23, false), .len 25 false (.t 24), none, 25⟩,
  ⟨some (23, false), .bin 26 .gtr (.t 25) (.i 3000), none, 26⟩,
  ⟨none, .pick 27 (.t 23) (.b true) (.t 26), none, 0⟩]
def c8r4 : List SI := [
  ⟨none, .mv 6 (.b true), none, 0⟩]
def c8r5 : List SI := [
  ⟨none, .ldR 29 3 0 (some 10), none, 0⟩,
  ⟨none, .call 30 14 [(.t 29)], none, 0⟩,
  ⟨none, .mv 28 (.t 30), none, 0⟩,
  ⟨none, .ext 31 (.t 28) 0, none, 0⟩,
  ⟨none, .ext 32 (.t 28) 1, none, 0⟩,
  ⟨none, .mv 7 (.t 31), none, 0⟩,
  ⟨none, .mv 8 (.t 32), none, 0⟩]
def c8r6 : List SI := [
  ⟨none, .mv 33 (.t 8), none, 0⟩,
  ⟨none, .bin 34 .neq (.t 33) (.i 0), none, 0⟩]
def c8r7 : List SI := [
  ⟨none, .mv 35 (.t 7), none, 0⟩,
  ⟨none, .len 36 false (.t 35), none, 0⟩,
  ⟨none, .bin 37 .eql (.t 36) (.i 0), none, 0⟩,
  ⟨none, .mv 38 (.t 37), none, 0⟩,
  ⟨some (38, true), .mv 39 (.t 8), none, 39⟩,
  ⟨some (38, true), .ldR 40 3 0 (some 10), none, 40⟩,
  ⟨some (38, true), .call 41 17 [(.t 40)], none, 41⟩,
  ⟨some (38, true), .bin 42 .eql (.t 39) (.t 41), none, 42⟩,
  ⟨none, .pick 43 (.t 38) (.t 42) (.b false), none, 0⟩,
  ⟨none, .mv 6 (.t 43), none, 0⟩]
def c8r8 : List SI := [
  ⟨none, .mv 44 (.t 1), none, 0⟩,
  ⟨none, .call 45 26 [(.t 44)], none, 0⟩,
  ⟨none, .mv 46 (.t 7), none, 0⟩,
  ⟨none, .app 47 (.t 45) (.t 46) 5 1 1, none, 0⟩,
  ⟨none, .mv 48 (.t 2), none, 0⟩,
  ⟨none, .app 49 (.t 47) (.t 48) 5 1 1, none, 0⟩,
  ⟨none, .mv 9 (.t 49), none, 0⟩]
def c8r9 : List SI := [
  ⟨none, .mv 51 (.t 9), none, 0⟩,
  ⟨none, .mv 52 (.t 1), none, 0⟩,
  ⟨none, .len 53 false (.t 52), none, 0⟩,
  ⟨none, .call 54 27 [(.t 51), (.t 53)], none, 0⟩,
  ⟨none, .mv 50 (.t 54), none, 0⟩,
  ⟨none, .ext 55 (.t 50) 0, none, 0⟩,
  ⟨none, .ext 56 (.t 50) 1, none, 0⟩,
  ⟨none, .ext 57 (.t 50) 2, none, 0⟩,
  ⟨none, .alR 10 [(.int .i64 0), (.int .i64 0), (.int .i64 0), (.int .i64 0), (.int .i64 0), (.int .i64 0), (.int .i64 0), (.bool false), (.int .i64 0), (.slice none 0 0)], none, 0⟩,
  ⟨none, .stR 10 0 10 (.t 55), none, 0⟩,
  ⟨none, .mv 11 (.t 56), none, 0⟩,
  ⟨none, .mv 12 (.t 57), none, 0⟩]
def c8r10 : List SI := [
  ⟨none, .mv 58 (.t 12), none, 0⟩,
  ⟨none, .bin 59 .eql (.t 58) (.i 0), none, 0⟩,
  ⟨none, .mv 60 (.t 59), none, 0⟩,
  ⟨some (60, true), .mv 61 (.t 11), none, 61⟩,
  ⟨some (60, true), .mv 62 (.t 1), none, 62⟩,
  ⟨some (60, true), .len 63 false (.t 62), none, 63⟩,
  ⟨some (60, true), .mv 64 (.t 7), none, 64⟩,
  ⟨some (60, true), .len 65 false (.t 64), none, 65⟩,
  ⟨some (60, true), .bin 66 .add (.t 63) (.t 65), none, 66⟩,
  ⟨some (60, true), .bin 67 .eql (.t 61) (.t 66), none, 67⟩,
  ⟨none, .pick 68 (.t 60) (.t 67) (.b false), none, 0⟩,
  ⟨none, .mv 69 (.t 68), none, 0⟩,
  ⟨some (69, true), .ldR 70 10 0 (some 10), none, 70⟩,
  ⟨some (69, true), .ldR 71 3 0 (some 10), none, 71⟩,
  ⟨some (69, true), .call 72 25 [(.t 70), (.t 71)], none, 72⟩,
  ⟨none, .pick 73 (.t 69) (.t 72) (.b false), none, 0⟩,
  ⟨none, .mv 74 (.t 73), none, 0⟩,
  ⟨some (74, true), .mv 75 (.t 7), none, 75⟩,
  ⟨some (74, true), .len 76 false (.t 75), none, 76⟩,
  ⟨some (74, true), .ldR 77 3 0 (some 10), none, 77⟩,
  ⟨some (74, true), .call 78 19 [(.t 77)], none, 78⟩,
  ⟨some (74, true), .bin 79 .eql (.t 76) (.t 78), none, 79⟩,
  ⟨none, .pick 80 (.t 74) (.t 79) (.b false), none, 0⟩,
  ⟨none, .mv 81 (.t 80), none, 0⟩,
  ⟨some (81, true), .mv 82 (.t 7), none, 82⟩,
  ⟨some (81, true), .len 83 false (.t 82), none, 83⟩,
  ⟨some (81, true), .bin 84 .leq (.t 83) (.i 2048), none, 84⟩,
  ⟨none, .pick 85 (.t 81) (.t 84) (.b false), none, 0⟩,
  ⟨none, .mv 6 (.t 85), none, 0⟩]
def c8 : SC :=
  (.seq (.reg false c8r0)
  (.seq (.seq (.reg false c8r1)
  (.cond (.t 14)
   (.seq (.reg false c8r2)
   .ret)
   .skip))
  (.seq (.seq (.reg false c8r3)
  (.cond (.t 27)
   (.seq (.reg false c8r4)
   .ret)
   .skip))
  (.seq (.reg false c8r5)
  (.seq (.seq (.reg false c8r6)
  (.cond (.t 34)
   (.seq (.reg false c8r7)
   .ret)
   .skip))
  (.seq (.reg false c8r8)
  (.seq (.reg false c8r9)
  (.seq (.reg false c8r10)
  .ret))))))))
def v8 : List Nat × List Nat := ([3, 10], [3, 10])
def o8 : List RS := [.t 6]
theorem s8 : slimC Try.prog Try.f8.ntmps v8.1 v8.2 ((Try.f8.body).getD .skip) = some c8 := by kernel_rfl
theorem q8 : slimR Try.prog Try.f8.ntmps v8.1 v8.2 Try.f8.results.toList = some o8 := by kernel_rfl
-- watermeet/watermeetlaw04.BatchOne N=66
def c9r0 : List SI := [
  ⟨none, .mv 4 (.b false), none, 0⟩]
def c9r1 : List SI := [
  ⟨none, .call 10 12 [], none, 0⟩,
  ⟨none, .un 11 .not (.t 10), none, 0⟩]
def c9r2 : List SI := [
  ⟨none, .mv 4 (.b false), none, 0⟩]
def c9r3 : List SI := [
  ⟨none, .mv 12 (.t 0), none, 0⟩,
  ⟨none, .len 13 false (.t 12), none, 0⟩,
  ⟨none, .bin 14 .gtr (.t 13) (.i 5000), none, 0⟩]
def c9r4 : List SI := [
  ⟨none, .mv 4 (.b true), none, 0⟩]
def c9r5 : List SI := [
  ⟨none, .mv 16 (.t 0), none, 0⟩,
  ⟨none, .mv 17 (.t 1), none, 0⟩,
  ⟨none, .call 18 27 [(.t 16), (.t 17)], none, 0⟩,
  ⟨none, .mv 15 (.t 18), none, 0⟩,
  ⟨none, .ext 19 (.t 15) 0, none, 0⟩,
  ⟨none, .ext 20 (.t 15) 1, none, 0⟩,
  ⟨none, .ext 21 (.t 15) 2, none, 0⟩,
  ⟨none, .alR 5 [(.int .i64 0), (.int .i64 0), (.int .i64 0), (.int .i64 0), (.int .i64 0), (.int .i64 0), (.int .i64 0), (.bool false), (.int .i64 0), (.slice none 0 0)], none, 0⟩,
  ⟨none, .stR 5 0 10 (.t 19), none, 0⟩,
  ⟨none, .mv 6 (.t 20), none, 0⟩,
  ⟨none, .mv 7 (.t 21), none, 0⟩]
def c9r6 : List SI := [
  ⟨none, .mv 22 (.t 7), none, 0⟩,
  ⟨none, .bin 23 .neq (.t 22) (.i 0), none, 0⟩]
def c9r7 : List SI := [
  ⟨none, .mv 24 (.t 6), none, 0⟩,
  ⟨none, .bin 25 .eql (.t 24) (.i 0), none, 0⟩,
  ⟨none, .mv 26 (.t 25), none, 0⟩,
  ⟨some (26, true), .ldR 27 5 0 (some 10), none, 27⟩,
  ⟨some (26, true), .bld 28 [(.int .i64 0), (.int .i64 0), (.int .i64 0), (.int .i64 0), (.int .i64 0), (.int .i64 0), (.int .i64 0), (.bool false), (.int .i64 0), (.slice none 0 0)] [], none, 28⟩,
  ⟨some (26, true), .call 29 25 [(.t 27), (.t 28)], none, 29⟩,
  ⟨none, .pick 30 (.t 26) (.t 29) (.b false), none, 0⟩,
  ⟨none, .mv 4 (.t 30), none, 0⟩]
def c9r8 : List SI := [
  ⟨none, .ldR 32 5 0 (some 10), none, 0⟩,
  ⟨none, .call 33 14 [(.t 32)], none, 0⟩,
  ⟨none, .mv 31 (.t 33), none, 0⟩,
  ⟨none, .ext 34 (.t 31) 0, none, 0⟩,
  ⟨none, .ext 35 (.t 31) 1, none, 0⟩,
  ⟨none, .mv 8 (.t 34), none, 0⟩,
  ⟨none, .mv 9 (.t 35), none, 0⟩]
def c9r9 : List SI := [
  ⟨none, .mv 36 (.t 9), none, 0⟩,
  ⟨none, .bin 37 .eql (.t 36) (.i 0), none, 0⟩,
  ⟨none, .mv 38 (.t 37), none, 0⟩,
  ⟨some (38, true), .mv 39 (.t 1), none, 39⟩,
  ⟨some (38, true), .bin 40 .geq (.t 39) (.i 0), none, 40⟩,
  ⟨none, .pick 41 (.t 38) (.t 40) (.b false), none, 0⟩,
  ⟨none, .mv 42 (.t 41), none, 0⟩,
  ⟨some (42, true), .mv 43 (.t 6), none, 43⟩,
  ⟨some (42, true), .mv 44 (.t 1), none, 44⟩,
  ⟨some (42, true), .bin 45 .gtr (.t 43) (.t 44), none, 45⟩,
  ⟨none, .pick 46 (.t 42) (.t 45) (.b false), none, 0⟩,
  ⟨none, .mv 47 (.t 46), none, 0⟩,
  ⟨some (47, true), .mv 48 (.t 6), none, 48⟩,
  ⟨some (47, true), .mv 49 (.t 0), none, 49⟩,
  ⟨some (47, true), .len 50 false (.t 49), none, 50⟩,
  ⟨some (47, true), .bin 51 .leq (.t 48) (.t 50), none, 51⟩,
  ⟨none, .pick 52 (.t 47) (.t 51) (.b false), none, 0⟩,
  ⟨none, .mv 53 (.t 52), none, 0⟩,
  ⟨some (53, true), .mv 54 (.t 8), none, 54⟩,
  ⟨some (53, true), .mv 55 (.t 0), none, 55⟩,
  ⟨some (53, true), .mv 56 (.t 1), none, 56⟩,
  ⟨some (53, true), .mv 57 (.t 6), none, 57⟩,
  ⟨some (53, true), .sl 58 (.t 55) (some (.t 56)) (some (.t 57)) none 1, none, 58⟩,
  ⟨some (53, true), .call 59 16 [(.t 54), (.t 58)], none, 59⟩,
  ⟨none, .pick 60 (.t 53) (.t 59) (.b false), none, 0⟩,
  ⟨none, .mv 61 (.t 60), none, 0⟩,
  ⟨some (61, true), .ldR 62 5 0 (some 10), none, 62⟩,
  ⟨some (61, true), .call 63 17 [(.t 62)], none, 63⟩,
  ⟨some (61, true), .bin 64 .eql (.t 63) (.i 0), none, 64⟩,
  ⟨none, .pick 65 (.t 61) (.t 64) (.b false), none, 0⟩,
  ⟨none, .mv 4 (.t 65), none, 0⟩]
def c9 : SC :=
  (.seq (.reg false c9r0)
  (.seq (.seq (.reg false c9r1)
  (.cond (.t 11)
   (.seq (.reg false c9r2)
   .ret)
   .skip))
  (.seq (.seq (.reg false c9r3)
  (.cond (.t 14)
   (.seq (.reg false c9r4)
   .ret)
   .skip))
  (.seq (.reg false c9r5)
  (.seq (.seq (.reg false c9r6)
  (.cond (.t 23)
   (.seq (.reg false c9r7)
   .ret)
   .skip))
  (.seq (.reg false c9r8)
  (.seq (.reg false c9r9)
  .ret)))))))
def v9 : List Nat × List Nat := ([5], [5])
def o9 : List RS := [.t 4]
theorem s9 : slimC Try.prog Try.f9.ntmps v9.1 v9.2 ((Try.f9.body).getD .skip) = some c9 := by kernel_rfl
theorem q9 : slimR Try.prog Try.f9.ntmps v9.1 v9.2 Try.f9.results.toList = some o9 := by kernel_rfl
-- watermeet/watermeetlaw04.BatchSpoilt N=86
def c10r0 : List SI := [
  ⟨none, .bxR 4 (.t 0), none, 0⟩,
  ⟨none, .mv 8 (.b false), none, 0⟩]
def c10r1 : List SI := [
  ⟨none, .call 18 12 [], none, 0⟩,
  ⟨none, .un 19 .not (.t 18), none, 0⟩]
def c10r2 : List SI := [
  ⟨none, .mv 8 (.b false), none, 0⟩]
def c10r3 : List SI := [
  ⟨none, .ldR 20 4 0 (some 10), none, 0⟩,
  ⟨none, .call 21 13 [(.t 20)], none, 0⟩,
  ⟨none, .un 22 .not (.t 21), none, 0⟩,
  ⟨none, .mv 23 (.t 22), none, 0⟩,
  ⟨some (23, false), .mv 24 (.t 1), none, 24⟩,
  ⟨some (23, false), .bin 25 .lss (.t 24) (.i 0), none, 25⟩,
  ⟨none, .pick 26 (.t 23) (.b true) (.t 25), none, 0⟩,
  ⟨none, .mv 27 (.t 26), none, 0⟩,
  ⟨some (27, false), .mv 28 (.t 2), none, 28⟩,
  ⟨some (27, false), .bin 29 .lss (.t 28) (.i 0), none, 29⟩,
  ⟨none, .pick 30 (.t 27) (.b true) (.t 29), none, 0⟩]
def c10r4 : List SI := [
  ⟨none, .mv 8 (.b true), none, 0⟩]
def c10r5 : List SI := [
  ⟨none, .ldR 32 4 0 (some 10), none, 0⟩,
  ⟨none, .call 33 14 [(.t 32)], none, 0⟩,
  ⟨none, .mv 31 (.t 33), none, 0⟩,
  ⟨none, .ext 34 (.t 31) 0, none, 0⟩,
  ⟨none, .ext 35 (.t 31) 1, none, 0⟩,
  ⟨none, .mv 9 (.t 34), none, 0⟩,
  ⟨none, .mv 10 (.t 35), none, 0⟩]
def c10r6 : List SI := [
  ⟨none, .mv 36 (.t 10), none, 0⟩,
  ⟨none, .bin 37 .neq (.t 36) (.i 0), none, 0⟩]
def c10r7 : List SI := [
  ⟨none, .mv 38 (.t 9), none, 0⟩,
  ⟨none, .len 39 false (.t 38), none, 0⟩,
  ⟨none, .bin 40 .eql (.t 39) (.i 0), none, 0⟩,
  ⟨none, .mv 8 (.t 40), none, 0⟩]
def c10r8 : List SI := [
  ⟨none, .mv 41 (.t 9), none, 0⟩,
  ⟨none, .len 42 false (.t 41), none, 0⟩,
  ⟨none, .bin 43 .eql (.t 42) (.i 0), none, 0⟩]
def c10r9 : List SI := [
  ⟨none, .mv 8 (.b false), none, 0⟩]
def c10r10 : List SI := [
  ⟨none, .mv 45 (.t 9), none, 0⟩,
  ⟨none, .mv 46 (.t 2), none, 0⟩,
  ⟨none, .mv 47 (.t 9), none, 0⟩,
  ⟨none, .len 48 false (.t 47), none, 0⟩,
  ⟨none, .bin 49 .rem (.t 46) (.t 48), none, 0⟩,
  ⟨none, .sl 50 (.t 45) none (some (.t 49)) none 1, none, 0⟩,
  ⟨none, .call 51 27 [(.t 50), (.i 0)], none, 0⟩,
  ⟨none, .mv 44 (.t 51), none, 0⟩,
  ⟨none, .ext 52 (.t 44) 0, none, 0⟩,
  ⟨none, .ext 53 (.t 44) 1, none, 0⟩,
  ⟨none, .ext 54 (.t 44) 2, none, 0⟩,
  ⟨none, .alR 11 [(.int .i64 0), (.int .i64 0), (.int .i64 0), (.int .i64 0), (.int .i64 0), (.int .i64 0), (.int .i64 0), (.bool false), (.int .i64 0), (.slice none 0 0)], none, 0⟩,
  ⟨none, .stR 11 0 10 (.t 52), none, 0⟩,
  ⟨none, .mv 12 (.t 53), none, 0⟩,
  ⟨none, .mv 13 (.t 54), none, 0⟩]
def c10r11 : List SI := [
  ⟨none, .mv 55 (.t 9), none, 0⟩,
  ⟨none, .call 56 26 [(.t 55)], none, 0⟩,
  ⟨none, .mv 14 (.t 56), none, 0⟩]
def c10r12 : List SI := [
  ⟨none, .mv 57 (.t 14), none, 0⟩,
  ⟨none, .mv 58 (.t 1), none, 0⟩,
  ⟨none, .mv 59 (.t 9), none, 0⟩,
  ⟨none, .len 60 false (.t 59), none, 0⟩,
  ⟨none, .bin 61 .rem (.t 58) (.t 60), none, 0⟩,
  ⟨none, .mv 62 (.t 3), none, 0⟩,
  ⟨none, .ixA 63 (.t 57) (.t 61) 1, none, 0⟩,
  ⟨none, .st (.t 63) 1 (.t 62), none, 0⟩]
def c10r13 : List SI := [
  ⟨none, .mv 65 (.t 14), none, 0⟩,
  ⟨none, .call 66 27 [(.t 65), (.i 0)], none, 0⟩,
  ⟨none, .mv 64 (.t 66), none, 0⟩,
  ⟨none, .ext 67 (.t 64) 0, none, 0⟩,
  ⟨none, .ext 68 (.t 64) 1, none, 0⟩,
  ⟨none, .ext 69 (.t 64) 2, none, 0⟩,
  ⟨none, .alR 15 [(.int .i64 0), (.int .i64 0), (.int .i64 0), (.int .i64 0), (.int .i64 0), (.int .i64 0), (.int .i64 0), (.bool false), (.int .i64 0), (.slice none 0 0)], none, 0⟩,
  ⟨none, .stR 15 0 10 (.t 67), none, 0⟩,
  ⟨none, .mv 16 (.t 68), none, 0⟩,
  ⟨none, .mv 17 (.t 69), none, 0⟩]
def c10r14 : List SI := [
  ⟨none, .mv 70 (.t 13), none, 0⟩,
  ⟨none, .bin 71 .eql (.t 70) (.i 10), none, 0⟩,
  ⟨none, .mv 72 (.t 71), none, 0⟩,
  ⟨some (72, true), .mv 73 (.t 17), none, 73⟩,
  ⟨some (72, true), .bin 74 .eql (.t 73) (.i 0), none, 74⟩,
  ⟨some (72, true), .mv 75 (.t 9), none, 75⟩,
  ⟨some (72, true), .mv 76 (.t 1), none, 76⟩,
  ⟨some (72, true), .mv 77 (.t 9), none, 77⟩,
  ⟨some (72, true), .len 78 false (.t 77), none, 78⟩,
  ⟨some (72, true), .bin 79 .rem (.t 76) (.t 78), none, 79⟩,
  ⟨some (72, true), .ixA 80 (.t 75) (.t 79) 1, none, 80⟩,
  ⟨some (72, true), .ld 81 (.t 80) none, none, 81⟩,
  ⟨some (72, true), .mv 82 (.t 3), none, 82⟩,
  ⟨some (72, true), .bin 83 .eql (.t 81) (.t 82), none, 83⟩,
  ⟨some (72, true), .eqb 84 false (.t 74) (.t 83), none, 84⟩,
  ⟨none, .pick 85 (.t 72) (.t 84) (.b false), none, 0⟩,
  ⟨none, .mv 8 (.t 85), none, 0⟩]
def c10 : SC :=
  (.seq (.reg false c10r0)
  (.seq (.seq (.reg false c10r1)
  (.cond (.t 19)
   (.seq (.reg false c10r2)
   .ret)
   .skip))
  (.seq (.seq (.reg false c10r3)
  (.cond (.t 30)
   (.seq (.reg false c10r4)
   .ret)
   .skip))
  (.seq (.reg false c10r5)
  (.seq (.seq (.reg false c10r6)
  (.cond (.t 37)
   (.seq (.reg false c10r7)
   .ret)
   .skip))
  (.seq (.seq (.reg false c10r8)
  (.cond (.t 43)
   (.seq (.reg false c10r9)
   .ret)
   .skip))
  (.seq (.reg false c10r10)
  (.seq (.reg false c10r11)
  (.seq (.reg false c10r12)
  (.seq (.reg false c10r13)
  (.seq (.reg false c10r14)
  .ret)))))))))))
def v10 : List Nat × List Nat := ([4, 11, 15], [4, 11, 15])
def o10 : List RS := [.t 8]
theorem s10 : slimC Try.prog Try.f10.ntmps v10.1 v10.2 ((Try.f10.body).getD .skip) = some c10 := by kernel_rfl
theorem q10 : slimR Try.prog Try.f10.ntmps v10.1 v10.2 Try.f10.results.toList = some o10 := by kernel_rfl
-- watermeet/watermeetlaw04.BatchRow N=87
def c11r0 : List SI := [
  ⟨none, .mv 2 (.b false), none, 0⟩]
def c11r1 : List SI := [
  ⟨none, .call 18 12 [], none, 0⟩,
  ⟨none, .un 19 .not (.t 18), none, 0⟩]
def c11r2 : List SI := [
  ⟨none, .mv 2 (.b false), none, 0⟩]
def c11r3 : List SI := [
  ⟨none, .mv 20 (.t 0), none, 0⟩,
  ⟨none, .call 21 29 [(.t 20), (.i 12)], none, 0⟩,
  ⟨none, .un 22 .not (.t 21), none, 0⟩]
def c11r4 : List SI := [
  ⟨none, .mv 2 (.b true), none, 0⟩]
def c11r5 : List SI := [
  ⟨none, .mv 3 (.v (.slice none 0 0)), none, 0⟩]
def c11r6 : List SI := [
  ⟨none, .mv 4 (.v (.slice none 0 0)), none, 0⟩]
def c11r7 : List SI := [
  ⟨none, .mv 23 (.t 0), none, 0⟩,
  ⟨none, .len 24 false (.t 23), none, 0⟩,
  ⟨none, .mv 25 (.i 0), none, 0⟩]
def c11r8 : List SI := [
  ⟨none, .bin 26 .lss (.t 25) (.t 24), none, 0⟩]
def c11r9 : List SI := [
  ⟨none, .ixA 27 (.t 23) (.t 25) 10, none, 0⟩,
  ⟨none, .ld 28 (.t 27) (some 10), none, 0⟩,
  ⟨none, .alR 6 [(.int .i64 0), (.int .i64 0), (.int .i64 0), (.int .i64 0), (.int .i64 0), (.int .i64 0), (.int .i64 0), (.bool false), (.int .i64 0), (.slice none 0 0)], none, 0⟩,
  ⟨none, .stR 6 0 10 (.t 28), none, 0⟩]
def c11r10 : List SI := [
  ⟨none, .ldR 30 6 0 (some 10), none, 0⟩,
  ⟨none, .call 31 14 [(.t 30)], none, 0⟩,
  ⟨none, .mv 29 (.t 31), none, 0⟩,
  ⟨none, .ext 32 (.t 29) 0, none, 0⟩,
  ⟨none, .ext 33 (.t 29) 1, none, 0⟩,
  ⟨none, .mv 7 (.t 32), none, 0⟩,
  ⟨none, .mv 8 (.t 33), none, 0⟩]
def c11r11 : List SI := [
  ⟨none, .mv 34 (.t 8), none, 0⟩,
  ⟨none, .bin 35 .eql (.t 34) (.i 0), none, 0⟩]
def c11r12 : List SI := [
  ⟨none, .mv 36 (.t 3), none, 0⟩,
  ⟨none, .mv 37 (.t 7), none, 0⟩,
  ⟨none, .app 38 (.t 36) (.t 37) 5 1 1, none, 0⟩,
  ⟨none, .mv 3 (.t 38), none, 0⟩]
def c11r13 : List SI := [
  ⟨none, .mv 39 (.t 4), none, 0⟩,
  ⟨none, .ldR 40 6 0 (some 10), none, 0⟩,
  ⟨none, .bls 41 24 1 10 [(.int .i64 0), (.int .i64 0), (.int .i64 0), (.int .i64 0), (.int .i64 0), (.int .i64 0), (.int .i64 0), (.bool false), (.int .i64 0), (.slice none 0 0)] [(0, 10, (.t 40))], none, 0⟩,
  ⟨none, .app 42 (.t 39) (.t 41) 24 10 96, none, 0⟩,
  ⟨none, .mv 4 (.t 42), none, 0⟩]
def c11r14 : List SI := [
  ⟨none, .bin 43 .add (.t 25) (.i 1), none, 0⟩,
  ⟨none, .mv 25 (.t 43), none, 0⟩]
def c11r15 : List SI := [
  ⟨none, .mv 9 (.i 0), none, 0⟩]
def c11r16 : List SI := [
  ⟨none, .mv 44 (.t 4), none, 0⟩,
  ⟨none, .len 45 false (.t 44), none, 0⟩,
  ⟨none, .mv 46 (.i 0), none, 0⟩]
def c11r17 : List SI := [
  ⟨none, .bin 47 .lss (.t 46) (.t 45), none, 0⟩]
def c11r18 : List SI := [
  ⟨none, .ixA 48 (.t 44) (.t 46) 10, none, 0⟩,
  ⟨none, .ld 49 (.t 48) (some 10), none, 0⟩,
  ⟨none, .alR 11 [(.int .i64 0), (.int .i64 0), (.int .i64 0), (.int .i64 0), (.int .i64 0), (.int .i64 0), (.int .i64 0), (.bool false), (.int .i64 0), (.slice none 0 0)], none, 0⟩,
  ⟨none, .stR 11 0 10 (.t 49), none, 0⟩]
def c11r19 : List SI := [
  ⟨none, .mv 51 (.t 3), none, 0⟩,
  ⟨none, .mv 52 (.t 9), none, 0⟩,
  ⟨none, .call 53 27 [(.t 51), (.t 52)], none, 0⟩,
  ⟨none, .mv 50 (.t 53), none, 0⟩,
  ⟨none, .ext 54 (.t 50) 0, none, 0⟩,
  ⟨none, .ext 55 (.t 50) 1, none, 0⟩,
  ⟨none, .ext 56 (.t 50) 2, none, 0⟩,
  ⟨none, .alR 12 [(.int .i64 0), (.int .i64 0), (.int .i64 0), (.int .i64 0), (.int .i64 0), (.int .i64 0), (.int .i64 0), (.bool false), (.int .i64 0), (.slice none 0 0)], none, 0⟩,
  ⟨none, .stR 12 0 10 (.t 54), none, 0⟩,
  ⟨none, .mv 13 (.t 55), none, 0⟩,
  ⟨none, .mv 14 (.t 56), none, 0⟩]
def c11r20 : List SI := [
  ⟨none, .mv 57 (.t 14), none, 0⟩,
  ⟨none, .bin 58 .neq (.t 57) (.i 0), none, 0⟩,
  ⟨none, .mv 59 (.t 58), none, 0⟩,
  ⟨some (59, false), .ldR 60 12 0 (some 10), none, 60⟩,
  ⟨some (59, false), .ldR 61 11 0 (some 10), none, 61⟩,
  ⟨some (59, false), .call 62 25 [(.t 60), (.t 61)], none, 62⟩,
  ⟨some (59, false), .un 63 .not (.t 62), none, 63⟩,
  ⟨none, .pick 64 (.t 59) (.b true) (.t 63), none, 0⟩,
  ⟨none, .mv 65 (.t 64), none, 0⟩,
  ⟨some (65, false), .mv 66 (.t 13), none, 66⟩,
  ⟨some (65, false), .mv 67 (.t 9), none, 67⟩,
  ⟨some (65, false), .bin 68 .leq (.t 66) (.t 67), none, 68⟩,
  ⟨none, .pick 69 (.t 65) (.b true) (.t 68), none, 0⟩]
def c11r21 : List SI := [
  ⟨none, .mv 2 (.b false), none, 0⟩]
def c11r22 : List SI := [
  ⟨none, .mv 70 (.t 13), none, 0⟩,
  ⟨none, .mv 9 (.t 70), none, 0⟩]
def c11r23 : List SI := [
  ⟨none, .bin 71 .add (.t 46) (.i 1), none, 0⟩,
  ⟨none, .mv 46 (.t 71), none, 0⟩]
def c11r24 : List SI := [
  ⟨none, .mv 73 (.t 3), none, 0⟩,
  ⟨none, .mv 74 (.t 9), none, 0⟩,
  ⟨none, .call 75 27 [(.t 73), (.t 74)], none, 0⟩,
  ⟨none, .mv 72 (.t 75), none, 0⟩,
  ⟨none, .ext 76 (.t 72) 0, none, 0⟩,
  ⟨none, .ext 77 (.t 72) 1, none, 0⟩,
  ⟨none, .ext 78 (.t 72) 2, none, 0⟩,
  ⟨none, .alR 15 [(.int .i64 0), (.int .i64 0), (.int .i64 0), (.int .i64 0), (.int .i64 0), (.int .i64 0), (.int .i64 0), (.bool false), (.int .i64 0), (.slice none 0 0)], none, 0⟩,
  ⟨none, .stR 15 0 10 (.t 76), none, 0⟩,
  ⟨none, .mv 16 (.t 77), none, 0⟩,
  ⟨none, .mv 17 (.t 78), none, 0⟩]
def c11r25 : List SI := [
  ⟨none, .mv 79 (.t 9), none, 0⟩,
  ⟨none, .mv 80 (.t 3), none, 0⟩,
  ⟨none, .len 81 false (.t 80), none, 0⟩,
  ⟨none, .bin 82 .eql (.t 79) (.t 81), none, 0⟩,
  ⟨none, .mv 83 (.t 82), none, 0⟩,
  ⟨some (83, true), .mv 84 (.t 17), none, 84⟩,
  ⟨some (83, true), .bin 85 .eql (.t 84) (.i 10), none, 85⟩,
  ⟨none, .pick 86 (.t 83) (.t 85) (.b false), none, 0⟩,
  ⟨none, .mv 2 (.t 86), none, 0⟩]
def c11 : SC :=
  (.seq (.reg false c11r0)
  (.seq (.seq (.reg false c11r1)
  (.cond (.t 19)
   (.seq (.reg false c11r2)
   .ret)
   .skip))
  (.seq (.seq (.reg false c11r3)
  (.cond (.t 22)
   (.seq (.reg false c11r4)
   .ret)
   .skip))
  (.seq (.reg false c11r5)
  (.seq (.reg false c11r6)
  (.seq (.seq (.reg false c11r7)
  (.blk 0 (.loop (.seq (.reg false c11r8)
    (.seq (.cond (.t 26)
     .skip
     (.exit 0))
    (.seq (.blk 1 (.seq (.reg false c11r9)
     (.seq (.reg false c11r10)
     (.seq (.reg false c11r11)
     (.cond (.t 35)
      (.seq (.reg false c11r12)
      (.reg false c11r13))
      .skip)))))
    (.reg false c11r14)))))))
  (.seq (.reg false c11r15)
  (.seq (.seq (.reg false c11r16)
  (.blk 2 (.loop (.seq (.reg false c11r17)
    (.seq (.cond (.t 47)
     .skip
     (.exit 2))
    (.seq (.blk 3 (.seq (.reg false c11r18)
     (.seq (.reg false c11r19)
     (.seq (.seq (.reg false c11r20)
     (.cond (.t 69)
      (.seq (.reg false c11r21)
      .ret)
      .skip))
     (.reg false c11r22)))))
    (.reg false c11r23)))))))
  (.seq (.reg false c11r24)
  (.seq (.reg false c11r25)
  .ret))))))))))
def v11 : List Nat × List Nat := ([6, 11, 12, 15], [6, 11, 12, 15])
def o11 : List RS := [.t 2]
theorem s11 : slimC Try.prog Try.f11.ntmps v11.1 v11.2 ((Try.f11.body).getD .skip) = some c11 := by kernel_rfl
theorem q11 : slimR Try.prog Try.f11.ntmps v11.1 v11.2 Try.f11.results.toList = some o11 := by kernel_rfl
-- watermeet/watermeetlaw04.live N=29
def c12r0 : List SI := [
  ⟨none, .mv 0 (.b false), none, 0⟩]
def c12r1 : List SI := [
  ⟨none, .bld 4 [(.int .i64 0), (.string ⟨#[]⟩), (.string ⟨#[]⟩), (.bool false), (.int .i64 0)] [(1, 1, (.v (.string ⟨#[97]⟩))), (2, 1, (.v (.string ⟨#[98]⟩))), (4, 1, (.i 5))], none, 0⟩,
  ⟨none, .bls 5 39 1 5 [(.int .i64 0), (.string ⟨#[]⟩), (.string ⟨#[]⟩), (.bool false), (.int .i64 0)] [(0, 5, (.t 4))], none, 0⟩,
  ⟨none, .bld 6 [(.int .i64 0), (.int .i64 0), (.int .i64 0), (.int .i64 0), (.int .i64 0), (.int .i64 0), (.int .i64 0), (.bool false), (.int .i64 0), (.slice none 0 0)] [(4, 1, (.i (-1))), (9, 1, (.t 5))], none, 0⟩,
  ⟨none, .alR 1 [(.int .i64 0), (.int .i64 0), (.int .i64 0), (.int .i64 0), (.int .i64 0), (.int .i64 0), (.int .i64 0), (.bool false), (.int .i64 0), (.slice none 0 0)], none, 0⟩,
  ⟨none, .stR 1 0 10 (.t 6), none, 0⟩]
def c12r2 : List SI := [
  ⟨none, .ldR 8 1 0 (some 10), none, 0⟩,
  ⟨none, .call 9 14 [(.t 8)], none, 0⟩,
  ⟨none, .mv 7 (.t 9), none, 0⟩,
  ⟨none, .ext 10 (.t 7) 0, none, 0⟩,
  ⟨none, .ext 11 (.t 7) 1, none, 0⟩,
  ⟨none, .mv 2 (.t 10), none, 0⟩,
  ⟨none, .mv 3 (.t 11), none, 0⟩]
def c12r3 : List SI := [
  ⟨none, .mv 12 (.t 3), none, 0⟩,
  ⟨none, .bin 13 .eql (.t 12) (.i 0), none, 0⟩,
  ⟨none, .mv 14 (.t 13), none, 0⟩,
  ⟨some (14, true), .mv 15 (.t 2), none, 15⟩,
  ⟨some (14, true), .len 16 false (.t 15), none, 16⟩,
  ⟨some (14, true), .bin 17 .eql (.t 16) (.i 25), none, 17⟩,
  ⟨none, .pick 18 (.t 14) (.t 17) (.b false), none, 0⟩,
  ⟨none, .mv 19 (.t 18), none, 0⟩,
  ⟨some (19, true), .ldR 20 1 0 (some 10), none, 20⟩,
  ⟨some (19, true), .call 21 19 [(.t 20)], none, 21⟩,
  ⟨some (19, true), .bin 22 .eql (.t 21) (.i 25), none, 22⟩,
  ⟨none, .pick 23 (.t 19) (.t 22) (.b false), none, 0⟩,
  ⟨none, .mv 24 (.t 23), none, 0⟩,
  ⟨some (24, true), .ldR 25 1 0 (some 10), none, 25⟩,
  ⟨some (24, true), .ldR 26 1 0 (some 10), none, 26⟩,
  ⟨some (24, true), .call 27 25 [(.t 25), (.t 26)], none, 27⟩,
  ⟨none, .pick 28 (.t 24) (.t 27) (.b false), none, 0⟩,
  ⟨none, .mv 0 (.t 28), none, 0⟩]
def c12 : SC :=
  (.seq (.reg false c12r0)
  (.seq (.reg false c12r1)
  (.seq (.reg false c12r2)
  (.seq (.reg false c12r3)
  .ret))))
def v12 : List Nat × List Nat := ([1], [1])
def o12 : List RS := [.t 0]
theorem s12 : slimC Try.prog Try.f12.ntmps v12.1 v12.2 ((Try.f12.body).getD .skip) = some c12 := by kernel_rfl
theorem q12 : slimR Try.prog Try.f12.ntmps v12.1 v12.2 Try.f12.results.toList = some o12 := by kernel_rfl
-- watermeet/watermeetref04.Few N=29
def c13r0 : List SI := [
  ⟨none, .bxR 1 (.t 0), none, 0⟩,
  ⟨none, .mv 2 (.b false), none, 0⟩]
def c13r1 : List SI := [
  ⟨none, .mv 3 (.i 0), none, 0⟩]
def c13r2 : List SI := [
  ⟨none, .nop, (some 1), 0⟩,
  ⟨none, .ldR 7 1 9 none, none, 0⟩,
  ⟨none, .len 8 false (.t 7), none, 0⟩,
  ⟨none, .mv 9 (.i 0), none, 0⟩]
def c13r3 : List SI := [
  ⟨none, .bin 10 .lss (.t 9) (.t 8), none, 0⟩]
def c13r4 : List SI := [
  ⟨none, .ixA 11 (.t 7) (.t 9) 5, none, 0⟩,
  ⟨none, .ld 12 (.t 11) (some 5), none, 0⟩,
  ⟨none, .alR 5 [(.int .i64 0), (.string ⟨#[]⟩), (.string ⟨#[]⟩), (.bool false), (.int .i64 0)], none, 0⟩,
  ⟨none, .stR 5 0 5 (.t 12), none, 0⟩]
def c13r5 : List SI := [
  ⟨none, .mv 13 (.t 3), none, 0⟩,
  ⟨none, .nop, (some 5), 0⟩,
  ⟨none, .ldR 15 5 1 none, none, 0⟩,
  ⟨none, .len 16 true (.t 15), none, 0⟩,
  ⟨none, .nop, (some 5), 0⟩,
  ⟨none, .ldR 18 5 2 none, none, 0⟩,
  ⟨none, .len 19 true (.t 18), none, 0⟩,
  ⟨none, .bin 20 .add (.t 16) (.t 19), none, 0⟩,
  ⟨none, .bin 21 .add (.t 13) (.t 20), none, 0⟩,
  ⟨none, .mv 3 (.t 21), none, 0⟩]
def c13r6 : List SI := [
  ⟨none, .mv 22 (.t 3), none, 0⟩,
  ⟨none, .bin 23 .gtr (.t 22) (.i 20000), none, 0⟩]
def c13r7 : List SI := [
  ⟨none, .mv 2 (.b false), none, 0⟩]
def c13r8 : List SI := [
  ⟨none, .bin 24 .add (.t 9) (.i 1), none, 0⟩,
  ⟨none, .mv 9 (.t 24), none, 0⟩]
def c13r9 : List SI := [
  ⟨none, .nop, (some 1), 0⟩,
  ⟨none, .ldR 26 1 9 none, none, 0⟩,
  ⟨none, .len 27 false (.t 26), none, 0⟩,
  ⟨none, .bin 28 .leq (.t 27) (.i 100), none, 0⟩,
  ⟨none, .mv 2 (.t 28), none, 0⟩]
def c13 : SC :=
  (.seq (.reg false c13r0)
  (.seq (.reg false c13r1)
  (.seq (.seq (.reg false c13r2)
  (.blk 0 (.loop (.seq (.reg false c13r3)
    (.seq (.cond (.t 10)
     .skip
     (.exit 0))
    (.seq (.blk 1 (.seq (.reg false c13r4)
     (.seq (.reg false c13r5)
     (.seq (.reg false c13r6)
     (.cond (.t 23)
      (.seq (.reg false c13r7)
      .ret)
      .skip)))))
    (.reg false c13r8)))))))
  (.seq (.reg false c13r9)
  .ret))))
def v13 : List Nat × List Nat := ([1, 5], [1, 5, 6, 14, 17, 25])
def o13 : List RS := [.t 2]
theorem s13 : slimC Try.prog Try.f13.ntmps v13.1 v13.2 ((Try.f13.body).getD .skip) = some c13 := by kernel_rfl
theorem q13 : slimR Try.prog Try.f13.ntmps v13.1 v13.2 Try.f13.results.toList = some o13 := by kernel_rfl
-- watermeet/batch.Put N=14
def c14r0 : List SI := [
  ⟨none, .bxR 1 (.t 0), none, 0⟩,
  ⟨none, .mv 2 (.v (.slice none 0 0)), none, 0⟩,
  ⟨none, .mv 3 (.i 0), none, 0⟩]
def c14r1 : List SI := [
  ⟨none, .ldR 5 1 0 (some 10), none, 0⟩,
  ⟨none, .call 6 30 [(.t 5)], none, 0⟩,
  ⟨none, .un 7 .not (.t 6), none, 0⟩]
def c14r2 : List SI := [
  ⟨none, .mv 2 (.v (.slice none 0 0)), none, 0⟩,
  ⟨none, .mv 3 (.i 1), none, 0⟩]
def c14r3 : List SI := [
  ⟨none, .ldR 8 1 0 (some 10), none, 0⟩,
  ⟨none, .call 9 31 [(.t 8)], none, 0⟩,
  ⟨none, .mv 4 (.t 9), none, 0⟩]
def c14r4 : List SI := [
  ⟨none, .mv 10 (.t 4), none, 0⟩,
  ⟨none, .len 11 false (.t 10), none, 0⟩,
  ⟨none, .bin 12 .gtr (.t 11) (.i 2048), none, 0⟩]
def c14r5 : List SI := [
  ⟨none, .mv 2 (.v (.slice none 0 0)), none, 0⟩,
  ⟨none, .mv 3 (.i 2), none, 0⟩]
def c14r6 : List SI := [
  ⟨none, .mv 13 (.t 4), none, 0⟩,
  ⟨none, .mv 2 (.t 13), none, 0⟩,
  ⟨none, .mv 3 (.i 0), none, 0⟩]
def c14 : SC :=
  (.seq (.reg false c14r0)
  (.seq (.seq (.reg false c14r1)
  (.cond (.t 7)
   (.seq (.reg false c14r2)
   .ret)
   .skip))
  (.seq (.reg false c14r3)
  (.seq (.seq (.reg false c14r4)
  (.cond (.t 12)
   (.seq (.reg false c14r5)
   .ret)
   .skip))
  (.seq (.reg false c14r6)
  .ret)))))
def v14 : List Nat × List Nat := ([1], [1])
def o14 : List RS := [.t 2, .t 3]
theorem s14 : slimC Try.prog Try.f14.ntmps v14.1 v14.2 ((Try.f14.body).getD .skip) = some c14 := by kernel_rfl
theorem q14 : slimR Try.prog Try.f14.ntmps v14.1 v14.2 Try.f14.results.toList = some o14 := by kernel_rfl
-- watermeet/watermeetref04.Put N=12
def c15r0 : List SI := [
  ⟨none, .bxR 1 (.t 0), none, 0⟩,
  ⟨none, .mv 2 (.v (.slice none 0 0)), none, 0⟩,
  ⟨none, .mv 3 (.i 0), none, 0⟩]
def c15r1 : List SI := [
  ⟨none, .ldR 5 1 0 (some 10), none, 0⟩,
  ⟨none, .call 6 18 [(.t 5)], none, 0⟩,
  ⟨none, .mv 4 (.t 6), none, 0⟩]
def c15r2 : List SI := [
  ⟨none, .mv 7 (.t 4), none, 0⟩,
  ⟨none, .bin 8 .neq (.t 7) (.i 0), none, 0⟩]
def c15r3 : List SI := [
  ⟨none, .mv 9 (.t 4), none, 0⟩,
  ⟨none, .mv 2 (.v (.slice none 0 0)), none, 0⟩,
  ⟨none, .mv 3 (.t 9), none, 0⟩]
def c15r4 : List SI := [
  ⟨none, .ldR 10 1 0 (some 10), none, 0⟩,
  ⟨none, .call 11 32 [(.t 10)], none, 0⟩,
  ⟨none, .mv 2 (.t 11), none, 0⟩,
  ⟨none, .mv 3 (.i 0), none, 0⟩]
def c15 : SC :=
  (.seq (.reg false c15r0)
  (.seq (.seq (.reg false c15r1)
  (.seq (.reg false c15r2)
  (.cond (.t 8)
   (.seq (.reg false c15r3)
   .ret)
   .skip)))
  (.seq (.reg false c15r4)
  .ret)))
def v15 : List Nat × List Nat := ([1], [1])
def o15 : List RS := [.t 2, .t 3]
theorem s15 : slimC Try.prog Try.f15.ntmps v15.1 v15.2 ((Try.f15.body).getD .skip) = some c15 := by kernel_rfl
theorem q15 : slimR Try.prog Try.f15.ntmps v15.1 v15.2 Try.f15.results.toList = some o15 := by kernel_rfl
-- watermeet/watermeetref01.Same N=10
def c16r0 : List SI := [
  ⟨none, .mv 4 (.b false), none, 0⟩]
def c16r1 : List SI := [
  ⟨none, .mv 5 (.t 0), none, 0⟩,
  ⟨none, .cvS 6 (.t 5), none, 0⟩,
  ⟨none, .mv 7 (.t 1), none, 0⟩,
  ⟨none, .cvS 8 (.t 7), none, 0⟩,
  ⟨none, .bin 9 .eql (.t 6) (.t 8), none, 0⟩,
  ⟨none, .mv 4 (.t 9), none, 0⟩]
def c16 : SC :=
  (.seq (.reg false c16r0)
  (.seq (.reg false c16r1)
  .ret))
def v16 : List Nat × List Nat := ([], [])
def o16 : List RS := [.t 4]
theorem s16 : slimC Try.prog Try.f16.ntmps v16.1 v16.2 ((Try.f16.body).getD .skip) = some c16 := by kernel_rfl
theorem q16 : slimR Try.prog Try.f16.ntmps v16.1 v16.2 Try.f16.results.toList = some o16 := by kernel_rfl
-- watermeet/batch.Check N=11
def c17r0 : List SI := [
  ⟨none, .bxR 1 (.t 0), none, 0⟩,
  ⟨none, .mv 2 (.i 0), none, 0⟩]
def c17r1 : List SI := [
  ⟨none, .ldR 6 1 0 (some 10), none, 0⟩,
  ⟨none, .call 7 14 [(.t 6)], none, 0⟩,
  ⟨none, .mv 5 (.t 7), none, 0⟩,
  ⟨none, .ext 8 (.t 5) 0, none, 0⟩,
  ⟨none, .ext 9 (.t 5) 1, none, 0⟩,
  ⟨none, .mv 3 (.t 8), none, 0⟩,
  ⟨none, .mv 4 (.t 9), none, 0⟩]
def c17r2 : List SI := [
  ⟨none, .mv 10 (.t 4), none, 0⟩,
  ⟨none, .mv 2 (.t 10), none, 0⟩]
def c17 : SC :=
  (.seq (.reg false c17r0)
  (.seq (.reg false c17r1)
  (.seq (.reg false c17r2)
  .ret)))
def v17 : List Nat × List Nat := ([1], [1])
def o17 : List RS := [.t 2]
theorem s17 : slimC Try.prog Try.f17.ntmps v17.1 v17.2 ((Try.f17.body).getD .skip) = some c17 := by kernel_rfl
theorem q17 : slimR Try.prog Try.f17.ntmps v17.1 v17.2 Try.f17.results.toList = some o17 := by kernel_rfl
-- watermeet/watermeetref04.Check N=10
def c18r0 : List SI := [
  ⟨none, .bxR 1 (.t 0), none, 0⟩,
  ⟨none, .mv 2 (.i 0), none, 0⟩]
def c18r1 : List SI := [
  ⟨none, .ldR 3 1 0 (some 10), none, 0⟩,
  ⟨none, .call 4 33 [(.t 3)], none, 0⟩,
  ⟨none, .un 5 .not (.t 4), none, 0⟩]
def c18r2 : List SI := [
  ⟨none, .mv 2 (.i 1), none, 0⟩]
def c18r3 : List SI := [
  ⟨none, .ldR 6 1 0 (some 10), none, 0⟩,
  ⟨none, .call 7 32 [(.t 6)], none, 0⟩,
  ⟨none, .len 8 false (.t 7), none, 0⟩,
  ⟨none, .bin 9 .gtr (.t 8) (.i 2048), none, 0⟩]
def c18r4 : List SI := [
  ⟨none, .mv 2 (.i 2), none, 0⟩]
def c18r5 : List SI := [
  ⟨none, .mv 2 (.i 0), none, 0⟩]
def c18 : SC :=
  (.seq (.reg false c18r0)
  (.seq (.seq (.reg false c18r1)
  (.cond (.t 5)
   (.seq (.reg false c18r2)
   .ret)
   .skip))
  (.seq (.seq (.reg false c18r3)
  (.cond (.t 9)
   (.seq (.reg false c18r4)
   .ret)
   .skip))
  (.seq (.reg false c18r5)
  .ret))))
def v18 : List Nat × List Nat := ([1], [1])
def o18 : List RS := [.t 2]
theorem s18 : slimC Try.prog Try.f18.ntmps v18.1 v18.2 ((Try.f18.body).getD .skip) = some c18 := by kernel_rfl
theorem q18 : slimR Try.prog Try.f18.ntmps v18.1 v18.2 Try.f18.results.toList = some o18 := by kernel_rfl
-- watermeet/batch.Size N=12
def c19r0 : List SI := [
  ⟨none, .bxR 1 (.t 0), none, 0⟩,
  ⟨none, .mv 2 (.i 0), none, 0⟩]
def c19r1 : List SI := [
  ⟨none, .ldR 6 1 0 (some 10), none, 0⟩,
  ⟨none, .call 7 14 [(.t 6)], none, 0⟩,
  ⟨none, .mv 5 (.t 7), none, 0⟩,
  ⟨none, .ext 8 (.t 5) 0, none, 0⟩,
  ⟨none, .ext 9 (.t 5) 1, none, 0⟩,
  ⟨none, .mv 3 (.t 8), none, 0⟩,
  ⟨none, .mv 4 (.t 9), none, 0⟩]
def c19r2 : List SI := [
  ⟨none, .mv 10 (.t 3), none, 0⟩,
  ⟨none, .len 11 false (.t 10), none, 0⟩,
  ⟨none, .mv 2 (.t 11), none, 0⟩]
def c19 : SC :=
  (.seq (.reg false c19r0)
  (.seq (.reg false c19r1)
  (.seq (.reg false c19r2)
  .ret)))
def v19 : List Nat × List Nat := ([1], [1])
def o19 : List RS := [.t 2]
theorem s19 : slimC Try.prog Try.f19.ntmps v19.1 v19.2 ((Try.f19.body).getD .skip) = some c19 := by kernel_rfl
theorem q19 : slimR Try.prog Try.f19.ntmps v19.1 v19.2 Try.f19.results.toList = some o19 := by kernel_rfl
-- watermeet/watermeetref04.Size N=9
def c20r0 : List SI := [
  ⟨none, .bxR 1 (.t 0), none, 0⟩,
  ⟨none, .mv 2 (.i 0), none, 0⟩]
def c20r1 : List SI := [
  ⟨none, .ldR 3 1 0 (some 10), none, 0⟩,
  ⟨none, .call 4 18 [(.t 3)], none, 0⟩,
  ⟨none, .bin 5 .neq (.t 4) (.i 0), none, 0⟩]
def c20r2 : List SI := [
  ⟨none, .mv 2 (.i 0), none, 0⟩]
def c20r3 : List SI := [
  ⟨none, .ldR 6 1 0 (some 10), none, 0⟩,
  ⟨none, .call 7 32 [(.t 6)], none, 0⟩,
  ⟨none, .len 8 false (.t 7), none, 0⟩,
  ⟨none, .mv 2 (.t 8), none, 0⟩]
def c20 : SC :=
  (.seq (.reg false c20r0)
  (.seq (.seq (.reg false c20r1)
  (.cond (.t 5)
   (.seq (.reg false c20r2)
   .ret)
   .skip))
  (.seq (.reg false c20r3)
  .ret)))
def v20 : List Nat × List Nat := ([1], [1])
def o20 : List RS := [.t 2]
theorem s20 : slimC Try.prog Try.f20.ntmps v20.1 v20.2 ((Try.f20.body).getD .skip) = some c20 := by kernel_rfl
theorem q20 : slimR Try.prog Try.f20.ntmps v20.1 v20.2 Try.f20.results.toList = some o20 := by kernel_rfl
-- watermeet/watermeetref04.Copy N=8
def c21r0 : List SI := [
  ⟨none, .bxR 1 (.t 0), none, 0⟩,
  ⟨none, .alR 2 [(.int .i64 0), (.int .i64 0), (.int .i64 0), (.int .i64 0), (.int .i64 0), (.int .i64 0), (.int .i64 0), (.bool false), (.int .i64 0), (.slice none 0 0)], none, 0⟩]
def c21r1 : List SI := [
  ⟨none, .nop, (some 1), 0⟩,
  ⟨none, .ldR 4 1 9 none, none, 0⟩,
  ⟨none, .app 5 (.v (.slice none 0 0)) (.t 4) 39 5 56, none, 0⟩,
  ⟨none, .nop, (some 1), 0⟩,
  ⟨none, .stR 1 9 1 (.t 5), none, 0⟩]
def c21r2 : List SI := [
  ⟨none, .ldR 7 1 0 (some 10), none, 0⟩,
  ⟨none, .stR 2 0 10 (.t 7), none, 0⟩]
def c21 : SC :=
  (.seq (.reg false c21r0)
  (.seq (.reg false c21r1)
  (.seq (.reg false c21r2)
  .ret)))
def v21 : List Nat × List Nat := ([1, 2], [1, 2, 3, 6])
def o21 : List RS := [.r 2 (some 10)]
theorem s21 : slimC Try.prog Try.f21.ntmps v21.1 v21.2 ((Try.f21.body).getD .skip) = some c21 := by kernel_rfl
theorem q21 : slimR Try.prog Try.f21.ntmps v21.1 v21.2 Try.f21.results.toList = some o21 := by kernel_rfl
-- watermeet/batch.Moved N=60
def c22r0 : List SI := [
  ⟨none, .bxR 2 (.t 0), none, 0⟩,
  ⟨none, .alR 4 [(.int .i64 0), (.int .i64 0), (.int .i64 0), (.int .i64 0), (.int .i64 0), (.int .i64 0), (.int .i64 0), (.bool false), (.int .i64 0), (.slice none 0 0)], none, 0⟩,
  ⟨none, .mv 5 (.i 0), none, 0⟩]
def c22r1 : List SI := [
  ⟨none, .mv 10 (.t 1), none, 0⟩,
  ⟨none, .bls 11 3 1 1 [(.int .i64 0)] [(0, 1, (.t 10))], none, 0⟩,
  ⟨none, .call 12 34 [(.i 1099511627776), (.t 11)], none, 0⟩,
  ⟨none, .un 13 .not (.t 12), none, 0⟩]
def c22r2 : List SI := [
  ⟨none, .bld 14 [(.int .i64 0), (.int .i64 0), (.int .i64 0), (.int .i64 0), (.int .i64 0), (.int .i64 0), (.int .i64 0), (.bool false), (.int .i64 0), (.slice none 0 0)] [], none, 0⟩,
  ⟨none, .stR 4 0 10 (.t 14), none, 0⟩,
  ⟨none, .mv 5 (.i 1), none, 0⟩]
def c22r3 : List SI := [
  ⟨none, .ldR 15 2 0 (some 10), none, 0⟩,
  ⟨none, .call 16 17 [(.t 15)], none, 0⟩,
  ⟨none, .mv 6 (.t 16), none, 0⟩]
def c22r4 : List SI := [
  ⟨none, .mv 17 (.t 6), none, 0⟩,
  ⟨none, .bin 18 .neq (.t 17) (.i 0), none, 0⟩]
def c22r5 : List SI := [
  ⟨none, .bld 19 [(.int .i64 0), (.int .i64 0), (.int .i64 0), (.int .i64 0), (.int .i64 0), (.int .i64 0), (.int .i64 0), (.bool false), (.int .i64 0), (.slice none 0 0)] [], none, 0⟩,
  ⟨none, .mv 20 (.t 6), none, 0⟩,
  ⟨none, .stR 4 0 10 (.t 19), none, 0⟩,
  ⟨none, .mv 5 (.t 20), none, 0⟩]
def c22r6 : List SI := [
  ⟨none, .mv 21 (.t 1), none, 0⟩,
  ⟨none, .nop, (some 2), 0⟩,
  ⟨none, .ldR 23 2 0 none, none, 0⟩,
  ⟨none, .bin 24 .sub (.t 21) (.t 23), none, 0⟩,
  ⟨none, .mv 7 (.t 24), none, 0⟩]
def c22r7 : List WI := [
  (true, false, ⟨none, .mv 25 (.t 1), none, 0⟩),
  (true, false, ⟨none, .nop, (some 2), 0⟩),
  (true, false, ⟨none, .ldR 27 2 1 none, none, 0⟩),
  (true, false, ⟨none, .mv 28 (.t 7), none, 0⟩),
  (true, false, ⟨none, .bin 29 .add (.t 27) (.t 28), none, 0⟩),
  (true, false, ⟨none, .nop, (some 2), 0⟩),
  (true, false, ⟨none, .ldR 31 2 9 none, none, 0⟩),
  (true, false, ⟨none, .nop, (some 2), 0⟩),
  (false, false, ⟨none, .call 32 35 [(.t 31)], none, 0⟩),
  (false, true, ⟨none, .stR 2 0 1 (.t 25), none, 0⟩),
  (true, false, ⟨none, .nop, (some 2), 0⟩),
  (false, true, ⟨none, .stR 2 1 1 (.t 29), none, 0⟩),
  (true, false, ⟨none, .nop, (some 2), 0⟩),
  (false, true, ⟨none, .stR 2 9 1 (.t 32), none, 0⟩)]
def c22r8 : List SI := [
  ⟨none, .nop, (some 2), 0⟩,
  ⟨none, .ldR 37 2 9 none, none, 0⟩,
  ⟨none, .len 38 false (.t 37), none, 0⟩,
  ⟨none, .mv 39 (.i 0), none, 0⟩]
def c22r9 : List SI := [
  ⟨none, .bin 40 .lss (.t 39) (.t 38), none, 0⟩]
def c22r10 : List SI := [
  ⟨none, .mv 41 (.t 39), none, 0⟩,
  ⟨none, .mv 8 (.t 41), none, 0⟩]
def c22r11 : List SI := [
  ⟨none, .nop, (some 2), 0⟩,
  ⟨none, .ldR 43 2 9 none, none, 0⟩,
  ⟨none, .mv 44 (.t 8), none, 0⟩,
  ⟨none, .ixA 45 (.t 43) (.t 44) 5, none, 0⟩,
  ⟨none, .flA 46 (.t 45) 0, none, 0⟩,
  ⟨none, .ld 47 (.t 46) none, none, 0⟩,
  ⟨none, .mv 48 (.t 7), none, 0⟩,
  ⟨none, .bin 49 .add (.t 47) (.t 48), none, 0⟩,
  ⟨none, .ixA 50 (.t 43) (.t 44) 5, none, 0⟩,
  ⟨none, .flA 51 (.t 50) 0, none, 0⟩,
  ⟨none, .st (.t 51) 1 (.t 49), none, 0⟩]
def c22r12 : List SI := [
  ⟨none, .bin 52 .add (.t 39) (.i 1), none, 0⟩,
  ⟨none, .mv 39 (.t 52), none, 0⟩]
def c22r13 : List SI := [
  ⟨none, .ldR 53 2 0 (some 10), none, 0⟩,
  ⟨none, .call 54 17 [(.t 53)], none, 0⟩,
  ⟨none, .mv 9 (.t 54), none, 0⟩]
def c22r14 : List SI := [
  ⟨none, .mv 55 (.t 9), none, 0⟩,
  ⟨none, .bin 56 .neq (.t 55) (.i 0), none, 0⟩]
def c22r15 : List SI := [
  ⟨none, .bld 57 [(.int .i64 0), (.int .i64 0), (.int .i64 0), (.int .i64 0), (.int .i64 0), (.int .i64 0), (.int .i64 0), (.bool false), (.int .i64 0), (.slice none 0 0)] [], none, 0⟩,
  ⟨none, .mv 58 (.t 9), none, 0⟩,
  ⟨none, .stR 4 0 10 (.t 57), none, 0⟩,
  ⟨none, .mv 5 (.t 58), none, 0⟩]
def c22r16 : List SI := [
  ⟨none, .ldR 59 2 0 (some 10), none, 0⟩,
  ⟨none, .stR 4 0 10 (.t 59), none, 0⟩,
  ⟨none, .mv 5 (.i 0), none, 0⟩]
def c22 : SC :=
  (.seq (.reg false c22r0)
  (.seq (.seq (.reg false c22r1)
  (.cond (.t 13)
   (.seq (.reg false c22r2)
   .ret)
   .skip))
  (.seq (.seq (.reg false c22r3)
  (.seq (.reg false c22r4)
  (.cond (.t 18)
   (.seq (.reg false c22r5)
   .ret)
   .skip)))
  (.seq (.reg false c22r6)
  (.seq (.rgW c22r7)
  (.seq (.seq (.reg false c22r8)
  (.blk 0 (.loop (.seq (.reg false c22r9)
    (.seq (.cond (.t 40)
     .skip
     (.exit 0))
    (.seq (.blk 1 (.seq (.reg false c22r10)
     (.reg false c22r11)))
    (.reg false c22r12)))))))
  (.seq (.seq (.reg false c22r13)
  (.seq (.reg false c22r14)
  (.cond (.t 56)
   (.seq (.reg false c22r15)
   .ret)
   .skip)))
  (.seq (.reg false c22r16)
  .ret))))))))
def v22 : List Nat × List Nat := ([2, 4], [2, 4, 22, 26, 30, 33, 34, 35, 36, 42])
def o22 : List RS := [.r 4 (some 10), .t 5]
theorem s22 : slimC Try.prog Try.f22.ntmps v22.1 v22.2 ((Try.f22.body).getD .skip) = some c22 := by kernel_rfl
theorem q22 : slimR Try.prog Try.f22.ntmps v22.1 v22.2 Try.f22.results.toList = some o22 := by kernel_rfl
-- watermeet/watermeetref04.Moved N=59
def c23r0 : List SI := [
  ⟨none, .bxR 2 (.t 0), none, 0⟩,
  ⟨none, .alR 4 [(.int .i64 0), (.int .i64 0), (.int .i64 0), (.int .i64 0), (.int .i64 0), (.int .i64 0), (.int .i64 0), (.bool false), (.int .i64 0), (.slice none 0 0)], none, 0⟩,
  ⟨none, .mv 5 (.i 0), none, 0⟩]
def c23r1 : List SI := [
  ⟨none, .mv 10 (.t 1), none, 0⟩,
  ⟨none, .call 11 36 [(.t 10), (.i 1099511627776)], none, 0⟩,
  ⟨none, .un 12 .not (.t 11), none, 0⟩]
def c23r2 : List SI := [
  ⟨none, .bld 13 [(.int .i64 0), (.int .i64 0), (.int .i64 0), (.int .i64 0), (.int .i64 0), (.int .i64 0), (.int .i64 0), (.bool false), (.int .i64 0), (.slice none 0 0)] [], none, 0⟩,
  ⟨none, .stR 4 0 10 (.t 13), none, 0⟩,
  ⟨none, .mv 5 (.i 1), none, 0⟩]
def c23r3 : List SI := [
  ⟨none, .ldR 14 2 0 (some 10), none, 0⟩,
  ⟨none, .call 15 18 [(.t 14)], none, 0⟩,
  ⟨none, .mv 6 (.t 15), none, 0⟩]
def c23r4 : List SI := [
  ⟨none, .mv 16 (.t 6), none, 0⟩,
  ⟨none, .bin 17 .neq (.t 16) (.i 0), none, 0⟩]
def c23r5 : List SI := [
  ⟨none, .bld 18 [(.int .i64 0), (.int .i64 0), (.int .i64 0), (.int .i64 0), (.int .i64 0), (.int .i64 0), (.int .i64 0), (.bool false), (.int .i64 0), (.slice none 0 0)] [], none, 0⟩,
  ⟨none, .mv 19 (.t 6), none, 0⟩,
  ⟨none, .stR 4 0 10 (.t 18), none, 0⟩,
  ⟨none, .mv 5 (.t 19), none, 0⟩]
def c23r6 : List SI := [
  ⟨none, .ldR 20 2 0 (some 10), none, 0⟩,
  ⟨none, .call 21 21 [(.t 20)], none, 0⟩,
  ⟨none, .alR 7 [(.int .i64 0), (.int .i64 0), (.int .i64 0), (.int .i64 0), (.int .i64 0), (.int .i64 0), (.int .i64 0), (.bool false), (.int .i64 0), (.slice none 0 0)], none, 0⟩,
  ⟨none, .stR 7 0 10 (.t 21), none, 0⟩]
def c23r7 : List SI := [
  ⟨none, .mv 22 (.t 1), none, 0⟩,
  ⟨none, .nop, (some 7), 0⟩,
  ⟨none, .stR 7 0 1 (.t 22), none, 0⟩]
def c23r8 : List SI := [
  ⟨none, .mv 24 (.t 1), none, 0⟩,
  ⟨none, .nop, (some 2), 0⟩,
  ⟨none, .ldR 26 2 1 none, none, 0⟩,
  ⟨none, .bin 27 .add (.t 24) (.t 26), none, 0⟩,
  ⟨none, .nop, (some 2), 0⟩,
  ⟨none, .ldR 29 2 0 none, none, 0⟩,
  ⟨none, .bin 30 .sub (.t 27) (.t 29), none, 0⟩,
  ⟨none, .nop, (some 7), 0⟩,
  ⟨none, .stR 7 1 1 (.t 30), none, 0⟩]
def c23r9 : List SI := [
  ⟨none, .nop, (some 7), 0⟩,
  ⟨none, .ldR 33 7 9 none, none, 0⟩,
  ⟨none, .len 34 false (.t 33), none, 0⟩,
  ⟨none, .mv 35 (.i 0), none, 0⟩]
def c23r10 : List SI := [
  ⟨none, .bin 36 .lss (.t 35) (.t 34), none, 0⟩]
def c23r11 : List SI := [
  ⟨none, .mv 37 (.t 35), none, 0⟩,
  ⟨none, .mv 8 (.t 37), none, 0⟩]
def c23r12 : List SI := [
  ⟨none, .nop, (some 7), 0⟩,
  ⟨none, .ldR 39 7 9 none, none, 0⟩,
  ⟨none, .mv 40 (.t 8), none, 0⟩,
  ⟨none, .ixA 41 (.t 39) (.t 40) 5, none, 0⟩,
  ⟨none, .flA 42 (.t 41) 0, none, 0⟩,
  ⟨none, .ld 43 (.t 42) none, none, 0⟩,
  ⟨none, .mv 44 (.t 1), none, 0⟩,
  ⟨none, .nop, (some 2), 0⟩,
  ⟨none, .ldR 46 2 0 none, none, 0⟩,
  ⟨none, .bin 47 .sub (.t 44) (.t 46), none, 0⟩,
  ⟨none, .bin 48 .add (.t 43) (.t 47), none, 0⟩,
  ⟨none, .ixA 49 (.t 39) (.t 40) 5, none, 0⟩,
  ⟨none, .flA 50 (.t 49) 0, none, 0⟩]
def c23r13 : List SI := [
  ⟨none, .st (.t 50) 1 (.t 48), none, 0⟩]
def c23r14 : List SI := [
  ⟨none, .bin 51 .add (.t 35) (.i 1), none, 0⟩,
  ⟨none, .mv 35 (.t 51), none, 0⟩]
def c23r15 : List SI := [
  ⟨none, .ldR 52 7 0 (some 10), none, 0⟩,
  ⟨none, .call 53 18 [(.t 52)], none, 0⟩,
  ⟨none, .mv 9 (.t 53), none, 0⟩]
def c23r16 : List SI := [
  ⟨none, .mv 54 (.t 9), none, 0⟩,
  ⟨none, .bin 55 .neq (.t 54) (.i 0), none, 0⟩]
def c23r17 : List SI := [
  ⟨none, .bld 56 [(.int .i64 0), (.int .i64 0), (.int .i64 0), (.int .i64 0), (.int .i64 0), (.int .i64 0), (.int .i64 0), (.bool false), (.int .i64 0), (.slice none 0 0)] [], none, 0⟩,
  ⟨none, .mv 57 (.t 9), none, 0⟩,
  ⟨none, .stR 4 0 10 (.t 56), none, 0⟩,
  ⟨none, .mv 5 (.t 57), none, 0⟩]
def c23r18 : List SI := [
  ⟨none, .ldR 58 7 0 (some 10), none, 0⟩,
  ⟨none, .stR 4 0 10 (.t 58), none, 0⟩,
  ⟨none, .mv 5 (.i 0), none, 0⟩]
def c23 : SC :=
  (.seq (.reg false c23r0)
  (.seq (.seq (.reg false c23r1)
  (.cond (.t 12)
   (.seq (.reg false c23r2)
   .ret)
   .skip))
  (.seq (.seq (.reg false c23r3)
  (.seq (.reg false c23r4)
  (.cond (.t 17)
   (.seq (.reg false c23r5)
   .ret)
   .skip)))
  (.seq (.reg false c23r6)
  (.seq (.reg false c23r7)
  (.seq (.reg false c23r8)
  (.seq (.seq (.reg false c23r9)
  (.blk 0 (.loop (.seq (.reg false c23r10)
    (.seq (.cond (.t 36)
     .skip
     (.exit 0))
    (.seq (.blk 1 (.seq (.reg false c23r11)
     (.rgT c23r12 c23r13)))
    (.reg false c23r14)))))))
  (.seq (.seq (.reg false c23r15)
  (.seq (.reg false c23r16)
  (.cond (.t 55)
   (.seq (.reg false c23r17)
   .ret)
   .skip)))
  (.seq (.reg false c23r18)
  .ret)))))))))
def v23 : List Nat × List Nat := ([2, 4, 7], [2, 4, 7, 23, 25, 28, 31, 32, 38, 45])
def o23 : List RS := [.r 4 (some 10), .t 5]
theorem s23 : slimC Try.prog Try.f23.ntmps v23.1 v23.2 ((Try.f23.body).getD .skip) = some c23 := by kernel_rfl
theorem q23 : slimR Try.prog Try.f23.ntmps v23.1 v23.2 Try.f23.results.toList = some o23 := by kernel_rfl
-- watermeet/watermeetref04.Same N=73
def c24r0 : List SI := [
  ⟨none, .bxR 2 (.t 0), none, 0⟩,
  ⟨none, .bxR 3 (.t 1), none, 0⟩,
  ⟨none, .mv 4 (.b false), none, 0⟩]
def c24r1 : List SI := [
  ⟨none, .nop, (some 2), 0⟩,
  ⟨none, .ldR 6 2 0 none, none, 0⟩,
  ⟨none, .nop, (some 3), 0⟩,
  ⟨none, .ldR 8 3 0 none, none, 0⟩,
  ⟨none, .bin 9 .eql (.t 6) (.t 8), none, 0⟩,
  ⟨none, .mv 10 (.t 9), none, 0⟩,
  ⟨some (10, true), .nop, (some 2), 99999⟩,
  ⟨some (10, true), .ldR 12 2 1 none, none, 12⟩,
  ⟨some (10, true), .nop, (some 3), 99999⟩,
  ⟨some (10, true), .ldR 14 3 1 none, none, 14⟩,
  ⟨some (10, true), .bin 15 .eql (.t 12) (.t 14), none, 15⟩,
  ⟨none, .pick 16 (.t 10) (.t 15) (.b false), none, 0⟩,
  ⟨none, .mv 17 (.t 16), none, 0⟩,
  ⟨some (17, true), .nop, (some 2), 99999⟩,
  ⟨some (17, true), .ldR 19 2 2 none, none, 19⟩,
  ⟨some (17, true), .nop, (some 3), 99999⟩,
  ⟨some (17, true), .ldR 21 3 2 none, none, 21⟩,
  ⟨some (17, true), .bin 22 .eql (.t 19) (.t 21), none, 22⟩,
  ⟨none, .pick 23 (.t 17) (.t 22) (.b false), none, 0⟩,
  ⟨none, .mv 24 (.t 23), none, 0⟩,
  ⟨some (24, true), .nop, (some 2), 99999⟩,
  ⟨some (24, true), .ldR 26 2 3 none, none, 26⟩,
  ⟨some (24, true), .nop, (some 3), 99999⟩,
  ⟨some (24, true), .ldR 28 3 3 none, none, 28⟩,
  ⟨some (24, true), .bin 29 .eql (.t 26) (.t 28), none, 29⟩,
  ⟨none, .pick 30 (.t 24) (.t 29) (.b false), none, 0⟩,
  ⟨none, .mv 31 (.t 30), none, 0⟩,
  ⟨some (31, true), .nop, (some 2), 99999⟩,
  ⟨some (31, true), .ldR 33 2 4 none, none, 33⟩,
  ⟨some (31, true), .nop, (some 3), 99999⟩,
  ⟨some (31, true), .ldR 35 3 4 none, none, 35⟩,
  ⟨some (31, true), .bin 36 .eql (.t 33) (.t 35), none, 36⟩,
  ⟨none, .pick 37 (.t 31) (.t 36) (.b false), none, 0⟩,
  ⟨none, .mv 38 (.t 37), none, 0⟩,
  ⟨some (38, true), .nop, (some 2), 99999⟩,
  ⟨some (38, true), .ldR 40 2 5 none, none, 40⟩,
  ⟨some (38, true), .nop, (some 3), 99999⟩,
  ⟨some (38, true), .ldR 42 3 5 none, none, 42⟩,
  ⟨some (38, true), .bin 43 .eql (.t 40) (.t 42), none, 43⟩,
  ⟨none, .pick 44 (.t 38) (.t 43) (.b false), none, 0⟩,
  ⟨none, .mv 45 (.t 44), none, 0⟩,
  ⟨some (45, true), .nop, (some 2), 99999⟩,
  ⟨some (45, true), .ldR 47 2 6 none, none, 47⟩,
  ⟨some (45, true), .nop, (some 3), 99999⟩,
  ⟨some (45, true), .ldR 49 3 6 none, none, 49⟩,
  ⟨some (45, true), .bin 50 .eql (.t 47) (.t 49), none, 50⟩,
  ⟨none, .pick 51 (.t 45) (.t 50) (.b false), none, 0⟩,
  ⟨none, .mv 52 (.t 51), none, 0⟩,
  ⟨some (52, true), .nop, (some 2), 99999⟩,
  ⟨some (52, true), .ldR 54 2 7 none, none, 54⟩,
  ⟨some (52, true), .nop, (some 3), 99999⟩,
  ⟨some (52, true), .ldR 56 3 7 none, none, 56⟩,
  ⟨some (52, true), .eqb 57 false (.t 54) (.t 56), none, 57⟩,
  ⟨none, .pick 58 (.t 52) (.t 57) (.b false), none, 0⟩,
  ⟨none, .mv 59 (.t 58), none, 0⟩,
  ⟨some (59, true), .nop, (some 2), 99999⟩,
  ⟨some (59, true), .ldR 61 2 8 none, none, 61⟩,
  ⟨some (59, true), .nop, (some 3), 99999⟩,
  ⟨some (59, true), .ldR 63 3 8 none, none, 63⟩,
  ⟨some (59, true), .bin 64 .eql (.t 61) (.t 63), none, 64⟩,
  ⟨none, .pick 65 (.t 59) (.t 64) (.b false), none, 0⟩,
  ⟨none, .mv 66 (.t 65), none, 0⟩,
  ⟨some (66, true), .nop, (some 2), 99999⟩,
  ⟨some (66, true), .ldR 68 2 9 none, none, 68⟩,
  ⟨some (66, true), .nop, (some 3), 99999⟩,
  ⟨some (66, true), .ldR 70 3 9 none, none, 70⟩,
  ⟨some (66, true), .call 71 37 [(.t 68), (.t 70)], none, 71⟩,
  ⟨none, .pick 72 (.t 66) (.t 71) (.b false), none, 0⟩,
  ⟨none, .mv 4 (.t 72), none, 0⟩]
def c24 : SC :=
  (.seq (.reg false c24r0)
  (.seq (.reg false c24r1)
  .ret))
def v24 : List Nat × List Nat := ([2, 3], [2, 3, 5, 7, 11, 13, 18, 20, 25, 27, 32, 34, 39, 41, 46, 48, 53, 55, 60, 62, 67, 69])
def o24 : List RS := [.t 4]
theorem s24 : slimC Try.prog Try.f24.ntmps v24.1 v24.2 ((Try.f24.body).getD .skip) = some c24 := by kernel_rfl
theorem q24 : slimR Try.prog Try.f24.ntmps v24.1 v24.2 Try.f24.results.toList = some o24 := by kernel_rfl
-- watermeet/batch.Same N=19
def c25r0 : List SI := [
  ⟨none, .bxR 2 (.t 0), none, 0⟩,
  ⟨none, .bxR 3 (.t 1), none, 0⟩,
  ⟨none, .mv 4 (.b false), none, 0⟩]
def c25r1 : List SI := [
  ⟨none, .nop, (some 2), 0⟩,
  ⟨none, .ldR 7 2 9 none, none, 0⟩,
  ⟨none, .nop, (some 3), 0⟩,
  ⟨none, .ldR 9 3 9 none, none, 0⟩,
  ⟨none, .call 10 38 [(.t 7), (.t 9)], none, 0⟩,
  ⟨none, .un 11 .not (.t 10), none, 0⟩]
def c25r2 : List SI := [
  ⟨none, .mv 4 (.b false), none, 0⟩]
def c25r3 : List SI := [
  ⟨none, .mv 5 (.v (.func (.func 39) #[] #[])), none, 0⟩]
def c25r4 : List (Bool × SI) := [
  (true, ⟨none, .mv 12 (.t 5), none, 0⟩),
  (true, ⟨none, .ldR 13 2 0 (some 10), none, 0⟩),
  (true, ⟨none, .mv 15 (.t 5), none, 0⟩),
  (true, ⟨none, .ldR 16 3 0 (some 10), none, 0⟩),
  (false, ⟨none, .cav 14 (.t 12) [(.t 13)], none, 0⟩),
  (false, ⟨none, .cav 17 (.t 15) [(.t 16)], none, 0⟩),
  (true, ⟨none, .eqf 18 false [0, 0, 0, 0, 0, 0, 0, 0, 0] (.t 14) (.t 17), none, 0⟩),
  (true, ⟨none, .mv 4 (.t 18), none, 0⟩)]
def c25 : SC :=
  (.seq (.reg false c25r0)
  (.seq (.seq (.reg false c25r1)
  (.cond (.t 11)
   (.seq (.reg false c25r2)
   .ret)
   .skip))
  (.seq (.reg false c25r3)
  (.seq (.rgX c25r4)
  .ret))))
def v25 : List Nat × List Nat := ([2, 3], [2, 3, 6, 8])
def o25 : List RS := [.t 4]
theorem s25 : slimC Try.prog Try.f25.ntmps v25.1 v25.2 ((Try.f25.body).getD .skip) = some c25 := by kernel_rfl
theorem q25 : slimR Try.prog Try.f25.ntmps v25.1 v25.2 Try.f25.results.toList = some o25 := by kernel_rfl
-- watermeet/watermeetref01.Copy N=5
def c26r0 : List SI := [
  ⟨none, .mv 2 (.v (.slice none 0 0)), none, 0⟩]
def c26r1 : List SI := [
  ⟨none, .mv 3 (.t 0), none, 0⟩,
  ⟨none, .app 4 (.v (.slice none 0 0)) (.t 3) 5 1 1, none, 0⟩,
  ⟨none, .mv 2 (.t 4), none, 0⟩]
def c26 : SC :=
  (.seq (.reg false c26r0)
  (.seq (.reg false c26r1)
  .ret))
def v26 : List Nat × List Nat := ([], [])
def o26 : List RS := [.t 2]
theorem s26 : slimC Try.prog Try.f26.ntmps v26.1 v26.2 ((Try.f26.body).getD .skip) = some c26 := by kernel_rfl
theorem q26 : slimR Try.prog Try.f26.ntmps v26.1 v26.2 Try.f26.results.toList = some o26 := by kernel_rfl
-- watermeet/batch.Get N=68
def c27r0 : List SI := [
  ⟨none, .alR 4 [(.int .i64 0), (.int .i64 0), (.int .i64 0), (.int .i64 0), (.int .i64 0), (.int .i64 0), (.int .i64 0), (.bool false), (.int .i64 0), (.slice none 0 0)], none, 0⟩,
  ⟨none, .mv 5 (.i 0), none, 0⟩,
  ⟨none, .mv 6 (.i 0), none, 0⟩]
def c27r1 : List SI := [
  ⟨none, .mv 12 (.t 0), none, 0⟩,
  ⟨none, .mv 13 (.t 1), none, 0⟩,
  ⟨none, .call 14 40 [(.t 12), (.t 13), (.i 4)], none, 0⟩,
  ⟨none, .mv 11 (.t 14), none, 0⟩,
  ⟨none, .ext 15 (.t 11) 0, none, 0⟩,
  ⟨none, .ext 16 (.t 11) 1, none, 0⟩,
  ⟨none, .mv 7 (.t 15), none, 0⟩,
  ⟨none, .mv 6 (.t 16), none, 0⟩]
def c27r2 : List SI := [
  ⟨none, .mv 17 (.t 6), none, 0⟩,
  ⟨none, .bin 18 .neq (.t 17) (.i 0), none, 0⟩]
def c27r3 : List SI := [
  ⟨none, .bld 19 [(.int .i64 0), (.int .i64 0), (.int .i64 0), (.int .i64 0), (.int .i64 0), (.int .i64 0), (.int .i64 0), (.bool false), (.int .i64 0), (.slice none 0 0)] [], none, 0⟩,
  ⟨none, .mv 20 (.t 6), none, 0⟩,
  ⟨none, .stR 4 0 10 (.t 19), none, 0⟩,
  ⟨none, .mv 5 (.i 0), none, 0⟩,
  ⟨none, .mv 6 (.t 20), none, 0⟩]
def c27r4 : List SI := [
  ⟨none, .mv 21 (.t 7), none, 0⟩,
  ⟨none, .bin 22 .lss (.t 21) (.v (.int .u64 5)), none, 0⟩,
  ⟨none, .mv 23 (.t 22), none, 0⟩,
  ⟨some (23, false), .mv 24 (.t 7), none, 24⟩,
  ⟨some (23, false), .bin 25 .gtr (.t 24) (.v (.int .u64 2044)), none, 25⟩,
  ⟨none, .pick 26 (.t 23) (.b true) (.t 25), none, 0⟩]
def c27r5 : List SI := [
  ⟨none, .bld 27 [(.int .i64 0), (.int .i64 0), (.int .i64 0), (.int .i64 0), (.int .i64 0), (.int .i64 0), (.int .i64 0), (.bool false), (.int .i64 0), (.slice none 0 0)] [], none, 0⟩,
  ⟨none, .stR 4 0 10 (.t 27), none, 0⟩,
  ⟨none, .mv 5 (.i 0), none, 0⟩,
  ⟨none, .mv 6 (.i 11), none, 0⟩]
def c27r6 : List SI := [
  ⟨none, .mv 28 (.t 0), none, 0⟩,
  ⟨none, .mv 29 (.t 1), none, 0⟩,
  ⟨none, .bin 30 .add (.t 29) (.i 4), none, 0⟩,
  ⟨none, .sl 31 (.t 28) (some (.t 30)) none none 1, none, 0⟩,
  ⟨none, .mv 8 (.t 31), none, 0⟩]
def c27r7 : List SI := [
  ⟨none, .mv 32 (.t 8), none, 0⟩,
  ⟨none, .len 33 false (.t 32), none, 0⟩,
  ⟨none, .cvI 34 .u64 (.t 33), none, 0⟩,
  ⟨none, .mv 35 (.t 7), none, 0⟩,
  ⟨none, .bin 36 .lss (.t 34) (.t 35), none, 0⟩]
def c27r8 : List SI := [
  ⟨none, .bld 37 [(.int .i64 0), (.int .i64 0), (.int .i64 0), (.int .i64 0), (.int .i64 0), (.int .i64 0), (.int .i64 0), (.bool false), (.int .i64 0), (.slice none 0 0)] [], none, 0⟩,
  ⟨none, .stR 4 0 10 (.t 37), none, 0⟩,
  ⟨none, .mv 5 (.i 0), none, 0⟩,
  ⟨none, .mv 6 (.i 10), none, 0⟩]
def c27r9 : List SI := [
  ⟨none, .mv 39 (.t 8), none, 0⟩,
  ⟨none, .mv 40 (.t 7), none, 0⟩,
  ⟨none, .sl 41 (.t 39) none (some (.t 40)) none 1, none, 0⟩,
  ⟨none, .call 42 41 [(.t 41)], none, 0⟩,
  ⟨none, .mv 38 (.t 42), none, 0⟩,
  ⟨none, .ext 43 (.t 38) 0, none, 0⟩,
  ⟨none, .ext 44 (.t 38) 1, none, 0⟩,
  ⟨none, .mv 9 (.t 43), none, 0⟩,
  ⟨none, .mv 6 (.t 44), none, 0⟩]
def c27r10 : List SI := [
  ⟨none, .mv 45 (.t 6), none, 0⟩,
  ⟨none, .bin 46 .neq (.t 45) (.i 0), none, 0⟩]
def c27r11 : List SI := [
  ⟨none, .bld 47 [(.int .i64 0), (.int .i64 0), (.int .i64 0), (.int .i64 0), (.int .i64 0), (.int .i64 0), (.int .i64 0), (.bool false), (.int .i64 0), (.slice none 0 0)] [], none, 0⟩,
  ⟨none, .mv 48 (.t 6), none, 0⟩,
  ⟨none, .stR 4 0 10 (.t 47), none, 0⟩,
  ⟨none, .mv 5 (.i 0), none, 0⟩,
  ⟨none, .mv 6 (.t 48), none, 0⟩]
def c27r12 : List SI := [
  ⟨none, .mv 50 (.t 9), none, 0⟩,
  ⟨none, .call 51 42 [(.t 50)], none, 0⟩,
  ⟨none, .mv 49 (.t 51), none, 0⟩,
  ⟨none, .ext 52 (.t 49) 0, none, 0⟩,
  ⟨none, .ext 53 (.t 49) 1, none, 0⟩,
  ⟨none, .stR 4 0 10 (.t 52), none, 0⟩,
  ⟨none, .mv 10 (.t 53), none, 0⟩]
def c27r13 : List SI := [
  ⟨none, .mv 54 (.t 10), none, 0⟩,
  ⟨none, .un 55 .not (.t 54), none, 0⟩,
  ⟨none, .mv 56 (.t 55), none, 0⟩,
  ⟨some (56, false), .ldR 57 4 0 (some 10), none, 57⟩,
  ⟨some (56, false), .call 58 17 [(.t 57)], none, 58⟩,
  ⟨some (56, false), .bin 59 .neq (.t 58) (.i 0), none, 59⟩,
  ⟨none, .pick 60 (.t 56) (.b true) (.t 59), none, 0⟩]
def c27r14 : List SI := [
  ⟨none, .bld 61 [(.int .i64 0), (.int .i64 0), (.int .i64 0), (.int .i64 0), (.int .i64 0), (.int .i64 0), (.int .i64 0), (.bool false), (.int .i64 0), (.slice none 0 0)] [], none, 0⟩,
  ⟨none, .stR 4 0 10 (.t 61), none, 0⟩,
  ⟨none, .mv 5 (.i 0), none, 0⟩,
  ⟨none, .mv 6 (.i 11), none, 0⟩]
def c27r15 : List SI := [
  ⟨none, .ldR 62 4 0 (some 10), none, 0⟩,
  ⟨none, .mv 63 (.t 1), none, 0⟩,
  ⟨none, .bin 64 .add (.t 63) (.i 4), none, 0⟩,
  ⟨none, .mv 65 (.t 7), none, 0⟩,
  ⟨none, .cvI 66 .i64 (.t 65), none, 0⟩,
  ⟨none, .bin 67 .add (.t 64) (.t 66), none, 0⟩,
  ⟨none, .stR 4 0 10 (.t 62), none, 0⟩,
  ⟨none, .mv 5 (.t 67), none, 0⟩,
  ⟨none, .mv 6 (.i 0), none, 0⟩]
def c27 : SC :=
  (.seq (.reg false c27r0)
  (.seq (.reg false c27r1)
  (.seq (.seq (.reg false c27r2)
  (.cond (.t 18)
   (.seq (.reg false c27r3)
   .ret)
   .skip))
  (.seq (.seq (.reg false c27r4)
  (.cond (.t 26)
   (.seq (.reg false c27r5)
   .ret)
   .skip))
  (.seq (.reg false c27r6)
  (.seq (.seq (.reg false c27r7)
  (.cond (.t 36)
   (.seq (.reg false c27r8)
   .ret)
   .skip))
  (.seq (.reg false c27r9)
  (.seq (.seq (.reg false c27r10)
  (.cond (.t 46)
   (.seq (.reg false c27r11)
   .ret)
   .skip))
  (.seq (.reg false c27r12)
  (.seq (.seq (.reg false c27r13)
  (.cond (.t 60)
   (.seq (.reg false c27r14)
   .ret)
   .skip))
  (.seq (.reg false c27r15)
  .ret)))))))))))
def v27 : List Nat × List Nat := ([4], [4])
def o27 : List RS := [.r 4 (some 10), .t 5, .t 6]
theorem s27 : slimC Try.prog Try.f27.ntmps v27.1 v27.2 ((Try.f27.body).getD .skip) = some c27 := by kernel_rfl
theorem q27 : slimR Try.prog Try.f27.ntmps v27.1 v27.2 Try.f27.results.toList = some o27 := by kernel_rfl
-- watermeet/watermeetref04.Get N=68
def c28r0 : List SI := [
  ⟨none, .alR 4 [(.int .i64 0), (.int .i64 0), (.int .i64 0), (.int .i64 0), (.int .i64 0), (.int .i64 0), (.int .i64 0), (.bool false), (.int .i64 0), (.slice none 0 0)], none, 0⟩,
  ⟨none, .mv 5 (.i 0), none, 0⟩,
  ⟨none, .mv 6 (.i 0), none, 0⟩]
def c28r1 : List SI := [
  ⟨none, .mv 14 (.t 0), none, 0⟩,
  ⟨none, .mv 15 (.t 1), none, 0⟩,
  ⟨none, .call 16 43 [(.t 14), (.t 15), (.i 4)], none, 0⟩,
  ⟨none, .mv 13 (.t 16), none, 0⟩,
  ⟨none, .ext 17 (.t 13) 0, none, 0⟩,
  ⟨none, .ext 18 (.t 13) 1, none, 0⟩,
  ⟨none, .mv 7 (.t 17), none, 0⟩,
  ⟨none, .mv 8 (.t 18), none, 0⟩]
def c28r2 : List SI := [
  ⟨none, .mv 19 (.t 8), none, 0⟩,
  ⟨none, .bin 20 .neq (.t 19) (.i 0), none, 0⟩]
def c28r3 : List SI := [
  ⟨none, .bld 21 [(.int .i64 0), (.int .i64 0), (.int .i64 0), (.int .i64 0), (.int .i64 0), (.int .i64 0), (.int .i64 0), (.bool false), (.int .i64 0), (.slice none 0 0)] [], none, 0⟩,
  ⟨none, .mv 22 (.t 8), none, 0⟩,
  ⟨none, .stR 4 0 10 (.t 21), none, 0⟩,
  ⟨none, .mv 5 (.i 0), none, 0⟩,
  ⟨none, .mv 6 (.t 22), none, 0⟩]
def c28r4 : List SI := [
  ⟨none, .mv 23 (.t 7), none, 0⟩,
  ⟨none, .bin 24 .lss (.t 23) (.v (.int .u64 5)), none, 0⟩,
  ⟨none, .mv 25 (.t 24), none, 0⟩,
  ⟨some (25, false), .mv 26 (.t 7), none, 26⟩,
  ⟨some (25, false), .bin 27 .gtr (.t 26) (.v (.int .u64 2044)), none, 27⟩,
  ⟨none, .pick 28 (.t 25) (.b true) (.t 27), none, 0⟩]
def c28r5 : List SI := [
  ⟨none, .bld 29 [(.int .i64 0), (.int .i64 0), (.int .i64 0), (.int .i64 0), (.int .i64 0), (.int .i64 0), (.int .i64 0), (.bool false), (.int .i64 0), (.slice none 0 0)] [], none, 0⟩,
  ⟨none, .stR 4 0 10 (.t 29), none, 0⟩,
  ⟨none, .mv 5 (.i 0), none, 0⟩,
  ⟨none, .mv 6 (.i 11), none, 0⟩]
def c28r6 : List SI := [
  ⟨none, .mv 30 (.t 1), none, 0⟩,
  ⟨none, .bin 31 .add (.t 30) (.i 4), none, 0⟩,
  ⟨none, .mv 32 (.t 7), none, 0⟩,
  ⟨none, .cvI 33 .i64 (.t 32), none, 0⟩,
  ⟨none, .bin 34 .add (.t 31) (.t 33), none, 0⟩,
  ⟨none, .mv 9 (.t 34), none, 0⟩]
def c28r7 : List SI := [
  ⟨none, .mv 35 (.t 9), none, 0⟩,
  ⟨none, .mv 36 (.t 0), none, 0⟩,
  ⟨none, .len 37 false (.t 36), none, 0⟩,
  ⟨none, .bin 38 .gtr (.t 35) (.t 37), none, 0⟩]
def c28r8 : List SI := [
  ⟨none, .bld 39 [(.int .i64 0), (.int .i64 0), (.int .i64 0), (.int .i64 0), (.int .i64 0), (.int .i64 0), (.int .i64 0), (.bool false), (.int .i64 0), (.slice none 0 0)] [], none, 0⟩,
  ⟨none, .stR 4 0 10 (.t 39), none, 0⟩,
  ⟨none, .mv 5 (.i 0), none, 0⟩,
  ⟨none, .mv 6 (.i 10), none, 0⟩]
def c28r9 : List SI := [
  ⟨none, .mv 41 (.t 0), none, 0⟩,
  ⟨none, .mv 42 (.t 1), none, 0⟩,
  ⟨none, .bin 43 .add (.t 42) (.i 4), none, 0⟩,
  ⟨none, .mv 44 (.t 9), none, 0⟩,
  ⟨none, .sl 45 (.t 41) (some (.t 43)) (some (.t 44)) none 1, none, 0⟩,
  ⟨none, .call 46 44 [(.t 45)], none, 0⟩,
  ⟨none, .mv 40 (.t 46), none, 0⟩,
  ⟨none, .ext 47 (.t 40) 0, none, 0⟩,
  ⟨none, .ext 48 (.t 40) 1, none, 0⟩,
  ⟨none, .mv 10 (.t 47), none, 0⟩,
  ⟨none, .mv 8 (.t 48), none, 0⟩]
def c28r10 : List SI := [
  ⟨none, .mv 49 (.t 8), none, 0⟩,
  ⟨none, .bin 50 .neq (.t 49) (.i 0), none, 0⟩]
def c28r11 : List SI := [
  ⟨none, .bld 51 [(.int .i64 0), (.int .i64 0), (.int .i64 0), (.int .i64 0), (.int .i64 0), (.int .i64 0), (.int .i64 0), (.bool false), (.int .i64 0), (.slice none 0 0)] [], none, 0⟩,
  ⟨none, .mv 52 (.t 8), none, 0⟩,
  ⟨none, .stR 4 0 10 (.t 51), none, 0⟩,
  ⟨none, .mv 5 (.i 0), none, 0⟩,
  ⟨none, .mv 6 (.t 52), none, 0⟩]
def c28r12 : List SI := [
  ⟨none, .mv 54 (.t 10), none, 0⟩,
  ⟨none, .call 55 45 [(.t 54)], none, 0⟩,
  ⟨none, .mv 53 (.t 55), none, 0⟩,
  ⟨none, .ext 56 (.t 53) 0, none, 0⟩,
  ⟨none, .ext 57 (.t 53) 1, none, 0⟩,
  ⟨none, .alR 11 [(.int .i64 0), (.int .i64 0), (.int .i64 0), (.int .i64 0), (.int .i64 0), (.int .i64 0), (.int .i64 0), (.bool false), (.int .i64 0), (.slice none 0 0)], none, 0⟩,
  ⟨none, .stR 11 0 10 (.t 56), none, 0⟩,
  ⟨none, .mv 12 (.t 57), none, 0⟩]
def c28r13 : List SI := [
  ⟨none, .mv 58 (.t 12), none, 0⟩,
  ⟨none, .un 59 .not (.t 58), none, 0⟩,
  ⟨none, .mv 60 (.t 59), none, 0⟩,
  ⟨some (60, false), .ldR 61 11 0 (some 10), none, 61⟩,
  ⟨some (60, false), .call 62 18 [(.t 61)], none, 62⟩,
  ⟨some (60, false), .bin 63 .neq (.t 62) (.i 0), none, 63⟩,
  ⟨none, .pick 64 (.t 60) (.b true) (.t 63), none, 0⟩]
def c28r14 : List SI := [
  ⟨none, .bld 65 [(.int .i64 0), (.int .i64 0), (.int .i64 0), (.int .i64 0), (.int .i64 0), (.int .i64 0), (.int .i64 0), (.bool false), (.int .i64 0), (.slice none 0 0)] [], none, 0⟩,
  ⟨none, .stR 4 0 10 (.t 65), none, 0⟩,
  ⟨none, .mv 5 (.i 0), none, 0⟩,
  ⟨none, .mv 6 (.i 11), none, 0⟩]
def c28r15 : List SI := [
  ⟨none, .ldR 66 11 0 (some 10), none, 0⟩,
  ⟨none, .mv 67 (.t 9), none, 0⟩,
  ⟨none, .stR 4 0 10 (.t 66), none, 0⟩,
  ⟨none, .mv 5 (.t 67), none, 0⟩,
  ⟨none, .mv 6 (.i 0), none, 0⟩]
def c28 : SC :=
  (.seq (.reg false c28r0)
  (.seq (.reg false c28r1)
  (.seq (.seq (.reg false c28r2)
  (.cond (.t 20)
   (.seq (.reg false c28r3)
   .ret)
   .skip))
  (.seq (.seq (.reg false c28r4)
  (.cond (.t 28)
   (.seq (.reg false c28r5)
   .ret)
   .skip))
  (.seq (.reg false c28r6)
  (.seq (.seq (.reg false c28r7)
  (.cond (.t 38)
   (.seq (.reg false c28r8)
   .ret)
   .skip))
  (.seq (.reg false c28r9)
  (.seq (.seq (.reg false c28r10)
  (.cond (.t 50)
   (.seq (.reg false c28r11)
   .ret)
   .skip))
  (.seq (.reg false c28r12)
  (.seq (.seq (.reg false c28r13)
  (.cond (.t 64)
   (.seq (.reg false c28r14)
   .ret)
   .skip))
  (.seq (.reg false c28r15)
  .ret)))))))))))
def v28 : List Nat × List Nat := ([4, 11], [4, 11])
def o28 : List RS := [.r 4 (some 10), .t 5, .t 6]
theorem s28 : slimC Try.prog Try.f28.ntmps v28.1 v28.2 ((Try.f28.body).getD .skip) = some c28 := by kernel_rfl
theorem q28 : slimR Try.prog Try.f28.ntmps v28.1 v28.2 Try.f28.results.toList = some o28 := by kernel_rfl
-- watermeet/watermeetref04.FewAll N=21
def c29r0 : List SI := [
  ⟨none, .mv 4 (.b false), none, 0⟩]
def c29r1 : List SI := [
  ⟨none, .mv 7 (.t 0), none, 0⟩,
  ⟨none, .len 8 false (.t 7), none, 0⟩,
  ⟨none, .mv 9 (.i 0), none, 0⟩]
def c29r2 : List SI := [
  ⟨none, .bin 10 .lss (.t 9) (.t 8), none, 0⟩]
def c29r3 : List SI := [
  ⟨none, .ixA 11 (.t 7) (.t 9) 10, none, 0⟩,
  ⟨none, .ld 12 (.t 11) (some 10), none, 0⟩,
  ⟨none, .alR 6 [(.int .i64 0), (.int .i64 0), (.int .i64 0), (.int .i64 0), (.int .i64 0), (.int .i64 0), (.int .i64 0), (.bool false), (.int .i64 0), (.slice none 0 0)], none, 0⟩,
  ⟨none, .stR 6 0 10 (.t 12), none, 0⟩]
def c29r4 : List SI := [
  ⟨none, .ldR 13 6 0 (some 10), none, 0⟩,
  ⟨none, .call 14 13 [(.t 13)], none, 0⟩,
  ⟨none, .un 15 .not (.t 14), none, 0⟩]
def c29r5 : List SI := [
  ⟨none, .mv 4 (.b false), none, 0⟩]
def c29r6 : List SI := [
  ⟨none, .bin 16 .add (.t 9) (.i 1), none, 0⟩,
  ⟨none, .mv 9 (.t 16), none, 0⟩]
def c29r7 : List SI := [
  ⟨none, .mv 17 (.t 0), none, 0⟩,
  ⟨none, .len 18 false (.t 17), none, 0⟩,
  ⟨none, .mv 19 (.t 1), none, 0⟩,
  ⟨none, .bin 20 .leq (.t 18) (.t 19), none, 0⟩,
  ⟨none, .mv 4 (.t 20), none, 0⟩]
def c29 : SC :=
  (.seq (.reg false c29r0)
  (.seq (.seq (.reg false c29r1)
  (.blk 0 (.loop (.seq (.reg false c29r2)
    (.seq (.cond (.t 10)
     .skip
     (.exit 0))
    (.seq (.blk 1 (.seq (.reg false c29r3)
     (.seq (.reg false c29r4)
     (.cond (.t 15)
      (.seq (.reg false c29r5)
      .ret)
      .skip))))
    (.reg false c29r6)))))))
  (.seq (.reg false c29r7)
  .ret)))
def v29 : List Nat × List Nat := ([6], [6])
def o29 : List RS := [.t 4]
theorem s29 : slimC Try.prog Try.f29.ntmps v29.1 v29.2 ((Try.f29.body).getD .skip) = some c29 := by kernel_rfl
theorem q29 : slimR Try.prog Try.f29.ntmps v29.1 v29.2 Try.f29.results.toList = some o29 := by kernel_rfl
-- watermeet/batch.formed N=131
def c30r0 : List SI := [
  ⟨none, .bxR 1 (.t 0), none, 0⟩,
  ⟨none, .mv 2 (.b false), none, 0⟩]
def c30r1 : List SI := [
  ⟨none, .nop, (some 1), 0⟩,
  ⟨none, .ldR 8 1 0 none, none, 0⟩,
  ⟨none, .nop, (some 1), 0⟩,
  ⟨none, .ldR 10 1 1 none, none, 0⟩,
  ⟨none, .nop, (some 1), 0⟩,
  ⟨none, .ldR 12 1 2 none, none, 0⟩,
  ⟨none, .bls 13 3 3 1 [(.int .i64 0), (.int .i64 0), (.int .i64 0)] [(0, 1, (.t 8)), (1, 1, (.t 10)), (2, 1, (.t 12))], none, 0⟩,
  ⟨none, .call 14 34 [(.i 1099511627776), (.t 13)], none, 0⟩,
  ⟨none, .un 15 .not (.t 14), none, 0⟩,
  ⟨none, .mv 16 (.t 15), none, 0⟩,
  ⟨some (16, false), .nop, (some 1), 99999⟩,
  ⟨some (16, false), .ldR 18 1 3 none, none, 18⟩,
  ⟨some (16, false), .nop, (some 1), 99999⟩,
  ⟨some (16, false), .ldR 20 1 5 none, none, 20⟩,
  ⟨some (16, false), .nop, (some 1), 99999⟩,
  ⟨some (16, false), .ldR 22 1 6 none, none, 22⟩,
  ⟨some (16, false), .bls 23 3 3 1 [(.int .i64 0), (.int .i64 0), (.int .i64 0)] [(0, 1, (.t 18)), (1, 1, (.t 20)), (2, 1, (.t 22))], none, 23⟩,
  ⟨some (16, false), .call 24 34 [(.i 1048576), (.t 23)], none, 24⟩,
  ⟨some (16, false), .un 25 .not (.t 24), none, 25⟩,
  ⟨none, .pick 26 (.t 16) (.b true) (.t 25), none, 0⟩]
def c30r2 : List SI := [
  ⟨none, .mv 2 (.b false), none, 0⟩]
def c30r3 : List SI := [
  ⟨none, .nop, (some 1), 0⟩,
  ⟨none, .ldR 28 1 1 none, none, 0⟩,
  ⟨none, .nop, (some 1), 0⟩,
  ⟨none, .ldR 30 1 0 none, none, 0⟩,
  ⟨none, .bin 31 .sub (.t 28) (.t 30), none, 0⟩,
  ⟨none, .mv 3 (.t 31), none, 0⟩]
def c30r4 : List SI := [
  ⟨none, .mv 33 (.t 3), none, 0⟩,
  ⟨none, .bin 34 .lss (.t 33) (.i 0), none, 0⟩,
  ⟨none, .mv 35 (.t 34), none, 0⟩,
  ⟨some (35, false), .mv 36 (.t 3), none, 36⟩,
  ⟨some (35, false), .bin 37 .geq (.t 36) (.i 16), none, 37⟩,
  ⟨none, .pick 38 (.t 35) (.b true) (.t 37), none, 0⟩,
  ⟨none, .mv 39 (.t 38), none, 0⟩,
  ⟨some (39, false), .nop, (some 1), 99999⟩,
  ⟨some (39, false), .ldR 41 1 2 none, none, 41⟩,
  ⟨some (39, false), .mv 42 (.t 3), none, 42⟩,
  ⟨some (39, false), .bin 43 .add (.t 41) (.t 42), none, 43⟩,
  ⟨some (39, false), .bin 44 .gtr (.t 43) (.i 1099511627776), none, 44⟩,
  ⟨none, .pick 45 (.t 39) (.b true) (.t 44), none, 0⟩,
  ⟨none, .mv 46 (.t 45), none, 0⟩,
  ⟨some (46, false), .nop, (some 1), 99999⟩,
  ⟨some (46, false), .ldR 48 1 6 none, none, 48⟩,
  ⟨some (46, false), .mv 49 (.t 3), none, 49⟩,
  ⟨some (46, false), .bin 50 .add (.t 48) (.t 49), none, 50⟩,
  ⟨some (46, false), .bin 51 .gtr (.t 50) (.i 1048576), none, 51⟩,
  ⟨none, .pick 52 (.t 46) (.b true) (.t 51), none, 0⟩,
  ⟨none, .mv 32 (.t 52), none, 0⟩]
def c30r5 : List SI := [
  ⟨none, .mv 2 (.b false), none, 0⟩]
def c30r6 : List SI := [
  ⟨none, .nop, (some 1), 0⟩,
  ⟨none, .ldR 55 1 4 none, none, 0⟩,
  ⟨none, .bin 56 .lss (.t 55) (.i (-1)), none, 0⟩,
  ⟨none, .mv 57 (.t 56), none, 0⟩,
  ⟨some (57, false), .nop, (some 1), 99999⟩,
  ⟨some (57, false), .ldR 59 1 4 none, none, 59⟩,
  ⟨some (57, false), .bin 60 .gtr (.t 59) (.i 1099511627776), none, 60⟩,
  ⟨none, .pick 61 (.t 57) (.b true) (.t 60), none, 0⟩,
  ⟨none, .mv 53 (.t 61), none, 0⟩]
def c30r7 : List SI := [
  ⟨none, .mv 2 (.b false), none, 0⟩]
def c30r8 : List SI := [
  ⟨none, .nop, (some 1), 0⟩,
  ⟨none, .ldR 64 1 4 none, none, 0⟩,
  ⟨none, .bin 65 .eql (.t 64) (.i (-1)), none, 0⟩,
  ⟨none, .mv 66 (.t 65), none, 0⟩,
  ⟨some (66, true), .nop, (some 1), 99999⟩,
  ⟨some (66, true), .ldR 68 1 5 none, none, 68⟩,
  ⟨some (66, true), .nop, (some 1), 99999⟩,
  ⟨some (66, true), .ldR 70 1 6 none, none, 70⟩,
  ⟨some (66, true), .bin 71 .add (.t 68) (.t 70), none, 71⟩,
  ⟨some (66, true), .bin 72 .neq (.t 71) (.i 0), none, 72⟩,
  ⟨some (66, true), .mv 73 (.t 72), none, 73⟩,
  ⟨some (73, false), .nop, (some 1), 99999⟩,
  ⟨some (73, false), .ldR 75 1 7 none, none, 75⟩,
  ⟨some (66, true), .pick 76 (.t 73) (.b true) (.t 75), none, 76⟩,
  ⟨some (66, true), .mv 77 (.t 76), none, 77⟩,
  ⟨some (77, false), .nop, (some 1), 99999⟩,
  ⟨some (77, false), .ldR 79 1 8 none, none, 79⟩,
  ⟨some (77, false), .bin 80 .neq (.t 79) (.i 0), none, 80⟩,
  ⟨some (66, true), .pick 81 (.t 77) (.b true) (.t 80), none, 81⟩,
  ⟨none, .pick 82 (.t 66) (.t 81) (.b false), none, 0⟩,
  ⟨none, .mv 62 (.t 82), none, 0⟩]
def c30r9 : List SI := [
  ⟨none, .mv 2 (.b false), none, 0⟩]
def c30r10 : List SI := [
  ⟨none, .nop, (some 1), 0⟩,
  ⟨none, .ldR 84 1 8 none, none, 0⟩]
def c30r11 : List SI := [
  ⟨none, .bin 86 .eql (.t 84) (.i 0), none, 0⟩,
  ⟨none, .mv 85 (.t 86), none, 0⟩]
def c30r12 : List SI := [
  ⟨none, .nop, (some 1), 0⟩,
  ⟨none, .ldR 88 1 0 none, none, 0⟩,
  ⟨none, .mv 4 (.t 88), none, 0⟩]
def c30r13 : List SI := [
  ⟨none, .nop, (some 1), 0⟩,
  ⟨none, .ldR 90 1 9 none, none, 0⟩,
  ⟨none, .len 91 false (.t 90), none, 0⟩,
  ⟨none, .mv 92 (.i 0), none, 0⟩]
def c30r14 : List SI := [
  ⟨none, .bin 93 .lss (.t 92) (.t 91), none, 0⟩]
def c30r15 : List SI := [
  ⟨none, .ixA 94 (.t 90) (.t 92) 5, none, 0⟩,
  ⟨none, .ld 95 (.t 94) (some 5), none, 0⟩,
  ⟨none, .alR 6 [(.int .i64 0), (.string ⟨#[]⟩), (.string ⟨#[]⟩), (.bool false), (.int .i64 0)], none, 0⟩,
  ⟨none, .stR 6 0 5 (.t 95), none, 0⟩]
def c30r16 : List SI := [
  ⟨none, .ldR 96 6 0 (some 5), none, 0⟩,
  ⟨none, .call 97 46 [(.t 96)], none, 0⟩,
  ⟨none, .bin 98 .neq (.t 97) (.i 0), none, 0⟩,
  ⟨none, .mv 99 (.t 98), none, 0⟩,
  ⟨some (99, false), .nop, (some 6), 99999⟩,
  ⟨some (99, false), .ldR 101 6 0 none, none, 101⟩,
  ⟨some (99, false), .mv 102 (.t 4), none, 102⟩,
  ⟨some (99, false), .bin 103 .lss (.t 101) (.t 102), none, 103⟩,
  ⟨none, .pick 104 (.t 99) (.b true) (.t 103), none, 0⟩,
  ⟨none, .mv 105 (.t 104), none, 0⟩,
  ⟨some (105, false), .nop, (some 6), 99999⟩,
  ⟨some (105, false), .ldR 107 6 0 none, none, 107⟩,
  ⟨some (105, false), .nop, (some 1), 99999⟩,
  ⟨some (105, false), .ldR 109 1 1 none, none, 109⟩,
  ⟨some (105, false), .bin 110 .gtr (.t 107) (.t 109), none, 110⟩,
  ⟨none, .pick 111 (.t 105) (.b true) (.t 110), none, 0⟩]
def c30r17 : List SI := [
  ⟨none, .mv 2 (.b false), none, 0⟩]
def c30r18 : List SI := [
  ⟨none, .nop, (some 6), 0⟩,
  ⟨none, .ldR 113 6 0 none, none, 0⟩,
  ⟨none, .bin 114 .add (.t 113) (.i 1), none, 0⟩,
  ⟨none, .mv 4 (.t 114), none, 0⟩]
def c30r19 : List SI := [
  ⟨none, .bin 115 .add (.t 92) (.i 1), none, 0⟩,
  ⟨none, .mv 92 (.t 115), none, 0⟩]
def c30r20 : List SI := [
  ⟨none, .mv 2 (.b true), none, 0⟩]
def c30r21 : List SI := [
  ⟨none, .bin 117 .eql (.t 84) (.i 1), none, 0⟩,
  ⟨none, .mv 116 (.t 117), none, 0⟩]
def c30r22 : List SI := [
  ⟨none, .bin 118 .eql (.t 84) (.i 2), none, 0⟩,
  ⟨none, .mv 116 (.t 118), none, 0⟩]
def c30r23 : List SI := [
  ⟨none, .mv 119 (.t 3), none, 0⟩,
  ⟨none, .bin 120 .eql (.t 119) (.i 0), none, 0⟩,
  ⟨none, .mv 121 (.t 120), none, 0⟩,
  ⟨some (121, true), .nop, (some 1), 99999⟩,
  ⟨some (121, true), .ldR 123 1 9 none, none, 123⟩,
  ⟨some (121, true), .len 124 false (.t 123), none, 124⟩,
  ⟨some (121, true), .bin 125 .eql (.t 124) (.i 0), none, 125⟩,
  ⟨none, .pick 126 (.t 121) (.t 125) (.b false), none, 0⟩,
  ⟨none, .mv 127 (.t 126), none, 0⟩,
  ⟨some (127, true), .nop, (some 1), 99999⟩,
  ⟨some (127, true), .ldR 129 1 7 none, none, 129⟩,
  ⟨none, .pick 130 (.t 127) (.t 129) (.b false), none, 0⟩,
  ⟨none, .mv 2 (.t 130), none, 0⟩]
def c30r24 : List SI := [
  ⟨none, .mv 2 (.b false), none, 0⟩]
def c30 : SC :=
  (.seq (.reg false c30r0)
  (.seq (.seq (.reg false c30r1)
  (.cond (.t 26)
   (.seq (.reg false c30r2)
   .ret)
   .skip))
  (.seq (.reg false c30r3)
  (.seq (.blk 0 (.seq (.reg false c30r4)
   (.cond (.t 32)
    (.seq (.reg false c30r5)
    .ret)
    (.seq (.reg false c30r6)
    (.cond (.t 53)
     (.seq (.reg false c30r7)
     .ret)
     (.seq (.reg false c30r8)
     (.cond (.t 62)
      (.seq (.reg false c30r9)
      .ret)
      .skip)))))))
  (.seq (.seq (.reg false c30r10)
  (.blk 1 (.seq (.reg false c30r11)
   (.cond (.t 85)
    (.seq (.reg false c30r12)
    (.seq (.seq (.reg false c30r13)
    (.blk 2 (.loop (.seq (.reg false c30r14)
      (.seq (.cond (.t 93)
       .skip
       (.exit 2))
      (.seq (.blk 3 (.seq (.reg false c30r15)
       (.seq (.seq (.reg false c30r16)
       (.cond (.t 111)
        (.seq (.reg false c30r17)
        .ret)
        .skip))
       (.reg false c30r18))))
      (.reg false c30r19)))))))
    (.seq (.reg false c30r20)
    .ret)))
    (.seq (.seq (.reg false c30r21)
    (.cond (.t 116)
     .skip
     (.reg false c30r22)))
    (.cond (.t 116)
     (.seq (.reg false c30r23)
     .ret)
     .skip))))))
  (.seq (.reg false c30r24)
  .ret))))))
def v30 : List Nat × List Nat := ([1, 6], [1, 6, 7, 9, 11, 17, 19, 21, 27, 29, 40, 47, 54, 58, 63, 67, 69, 74, 78, 83, 87, 89, 100, 106, 108, 112, 122, 128])
def o30 : List RS := [.t 2]
theorem s30 : slimC Try.prog Try.f30.ntmps v30.1 v30.2 ((Try.f30.body).getD .skip) = some c30 := by kernel_rfl
theorem q30 : slimR Try.prog Try.f30.ntmps v30.1 v30.2 Try.f30.results.toList = some o30 := by kernel_rfl
-- watermeet/batch.write N=91
def c31r0 : List SI := [
  ⟨none, .bxR 1 (.t 0), none, 0⟩,
  ⟨none, .mv 2 (.v (.slice none 0 0)), none, 0⟩]
def c31r1 : List SI := [
  ⟨none, .mv 3 (.v (.slice none 0 0)), none, 0⟩]
def c31r2 : List SI := [
  ⟨none, .nop, (some 1), 0⟩,
  ⟨none, .ldR 13 1 0 none, none, 0⟩,
  ⟨none, .nop, (some 1), 0⟩,
  ⟨none, .ldR 15 1 1 none, none, 0⟩,
  ⟨none, .nop, (some 1), 0⟩,
  ⟨none, .ldR 17 1 0 none, none, 0⟩,
  ⟨none, .bin 18 .sub (.t 15) (.t 17), none, 0⟩,
  ⟨none, .nop, (some 1), 0⟩,
  ⟨none, .ldR 20 1 2 none, none, 0⟩,
  ⟨none, .nop, (some 1), 0⟩,
  ⟨none, .ldR 22 1 3 none, none, 0⟩,
  ⟨none, .nop, (some 1), 0⟩,
  ⟨none, .ldR 24 1 4 none, none, 0⟩,
  ⟨none, .nop, (some 1), 0⟩,
  ⟨none, .ldR 26 1 5 none, none, 0⟩,
  ⟨none, .nop, (some 1), 0⟩,
  ⟨none, .ldR 28 1 6 none, none, 0⟩,
  ⟨none, .bld 29 [(.int .i64 0), (.int .i64 0), (.int .i64 0), (.int .i64 0), (.int .i64 0), (.int .i64 0), (.int .i64 0)] [(0, 1, (.t 13)), (1, 1, (.t 18)), (2, 1, (.t 20)), (3, 1, (.t 22)), (4, 1, (.t 24)), (5, 1, (.t 26)), (6, 1, (.t 28))], none, 0⟩,
  ⟨none, .mv 30 (.i 0), none, 0⟩]
def c31r3 : List SI := [
  ⟨none, .bin 31 .lss (.t 30) (.i 7), none, 0⟩]
def c31r4 : List SI := [
  ⟨none, .ixV 32 (.t 29) (.t 30) 7 1 none, none, 0⟩,
  ⟨none, .mv 5 (.t 32), none, 0⟩]
def c31r5 : List SI := [
  ⟨none, .mv 33 (.t 3), none, 0⟩,
  ⟨none, .mv 34 (.t 5), none, 0⟩,
  ⟨none, .call 35 47 [(.t 33), (.t 34)], none, 0⟩,
  ⟨none, .mv 3 (.t 35), none, 0⟩]
def c31r6 : List SI := [
  ⟨none, .bin 36 .add (.t 30) (.i 1), none, 0⟩,
  ⟨none, .mv 30 (.t 36), none, 0⟩]
def c31r7 : List SI := [
  ⟨none, .nop, (some 1), 0⟩,
  ⟨none, .ldR 38 1 8 none, none, 0⟩,
  ⟨none, .cvI 39 .u8 (.t 38), none, 0⟩,
  ⟨none, .mv 6 (.t 39), none, 0⟩]
def c31r8 : List SI := [
  ⟨none, .nop, (some 1), 0⟩,
  ⟨none, .ldR 41 1 7 none, none, 0⟩]
def c31r9 : List SI := [
  ⟨none, .mv 42 (.t 6), none, 0⟩,
  ⟨none, .bin 43 .or (.t 42) (.v (.int .u8 4)), none, 0⟩,
  ⟨none, .mv 6 (.t 43), none, 0⟩]
def c31r10 : List (Bool × SI) := [
  (true, ⟨none, .mv 44 (.t 3), none, 0⟩),
  (true, ⟨none, .mv 45 (.t 6), none, 0⟩),
  (true, ⟨none, .nop, (some 1), 0⟩),
  (true, ⟨none, .ldR 49 1 9 none, none, 0⟩),
  (true, ⟨none, .len 50 false (.t 49), none, 0⟩),
  (false, ⟨none, .bls 46 5 1 1 [(.int .u8 0)] [(0, 1, (.t 45))], none, 0⟩),
  (false, ⟨none, .app 47 (.t 44) (.t 46) 5 1 1, none, 0⟩),
  (false, ⟨none, .call 51 47 [(.t 47), (.t 50)], none, 0⟩),
  (true, ⟨none, .mv 3 (.t 51), none, 0⟩)]
def c31r11 : List SI := [
  ⟨none, .nop, (some 1), 0⟩,
  ⟨none, .ldR 53 1 9 none, none, 0⟩,
  ⟨none, .len 54 false (.t 53), none, 0⟩,
  ⟨none, .bin 55 .gtr (.t 54) (.i 0), none, 0⟩]
def c31r12 : List SI := [
  ⟨none, .nop, (some 1), 0⟩,
  ⟨none, .ldR 57 1 9 none, none, 0⟩,
  ⟨none, .ixA 58 (.t 57) (.i 0) 5, none, 0⟩,
  ⟨none, .flA 59 (.t 58) 4, none, 0⟩,
  ⟨none, .ld 60 (.t 59) none, none, 0⟩,
  ⟨none, .mv 7 (.t 60), none, 0⟩]
def c31r13 : List SI := [
  ⟨none, .mv 61 (.t 3), none, 0⟩,
  ⟨none, .mv 62 (.t 7), none, 0⟩,
  ⟨none, .call 63 47 [(.t 61), (.t 62)], none, 0⟩,
  ⟨none, .mv 3 (.t 63), none, 0⟩]
def c31r14 : List SI := [
  ⟨none, .nop, (some 1), 0⟩,
  ⟨none, .ldR 65 1 9 none, none, 0⟩,
  ⟨none, .len 66 false (.t 65), none, 0⟩,
  ⟨none, .mv 67 (.i 0), none, 0⟩]
def c31r15 : List SI := [
  ⟨none, .bin 68 .lss (.t 67) (.t 66), none, 0⟩]
def c31r16 : List SI := [
  ⟨none, .ixA 69 (.t 65) (.t 67) 5, none, 0⟩,
  ⟨none, .ld 70 (.t 69) (some 5), none, 0⟩,
  ⟨none, .alR 9 [(.int .i64 0), (.string ⟨#[]⟩), (.string ⟨#[]⟩), (.bool false), (.int .i64 0)], none, 0⟩,
  ⟨none, .stR 9 0 5 (.t 70), none, 0⟩]
def c31r17 : List SI := [
  ⟨none, .ldR 72 9 0 (some 5), none, 0⟩,
  ⟨none, .nop, (some 1), 0⟩,
  ⟨none, .ldR 74 1 0 none, none, 0⟩,
  ⟨none, .mv 75 (.t 7), none, 0⟩,
  ⟨none, .call 76 48 [(.t 72), (.t 74), (.t 75)], none, 0⟩,
  ⟨none, .mv 71 (.t 76), none, 0⟩,
  ⟨none, .ext 77 (.t 71) 0, none, 0⟩,
  ⟨none, .ext 78 (.t 71) 1, none, 0⟩,
  ⟨none, .mv 10 (.t 77), none, 0⟩,
  ⟨none, .mv 11 (.t 78), none, 0⟩]
def c31r18 : List SI := [
  ⟨none, .mv 79 (.t 3), none, 0⟩,
  ⟨none, .mv 80 (.t 10), none, 0⟩,
  ⟨none, .app 81 (.t 79) (.t 80) 5 1 1, none, 0⟩,
  ⟨none, .mv 3 (.t 81), none, 0⟩]
def c31r19 : List SI := [
  ⟨none, .bin 82 .add (.t 67) (.i 1), none, 0⟩,
  ⟨none, .mv 67 (.t 82), none, 0⟩]
def c31r20 : List SI := [
  ⟨none, .mv 83 (.t 3), none, 0⟩,
  ⟨none, .call 84 49 [(.t 83)], none, 0⟩,
  ⟨none, .mv 3 (.t 84), none, 0⟩]
def c31r21 : List SI := [
  ⟨none, .mv 85 (.t 3), none, 0⟩,
  ⟨none, .len 86 false (.t 85), none, 0⟩,
  ⟨none, .cvI 87 .u64 (.t 86), none, 0⟩,
  ⟨none, .call 88 50 [(.v (.slice none 0 0)), (.t 87), (.i 4)], none, 0⟩,
  ⟨none, .mv 89 (.t 3), none, 0⟩,
  ⟨none, .app 90 (.t 88) (.t 89) 5 1 1, none, 0⟩,
  ⟨none, .mv 2 (.t 90), none, 0⟩]
def c31 : SC :=
  (.seq (.reg false c31r0)
  (.seq (.reg false c31r1)
  (.seq (.seq (.reg false c31r2)
  (.blk 0 (.loop (.seq (.reg false c31r3)
    (.seq (.cond (.t 31)
     .skip
     (.exit 0))
    (.seq (.blk 1 (.seq (.reg false c31r4)
     (.reg false c31r5)))
    (.reg false c31r6)))))))
  (.seq (.reg false c31r7)
  (.seq (.seq (.reg false c31r8)
  (.cond (.t 41)
   (.reg false c31r9)
   .skip))
  (.seq (.rgX c31r10)
  (.seq (.seq (.reg false c31r11)
  (.cond (.t 55)
   (.seq (.reg false c31r12)
   (.seq (.reg false c31r13)
   (.seq (.reg false c31r14)
   (.blk 2 (.loop (.seq (.reg false c31r15)
     (.seq (.cond (.t 68)
      .skip
      (.exit 2))
     (.seq (.blk 3 (.seq (.reg false c31r16)
      (.seq (.reg false c31r17)
      (.reg false c31r18))))
     (.reg false c31r19)))))))))
   .skip))
  (.seq (.reg false c31r20)
  (.seq (.reg false c31r21)
  .ret)))))))))
def v31 : List Nat × List Nat := ([1, 9], [1, 9, 12, 14, 16, 19, 21, 23, 25, 27, 37, 40, 48, 52, 56, 64, 73])
def o31 : List RS := [.t 2]
theorem s31 : slimC Try.prog Try.f31.ntmps v31.1 v31.2 ((Try.f31.body).getD .skip) = some c31 := by kernel_rfl
theorem q31 : slimR Try.prog Try.f31.ntmps v31.1 v31.2 Try.f31.results.toList = some o31 := by kernel_rfl
-- watermeet/watermeetref04.bytes N=91
def c32r0 : List SI := [
  ⟨none, .bxR 1 (.t 0), none, 0⟩,
  ⟨none, .mv 2 (.v (.slice none 0 0)), none, 0⟩]
def c32r1 : List SI := [
  ⟨none, .mv 3 (.v (.slice none 0 0)), none, 0⟩]
def c32r2 : List SI := [
  ⟨none, .nop, (some 1), 0⟩,
  ⟨none, .ldR 12 1 0 none, none, 0⟩,
  ⟨none, .nop, (some 1), 0⟩,
  ⟨none, .ldR 14 1 1 none, none, 0⟩,
  ⟨none, .nop, (some 1), 0⟩,
  ⟨none, .ldR 16 1 0 none, none, 0⟩,
  ⟨none, .bin 17 .sub (.t 14) (.t 16), none, 0⟩,
  ⟨none, .nop, (some 1), 0⟩,
  ⟨none, .ldR 19 1 2 none, none, 0⟩,
  ⟨none, .nop, (some 1), 0⟩,
  ⟨none, .ldR 21 1 3 none, none, 0⟩,
  ⟨none, .nop, (some 1), 0⟩,
  ⟨none, .ldR 23 1 4 none, none, 0⟩,
  ⟨none, .nop, (some 1), 0⟩,
  ⟨none, .ldR 25 1 5 none, none, 0⟩,
  ⟨none, .nop, (some 1), 0⟩,
  ⟨none, .ldR 27 1 6 none, none, 0⟩,
  ⟨none, .bls 28 3 7 1 [(.int .i64 0), (.int .i64 0), (.int .i64 0), (.int .i64 0), (.int .i64 0), (.int .i64 0), (.int .i64 0)] [(0, 1, (.t 12)), (1, 1, (.t 17)), (2, 1, (.t 19)), (3, 1, (.t 21)), (4, 1, (.t 23)), (5, 1, (.t 25)), (6, 1, (.t 27))], none, 0⟩,
  ⟨none, .len 29 false (.t 28), none, 0⟩,
  ⟨none, .mv 30 (.i 0), none, 0⟩]
def c32r3 : List SI := [
  ⟨none, .bin 31 .lss (.t 30) (.t 29), none, 0⟩]
def c32r4 : List SI := [
  ⟨none, .ixA 32 (.t 28) (.t 30) 1, none, 0⟩,
  ⟨none, .ld 33 (.t 32) none, none, 0⟩,
  ⟨none, .mv 5 (.t 33), none, 0⟩]
def c32r5 : List SI := [
  ⟨none, .mv 34 (.t 3), none, 0⟩,
  ⟨none, .mv 35 (.t 5), none, 0⟩,
  ⟨none, .call 36 51 [(.t 34), (.t 35)], none, 0⟩,
  ⟨none, .mv 3 (.t 36), none, 0⟩]
def c32r6 : List SI := [
  ⟨none, .bin 37 .add (.t 30) (.i 1), none, 0⟩,
  ⟨none, .mv 30 (.t 37), none, 0⟩]
def c32r7 : List SI := [
  ⟨none, .nop, (some 1), 0⟩,
  ⟨none, .ldR 39 1 8 none, none, 0⟩,
  ⟨none, .mv 6 (.t 39), none, 0⟩]
def c32r8 : List SI := [
  ⟨none, .nop, (some 1), 0⟩,
  ⟨none, .ldR 41 1 7 none, none, 0⟩]
def c32r9 : List SI := [
  ⟨none, .mv 42 (.t 6), none, 0⟩,
  ⟨none, .bin 43 .add (.t 42) (.i 4), none, 0⟩,
  ⟨none, .mv 6 (.t 43), none, 0⟩]
def c32r10 : List (Bool × SI) := [
  (true, ⟨none, .mv 44 (.t 3), none, 0⟩),
  (true, ⟨none, .mv 45 (.t 6), none, 0⟩),
  (true, ⟨none, .cvI 46 .u8 (.t 45), none, 0⟩),
  (true, ⟨none, .nop, (some 1), 0⟩),
  (true, ⟨none, .ldR 50 1 9 none, none, 0⟩),
  (true, ⟨none, .len 51 false (.t 50), none, 0⟩),
  (false, ⟨none, .bls 47 5 1 1 [(.int .u8 0)] [(0, 1, (.t 46))], none, 0⟩),
  (false, ⟨none, .app 48 (.t 44) (.t 47) 5 1 1, none, 0⟩),
  (false, ⟨none, .call 52 51 [(.t 48), (.t 51)], none, 0⟩),
  (true, ⟨none, .mv 3 (.t 52), none, 0⟩)]
def c32r11 : List SI := [
  ⟨none, .nop, (some 1), 0⟩,
  ⟨none, .ldR 54 1 9 none, none, 0⟩,
  ⟨none, .len 55 false (.t 54), none, 0⟩,
  ⟨none, .mv 56 (.i 0), none, 0⟩]
def c32r12 : List SI := [
  ⟨none, .bin 57 .lss (.t 56) (.t 55), none, 0⟩]
def c32r13 : List SI := [
  ⟨none, .mv 58 (.t 56), none, 0⟩,
  ⟨none, .ixA 59 (.t 54) (.t 56) 5, none, 0⟩,
  ⟨none, .ld 60 (.t 59) (some 5), none, 0⟩,
  ⟨none, .alR 8 [(.int .i64 0), (.string ⟨#[]⟩), (.string ⟨#[]⟩), (.bool false), (.int .i64 0)], none, 0⟩,
  ⟨none, .mv 7 (.t 58), none, 0⟩,
  ⟨none, .stR 8 0 5 (.t 60), none, 0⟩]
def c32r14 : List SI := [
  ⟨none, .mv 61 (.t 7), none, 0⟩,
  ⟨none, .bin 62 .eql (.t 61) (.i 0), none, 0⟩]
def c32r15 : List SI := [
  ⟨none, .mv 63 (.t 3), none, 0⟩,
  ⟨none, .nop, (some 8), 0⟩,
  ⟨none, .ldR 65 8 4 none, none, 0⟩,
  ⟨none, .call 66 51 [(.t 63), (.t 65)], none, 0⟩,
  ⟨none, .mv 3 (.t 66), none, 0⟩]
def c32r16 : List (Bool × SI) := [
  (true, ⟨none, .ldR 68 8 0 (some 5), none, 0⟩),
  (true, ⟨none, .nop, (some 1), 0⟩),
  (true, ⟨none, .ldR 70 1 0 none, none, 0⟩),
  (true, ⟨none, .nop, (some 1), 0⟩),
  (true, ⟨none, .ldR 72 1 9 none, none, 0⟩),
  (true, ⟨none, .ixA 73 (.t 72) (.i 0) 5, none, 0⟩),
  (true, ⟨none, .flA 74 (.t 73) 4, none, 0⟩),
  (true, ⟨none, .ld 75 (.t 74) none, none, 0⟩),
  (false, ⟨none, .call 76 52 [(.t 68), (.t 70), (.t 75)], none, 0⟩),
  (true, ⟨none, .mv 67 (.t 76), none, 0⟩),
  (true, ⟨none, .ext 77 (.t 67) 0, none, 0⟩),
  (true, ⟨none, .ext 78 (.t 67) 1, none, 0⟩),
  (true, ⟨none, .mv 9 (.t 77), none, 0⟩),
  (true, ⟨none, .mv 10 (.t 78), none, 0⟩)]
def c32r17 : List SI := [
  ⟨none, .mv 79 (.t 3), none, 0⟩,
  ⟨none, .mv 80 (.t 9), none, 0⟩,
  ⟨none, .app 81 (.t 79) (.t 80) 5 1 1, none, 0⟩,
  ⟨none, .mv 3 (.t 81), none, 0⟩]
def c32r18 : List SI := [
  ⟨none, .bin 82 .add (.t 56) (.i 1), none, 0⟩,
  ⟨none, .mv 56 (.t 82), none, 0⟩]
def c32r19 : List SI := [
  ⟨none, .mv 83 (.t 3), none, 0⟩,
  ⟨none, .call 84 53 [(.t 83)], none, 0⟩,
  ⟨none, .mv 3 (.t 84), none, 0⟩]
def c32r20 : List SI := [
  ⟨none, .mv 85 (.t 3), none, 0⟩,
  ⟨none, .len 86 false (.t 85), none, 0⟩,
  ⟨none, .cvI 87 .u64 (.t 86), none, 0⟩,
  ⟨none, .call 88 54 [(.v (.slice none 0 0)), (.t 87), (.i 4)], none, 0⟩,
  ⟨none, .mv 89 (.t 3), none, 0⟩,
  ⟨none, .app 90 (.t 88) (.t 89) 5 1 1, none, 0⟩,
  ⟨none, .mv 2 (.t 90), none, 0⟩]
def c32 : SC :=
  (.seq (.reg false c32r0)
  (.seq (.reg false c32r1)
  (.seq (.seq (.reg false c32r2)
  (.blk 0 (.loop (.seq (.reg false c32r3)
    (.seq (.cond (.t 31)
     .skip
     (.exit 0))
    (.seq (.blk 1 (.seq (.reg false c32r4)
     (.reg false c32r5)))
    (.reg false c32r6)))))))
  (.seq (.reg false c32r7)
  (.seq (.seq (.reg false c32r8)
  (.cond (.t 41)
   (.reg false c32r9)
   .skip))
  (.seq (.rgX c32r10)
  (.seq (.seq (.reg false c32r11)
  (.blk 2 (.loop (.seq (.reg false c32r12)
    (.seq (.cond (.t 57)
     .skip
     (.exit 2))
    (.seq (.blk 3 (.seq (.reg false c32r13)
     (.seq (.seq (.reg false c32r14)
     (.cond (.t 62)
      (.reg false c32r15)
      .skip))
     (.seq (.rgX c32r16)
     (.reg false c32r17)))))
    (.reg false c32r18)))))))
  (.seq (.reg false c32r19)
  (.seq (.reg false c32r20)
  .ret)))))))))
def v32 : List Nat × List Nat := ([1, 8], [1, 8, 11, 13, 15, 18, 20, 22, 24, 26, 38, 40, 49, 53, 64, 69, 71])
def o32 : List RS := [.t 2]
theorem s32 : slimC Try.prog Try.f32.ntmps v32.1 v32.2 ((Try.f32.body).getD .skip) = some c32 := by kernel_rfl
theorem q32 : slimR Try.prog Try.f32.ntmps v32.1 v32.2 Try.f32.results.toList = some o32 := by kernel_rfl
-- watermeet/watermeetref04.form N=165
def c33r0 : List SI := [
  ⟨none, .bxR 1 (.t 0), none, 0⟩,
  ⟨none, .mv 2 (.b false), none, 0⟩]
def c33r1 : List SI := [
  ⟨none, .nop, (some 1), 0⟩,
  ⟨none, .ldR 8 1 0 none, none, 0⟩,
  ⟨none, .call 9 36 [(.t 8), (.i 1099511627776)], none, 0⟩,
  ⟨none, .un 10 .not (.t 9), none, 0⟩,
  ⟨none, .mv 11 (.t 10), none, 0⟩,
  ⟨some (11, false), .nop, (some 1), 99999⟩,
  ⟨some (11, false), .ldR 13 1 1 none, none, 13⟩,
  ⟨some (11, false), .call 14 36 [(.t 13), (.i 1099511627776)], none, 14⟩,
  ⟨some (11, false), .un 15 .not (.t 14), none, 15⟩,
  ⟨none, .pick 16 (.t 11) (.b true) (.t 15), none, 0⟩,
  ⟨none, .mv 17 (.t 16), none, 0⟩,
  ⟨some (17, false), .nop, (some 1), 99999⟩,
  ⟨some (17, false), .ldR 19 1 2 none, none, 19⟩,
  ⟨some (17, false), .call 20 36 [(.t 19), (.i 1099511627776)], none, 20⟩,
  ⟨some (17, false), .un 21 .not (.t 20), none, 21⟩,
  ⟨none, .pick 22 (.t 17) (.b true) (.t 21), none, 0⟩,
  ⟨none, .mv 23 (.t 22), none, 0⟩,
  ⟨some (23, false), .nop, (some 1), 99999⟩,
  ⟨some (23, false), .ldR 25 1 0 none, none, 25⟩,
  ⟨some (23, false), .nop, (some 1), 99999⟩,
  ⟨some (23, false), .ldR 27 1 1 none, none, 27⟩,
  ⟨some (23, false), .bin 28 .gtr (.t 25) (.t 27), none, 28⟩,
  ⟨none, .pick 29 (.t 23) (.b true) (.t 28), none, 0⟩,
  ⟨none, .mv 30 (.t 29), none, 0⟩,
  ⟨some (30, false), .nop, (some 1), 99999⟩,
  ⟨some (30, false), .ldR 32 1 1 none, none, 32⟩,
  ⟨some (30, false), .nop, (some 1), 99999⟩,
  ⟨some (30, false), .ldR 34 1 0 none, none, 34⟩,
  ⟨some (30, false), .bin 35 .sub (.t 32) (.t 34), none, 35⟩,
  ⟨some (30, false), .bin 36 .geq (.t 35) (.i 16), none, 36⟩,
  ⟨none, .pick 37 (.t 30) (.b true) (.t 36), none, 0⟩]
def c33r2 : List SI := [
  ⟨none, .mv 2 (.b false), none, 0⟩]
def c33r3 : List SI := [
  ⟨none, .nop, (some 1), 0⟩,
  ⟨none, .ldR 39 1 1 none, none, 0⟩,
  ⟨none, .nop, (some 1), 0⟩,
  ⟨none, .ldR 41 1 0 none, none, 0⟩,
  ⟨none, .bin 42 .sub (.t 39) (.t 41), none, 0⟩,
  ⟨none, .mv 3 (.t 42), none, 0⟩]
def c33r4 : List SI := [
  ⟨none, .nop, (some 1), 0⟩,
  ⟨none, .ldR 44 1 2 none, none, 0⟩,
  ⟨none, .mv 45 (.t 3), none, 0⟩,
  ⟨none, .bin 46 .add (.t 44) (.t 45), none, 0⟩,
  ⟨none, .bin 47 .gtr (.t 46) (.i 1099511627776), none, 0⟩,
  ⟨none, .mv 48 (.t 47), none, 0⟩,
  ⟨some (48, false), .nop, (some 1), 99999⟩,
  ⟨some (48, false), .ldR 50 1 3 none, none, 50⟩,
  ⟨some (48, false), .call 51 36 [(.t 50), (.i 1048576)], none, 51⟩,
  ⟨some (48, false), .un 52 .not (.t 51), none, 52⟩,
  ⟨none, .pick 53 (.t 48) (.b true) (.t 52), none, 0⟩,
  ⟨none, .mv 54 (.t 53), none, 0⟩,
  ⟨some (54, false), .nop, (some 1), 99999⟩,
  ⟨some (54, false), .ldR 56 1 5 none, none, 56⟩,
  ⟨some (54, false), .call 57 36 [(.t 56), (.i 1048576)], none, 57⟩,
  ⟨some (54, false), .un 58 .not (.t 57), none, 58⟩,
  ⟨none, .pick 59 (.t 54) (.b true) (.t 58), none, 0⟩,
  ⟨none, .mv 60 (.t 59), none, 0⟩,
  ⟨some (60, false), .nop, (some 1), 99999⟩,
  ⟨some (60, false), .ldR 62 1 6 none, none, 62⟩,
  ⟨some (60, false), .call 63 36 [(.t 62), (.i 1048576)], none, 63⟩,
  ⟨some (60, false), .un 64 .not (.t 63), none, 64⟩,
  ⟨none, .pick 65 (.t 60) (.b true) (.t 64), none, 0⟩,
  ⟨none, .mv 66 (.t 65), none, 0⟩,
  ⟨some (66, false), .nop, (some 1), 99999⟩,
  ⟨some (66, false), .ldR 68 1 6 none, none, 68⟩,
  ⟨some (66, false), .mv 69 (.t 3), none, 69⟩,
  ⟨some (66, false), .bin 70 .add (.t 68) (.t 69), none, 70⟩,
  ⟨some (66, false), .bin 71 .gtr (.t 70) (.i 1048576), none, 71⟩,
  ⟨none, .pick 72 (.t 66) (.b true) (.t 71), none, 0⟩]
def c33r5 : List SI := [
  ⟨none, .mv 2 (.b false), none, 0⟩]
def c33r6 : List SI := [
  ⟨none, .nop, (some 1), 0⟩,
  ⟨none, .ldR 74 1 4 none, none, 0⟩,
  ⟨none, .bin 75 .eql (.t 74) (.i (-1)), none, 0⟩,
  ⟨none, .mv 76 (.t 75), none, 0⟩,
  ⟨some (76, true), .nop, (some 1), 99999⟩,
  ⟨some (76, true), .ldR 78 1 5 none, none, 78⟩,
  ⟨some (76, true), .bin 79 .neq (.t 78) (.i 0), none, 79⟩,
  ⟨some (76, true), .mv 80 (.t 79), none, 80⟩,
  ⟨some (80, false), .nop, (some 1), 99999⟩,
  ⟨some (80, false), .ldR 82 1 6 none, none, 82⟩,
  ⟨some (80, false), .bin 83 .neq (.t 82) (.i 0), none, 83⟩,
  ⟨some (76, true), .pick 84 (.t 80) (.b true) (.t 83), none, 84⟩,
  ⟨some (76, true), .mv 85 (.t 84), none, 85⟩,
  ⟨some (85, false), .nop, (some 1), 99999⟩,
  ⟨some (85, false), .ldR 87 1 7 none, none, 87⟩,
  ⟨some (76, true), .pick 88 (.t 85) (.b true) (.t 87), none, 88⟩,
  ⟨some (76, true), .mv 89 (.t 88), none, 89⟩,
  ⟨some (89, false), .nop, (some 1), 99999⟩,
  ⟨some (89, false), .ldR 91 1 8 none, none, 91⟩,
  ⟨some (89, false), .bin 92 .neq (.t 91) (.i 0), none, 92⟩,
  ⟨some (76, true), .pick 93 (.t 89) (.b true) (.t 92), none, 93⟩,
  ⟨none, .pick 94 (.t 76) (.t 93) (.b false), none, 0⟩,
  ⟨none, .mv 95 (.t 94), none, 0⟩,
  ⟨some (95, false), .nop, (some 1), 99999⟩,
  ⟨some (95, false), .ldR 97 1 4 none, none, 97⟩,
  ⟨some (95, false), .bin 98 .neq (.t 97) (.i (-1)), none, 98⟩,
  ⟨some (95, false), .mv 99 (.t 98), none, 99⟩,
  ⟨some (99, true), .nop, (some 1), 99999⟩,
  ⟨some (99, true), .ldR 101 1 4 none, none, 101⟩,
  ⟨some (99, true), .call 102 36 [(.t 101), (.i 1099511627776)], none, 102⟩,
  ⟨some (99, true), .un 103 .not (.t 102), none, 103⟩,
  ⟨some (95, false), .pick 104 (.t 99) (.t 103) (.b false), none, 104⟩,
  ⟨none, .pick 105 (.t 95) (.b true) (.t 104), none, 0⟩]
def c33r7 : List SI := [
  ⟨none, .mv 2 (.b false), none, 0⟩]
def c33r8 : List SI := [
  ⟨none, .nop, (some 1), 0⟩,
  ⟨none, .ldR 107 1 8 none, none, 0⟩,
  ⟨none, .bin 108 .neq (.t 107) (.i 0), none, 0⟩]
def c33r9 : List SI := [
  ⟨none, .nop, (some 1), 0⟩,
  ⟨none, .ldR 110 1 8 none, none, 0⟩,
  ⟨none, .bin 111 .eql (.t 110) (.i 1), none, 0⟩,
  ⟨none, .mv 112 (.t 111), none, 0⟩,
  ⟨some (112, false), .nop, (some 1), 99999⟩,
  ⟨some (112, false), .ldR 114 1 8 none, none, 114⟩,
  ⟨some (112, false), .bin 115 .eql (.t 114) (.i 2), none, 115⟩,
  ⟨none, .pick 116 (.t 112) (.b true) (.t 115), none, 0⟩,
  ⟨none, .mv 117 (.t 116), none, 0⟩,
  ⟨some (117, true), .mv 118 (.t 3), none, 118⟩,
  ⟨some (117, true), .bin 119 .eql (.t 118) (.i 0), none, 119⟩,
  ⟨none, .pick 120 (.t 117) (.t 119) (.b false), none, 0⟩,
  ⟨none, .mv 121 (.t 120), none, 0⟩,
  ⟨some (121, true), .nop, (some 1), 99999⟩,
  ⟨some (121, true), .ldR 123 1 9 none, none, 123⟩,
  ⟨some (121, true), .len 124 false (.t 123), none, 124⟩,
  ⟨some (121, true), .bin 125 .eql (.t 124) (.i 0), none, 125⟩,
  ⟨none, .pick 126 (.t 121) (.t 125) (.b false), none, 0⟩,
  ⟨none, .mv 127 (.t 126), none, 0⟩,
  ⟨some (127, true), .nop, (some 1), 99999⟩,
  ⟨some (127, true), .ldR 129 1 7 none, none, 129⟩,
  ⟨none, .pick 130 (.t 127) (.t 129) (.b false), none, 0⟩,
  ⟨none, .mv 131 (.t 130), none, 0⟩,
  ⟨some (131, true), .nop, (some 1), 99999⟩,
  ⟨some (131, true), .ldR 133 1 4 none, none, 133⟩,
  ⟨some (131, true), .bin 134 .geq (.t 133) (.i 0), none, 134⟩,
  ⟨none, .pick 135 (.t 131) (.t 134) (.b false), none, 0⟩,
  ⟨none, .mv 2 (.t 135), none, 0⟩]
def c33r10 : List SI := [
  ⟨none, .nop, (some 1), 0⟩,
  ⟨none, .ldR 137 1 0 none, none, 0⟩,
  ⟨none, .bin 138 .sub (.t 137) (.i 1), none, 0⟩,
  ⟨none, .mv 4 (.t 138), none, 0⟩]
def c33r11 : List SI := [
  ⟨none, .nop, (some 1), 0⟩,
  ⟨none, .ldR 140 1 9 none, none, 0⟩,
  ⟨none, .len 141 false (.t 140), none, 0⟩,
  ⟨none, .mv 142 (.i 0), none, 0⟩]
def c33r12 : List SI := [
  ⟨none, .bin 143 .lss (.t 142) (.t 141), none, 0⟩]
def c33r13 : List SI := [
  ⟨none, .ixA 144 (.t 140) (.t 142) 5, none, 0⟩,
  ⟨none, .ld 145 (.t 144) (some 5), none, 0⟩,
  ⟨none, .alR 6 [(.int .i64 0), (.string ⟨#[]⟩), (.string ⟨#[]⟩), (.bool false), (.int .i64 0)], none, 0⟩,
  ⟨none, .stR 6 0 5 (.t 145), none, 0⟩]
def c33r14 : List SI := [
  ⟨none, .ldR 146 6 0 (some 5), none, 0⟩,
  ⟨none, .call 147 55 [(.t 146)], none, 0⟩,
  ⟨none, .bin 148 .neq (.t 147) (.i 0), none, 0⟩,
  ⟨none, .mv 149 (.t 148), none, 0⟩,
  ⟨some (149, false), .nop, (some 6), 99999⟩,
  ⟨some (149, false), .ldR 151 6 0 none, none, 151⟩,
  ⟨some (149, false), .mv 152 (.t 4), none, 152⟩,
  ⟨some (149, false), .bin 153 .leq (.t 151) (.t 152), none, 153⟩,
  ⟨none, .pick 154 (.t 149) (.b true) (.t 153), none, 0⟩,
  ⟨none, .mv 155 (.t 154), none, 0⟩,
  ⟨some (155, false), .nop, (some 6), 99999⟩,
  ⟨some (155, false), .ldR 157 6 0 none, none, 157⟩,
  ⟨some (155, false), .nop, (some 1), 99999⟩,
  ⟨some (155, false), .ldR 159 1 1 none, none, 159⟩,
  ⟨some (155, false), .bin 160 .gtr (.t 157) (.t 159), none, 160⟩,
  ⟨none, .pick 161 (.t 155) (.b true) (.t 160), none, 0⟩]
def c33r15 : List SI := [
  ⟨none, .mv 2 (.b false), none, 0⟩]
def c33r16 : List SI := [
  ⟨none, .nop, (some 6), 0⟩,
  ⟨none, .ldR 163 6 0 none, none, 0⟩,
  ⟨none, .mv 4 (.t 163), none, 0⟩]
def c33r17 : List SI := [
  ⟨none, .bin 164 .add (.t 142) (.i 1), none, 0⟩,
  ⟨none, .mv 142 (.t 164), none, 0⟩]
def c33r18 : List SI := [
  ⟨none, .mv 2 (.b true), none, 0⟩]
def c33 : SC :=
  (.seq (.reg false c33r0)
  (.seq (.seq (.reg false c33r1)
  (.cond (.t 37)
   (.seq (.reg false c33r2)
   .ret)
   .skip))
  (.seq (.reg false c33r3)
  (.seq (.seq (.reg false c33r4)
  (.cond (.t 72)
   (.seq (.reg false c33r5)
   .ret)
   .skip))
  (.seq (.seq (.reg false c33r6)
  (.cond (.t 105)
   (.seq (.reg false c33r7)
   .ret)
   .skip))
  (.seq (.seq (.reg false c33r8)
  (.cond (.t 108)
   (.seq (.reg false c33r9)
   .ret)
   .skip))
  (.seq (.reg false c33r10)
  (.seq (.seq (.reg false c33r11)
  (.blk 0 (.loop (.seq (.reg false c33r12)
    (.seq (.cond (.t 143)
     .skip
     (.exit 0))
    (.seq (.blk 1 (.seq (.reg false c33r13)
     (.seq (.seq (.reg false c33r14)
     (.cond (.t 161)
      (.seq (.reg false c33r15)
      .ret)
      .skip))
     (.reg false c33r16))))
    (.reg false c33r17)))))))
  (.seq (.reg false c33r18)
  .ret)))))))))
def v33 : List Nat × List Nat := ([1, 6], [1, 6, 7, 12, 18, 24, 26, 31, 33, 38, 40, 43, 49, 55, 61, 67, 73, 77, 81, 86, 90, 96, 100, 106, 109, 113, 122, 128, 132, 136, 139, 150, 156, 158, 162])
def o33 : List RS := [.t 2]
theorem s33 : slimC Try.prog Try.f33.ntmps v33.1 v33.2 ((Try.f33.body).getD .skip) = some c33 := by kernel_rfl
theorem q33 : slimR Try.prog Try.f33.ntmps v33.1 v33.2 Try.f33.results.toList = some o33 := by kernel_rfl
-- watermeet/batch.within N=14
def c34r0 : List SI := [
  ⟨none, .mv 4 (.b false), none, 0⟩]
def c34r1 : List SI := [
  ⟨none, .mv 5 (.t 1), none, 0⟩,
  ⟨none, .call 6 56 [(.t 5)], none, 0⟩,
  ⟨none, .bin 7 .geq (.t 6) (.i 0), none, 0⟩,
  ⟨none, .mv 8 (.t 7), none, 0⟩,
  ⟨some (8, true), .mv 9 (.t 1), none, 9⟩,
  ⟨some (8, true), .call 10 57 [(.t 9)], none, 10⟩,
  ⟨some (8, true), .mv 11 (.t 0), none, 11⟩,
  ⟨some (8, true), .bin 12 .leq (.t 10) (.t 11), none, 12⟩,
  ⟨none, .pick 13 (.t 8) (.t 12) (.b false), none, 0⟩,
  ⟨none, .mv 4 (.t 13), none, 0⟩]
def c34 : SC :=
  (.seq (.reg false c34r0)
  (.seq (.reg false c34r1)
  .ret))
def v34 : List Nat × List Nat := ([], [])
def o34 : List RS := [.t 4]
theorem s34 : slimC Try.prog Try.f34.ntmps v34.1 v34.2 ((Try.f34.body).getD .skip) = some c34 := by kernel_rfl
theorem q34 : slimR Try.prog Try.f34.ntmps v34.1 v34.2 Try.f34.results.toList = some o34 := by kernel_rfl
-- slices.Clone[[]watermeet/api.Rec,watermeet/api.Rec] N=8
def c35r0 : List SI := [
  ⟨none, .mv 2 (.v (.slice none 0 0)), none, 0⟩]
def c35r1 : List SI := [
  ⟨none, .mv 3 (.t 0), none, 0⟩,
  ⟨none, .isn 4 false (.t 3), none, 0⟩]
def c35r2 : List SI := [
  ⟨none, .mv 2 (.v (.slice none 0 0)), none, 0⟩]
def c35r3 : List SI := [
  ⟨none, .bl0 5, none, 0⟩,
  ⟨none, .mv 6 (.t 0), none, 0⟩,
  ⟨none, .app 7 (.t 5) (.t 6) 39 5 56, none, 0⟩,
  ⟨none, .mv 2 (.t 7), none, 0⟩]
def c35 : SC :=
  (.seq (.reg false c35r0)
  (.seq (.seq (.reg false c35r1)
  (.cond (.t 4)
   (.seq (.reg false c35r2)
   .ret)
   .skip))
  (.seq (.reg false c35r3)
  .ret)))
def v35 : List Nat × List Nat := ([], [])
def o35 : List RS := [.t 2]
theorem s35 : slimC Try.prog Try.f35.ntmps v35.1 v35.2 ((Try.f35.body).getD .skip) = some c35 := by kernel_rfl
theorem q35 : slimR Try.prog Try.f35.ntmps v35.1 v35.2 Try.f35.results.toList = some o35 := by kernel_rfl
-- watermeet/watermeetref04.in N=12
def c36r0 : List SI := [
  ⟨none, .mv 4 (.b false), none, 0⟩]
def c36r1 : List SI := [
  ⟨none, .mv 5 (.t 0), none, 0⟩,
  ⟨none, .bin 6 .geq (.t 5) (.i 0), none, 0⟩,
  ⟨none, .mv 7 (.t 6), none, 0⟩,
  ⟨some (7, true), .mv 8 (.t 0), none, 8⟩,
  ⟨some (7, true), .mv 9 (.t 1), none, 9⟩,
  ⟨some (7, true), .bin 10 .leq (.t 8) (.t 9), none, 10⟩,
  ⟨none, .pick 11 (.t 7) (.t 10) (.b false), none, 0⟩,
  ⟨none, .mv 4 (.t 11), none, 0⟩]
def c36 : SC :=
  (.seq (.reg false c36r0)
  (.seq (.reg false c36r1)
  .ret))
def v36 : List Nat × List Nat := ([], [])
def o36 : List RS := [.t 4]
theorem s36 : slimC Try.prog Try.f36.ntmps v36.1 v36.2 ((Try.f36.body).getD .skip) = some c36 := by kernel_rfl
theorem q36 : slimR Try.prog Try.f36.ntmps v36.1 v36.2 Try.f36.results.toList = some o36 := by kernel_rfl
-- watermeet/watermeetref04.SameRecs N=26
def c37r0 : List SI := [
  ⟨none, .mv 4 (.b false), none, 0⟩]
def c37r1 : List SI := [
  ⟨none, .mv 6 (.t 0), none, 0⟩,
  ⟨none, .len 7 false (.t 6), none, 0⟩,
  ⟨none, .mv 8 (.t 1), none, 0⟩,
  ⟨none, .len 9 false (.t 8), none, 0⟩,
  ⟨none, .bin 10 .neq (.t 7) (.t 9), none, 0⟩]
def c37r2 : List SI := [
  ⟨none, .mv 4 (.b false), none, 0⟩]
def c37r3 : List SI := [
  ⟨none, .mv 11 (.t 0), none, 0⟩,
  ⟨none, .len 12 false (.t 11), none, 0⟩,
  ⟨none, .mv 13 (.i 0), none, 0⟩]
def c37r4 : List SI := [
  ⟨none, .bin 14 .lss (.t 13) (.t 12), none, 0⟩]
def c37r5 : List SI := [
  ⟨none, .mv 15 (.t 13), none, 0⟩,
  ⟨none, .mv 5 (.t 15), none, 0⟩]
def c37r6 : List SI := [
  ⟨none, .mv 16 (.t 0), none, 0⟩,
  ⟨none, .mv 17 (.t 5), none, 0⟩,
  ⟨none, .ixA 18 (.t 16) (.t 17) 5, none, 0⟩,
  ⟨none, .ld 19 (.t 18) (some 5), none, 0⟩,
  ⟨none, .mv 20 (.t 1), none, 0⟩,
  ⟨none, .mv 21 (.t 5), none, 0⟩,
  ⟨none, .ixA 22 (.t 20) (.t 21) 5, none, 0⟩,
  ⟨none, .ld 23 (.t 22) (some 5), none, 0⟩,
  ⟨none, .eqf 24 true [0, 2, 2, 1, 0] (.t 19) (.t 23), none, 0⟩]
def c37r7 : List SI := [
  ⟨none, .mv 4 (.b false), none, 0⟩]
def c37r8 : List SI := [
  ⟨none, .bin 25 .add (.t 13) (.i 1), none, 0⟩,
  ⟨none, .mv 13 (.t 25), none, 0⟩]
def c37r9 : List SI := [
  ⟨none, .mv 4 (.b true), none, 0⟩]
def c37 : SC :=
  (.seq (.reg false c37r0)
  (.seq (.seq (.reg false c37r1)
  (.cond (.t 10)
   (.seq (.reg false c37r2)
   .ret)
   .skip))
  (.seq (.seq (.reg false c37r3)
  (.blk 0 (.loop (.seq (.reg false c37r4)
    (.seq (.cond (.t 14)
     .skip
     (.exit 0))
    (.seq (.blk 1 (.seq (.reg false c37r5)
     (.seq (.reg true c37r6)
     (.cond (.t 24)
      (.seq (.reg false c37r7)
      .ret)
      .skip))))
    (.reg false c37r8)))))))
  (.seq (.reg false c37r9)
  .ret))))
def v37 : List Nat × List Nat := ([], [])
def o37 : List RS := [.t 4]
theorem s37 : slimC Try.prog Try.f37.ntmps v37.1 v37.2 ((Try.f37.body).getD .skip) = some c37 := by kernel_rfl
theorem q37 : slimR Try.prog Try.f37.ntmps v37.1 v37.2 Try.f37.results.toList = some o37 := by kernel_rfl
-- slices.Equal[[]watermeet/api.Rec,watermeet/api.Rec] N=26
def c38r0 : List SI := [
  ⟨none, .mv 4 (.b false), none, 0⟩]
def c38r1 : List SI := [
  ⟨none, .mv 6 (.t 0), none, 0⟩,
  ⟨none, .len 7 false (.t 6), none, 0⟩,
  ⟨none, .mv 8 (.t 1), none, 0⟩,
  ⟨none, .len 9 false (.t 8), none, 0⟩,
  ⟨none, .bin 10 .neq (.t 7) (.t 9), none, 0⟩]
def c38r2 : List SI := [
  ⟨none, .mv 4 (.b false), none, 0⟩]
def c38r3 : List SI := [
  ⟨none, .mv 11 (.t 0), none, 0⟩,
  ⟨none, .len 12 false (.t 11), none, 0⟩,
  ⟨none, .mv 13 (.i 0), none, 0⟩]
def c38r4 : List SI := [
  ⟨none, .bin 14 .lss (.t 13) (.t 12), none, 0⟩]
def c38r5 : List SI := [
  ⟨none, .mv 15 (.t 13), none, 0⟩,
  ⟨none, .mv 5 (.t 15), none, 0⟩]
def c38r6 : List SI := [
  ⟨none, .mv 16 (.t 0), none, 0⟩,
  ⟨none, .mv 17 (.t 5), none, 0⟩,
  ⟨none, .ixA 18 (.t 16) (.t 17) 5, none, 0⟩,
  ⟨none, .ld 19 (.t 18) (some 5), none, 0⟩,
  ⟨none, .mv 20 (.t 1), none, 0⟩,
  ⟨none, .mv 21 (.t 5), none, 0⟩,
  ⟨none, .ixA 22 (.t 20) (.t 21) 5, none, 0⟩,
  ⟨none, .ld 23 (.t 22) (some 5), none, 0⟩,
  ⟨none, .eqf 24 true [0, 2, 2, 1, 0] (.t 19) (.t 23), none, 0⟩]
def c38r7 : List SI := [
  ⟨none, .mv 4 (.b false), none, 0⟩]
def c38r8 : List SI := [
  ⟨none, .bin 25 .add (.t 13) (.i 1), none, 0⟩,
  ⟨none, .mv 13 (.t 25), none, 0⟩]
def c38r9 : List SI := [
  ⟨none, .mv 4 (.b true), none, 0⟩]
def c38 : SC :=
  (.seq (.reg false c38r0)
  (.seq (.seq (.reg false c38r1)
  (.cond (.t 10)
   (.seq (.reg false c38r2)
   .ret)
   .skip))
  (.seq (.seq (.reg false c38r3)
  (.blk 0 (.loop (.seq (.reg false c38r4)
    (.seq (.cond (.t 14)
     .skip
     (.exit 0))
    (.seq (.blk 1 (.seq (.reg false c38r5)
     (.seq (.reg true c38r6)
     (.cond (.t 24)
      (.seq (.reg false c38r7)
      .ret)
      .skip))))
    (.reg false c38r8)))))))
  (.seq (.reg false c38r9)
  .ret))))
def v38 : List Nat × List Nat := ([], [])
def o38 : List RS := [.t 4]
theorem s38 : slimC Try.prog Try.f38.ntmps v38.1 v38.2 ((Try.f38.body).getD .skip) = some c38 := by kernel_rfl
theorem q38 : slimR Try.prog Try.f38.ntmps v38.1 v38.2 Try.f38.results.toList = some o38 := by kernel_rfl
-- watermeet/batch.Same$1 N=33
def c39r0 : List SI := [
  ⟨none, .bxR 1 (.t 0), none, 0⟩,
  ⟨none, .alR 2 [(.int .i64 0), (.int .i64 0), (.int .i64 0), (.int .i64 0), (.int .i64 0), (.int .i64 0), (.int .i64 0), (.int .i64 0), (.int .i64 0)], none, 0⟩]
def c39r1 : List SI := [
  ⟨none, .nop, (some 1), 0⟩,
  ⟨none, .ldR 5 1 8 none, none, 0⟩,
  ⟨none, .bin 6 .mul (.t 5) (.i 2), none, 0⟩,
  ⟨none, .mv 3 (.t 6), none, 0⟩]
def c39r2 : List SI := [
  ⟨none, .nop, (some 1), 0⟩,
  ⟨none, .ldR 8 1 7 none, none, 0⟩]
def c39r3 : List SI := [
  ⟨none, .mv 9 (.t 3), none, 0⟩,
  ⟨none, .bin 10 .add (.t 9) (.i 1), none, 0⟩,
  ⟨none, .mv 3 (.t 10), none, 0⟩]
def c39r4 : List SI := [
  ⟨none, .nop, (some 1), 0⟩,
  ⟨none, .ldR 12 1 0 none, none, 0⟩,
  ⟨none, .nop, (some 1), 0⟩,
  ⟨none, .ldR 14 1 1 none, none, 0⟩,
  ⟨none, .nop, (some 1), 0⟩,
  ⟨none, .ldR 16 1 2 none, none, 0⟩,
  ⟨none, .nop, (some 1), 0⟩,
  ⟨none, .ldR 18 1 3 none, none, 0⟩,
  ⟨none, .nop, (some 1), 0⟩,
  ⟨none, .ldR 20 1 4 none, none, 0⟩,
  ⟨none, .nop, (some 1), 0⟩,
  ⟨none, .ldR 22 1 5 none, none, 0⟩,
  ⟨none, .nop, (some 1), 0⟩,
  ⟨none, .ldR 24 1 6 none, none, 0⟩,
  ⟨none, .nop, (some 1), 0⟩,
  ⟨none, .ldR 26 1 8 none, none, 0⟩,
  ⟨none, .mv 27 (.t 3), none, 0⟩,
  ⟨none, .nop, (some 1), 0⟩,
  ⟨none, .ldR 29 1 8 none, none, 0⟩,
  ⟨none, .bin 30 .mul (.t 29) (.i 2), none, 0⟩,
  ⟨none, .bin 31 .sub (.t 27) (.t 30), none, 0⟩,
  ⟨none, .bld 32 [(.int .i64 0), (.int .i64 0), (.int .i64 0), (.int .i64 0), (.int .i64 0), (.int .i64 0), (.int .i64 0), (.int .i64 0), (.int .i64 0)] [(0, 1, (.t 12)), (1, 1, (.t 14)), (2, 1, (.t 16)), (3, 1, (.t 18)), (4, 1, (.t 20)), (5, 1, (.t 22)), (6, 1, (.t 24)), (7, 1, (.t 26)), (8, 1, (.t 31))], none, 0⟩,
  ⟨none, .stR 2 0 9 (.t 32), none, 0⟩]
def c39 : SC :=
  (.seq (.reg false c39r0)
  (.seq (.reg false c39r1)
  (.seq (.seq (.reg false c39r2)
  (.cond (.t 8)
   (.reg false c39r3)
   .skip))
  (.seq (.reg false c39r4)
  .ret))))
def v39 : List Nat × List Nat := ([1, 2], [1, 2, 4, 7, 11, 13, 15, 17, 19, 21, 23, 25, 28])
def o39 : List RS := [.r 2 (some 9)]
theorem s39 : slimC Try.prog Try.f39.ntmps v39.1 v39.2 ((Try.f39.body).getD .skip) = some c39 := by kernel_rfl
theorem q39 : slimR Try.prog Try.f39.ntmps v39.1 v39.2 Try.f39.results.toList = some o39 := by kernel_rfl
-- watermeet/octet.Get N=44
def c40r0 : List SI := [
  ⟨none, .mv 6 (.v (.int .u64 0)), none, 0⟩,
  ⟨none, .mv 7 (.i 0), none, 0⟩]
def c40r1 : List SI := [
  ⟨none, .mv 12 (.t 2), none, 0⟩,
  ⟨none, .bin 13 .lss (.t 12) (.i 1), none, 0⟩,
  ⟨none, .mv 14 (.t 13), none, 0⟩,
  ⟨some (14, false), .mv 15 (.t 2), none, 15⟩,
  ⟨some (14, false), .bin 16 .gtr (.t 15) (.i 8), none, 16⟩,
  ⟨none, .pick 17 (.t 14) (.b true) (.t 16), none, 0⟩,
  ⟨none, .mv 18 (.t 17), none, 0⟩,
  ⟨some (18, false), .mv 19 (.t 1), none, 19⟩,
  ⟨some (18, false), .bin 20 .lss (.t 19) (.i 0), none, 20⟩,
  ⟨none, .pick 21 (.t 18) (.b true) (.t 20), none, 0⟩]
def c40r2 : List SI := [
  ⟨none, .mv 6 (.v (.int .u64 0)), none, 0⟩,
  ⟨none, .mv 7 (.i 1), none, 0⟩]
def c40r3 : List SI := [
  ⟨none, .mv 22 (.t 0), none, 0⟩,
  ⟨none, .mv 23 (.t 1), none, 0⟩,
  ⟨none, .call 24 58 [(.t 22), (.t 23)], none, 0⟩,
  ⟨none, .mv 8 (.t 24), none, 0⟩]
def c40r4 : List SI := [
  ⟨none, .mv 25 (.t 8), none, 0⟩,
  ⟨none, .len 26 false (.t 25), none, 0⟩,
  ⟨none, .mv 27 (.t 2), none, 0⟩,
  ⟨none, .bin 28 .lss (.t 26) (.t 27), none, 0⟩]
def c40r5 : List SI := [
  ⟨none, .mv 6 (.v (.int .u64 0)), none, 0⟩,
  ⟨none, .mv 7 (.i 10), none, 0⟩]
def c40r6 : List SI := [
  ⟨none, .mv 9 (.v (.int .u64 0)), none, 0⟩]
def c40r7 : List SI := [
  ⟨none, .mv 29 (.t 8), none, 0⟩,
  ⟨none, .mv 30 (.t 2), none, 0⟩,
  ⟨none, .sl 31 (.t 29) none (some (.t 30)) none 1, none, 0⟩,
  ⟨none, .len 32 false (.t 31), none, 0⟩,
  ⟨none, .mv 33 (.i 0), none, 0⟩]
def c40r8 : List SI := [
  ⟨none, .bin 34 .lss (.t 33) (.t 32), none, 0⟩]
def c40r9 : List SI := [
  ⟨none, .ixA 35 (.t 31) (.t 33) 1, none, 0⟩,
  ⟨none, .ld 36 (.t 35) none, none, 0⟩,
  ⟨none, .mv 11 (.t 36), none, 0⟩]
def c40r10 : List SI := [
  ⟨none, .mv 37 (.t 9), none, 0⟩,
  ⟨none, .bin 38 .shl (.t 37) (.v (.int .u64 8)), none, 0⟩,
  ⟨none, .mv 39 (.t 11), none, 0⟩,
  ⟨none, .cvI 40 .u64 (.t 39), none, 0⟩,
  ⟨none, .bin 41 .or (.t 38) (.t 40), none, 0⟩,
  ⟨none, .mv 9 (.t 41), none, 0⟩]
def c40r11 : List SI := [
  ⟨none, .bin 42 .add (.t 33) (.i 1), none, 0⟩,
  ⟨none, .mv 33 (.t 42), none, 0⟩]
def c40r12 : List SI := [
  ⟨none, .mv 43 (.t 9), none, 0⟩,
  ⟨none, .mv 6 (.t 43), none, 0⟩,
  ⟨none, .mv 7 (.i 0), none, 0⟩]
def c40 : SC :=
  (.seq (.reg false c40r0)
  (.seq (.seq (.reg false c40r1)
  (.cond (.t 21)
   (.seq (.reg false c40r2)
   .ret)
   .skip))
  (.seq (.reg false c40r3)
  (.seq (.seq (.reg false c40r4)
  (.cond (.t 28)
   (.seq (.reg false c40r5)
   .ret)
   .skip))
  (.seq (.reg false c40r6)
  (.seq (.seq (.reg false c40r7)
  (.blk 0 (.loop (.seq (.reg false c40r8)
    (.seq (.cond (.t 34)
     .skip
     (.exit 0))
    (.seq (.blk 1 (.seq (.reg false c40r9)
     (.reg false c40r10)))
    (.reg false c40r11)))))))
  (.seq (.reg false c40r12)
  .ret)))))))
def v40 : List Nat × List Nat := ([], [])
def o40 : List RS := [.t 6, .t 7]
theorem s40 : slimC Try.prog Try.f40.ntmps v40.1 v40.2 ((Try.f40.body).getD .skip) = some c40 := by kernel_rfl
theorem q40 : slimR Try.prog Try.f40.ntmps v40.1 v40.2 Try.f40.results.toList = some o40 := by kernel_rfl
-- watermeet/crc.Open N=33
def c41r0 : List SI := [
  ⟨none, .mv 2 (.v (.slice none 0 0)), none, 0⟩,
  ⟨none, .mv 3 (.i 0), none, 0⟩]
def c41r1 : List SI := [
  ⟨none, .mv 7 (.t 0), none, 0⟩,
  ⟨none, .len 8 false (.t 7), none, 0⟩,
  ⟨none, .bin 9 .sub (.t 8) (.i 4), none, 0⟩,
  ⟨none, .mv 4 (.t 9), none, 0⟩]
def c41r2 : List SI := [
  ⟨none, .mv 10 (.t 4), none, 0⟩,
  ⟨none, .bin 11 .lss (.t 10) (.i 0), none, 0⟩]
def c41r3 : List SI := [
  ⟨none, .mv 2 (.v (.slice none 0 0)), none, 0⟩,
  ⟨none, .mv 3 (.i 10), none, 0⟩]
def c41r4 : List SI := [
  ⟨none, .mv 13 (.t 0), none, 0⟩,
  ⟨none, .mv 14 (.t 4), none, 0⟩,
  ⟨none, .call 15 40 [(.t 13), (.t 14), (.i 4)], none, 0⟩,
  ⟨none, .mv 12 (.t 15), none, 0⟩,
  ⟨none, .ext 16 (.t 12) 0, none, 0⟩,
  ⟨none, .ext 17 (.t 12) 1, none, 0⟩,
  ⟨none, .mv 5 (.t 16), none, 0⟩,
  ⟨none, .mv 6 (.t 17), none, 0⟩]
def c41r5 : List SI := [
  ⟨none, .mv 18 (.t 6), none, 0⟩,
  ⟨none, .bin 19 .neq (.t 18) (.i 0), none, 0⟩,
  ⟨none, .mv 20 (.t 19), none, 0⟩,
  ⟨some (20, false), .mv 21 (.t 5), none, 21⟩,
  ⟨some (20, false), .mv 22 (.t 0), none, 22⟩,
  ⟨some (20, false), .mv 23 (.t 4), none, 23⟩,
  ⟨some (20, false), .sl 24 (.t 22) none (some (.t 23)) none 1, none, 24⟩,
  ⟨some (20, false), .call 25 59 [(.t 24)], none, 25⟩,
  ⟨some (20, false), .cvI 26 .u64 (.t 25), none, 26⟩,
  ⟨some (20, false), .bin 27 .neq (.t 21) (.t 26), none, 27⟩,
  ⟨none, .pick 28 (.t 20) (.b true) (.t 27), none, 0⟩]
def c41r6 : List SI := [
  ⟨none, .mv 2 (.v (.slice none 0 0)), none, 0⟩,
  ⟨none, .mv 3 (.i 20), none, 0⟩]
def c41r7 : List SI := [
  ⟨none, .mv 29 (.t 0), none, 0⟩,
  ⟨none, .mv 30 (.t 4), none, 0⟩,
  ⟨none, .sl 31 (.t 29) none (some (.t 30)) none 1, none, 0⟩,
  ⟨none, .app 32 (.v (.slice none 0 0)) (.t 31) 5 1 1, none, 0⟩,
  ⟨none, .mv 2 (.t 32), none, 0⟩,
  ⟨none, .mv 3 (.i 0), none, 0⟩]
def c41 : SC :=
  (.seq (.reg false c41r0)
  (.seq (.reg false c41r1)
  (.seq (.seq (.reg false c41r2)
  (.cond (.t 11)
   (.seq (.reg false c41r3)
   .ret)
   .skip))
  (.seq (.seq (.reg false c41r4)
  (.seq (.reg false c41r5)
  (.cond (.t 28)
   (.seq (.reg false c41r6)
   .ret)
   .skip)))
  (.seq (.reg false c41r7)
  .ret)))))
def v41 : List Nat × List Nat := ([], [])
def o41 : List RS := [.t 2, .t 3]
theorem s41 : slimC Try.prog Try.f41.ntmps v41.1 v41.2 ((Try.f41.body).getD .skip) = some c41 := by kernel_rfl
theorem q41 : slimR Try.prog Try.f41.ntmps v41.1 v41.2 Try.f41.results.toList = some o41 := by kernel_rfl
-- watermeet/batch.parse N=155
def c42r0 : List SI := [
  ⟨none, .bx 1 (.t 0), none, 0⟩,
  ⟨none, .alR 2 [(.int .i64 0), (.int .i64 0), (.int .i64 0), (.int .i64 0), (.int .i64 0), (.int .i64 0), (.int .i64 0), (.bool false), (.int .i64 0), (.slice none 0 0)], none, 0⟩,
  ⟨none, .al 3 [(.bool false)], none, 0⟩]
def c42r1 : List SI := [
  ⟨none, .al 4 [(.int .i64 0)], none, 0⟩,
  ⟨none, .st (.t 4) 1 (.i 0), none, 0⟩]
def c42r2 : List SI := [
  ⟨none, .st (.t 3) 1 (.b true), none, 0⟩]
def c42r3 : List SI := [
  ⟨none, .mkf 15 (.func 60) [(.t 1), (.t 4), (.t 3)], none, 0⟩,
  ⟨none, .mv 5 (.t 15), none, 0⟩]
def c42r4 : List SI := [
  ⟨none, .al 6 [(.int .i64 0), (.int .i64 0), (.int .i64 0), (.int .i64 0), (.int .i64 0), (.int .i64 0), (.int .i64 0)], none, 0⟩]
def c42r5 : List SI := [
  ⟨none, .mv 16 (.i 0), none, 0⟩]
def c42r6 : List SI := [
  ⟨none, .bin 17 .lss (.t 16) (.i 7), none, 0⟩]
def c42r7 : List SI := [
  ⟨none, .mv 18 (.t 16), none, 0⟩,
  ⟨none, .mv 7 (.t 18), none, 0⟩]
def c42r8 : List SI := [
  ⟨none, .mv 19 (.t 7), none, 0⟩,
  ⟨none, .mv 20 (.t 5), none, 0⟩,
  ⟨none, .cav 21 (.t 20) [], none, 0⟩,
  ⟨none, .ixP 22 (.t 6) (.t 19) 7 1, none, 0⟩,
  ⟨none, .st (.t 22) 1 (.t 21), none, 0⟩]
def c42r9 : List SI := [
  ⟨none, .bin 23 .add (.t 16) (.i 1), none, 0⟩,
  ⟨none, .mv 16 (.t 23), none, 0⟩]
def c42r10 : List SI := [
  ⟨none, .ld 24 (.t 3) none, none, 0⟩,
  ⟨none, .un 25 .not (.t 24), none, 0⟩,
  ⟨none, .mv 26 (.t 25), none, 0⟩,
  ⟨some (26, false), .ld 27 (.t 4) none, none, 27⟩,
  ⟨some (26, false), .ld 28 (.t 1) none, none, 28⟩,
  ⟨some (26, false), .len 29 false (.t 28), none, 29⟩,
  ⟨some (26, false), .bin 30 .geq (.t 27) (.t 29), none, 30⟩,
  ⟨none, .pick 31 (.t 26) (.b true) (.t 30), none, 0⟩,
  ⟨none, .mv 32 (.t 31), none, 0⟩,
  ⟨some (32, false), .ld 33 (.t 1) none, none, 33⟩,
  ⟨some (32, false), .ld 34 (.t 4) none, none, 34⟩,
  ⟨some (32, false), .ixA 35 (.t 33) (.t 34) 1, none, 35⟩,
  ⟨some (32, false), .ld 36 (.t 35) none, none, 36⟩,
  ⟨some (32, false), .bin 37 .geq (.t 36) (.v (.int .u8 8)), none, 37⟩,
  ⟨none, .pick 38 (.t 32) (.b true) (.t 37), none, 0⟩,
  ⟨none, .mv 39 (.t 38), none, 0⟩,
  ⟨some (39, false), .ixP 40 (.t 6) (.i 0) 7 1, none, 40⟩,
  ⟨some (39, false), .ld 41 (.t 40) none, none, 41⟩,
  ⟨some (39, false), .bin 42 .lss (.t 41) (.i 0), none, 42⟩,
  ⟨none, .pick 43 (.t 39) (.b true) (.t 42), none, 0⟩,
  ⟨none, .mv 44 (.t 43), none, 0⟩,
  ⟨some (44, false), .ixP 45 (.t 6) (.i 0) 7 1, none, 45⟩,
  ⟨some (44, false), .ld 46 (.t 45) none, none, 46⟩,
  ⟨some (44, false), .bin 47 .gtr (.t 46) (.i 1099511627776), none, 47⟩,
  ⟨none, .pick 48 (.t 44) (.b true) (.t 47), none, 0⟩,
  ⟨none, .mv 49 (.t 48), none, 0⟩,
  ⟨some (49, false), .ixP 50 (.t 6) (.i 1) 7 1, none, 50⟩,
  ⟨some (49, false), .ld 51 (.t 50) none, none, 51⟩,
  ⟨some (49, false), .bin 52 .lss (.t 51) (.i 0), none, 52⟩,
  ⟨none, .pick 53 (.t 49) (.b true) (.t 52), none, 0⟩,
  ⟨none, .mv 54 (.t 53), none, 0⟩,
  ⟨some (54, false), .ixP 55 (.t 6) (.i 1) 7 1, none, 55⟩,
  ⟨some (54, false), .ld 56 (.t 55) none, none, 56⟩,
  ⟨some (54, false), .bin 57 .geq (.t 56) (.i 16), none, 57⟩,
  ⟨none, .pick 58 (.t 54) (.b true) (.t 57), none, 0⟩]
def c42r11 : List SI := [
  ⟨none, .bld 59 [(.int .i64 0), (.int .i64 0), (.int .i64 0), (.int .i64 0), (.int .i64 0), (.int .i64 0), (.int .i64 0), (.bool false), (.int .i64 0), (.slice none 0 0)] [], none, 0⟩,
  ⟨none, .stR 2 0 10 (.t 59), none, 0⟩,
  ⟨none, .st (.t 3) 1 (.b false), none, 0⟩]
def c42r12 : List SI := [
  ⟨none, .ld 60 (.t 1) none, none, 0⟩,
  ⟨none, .ld 61 (.t 4) none, none, 0⟩,
  ⟨none, .ixA 62 (.t 60) (.t 61) 1, none, 0⟩,
  ⟨none, .ld 63 (.t 62) none, none, 0⟩,
  ⟨none, .mv 8 (.t 63), none, 0⟩]
def c42r13 : List SI := [
  ⟨none, .ld 64 (.t 4) none, none, 0⟩,
  ⟨none, .bin 65 .add (.t 64) (.i 1), none, 0⟩,
  ⟨none, .st (.t 4) 1 (.t 65), none, 0⟩]
def c42r14 : List SI := [
  ⟨none, .ixP 66 (.t 6) (.i 0) 7 1, none, 0⟩,
  ⟨none, .ld 67 (.t 66) none, none, 0⟩,
  ⟨none, .ixP 68 (.t 6) (.i 0) 7 1, none, 0⟩,
  ⟨none, .ld 69 (.t 68) none, none, 0⟩,
  ⟨none, .ixP 70 (.t 6) (.i 1) 7 1, none, 0⟩,
  ⟨none, .ld 71 (.t 70) none, none, 0⟩,
  ⟨none, .bin 72 .add (.t 69) (.t 71), none, 0⟩,
  ⟨none, .ixP 73 (.t 6) (.i 2) 7 1, none, 0⟩,
  ⟨none, .ld 74 (.t 73) none, none, 0⟩,
  ⟨none, .ixP 75 (.t 6) (.i 3) 7 1, none, 0⟩,
  ⟨none, .ld 76 (.t 75) none, none, 0⟩,
  ⟨none, .ixP 77 (.t 6) (.i 4) 7 1, none, 0⟩,
  ⟨none, .ld 78 (.t 77) none, none, 0⟩,
  ⟨none, .ixP 79 (.t 6) (.i 5) 7 1, none, 0⟩,
  ⟨none, .ld 80 (.t 79) none, none, 0⟩,
  ⟨none, .ixP 81 (.t 6) (.i 6) 7 1, none, 0⟩,
  ⟨none, .ld 82 (.t 81) none, none, 0⟩,
  ⟨none, .mv 83 (.t 8), none, 0⟩,
  ⟨none, .bin 84 .and (.t 83) (.v (.int .u8 4)), none, 0⟩,
  ⟨none, .bin 85 .neq (.t 84) (.v (.int .u8 0)), none, 0⟩,
  ⟨none, .mv 86 (.t 8), none, 0⟩,
  ⟨none, .bin 87 .andNot (.t 86) (.v (.int .u8 4)), none, 0⟩,
  ⟨none, .cvI 88 .i64 (.t 87), none, 0⟩,
  ⟨none, .bld 89 [(.int .i64 0), (.int .i64 0), (.int .i64 0), (.int .i64 0), (.int .i64 0), (.int .i64 0), (.int .i64 0), (.bool false), (.int .i64 0), (.slice none 0 0)] [(0, 1, (.t 67)), (1, 1, (.t 72)), (2, 1, (.t 74)), (3, 1, (.t 76)), (4, 1, (.t 78)), (5, 1, (.t 80)), (6, 1, (.t 82)), (7, 1, (.t 85)), (8, 1, (.t 88))], none, 0⟩,
  ⟨none, .stR 2 0 10 (.t 89), none, 0⟩]
def c42r15 : List SI := [
  ⟨none, .mv 90 (.t 5), none, 0⟩,
  ⟨none, .cav 91 (.t 90) [], none, 0⟩,
  ⟨none, .mv 9 (.t 91), none, 0⟩]
def c42r16 : List SI := [
  ⟨none, .ld 92 (.t 3) none, none, 0⟩,
  ⟨none, .un 93 .not (.t 92), none, 0⟩,
  ⟨none, .mv 94 (.t 93), none, 0⟩,
  ⟨some (94, false), .mv 95 (.t 9), none, 95⟩,
  ⟨some (94, false), .bin 96 .lss (.t 95) (.i 0), none, 96⟩,
  ⟨none, .pick 97 (.t 94) (.b true) (.t 96), none, 0⟩,
  ⟨none, .mv 98 (.t 97), none, 0⟩,
  ⟨some (98, false), .mv 99 (.t 9), none, 99⟩,
  ⟨some (98, false), .bin 100 .gtr (.t 99) (.i 16), none, 100⟩,
  ⟨none, .pick 101 (.t 98) (.b true) (.t 100), none, 0⟩]
def c42r17 : List SI := [
  ⟨none, .bld 102 [(.int .i64 0), (.int .i64 0), (.int .i64 0), (.int .i64 0), (.int .i64 0), (.int .i64 0), (.int .i64 0), (.bool false), (.int .i64 0), (.slice none 0 0)] [], none, 0⟩,
  ⟨none, .stR 2 0 10 (.t 102), none, 0⟩,
  ⟨none, .st (.t 3) 1 (.b false), none, 0⟩]
def c42r18 : List SI := [
  ⟨none, .mv 10 (.i 0), none, 0⟩]
def c42r19 : List SI := [
  ⟨none, .mv 103 (.t 9), none, 0⟩,
  ⟨none, .bin 104 .gtr (.t 103) (.i 0), none, 0⟩]
def c42r20 : List SI := [
  ⟨none, .mv 105 (.t 5), none, 0⟩,
  ⟨none, .cav 106 (.t 105) [], none, 0⟩,
  ⟨none, .mv 10 (.t 106), none, 0⟩]
def c42r21 : List SI := [
  ⟨none, .mv 11 (.i 0), none, 0⟩]
def c42r22 : List SI := [
  ⟨none, .mv 107 (.t 11), none, 0⟩,
  ⟨none, .mv 108 (.t 9), none, 0⟩,
  ⟨none, .bin 109 .lss (.t 107) (.t 108), none, 0⟩,
  ⟨none, .mv 110 (.t 109), none, 0⟩,
  ⟨some (110, true), .ld 111 (.t 3) none, none, 111⟩,
  ⟨none, .pick 112 (.t 110) (.t 111) (.b false), none, 0⟩]
def c42r23 : List SI := [
  ⟨none, .ld 116 (.t 1) none, none, 0⟩,
  ⟨none, .ld 117 (.t 4) none, none, 0⟩,
  ⟨none, .nop, (some 2), 0⟩,
  ⟨none, .ldR 119 2 0 none, none, 0⟩,
  ⟨none, .mv 120 (.t 10), none, 0⟩,
  ⟨none, .call 121 62 [(.t 116), (.t 117), (.t 119), (.t 120)], none, 0⟩,
  ⟨none, .mv 115 (.t 121), none, 0⟩,
  ⟨none, .ext 122 (.t 115) 0, none, 0⟩,
  ⟨none, .ext 123 (.t 115) 1, none, 0⟩,
  ⟨none, .ext 124 (.t 115) 2, none, 0⟩,
  ⟨none, .alR 12 [(.int .i64 0), (.string ⟨#[]⟩), (.string ⟨#[]⟩), (.bool false), (.int .i64 0)], none, 0⟩,
  ⟨none, .stR 12 0 5 (.t 122), none, 0⟩,
  ⟨none, .mv 13 (.t 123), none, 0⟩,
  ⟨none, .mv 14 (.t 124), none, 0⟩]
def c42r24 : List SI := [
  ⟨none, .ld 125 (.t 3) none, none, 0⟩,
  ⟨none, .mv 126 (.t 125), none, 0⟩,
  ⟨some (126, true), .mv 127 (.t 14), none, 127⟩,
  ⟨some (126, true), .bin 128 .eql (.t 127) (.i 0), none, 128⟩,
  ⟨none, .pick 129 (.t 126) (.t 128) (.b false), none, 0⟩,
  ⟨none, .mv 130 (.t 129), none, 0⟩,
  ⟨some (130, true), .mv 131 (.t 11), none, 131⟩,
  ⟨some (130, true), .bin 132 .gtr (.t 131) (.i 0), none, 132⟩,
  ⟨some (130, true), .mv 133 (.t 132), none, 133⟩,
  ⟨some (133, false), .nop, (some 12), 99999⟩,
  ⟨some (133, false), .ldR 135 12 4 none, none, 135⟩,
  ⟨some (133, false), .mv 136 (.t 10), none, 136⟩,
  ⟨some (133, false), .bin 137 .eql (.t 135) (.t 136), none, 137⟩,
  ⟨some (130, true), .pick 138 (.t 133) (.b true) (.t 137), none, 138⟩,
  ⟨none, .pick 139 (.t 130) (.t 138) (.b false), none, 0⟩,
  ⟨none, .st (.t 3) 1 (.t 139), none, 0⟩]
def c42r25 : List SI := [
  ⟨none, .mv 140 (.t 13), none, 0⟩,
  ⟨none, .st (.t 4) 1 (.t 140), none, 0⟩]
def c42r26 : List SI := [
  ⟨none, .nop, (some 2), 0⟩,
  ⟨none, .ldR 142 2 9 none, none, 0⟩,
  ⟨none, .ldR 143 12 0 (some 5), none, 0⟩,
  ⟨none, .bls 144 39 1 5 [(.int .i64 0), (.string ⟨#[]⟩), (.string ⟨#[]⟩), (.bool false), (.int .i64 0)] [(0, 5, (.t 143))], none, 0⟩,
  ⟨none, .app 145 (.t 142) (.t 144) 39 5 56, none, 0⟩,
  ⟨none, .nop, (some 2), 0⟩,
  ⟨none, .stR 2 9 1 (.t 145), none, 0⟩]
def c42r27 : List SI := [
  ⟨none, .mv 113 (.t 11), none, 0⟩,
  ⟨none, .bin 114 .add (.t 113) (.i 1), none, 0⟩,
  ⟨none, .mv 11 (.t 114), none, 0⟩]
def c42r28 : List WI := [
  (true, false, ⟨none, .ldR 147 2 0 (some 10), none, 0⟩),
  (true, false, ⟨none, .ld 148 (.t 3) none, none, 0⟩),
  (true, false, ⟨none, .mv 149 (.t 148), none, 0⟩),
  (true, false, ⟨some (149, true), .ld 150 (.t 4) none, none, 150⟩),
  (true, false, ⟨some (149, true), .ld 151 (.t 1) none, none, 151⟩),
  (true, false, ⟨some (149, true), .len 152 false (.t 151), none, 152⟩),
  (true, false, ⟨some (149, true), .bin 153 .eql (.t 150) (.t 152), none, 153⟩),
  (true, false, ⟨none, .pick 154 (.t 149) (.t 153) (.b false), none, 0⟩),
  (false, false, ⟨none, .stR 2 0 10 (.t 147), none, 0⟩),
  (false, true, ⟨none, .st (.t 3) 1 (.t 154), none, 0⟩)]
def c42 : SC :=
  (.seq (.reg false c42r0)
  (.seq (.reg false c42r1)
  (.seq (.reg false c42r2)
  (.seq (.reg false c42r3)
  (.seq (.reg false c42r4)
  (.seq (.seq (.reg false c42r5)
  (.blk 0 (.loop (.seq (.reg false c42r6)
    (.seq (.cond (.t 17)
     .skip
     (.exit 0))
    (.seq (.blk 1 (.seq (.reg false c42r7)
     (.reg false c42r8)))
    (.reg false c42r9)))))))
  (.seq (.seq (.reg false c42r10)
  (.cond (.t 58)
   (.seq (.reg false c42r11)
   .ret)
   .skip))
  (.seq (.reg false c42r12)
  (.seq (.reg false c42r13)
  (.seq (.reg false c42r14)
  (.seq (.reg false c42r15)
  (.seq (.seq (.reg false c42r16)
  (.cond (.t 101)
   (.seq (.reg false c42r17)
   .ret)
   .skip))
  (.seq (.reg false c42r18)
  (.seq (.seq (.reg false c42r19)
  (.cond (.t 104)
   (.reg false c42r20)
   .skip))
  (.seq (.seq (.reg false c42r21)
  (.blk 2 (.loop (.seq (.seq (.reg false c42r22)
    (.cond (.t 112)
     .skip
     (.exit 2)))
    (.seq (.blk 3 (.seq (.reg false c42r23)
     (.seq (.reg false c42r24)
     (.seq (.reg false c42r25)
     (.reg false c42r26)))))
    (.reg false c42r27))))))
  (.seq (.rgW c42r28)
  .ret))))))))))))))))
def v42 : List Nat × List Nat := ([2, 12], [2, 12, 118, 134, 141, 146])
def o42 : List RS := [.r 2 (some 10), .c 3 none]
theorem s42 : slimC Try.prog Try.f42.ntmps v42.1 v42.2 ((Try.f42.body).getD .skip) = some c42 := by kernel_rfl
theorem q42 : slimR Try.prog Try.f42.ntmps v42.1 v42.2 Try.f42.results.toList = some o42 := by kernel_rfl
-- watermeet/watermeetref01.Get N=48
def c43r0 : List SI := [
  ⟨none, .mv 6 (.v (.int .u64 0)), none, 0⟩,
  ⟨none, .mv 7 (.i 0), none, 0⟩]
def c43r1 : List SI := [
  ⟨none, .mv 10 (.t 2), none, 0⟩,
  ⟨none, .bin 11 .lss (.t 10) (.i 1), none, 0⟩,
  ⟨none, .mv 12 (.t 11), none, 0⟩,
  ⟨some (12, false), .mv 13 (.t 2), none, 13⟩,
  ⟨some (12, false), .bin 14 .gtr (.t 13) (.i 8), none, 14⟩,
  ⟨none, .pick 15 (.t 12) (.b true) (.t 14), none, 0⟩,
  ⟨none, .mv 16 (.t 15), none, 0⟩,
  ⟨some (16, false), .mv 17 (.t 1), none, 17⟩,
  ⟨some (16, false), .bin 18 .lss (.t 17) (.i 0), none, 18⟩,
  ⟨none, .pick 19 (.t 16) (.b true) (.t 18), none, 0⟩]
def c43r2 : List SI := [
  ⟨none, .mv 6 (.v (.int .u64 0)), none, 0⟩,
  ⟨none, .mv 7 (.i 1), none, 0⟩]
def c43r3 : List SI := [
  ⟨none, .mv 20 (.t 1), none, 0⟩,
  ⟨none, .mv 21 (.t 0), none, 0⟩,
  ⟨none, .len 22 false (.t 21), none, 0⟩,
  ⟨none, .bin 23 .gtr (.t 20) (.t 22), none, 0⟩,
  ⟨none, .mv 24 (.t 23), none, 0⟩,
  ⟨some (24, false), .mv 25 (.t 0), none, 25⟩,
  ⟨some (24, false), .len 26 false (.t 25), none, 26⟩,
  ⟨some (24, false), .mv 27 (.t 1), none, 27⟩,
  ⟨some (24, false), .bin 28 .sub (.t 26) (.t 27), none, 28⟩,
  ⟨some (24, false), .mv 29 (.t 2), none, 29⟩,
  ⟨some (24, false), .bin 30 .lss (.t 28) (.t 29), none, 30⟩,
  ⟨none, .pick 31 (.t 24) (.b true) (.t 30), none, 0⟩]
def c43r4 : List SI := [
  ⟨none, .mv 6 (.v (.int .u64 0)), none, 0⟩,
  ⟨none, .mv 7 (.i 10), none, 0⟩]
def c43r5 : List SI := [
  ⟨none, .mv 8 (.v (.int .u64 0)), none, 0⟩]
def c43r6 : List SI := [
  ⟨none, .mv 32 (.t 2), none, 0⟩,
  ⟨none, .mv 33 (.i 0), none, 0⟩]
def c43r7 : List SI := [
  ⟨none, .bin 34 .lss (.t 33) (.t 32), none, 0⟩]
def c43r8 : List SI := [
  ⟨none, .mv 35 (.t 33), none, 0⟩,
  ⟨none, .mv 9 (.t 35), none, 0⟩]
def c43r9 : List SI := [
  ⟨none, .mv 36 (.t 8), none, 0⟩,
  ⟨none, .bin 37 .mul (.t 36) (.v (.int .u64 256)), none, 0⟩,
  ⟨none, .mv 38 (.t 0), none, 0⟩,
  ⟨none, .mv 39 (.t 1), none, 0⟩,
  ⟨none, .mv 40 (.t 9), none, 0⟩,
  ⟨none, .bin 41 .add (.t 39) (.t 40), none, 0⟩,
  ⟨none, .ixA 42 (.t 38) (.t 41) 1, none, 0⟩,
  ⟨none, .ld 43 (.t 42) none, none, 0⟩,
  ⟨none, .cvI 44 .u64 (.t 43), none, 0⟩,
  ⟨none, .bin 45 .add (.t 37) (.t 44), none, 0⟩,
  ⟨none, .mv 8 (.t 45), none, 0⟩]
def c43r10 : List SI := [
  ⟨none, .bin 46 .add (.t 33) (.i 1), none, 0⟩,
  ⟨none, .mv 33 (.t 46), none, 0⟩]
def c43r11 : List SI := [
  ⟨none, .mv 47 (.t 8), none, 0⟩,
  ⟨none, .mv 6 (.t 47), none, 0⟩,
  ⟨none, .mv 7 (.i 0), none, 0⟩]
def c43 : SC :=
  (.seq (.reg false c43r0)
  (.seq (.seq (.reg false c43r1)
  (.cond (.t 19)
   (.seq (.reg false c43r2)
   .ret)
   .skip))
  (.seq (.seq (.reg false c43r3)
  (.cond (.t 31)
   (.seq (.reg false c43r4)
   .ret)
   .skip))
  (.seq (.reg false c43r5)
  (.seq (.seq (.reg false c43r6)
  (.blk 0 (.loop (.seq (.reg false c43r7)
    (.seq (.cond (.t 34)
     .skip
     (.exit 0))
    (.seq (.blk 1 (.seq (.reg false c43r8)
     (.reg false c43r9)))
    (.reg false c43r10)))))))
  (.seq (.reg false c43r11)
  .ret))))))
def v43 : List Nat × List Nat := ([], [])
def o43 : List RS := [.t 6, .t 7]
theorem s43 : slimC Try.prog Try.f43.ntmps v43.1 v43.2 ((Try.f43.body).getD .skip) = some c43 := by kernel_rfl
theorem q43 : slimR Try.prog Try.f43.ntmps v43.1 v43.2 Try.f43.results.toList = some o43 := by kernel_rfl
-- watermeet/watermeetref02.Open N=37
def c44r0 : List SI := [
  ⟨none, .mv 2 (.v (.slice none 0 0)), none, 0⟩,
  ⟨none, .mv 3 (.i 0), none, 0⟩]
def c44r1 : List SI := [
  ⟨none, .mv 7 (.t 0), none, 0⟩,
  ⟨none, .len 8 false (.t 7), none, 0⟩,
  ⟨none, .bin 9 .sub (.t 8) (.i 4), none, 0⟩,
  ⟨none, .mv 4 (.t 9), none, 0⟩]
def c44r2 : List SI := [
  ⟨none, .mv 10 (.t 4), none, 0⟩,
  ⟨none, .bin 11 .lss (.t 10) (.i 0), none, 0⟩]
def c44r3 : List SI := [
  ⟨none, .mv 2 (.v (.slice none 0 0)), none, 0⟩,
  ⟨none, .mv 3 (.i 10), none, 0⟩]
def c44r4 : List SI := [
  ⟨none, .mv 12 (.t 0), none, 0⟩,
  ⟨none, .mv 13 (.t 4), none, 0⟩,
  ⟨none, .sl 14 (.t 12) none (some (.t 13)) none 1, none, 0⟩,
  ⟨none, .call 15 64 [(.t 14)], none, 0⟩,
  ⟨none, .call 16 63 [(.t 15)], none, 0⟩,
  ⟨none, .mv 5 (.t 16), none, 0⟩]
def c44r5 : List SI := [
  ⟨none, .mv 6 (.i 0), none, 0⟩]
def c44r6 : List SI := [
  ⟨none, .mv 17 (.t 6), none, 0⟩,
  ⟨none, .bin 18 .lss (.t 17) (.i 4), none, 0⟩]
def c44r7 : List SI := [
  ⟨none, .mv 21 (.t 0), none, 0⟩,
  ⟨none, .mv 22 (.t 4), none, 0⟩,
  ⟨none, .mv 23 (.t 6), none, 0⟩,
  ⟨none, .bin 24 .add (.t 22) (.t 23), none, 0⟩,
  ⟨none, .ixA 25 (.t 21) (.t 24) 1, none, 0⟩,
  ⟨none, .ld 26 (.t 25) none, none, 0⟩,
  ⟨none, .mv 27 (.t 5), none, 0⟩,
  ⟨none, .mv 28 (.t 6), none, 0⟩,
  ⟨none, .ixA 29 (.t 27) (.t 28) 1, none, 0⟩,
  ⟨none, .ld 30 (.t 29) none, none, 0⟩,
  ⟨none, .bin 31 .neq (.t 26) (.t 30), none, 0⟩]
def c44r8 : List SI := [
  ⟨none, .mv 2 (.v (.slice none 0 0)), none, 0⟩,
  ⟨none, .mv 3 (.i 20), none, 0⟩]
def c44r9 : List SI := [
  ⟨none, .mv 19 (.t 6), none, 0⟩,
  ⟨none, .bin 20 .add (.t 19) (.i 1), none, 0⟩,
  ⟨none, .mv 6 (.t 20), none, 0⟩]
def c44r10 : List SI := [
  ⟨none, .bl0 32, none, 0⟩,
  ⟨none, .mv 33 (.t 0), none, 0⟩,
  ⟨none, .mv 34 (.t 4), none, 0⟩,
  ⟨none, .sl 35 (.t 33) none (some (.t 34)) none 1, none, 0⟩,
  ⟨none, .app 36 (.t 32) (.t 35) 5 1 1, none, 0⟩,
  ⟨none, .mv 2 (.t 36), none, 0⟩,
  ⟨none, .mv 3 (.i 0), none, 0⟩]
def c44 : SC :=
  (.seq (.reg false c44r0)
  (.seq (.reg false c44r1)
  (.seq (.seq (.reg false c44r2)
  (.cond (.t 11)
   (.seq (.reg false c44r3)
   .ret)
   .skip))
  (.seq (.reg false c44r4)
  (.seq (.seq (.reg false c44r5)
  (.blk 0 (.loop (.seq (.seq (.reg false c44r6)
    (.cond (.t 18)
     .skip
     (.exit 0)))
    (.seq (.blk 1 (.seq (.reg true c44r7)
     (.cond (.t 31)
      (.seq (.reg false c44r8)
      .ret)
      .skip)))
    (.reg false c44r9))))))
  (.seq (.reg false c44r10)
  .ret))))))
def v44 : List Nat × List Nat := ([], [])
def o44 : List RS := [.t 2, .t 3]
theorem s44 : slimC Try.prog Try.f44.ntmps v44.1 v44.2 ((Try.f44.body).getD .skip) = some c44 := by kernel_rfl
theorem q44 : slimR Try.prog Try.f44.ntmps v44.1 v44.2 Try.f44.results.toList = some o44 := by kernel_rfl
-- watermeet/watermeetref04.body N=171
def c45r0 : List SI := [
  ⟨none, .alR 2 [(.int .i64 0), (.int .i64 0), (.int .i64 0), (.int .i64 0), (.int .i64 0), (.int .i64 0), (.int .i64 0), (.bool false), (.int .i64 0), (.slice none 0 0)], none, 0⟩,
  ⟨none, .mv 3 (.b false), none, 0⟩]
def c45r1 : List SI := [
  ⟨none, .alR 4 [(.int .i64 0), (.int .i64 0), (.int .i64 0), (.int .i64 0), (.int .i64 0), (.int .i64 0), (.int .i64 0), (.bool false), (.int .i64 0), (.slice none 0 0)], none, 0⟩]
def c45r2 : List SI := [
  ⟨none, .mv 5 (.i 0), none, 0⟩]
def c45r3 : List SI := [
  ⟨none, .bld 21 [(.int .i64 0), (.int .i64 0), (.int .i64 0), (.int .i64 0), (.int .i64 0), (.int .i64 0), (.int .i64 0)] [], none, 0⟩,
  ⟨none, .al 6 [(.int .i64 0), (.int .i64 0), (.int .i64 0), (.int .i64 0), (.int .i64 0), (.int .i64 0), (.int .i64 0)], none, 0⟩,
  ⟨none, .st (.t 6) 7 (.t 21), none, 0⟩]
def c45r4 : List SI := [
  ⟨none, .mv 22 (.i 0), none, 0⟩]
def c45r5 : List SI := [
  ⟨none, .bin 23 .lss (.t 22) (.i 7), none, 0⟩]
def c45r6 : List SI := [
  ⟨none, .mv 24 (.t 22), none, 0⟩,
  ⟨none, .mv 7 (.t 24), none, 0⟩]
def c45r7 : List SI := [
  ⟨none, .mv 26 (.t 0), none, 0⟩,
  ⟨none, .mv 27 (.t 5), none, 0⟩,
  ⟨none, .call 28 65 [(.t 26), (.t 27)], none, 0⟩,
  ⟨none, .mv 25 (.t 28), none, 0⟩,
  ⟨none, .ext 29 (.t 25) 0, none, 0⟩,
  ⟨none, .ext 30 (.t 25) 1, none, 0⟩,
  ⟨none, .ext 31 (.t 25) 2, none, 0⟩,
  ⟨none, .mv 8 (.t 29), none, 0⟩,
  ⟨none, .mv 9 (.t 30), none, 0⟩,
  ⟨none, .mv 10 (.t 31), none, 0⟩]
def c45r8 : List SI := [
  ⟨none, .mv 32 (.t 10), none, 0⟩,
  ⟨none, .bin 33 .neq (.t 32) (.i 0), none, 0⟩]
def c45r9 : List SI := [
  ⟨none, .ldR 34 4 0 (some 10), none, 0⟩,
  ⟨none, .stR 2 0 10 (.t 34), none, 0⟩,
  ⟨none, .mv 3 (.b false), none, 0⟩]
def c45r10 : List SI := [
  ⟨none, .mv 35 (.t 7), none, 0⟩,
  ⟨none, .mv 36 (.t 8), none, 0⟩,
  ⟨none, .ixP 37 (.t 6) (.t 35) 7 1, none, 0⟩,
  ⟨none, .st (.t 37) 1 (.t 36), none, 0⟩]
def c45r11 : List SI := [
  ⟨none, .mv 38 (.t 9), none, 0⟩,
  ⟨none, .mv 5 (.t 38), none, 0⟩]
def c45r12 : List SI := [
  ⟨none, .bin 39 .add (.t 22) (.i 1), none, 0⟩,
  ⟨none, .mv 22 (.t 39), none, 0⟩]
def c45r13 : List SI := [
  ⟨none, .mv 41 (.t 0), none, 0⟩,
  ⟨none, .mv 42 (.t 5), none, 0⟩,
  ⟨none, .call 43 43 [(.t 41), (.t 42), (.i 1)], none, 0⟩,
  ⟨none, .mv 40 (.t 43), none, 0⟩,
  ⟨none, .ext 44 (.t 40) 0, none, 0⟩,
  ⟨none, .ext 45 (.t 40) 1, none, 0⟩,
  ⟨none, .mv 11 (.t 44), none, 0⟩,
  ⟨none, .mv 12 (.t 45), none, 0⟩]
def c45r14 : List SI := [
  ⟨none, .mv 46 (.t 12), none, 0⟩,
  ⟨none, .bin 47 .neq (.t 46) (.i 0), none, 0⟩,
  ⟨none, .mv 48 (.t 47), none, 0⟩,
  ⟨some (48, false), .mv 49 (.t 11), none, 49⟩,
  ⟨some (48, false), .bin 50 .gtr (.t 49) (.v (.int .u64 7)), none, 50⟩,
  ⟨none, .pick 51 (.t 48) (.b true) (.t 50), none, 0⟩]
def c45r15 : List SI := [
  ⟨none, .ldR 52 4 0 (some 10), none, 0⟩,
  ⟨none, .stR 2 0 10 (.t 52), none, 0⟩,
  ⟨none, .mv 3 (.b false), none, 0⟩]
def c45r16 : List SI := [
  ⟨none, .mv 54 (.t 0), none, 0⟩,
  ⟨none, .mv 55 (.t 5), none, 0⟩,
  ⟨none, .bin 56 .add (.t 55) (.i 1), none, 0⟩,
  ⟨none, .call 57 65 [(.t 54), (.t 56)], none, 0⟩,
  ⟨none, .mv 53 (.t 57), none, 0⟩,
  ⟨none, .ext 58 (.t 53) 0, none, 0⟩,
  ⟨none, .ext 59 (.t 53) 1, none, 0⟩,
  ⟨none, .ext 60 (.t 53) 2, none, 0⟩,
  ⟨none, .mv 13 (.t 58), none, 0⟩,
  ⟨none, .mv 5 (.t 59), none, 0⟩,
  ⟨none, .mv 12 (.t 60), none, 0⟩]
def c45r17 : List SI := [
  ⟨none, .mv 61 (.t 12), none, 0⟩,
  ⟨none, .bin 62 .neq (.t 61) (.i 0), none, 0⟩,
  ⟨none, .mv 63 (.t 62), none, 0⟩,
  ⟨some (63, false), .mv 64 (.t 13), none, 64⟩,
  ⟨some (63, false), .bin 65 .lss (.t 64) (.i 0), none, 65⟩,
  ⟨none, .pick 66 (.t 63) (.b true) (.t 65), none, 0⟩,
  ⟨none, .mv 67 (.t 66), none, 0⟩,
  ⟨some (67, false), .mv 68 (.t 13), none, 68⟩,
  ⟨some (67, false), .bin 69 .gtr (.t 68) (.i 16), none, 69⟩,
  ⟨none, .pick 70 (.t 67) (.b true) (.t 69), none, 0⟩,
  ⟨none, .mv 71 (.t 70), none, 0⟩,
  ⟨some (71, false), .ixP 72 (.t 6) (.i 1) 7 1, none, 72⟩,
  ⟨some (71, false), .ld 73 (.t 72) none, none, 73⟩,
  ⟨some (71, false), .bin 74 .lss (.t 73) (.i 0), none, 74⟩,
  ⟨none, .pick 75 (.t 71) (.b true) (.t 74), none, 0⟩,
  ⟨none, .mv 76 (.t 75), none, 0⟩,
  ⟨some (76, false), .ixP 77 (.t 6) (.i 1) 7 1, none, 77⟩,
  ⟨some (76, false), .ld 78 (.t 77) none, none, 78⟩,
  ⟨some (76, false), .bin 79 .gtr (.t 78) (.i 16), none, 79⟩,
  ⟨none, .pick 80 (.t 76) (.b true) (.t 79), none, 0⟩,
  ⟨none, .mv 81 (.t 80), none, 0⟩,
  ⟨some (81, false), .ixP 82 (.t 6) (.i 0) 7 1, none, 82⟩,
  ⟨some (81, false), .ld 83 (.t 82) none, none, 83⟩,
  ⟨some (81, false), .bin 84 .lss (.t 83) (.i 0), none, 84⟩,
  ⟨none, .pick 85 (.t 81) (.b true) (.t 84), none, 0⟩,
  ⟨none, .mv 86 (.t 85), none, 0⟩,
  ⟨some (86, false), .ixP 87 (.t 6) (.i 0) 7 1, none, 87⟩,
  ⟨some (86, false), .ld 88 (.t 87) none, none, 88⟩,
  ⟨some (86, false), .bin 89 .gtr (.t 88) (.i 1099511627776), none, 89⟩,
  ⟨none, .pick 90 (.t 86) (.b true) (.t 89), none, 0⟩]
def c45r18 : List SI := [
  ⟨none, .ldR 91 4 0 (some 10), none, 0⟩,
  ⟨none, .stR 2 0 10 (.t 91), none, 0⟩,
  ⟨none, .mv 3 (.b false), none, 0⟩]
def c45r19 : List SI := [
  ⟨none, .ixP 92 (.t 6) (.i 0) 7 1, none, 0⟩,
  ⟨none, .ld 93 (.t 92) none, none, 0⟩,
  ⟨none, .ixP 94 (.t 6) (.i 0) 7 1, none, 0⟩,
  ⟨none, .ld 95 (.t 94) none, none, 0⟩,
  ⟨none, .ixP 96 (.t 6) (.i 1) 7 1, none, 0⟩,
  ⟨none, .ld 97 (.t 96) none, none, 0⟩,
  ⟨none, .bin 98 .add (.t 95) (.t 97), none, 0⟩,
  ⟨none, .ixP 99 (.t 6) (.i 2) 7 1, none, 0⟩,
  ⟨none, .ld 100 (.t 99) none, none, 0⟩,
  ⟨none, .ixP 101 (.t 6) (.i 3) 7 1, none, 0⟩,
  ⟨none, .ld 102 (.t 101) none, none, 0⟩,
  ⟨none, .ixP 103 (.t 6) (.i 4) 7 1, none, 0⟩,
  ⟨none, .ld 104 (.t 103) none, none, 0⟩,
  ⟨none, .ixP 105 (.t 6) (.i 5) 7 1, none, 0⟩,
  ⟨none, .ld 106 (.t 105) none, none, 0⟩,
  ⟨none, .ixP 107 (.t 6) (.i 6) 7 1, none, 0⟩,
  ⟨none, .ld 108 (.t 107) none, none, 0⟩,
  ⟨none, .mv 109 (.t 11), none, 0⟩,
  ⟨none, .bin 110 .geq (.t 109) (.v (.int .u64 4)), none, 0⟩,
  ⟨none, .mv 111 (.t 11), none, 0⟩,
  ⟨none, .bin 112 .rem (.t 111) (.v (.int .u64 4)), none, 0⟩,
  ⟨none, .cvI 113 .i64 (.t 112), none, 0⟩,
  ⟨none, .bld 114 [(.int .i64 0), (.int .i64 0), (.int .i64 0), (.int .i64 0), (.int .i64 0), (.int .i64 0), (.int .i64 0), (.bool false), (.int .i64 0), (.slice none 0 0)] [(0, 1, (.t 93)), (1, 1, (.t 98)), (2, 1, (.t 100)), (3, 1, (.t 102)), (4, 1, (.t 104)), (5, 1, (.t 106)), (6, 1, (.t 108)), (7, 1, (.t 110)), (8, 1, (.t 113))], none, 0⟩,
  ⟨none, .stR 4 0 10 (.t 114), none, 0⟩]
def c45r20 : List SI := [
  ⟨none, .mv 14 (.i 0), none, 0⟩]
def c45r21 : List SI := [
  ⟨none, .mv 115 (.t 13), none, 0⟩,
  ⟨none, .bin 116 .gtr (.t 115) (.i 0), none, 0⟩]
def c45r22 : List SI := [
  ⟨none, .mv 118 (.t 0), none, 0⟩,
  ⟨none, .mv 119 (.t 5), none, 0⟩,
  ⟨none, .call 120 65 [(.t 118), (.t 119)], none, 0⟩,
  ⟨none, .mv 117 (.t 120), none, 0⟩,
  ⟨none, .ext 121 (.t 117) 0, none, 0⟩,
  ⟨none, .ext 122 (.t 117) 1, none, 0⟩,
  ⟨none, .ext 123 (.t 117) 2, none, 0⟩,
  ⟨none, .mv 15 (.t 121), none, 0⟩,
  ⟨none, .mv 16 (.t 122), none, 0⟩,
  ⟨none, .mv 17 (.t 123), none, 0⟩]
def c45r23 : List SI := [
  ⟨none, .mv 124 (.t 17), none, 0⟩,
  ⟨none, .bin 125 .neq (.t 124) (.i 0), none, 0⟩]
def c45r24 : List SI := [
  ⟨none, .ldR 126 4 0 (some 10), none, 0⟩,
  ⟨none, .stR 2 0 10 (.t 126), none, 0⟩,
  ⟨none, .mv 3 (.b false), none, 0⟩]
def c45r25 : List SI := [
  ⟨none, .mv 127 (.t 15), none, 0⟩,
  ⟨none, .mv 14 (.t 127), none, 0⟩]
def c45r26 : List SI := [
  ⟨none, .mv 128 (.t 16), none, 0⟩,
  ⟨none, .mv 5 (.t 128), none, 0⟩]
def c45r27 : List SI := [
  ⟨none, .mv 129 (.t 13), none, 0⟩,
  ⟨none, .mv 130 (.i 0), none, 0⟩]
def c45r28 : List SI := [
  ⟨none, .bin 131 .lss (.t 130) (.t 129), none, 0⟩]
def c45r29 : List SI := [
  ⟨none, .mv 133 (.t 0), none, 0⟩,
  ⟨none, .mv 134 (.t 5), none, 0⟩,
  ⟨none, .nop, (some 4), 0⟩,
  ⟨none, .ldR 136 4 0 none, none, 0⟩,
  ⟨none, .mv 137 (.t 14), none, 0⟩,
  ⟨none, .call 138 66 [(.t 133), (.t 134), (.t 136), (.t 137)], none, 0⟩,
  ⟨none, .mv 132 (.t 138), none, 0⟩,
  ⟨none, .ext 139 (.t 132) 0, none, 0⟩,
  ⟨none, .ext 140 (.t 132) 1, none, 0⟩,
  ⟨none, .ext 141 (.t 132) 2, none, 0⟩,
  ⟨none, .alR 18 [(.int .i64 0), (.string ⟨#[]⟩), (.string ⟨#[]⟩), (.bool false), (.int .i64 0)], none, 0⟩,
  ⟨none, .stR 18 0 5 (.t 139), none, 0⟩,
  ⟨none, .mv 19 (.t 140), none, 0⟩,
  ⟨none, .mv 20 (.t 141), none, 0⟩]
def c45r30 : List SI := [
  ⟨none, .mv 142 (.t 20), none, 0⟩,
  ⟨none, .bin 143 .neq (.t 142) (.i 0), none, 0⟩]
def c45r31 : List SI := [
  ⟨none, .ldR 144 4 0 (some 10), none, 0⟩,
  ⟨none, .stR 2 0 10 (.t 144), none, 0⟩,
  ⟨none, .mv 3 (.b false), none, 0⟩]
def c45r32 : List SI := [
  ⟨none, .nop, (some 4), 0⟩,
  ⟨none, .ldR 146 4 9 none, none, 0⟩,
  ⟨none, .ldR 147 18 0 (some 5), none, 0⟩,
  ⟨none, .bls 148 39 1 5 [(.int .i64 0), (.string ⟨#[]⟩), (.string ⟨#[]⟩), (.bool false), (.int .i64 0)] [(0, 5, (.t 147))], none, 0⟩,
  ⟨none, .app 149 (.t 146) (.t 148) 39 5 56, none, 0⟩,
  ⟨none, .nop, (some 4), 0⟩,
  ⟨none, .stR 4 9 1 (.t 149), none, 0⟩]
def c45r33 : List SI := [
  ⟨none, .mv 151 (.t 19), none, 0⟩,
  ⟨none, .mv 5 (.t 151), none, 0⟩]
def c45r34 : List SI := [
  ⟨none, .bin 152 .add (.t 130) (.i 1), none, 0⟩,
  ⟨none, .mv 130 (.t 152), none, 0⟩]
def c45r35 : List WI := [
  (true, false, ⟨none, .ldR 153 4 0 (some 10), none, 0⟩),
  (true, false, ⟨none, .mv 154 (.t 5), none, 0⟩),
  (true, false, ⟨none, .mv 155 (.t 0), none, 0⟩),
  (true, false, ⟨none, .len 156 false (.t 155), none, 0⟩),
  (true, false, ⟨none, .bin 157 .eql (.t 154) (.t 156), none, 0⟩),
  (true, false, ⟨none, .mv 158 (.t 157), none, 0⟩),
  (true, false, ⟨some (158, true), .mv 159 (.t 13), none, 159⟩),
  (true, false, ⟨some (158, true), .bin 160 .eql (.t 159) (.i 0), none, 160⟩),
  (true, false, ⟨some (158, true), .mv 161 (.t 160), none, 161⟩),
  (true, false, ⟨some (161, false), .nop, (some 4), 99999⟩),
  (true, false, ⟨some (161, false), .ldR 163 4 9 none, none, 163⟩),
  (true, false, ⟨some (161, false), .ixA 164 (.t 163) (.i 0) 5, none, 164⟩),
  (true, false, ⟨some (161, false), .flA 165 (.t 164) 4, none, 165⟩),
  (true, false, ⟨some (161, false), .ld 166 (.t 165) none, none, 166⟩),
  (true, false, ⟨some (161, false), .mv 167 (.t 14), none, 167⟩),
  (true, false, ⟨some (161, false), .bin 168 .eql (.t 166) (.t 167), none, 168⟩),
  (true, false, ⟨some (158, true), .pick 169 (.t 161) (.b true) (.t 168), none, 169⟩),
  (true, false, ⟨none, .pick 170 (.t 158) (.t 169) (.b false), none, 0⟩),
  (false, false, ⟨none, .stR 2 0 10 (.t 153), none, 0⟩),
  (true, false, ⟨none, .mv 3 (.t 170), none, 0⟩)]
def c45 : SC :=
  (.seq (.reg false c45r0)
  (.seq (.reg false c45r1)
  (.seq (.reg false c45r2)
  (.seq (.reg false c45r3)
  (.seq (.seq (.reg false c45r4)
  (.blk 0 (.loop (.seq (.reg false c45r5)
    (.seq (.cond (.t 23)
     .skip
     (.exit 0))
    (.seq (.blk 1 (.seq (.reg false c45r6)
     (.seq (.reg false c45r7)
     (.seq (.seq (.reg false c45r8)
     (.cond (.t 33)
      (.seq (.reg false c45r9)
      .ret)
      .skip))
     (.seq (.reg false c45r10)
     (.reg false c45r11))))))
    (.reg false c45r12)))))))
  (.seq (.reg false c45r13)
  (.seq (.seq (.reg false c45r14)
  (.cond (.t 51)
   (.seq (.reg false c45r15)
   .ret)
   .skip))
  (.seq (.reg false c45r16)
  (.seq (.seq (.reg false c45r17)
  (.cond (.t 90)
   (.seq (.reg false c45r18)
   .ret)
   .skip))
  (.seq (.reg false c45r19)
  (.seq (.reg false c45r20)
  (.seq (.seq (.reg false c45r21)
  (.cond (.t 116)
   (.seq (.reg false c45r22)
   (.seq (.seq (.reg false c45r23)
   (.cond (.t 125)
    (.seq (.reg false c45r24)
    .ret)
    .skip))
   (.seq (.reg false c45r25)
   (.reg false c45r26))))
   .skip))
  (.seq (.seq (.reg false c45r27)
  (.blk 2 (.loop (.seq (.reg false c45r28)
    (.seq (.cond (.t 131)
     .skip
     (.exit 2))
    (.seq (.blk 3 (.seq (.reg false c45r29)
     (.seq (.seq (.reg false c45r30)
     (.cond (.t 143)
      (.seq (.reg false c45r31)
      .ret)
      .skip))
     (.seq (.reg false c45r32)
     (.reg false c45r33)))))
    (.reg false c45r34)))))))
  (.seq (.rgW c45r35)
  .ret))))))))))))))
def v45 : List Nat × List Nat := ([2, 4, 18], [2, 4, 18, 135, 145, 150, 162])
def o45 : List RS := [.r 2 (some 10), .t 3]
theorem s45 : slimC Try.prog Try.f45.ntmps v45.1 v45.2 ((Try.f45.body).getD .skip) = some c45 := by kernel_rfl
theorem q45 : slimR Try.prog Try.f45.ntmps v45.1 v45.2 Try.f45.results.toList = some o45 := by kernel_rfl
-- watermeet/rec.Check N=33
def c46r0 : List SI := [
  ⟨none, .bxR 1 (.t 0), none, 0⟩,
  ⟨none, .mv 2 (.i 0), none, 0⟩]
def c46r1 : List SI := [
  ⟨none, .nop, (some 1), 0⟩,
  ⟨none, .ldR 5 1 0 none, none, 0⟩,
  ⟨none, .call 6 67 [(.t 5)], none, 0⟩,
  ⟨none, .un 7 .not (.t 6), none, 0⟩,
  ⟨none, .mv 3 (.t 7), none, 0⟩]
def c46r2 : List SI := [
  ⟨none, .nop, (some 1), 0⟩,
  ⟨none, .ldR 9 1 4 none, none, 0⟩,
  ⟨none, .call 10 67 [(.t 9)], none, 0⟩,
  ⟨none, .un 11 .not (.t 10), none, 0⟩,
  ⟨none, .mv 3 (.t 11), none, 0⟩]
def c46r3 : List SI := [
  ⟨none, .nop, (some 1), 0⟩,
  ⟨none, .ldR 13 1 1 none, none, 0⟩,
  ⟨none, .len 14 true (.t 13), none, 0⟩,
  ⟨none, .nop, (some 1), 0⟩,
  ⟨none, .ldR 16 1 2 none, none, 0⟩,
  ⟨none, .len 17 true (.t 16), none, 0⟩,
  ⟨none, .mm 18 true (.t 14) (.t 17), none, 0⟩,
  ⟨none, .bin 19 .gtr (.t 18) (.i 64), none, 0⟩,
  ⟨none, .mv 3 (.t 19), none, 0⟩]
def c46r4 : List SI := [
  ⟨none, .mv 2 (.i 1), none, 0⟩]
def c46r5 : List SI := [
  ⟨none, .nop, (some 1), 0⟩,
  ⟨none, .ldR 22 1 3 none, none, 0⟩,
  ⟨none, .mv 23 (.t 22), none, 0⟩,
  ⟨some (23, true), .nop, (some 1), 99999⟩,
  ⟨some (23, true), .ldR 25 1 1 none, none, 25⟩,
  ⟨some (23, true), .bin 26 .eql (.t 25) (.v (.string ⟨#[]⟩)), none, 26⟩,
  ⟨some (23, true), .mv 27 (.t 26), none, 27⟩,
  ⟨some (27, false), .nop, (some 1), 99999⟩,
  ⟨some (27, false), .ldR 29 1 2 none, none, 29⟩,
  ⟨some (27, false), .bin 30 .neq (.t 29) (.v (.string ⟨#[]⟩)), none, 30⟩,
  ⟨some (23, true), .pick 31 (.t 27) (.b true) (.t 30), none, 31⟩,
  ⟨none, .pick 32 (.t 23) (.t 31) (.b false), none, 0⟩,
  ⟨none, .mv 20 (.t 32), none, 0⟩]
def c46r6 : List SI := [
  ⟨none, .mv 2 (.i 1), none, 0⟩]
def c46r7 : List SI := [
  ⟨none, .mv 2 (.i 0), none, 0⟩]
def c46 : SC :=
  (.seq (.reg false c46r0)
  (.seq (.blk 0 (.seq (.seq (.reg false c46r1)
   (.cond (.t 3)
    .skip
    (.seq (.reg false c46r2)
    (.cond (.t 3)
     .skip
     (.reg false c46r3)))))
   (.cond (.t 3)
    (.seq (.reg false c46r4)
    .ret)
    (.seq (.reg false c46r5)
    (.cond (.t 20)
     (.seq (.reg false c46r6)
     .ret)
     .skip)))))
  (.seq (.reg false c46r7)
  .ret)))
def v46 : List Nat × List Nat := ([1], [1, 4, 8, 12, 15, 21, 24, 28])
def o46 : List RS := [.t 2]
theorem s46 : slimC Try.prog Try.f46.ntmps v46.1 v46.2 ((Try.f46.body).getD .skip) = some c46 := by kernel_rfl
theorem q46 : slimR Try.prog Try.f46.ntmps v46.1 v46.2 Try.f46.results.toList = some o46 := by kernel_rfl
-- watermeet/octet.PutVar N=31
def c47r0 : List SI := [
  ⟨none, .mv 4 (.v (.slice none 0 0)), none, 0⟩]
def c47r1 : List SI := [
  ⟨none, .mv 7 (.t 1), none, 0⟩,
  ⟨none, .cvI 8 .u64 (.t 7), none, 0⟩,
  ⟨none, .bin 9 .shl (.t 8) (.v (.int .u64 1)), none, 0⟩,
  ⟨none, .mv 10 (.t 1), none, 0⟩,
  ⟨none, .bin 11 .shr (.t 10) (.v (.int .u64 63)), none, 0⟩,
  ⟨none, .cvI 12 .u64 (.t 11), none, 0⟩,
  ⟨none, .bin 13 .xor (.t 9) (.t 12), none, 0⟩,
  ⟨none, .mv 5 (.t 13), none, 0⟩]
def c47r2 : List SI := [
  ⟨none, .mv 14 (.t 0), none, 0⟩,
  ⟨none, .call 15 68 [(.t 14)], none, 0⟩,
  ⟨none, .mv 6 (.t 15), none, 0⟩]
def c47r3 : List SI := [
  ⟨none, .mv 16 (.t 5), none, 0⟩,
  ⟨none, .bin 17 .geq (.t 16) (.v (.int .u64 128)), none, 0⟩]
def c47r4 : List SI := [
  ⟨none, .mv 20 (.t 6), none, 0⟩,
  ⟨none, .mv 21 (.t 5), none, 0⟩,
  ⟨none, .cvI 22 .u8 (.t 21), none, 0⟩,
  ⟨none, .bin 23 .or (.t 22) (.v (.int .u8 128)), none, 0⟩,
  ⟨none, .bls 24 5 1 1 [(.int .u8 0)] [(0, 1, (.t 23))], none, 0⟩,
  ⟨none, .app 25 (.t 20) (.t 24) 5 1 1, none, 0⟩,
  ⟨none, .mv 6 (.t 25), none, 0⟩]
def c47r5 : List SI := [
  ⟨none, .mv 18 (.t 5), none, 0⟩,
  ⟨none, .bin 19 .shr (.t 18) (.v (.int .u64 7)), none, 0⟩,
  ⟨none, .mv 5 (.t 19), none, 0⟩]
def c47r6 : List SI := [
  ⟨none, .mv 26 (.t 6), none, 0⟩,
  ⟨none, .mv 27 (.t 5), none, 0⟩,
  ⟨none, .cvI 28 .u8 (.t 27), none, 0⟩,
  ⟨none, .bls 29 5 1 1 [(.int .u8 0)] [(0, 1, (.t 28))], none, 0⟩,
  ⟨none, .app 30 (.t 26) (.t 29) 5 1 1, none, 0⟩,
  ⟨none, .mv 4 (.t 30), none, 0⟩]
def c47 : SC :=
  (.seq (.reg false c47r0)
  (.seq (.reg false c47r1)
  (.seq (.reg false c47r2)
  (.seq (.blk 0 (.loop (.seq (.seq (.reg false c47r3)
    (.cond (.t 17)
     .skip
     (.exit 0)))
    (.seq (.blk 1 (.reg false c47r4))
    (.reg false c47r5)))))
  (.seq (.reg false c47r6)
  .ret)))))
def v47 : List Nat × List Nat := ([], [])
def o47 : List RS := [.t 4]
theorem s47 : slimC Try.prog Try.f47.ntmps v47.1 v47.2 ((Try.f47.body).getD .skip) = some c47 := by kernel_rfl
theorem q47 : slimR Try.prog Try.f47.ntmps v47.1 v47.2 Try.f47.results.toList = some o47 := by kernel_rfl
-- watermeet/rec.Put N=46
def c48r0 : List SI := [
  ⟨none, .bxR 3 (.t 0), none, 0⟩,
  ⟨none, .mv 6 (.v (.slice none 0 0)), none, 0⟩,
  ⟨none, .mv 7 (.i 0), none, 0⟩]
def c48r1 : List SI := [
  ⟨none, .ldR 11 3 0 (some 5), none, 0⟩,
  ⟨none, .call 12 46 [(.t 11)], none, 0⟩,
  ⟨none, .mv 8 (.t 12), none, 0⟩]
def c48r2 : List SI := [
  ⟨none, .mv 13 (.t 8), none, 0⟩,
  ⟨none, .bin 14 .neq (.t 13) (.i 0), none, 0⟩]
def c48r3 : List SI := [
  ⟨none, .mv 15 (.t 8), none, 0⟩,
  ⟨none, .mv 6 (.v (.slice none 0 0)), none, 0⟩,
  ⟨none, .mv 7 (.t 15), none, 0⟩]
def c48r4 : List SI := [
  ⟨none, .mv 16 (.t 1), none, 0⟩,
  ⟨none, .call 17 67 [(.t 16)], none, 0⟩,
  ⟨none, .un 18 .not (.t 17), none, 0⟩,
  ⟨none, .mv 19 (.t 18), none, 0⟩,
  ⟨some (19, false), .mv 20 (.t 2), none, 20⟩,
  ⟨some (19, false), .call 21 67 [(.t 20)], none, 21⟩,
  ⟨some (19, false), .un 22 .not (.t 21), none, 22⟩,
  ⟨none, .pick 23 (.t 19) (.b true) (.t 22), none, 0⟩]
def c48r5 : List SI := [
  ⟨none, .mv 6 (.v (.slice none 0 0)), none, 0⟩,
  ⟨none, .mv 7 (.i 1), none, 0⟩]
def c48r6 : List SI := [
  ⟨none, .mv 9 (.v (.int .u8 0)), none, 0⟩]
def c48r7 : List SI := [
  ⟨none, .nop, (some 3), 0⟩,
  ⟨none, .ldR 25 3 3 none, none, 0⟩]
def c48r8 : List SI := [
  ⟨none, .mv 9 (.v (.int .u8 1)), none, 0⟩]
def c48r9 : List (Bool × SI) := [
  (true, ⟨none, .nop, (some 3), 0⟩),
  (true, ⟨none, .ldR 27 3 0 none, none, 0⟩),
  (true, ⟨none, .mv 28 (.t 1), none, 0⟩),
  (true, ⟨none, .bin 29 .sub (.t 27) (.t 28), none, 0⟩),
  (true, ⟨none, .nop, (some 3), 0⟩),
  (true, ⟨none, .ldR 32 3 4 none, none, 0⟩),
  (true, ⟨none, .mv 33 (.t 2), none, 0⟩),
  (true, ⟨none, .bin 34 .sub (.t 32) (.t 33), none, 0⟩),
  (false, ⟨none, .call 30 47 [(.v (.slice none 0 0)), (.t 29)], none, 0⟩),
  (false, ⟨none, .call 35 47 [(.t 30), (.t 34)], none, 0⟩),
  (true, ⟨none, .mv 10 (.t 35), none, 0⟩)]
def c48r10 : List (Bool × SI) := [
  (true, ⟨none, .mv 36 (.t 10), none, 0⟩),
  (true, ⟨none, .mv 37 (.t 9), none, 0⟩),
  (true, ⟨none, .nop, (some 3), 0⟩),
  (true, ⟨none, .ldR 41 3 1 none, none, 0⟩),
  (true, ⟨none, .nop, (some 3), 0⟩),
  (true, ⟨none, .ldR 44 3 2 none, none, 0⟩),
  (false, ⟨none, .bls 38 5 1 1 [(.int .u8 0)] [(0, 1, (.t 37))], none, 0⟩),
  (false, ⟨none, .app 39 (.t 36) (.t 38) 5 1 1, none, 0⟩),
  (false, ⟨none, .call 42 69 [(.t 39), (.t 41)], none, 0⟩),
  (false, ⟨none, .call 45 69 [(.t 42), (.t 44)], none, 0⟩),
  (true, ⟨none, .mv 6 (.t 45), none, 0⟩),
  (true, ⟨none, .mv 7 (.i 0), none, 0⟩)]
def c48 : SC :=
  (.seq (.reg false c48r0)
  (.seq (.seq (.reg false c48r1)
  (.seq (.reg false c48r2)
  (.cond (.t 14)
   (.seq (.reg false c48r3)
   .ret)
   .skip)))
  (.seq (.seq (.reg false c48r4)
  (.cond (.t 23)
   (.seq (.reg false c48r5)
   .ret)
   .skip))
  (.seq (.reg false c48r6)
  (.seq (.seq (.reg false c48r7)
  (.cond (.t 25)
   (.reg false c48r8)
   .skip))
  (.seq (.rgX c48r9)
  (.seq (.rgX c48r10)
  .ret)))))))
def v48 : List Nat × List Nat := ([3], [3, 24, 26, 31, 40, 43])
def o48 : List RS := [.t 6, .t 7]
theorem s48 : slimC Try.prog Try.f48.ntmps v48.1 v48.2 ((Try.f48.body).getD .skip) = some c48 := by kernel_rfl
theorem q48 : slimR Try.prog Try.f48.ntmps v48.1 v48.2 Try.f48.results.toList = some o48 := by kernel_rfl
-- watermeet/crc.Seal N=9
def c49r0 : List SI := [
  ⟨none, .mv 2 (.v (.slice none 0 0)), none, 0⟩]
def c49r1 : List SI := [
  ⟨none, .mv 3 (.t 0), none, 0⟩,
  ⟨none, .app 4 (.v (.slice none 0 0)) (.t 3) 5 1 1, none, 0⟩,
  ⟨none, .mv 5 (.t 0), none, 0⟩,
  ⟨none, .call 6 59 [(.t 5)], none, 0⟩,
  ⟨none, .cvI 7 .u64 (.t 6), none, 0⟩,
  ⟨none, .call 8 50 [(.t 4), (.t 7), (.i 4)], none, 0⟩,
  ⟨none, .mv 2 (.t 8), none, 0⟩]
def c49 : SC :=
  (.seq (.reg false c49r0)
  (.seq (.reg false c49r1)
  .ret))
def v49 : List Nat × List Nat := ([], [])
def o49 : List RS := [.t 2]
theorem s49 : slimC Try.prog Try.f49.ntmps v49.1 v49.2 ((Try.f49.body).getD .skip) = some c49 := by kernel_rfl
theorem q49 : slimR Try.prog Try.f49.ntmps v49.1 v49.2 Try.f49.results.toList = some o49 := by kernel_rfl
-- watermeet/octet.Put N=33
def c50r0 : List SI := [
  ⟨none, .mv 6 (.v (.slice none 0 0)), none, 0⟩]
def c50r1 : List SI := [
  ⟨none, .mv 9 (.t 0), none, 0⟩,
  ⟨none, .call 10 68 [(.t 9)], none, 0⟩,
  ⟨none, .mv 7 (.t 10), none, 0⟩]
def c50r2 : List SI := [
  ⟨none, .mv 11 (.t 2), none, 0⟩,
  ⟨none, .bin 12 .lss (.t 11) (.i 1), none, 0⟩,
  ⟨none, .mv 13 (.t 12), none, 0⟩,
  ⟨some (13, false), .mv 14 (.t 2), none, 14⟩,
  ⟨some (13, false), .bin 15 .gtr (.t 14) (.i 8), none, 15⟩,
  ⟨none, .pick 16 (.t 13) (.b true) (.t 15), none, 0⟩]
def c50r3 : List SI := [
  ⟨none, .mv 17 (.t 7), none, 0⟩,
  ⟨none, .mv 6 (.t 17), none, 0⟩]
def c50r4 : List SI := [
  ⟨none, .mv 18 (.t 2), none, 0⟩,
  ⟨none, .bin 19 .sub (.t 18) (.i 1), none, 0⟩,
  ⟨none, .bin 20 .mul (.i 8) (.t 19), none, 0⟩,
  ⟨none, .mv 8 (.t 20), none, 0⟩]
def c50r5 : List SI := [
  ⟨none, .mv 21 (.t 8), none, 0⟩,
  ⟨none, .bin 22 .geq (.t 21) (.i 0), none, 0⟩]
def c50r6 : List SI := [
  ⟨none, .mv 25 (.t 7), none, 0⟩,
  ⟨none, .mv 26 (.t 1), none, 0⟩,
  ⟨none, .mv 27 (.t 8), none, 0⟩,
  ⟨none, .bin 28 .shr (.t 26) (.t 27), none, 0⟩,
  ⟨none, .cvI 29 .u8 (.t 28), none, 0⟩,
  ⟨none, .bls 30 5 1 1 [(.int .u8 0)] [(0, 1, (.t 29))], none, 0⟩,
  ⟨none, .app 31 (.t 25) (.t 30) 5 1 1, none, 0⟩,
  ⟨none, .mv 7 (.t 31), none, 0⟩]
def c50r7 : List SI := [
  ⟨none, .mv 23 (.t 8), none, 0⟩,
  ⟨none, .bin 24 .sub (.t 23) (.i 8), none, 0⟩,
  ⟨none, .mv 8 (.t 24), none, 0⟩]
def c50r8 : List SI := [
  ⟨none, .mv 32 (.t 7), none, 0⟩,
  ⟨none, .mv 6 (.t 32), none, 0⟩]
def c50 : SC :=
  (.seq (.reg false c50r0)
  (.seq (.reg false c50r1)
  (.seq (.seq (.reg false c50r2)
  (.cond (.t 16)
   (.seq (.reg false c50r3)
   .ret)
   .skip))
  (.seq (.seq (.reg false c50r4)
  (.blk 0 (.loop (.seq (.seq (.reg false c50r5)
    (.cond (.t 22)
     .skip
     (.exit 0)))
    (.seq (.blk 1 (.reg false c50r6))
    (.reg false c50r7))))))
  (.seq (.reg false c50r8)
  .ret)))))
def v50 : List Nat × List Nat := ([], [])
def o50 : List RS := [.t 6]
theorem s50 : slimC Try.prog Try.f50.ntmps v50.1 v50.2 ((Try.f50.body).getD .skip) = some c50 := by kernel_rfl
theorem q50 : slimR Try.prog Try.f50.ntmps v50.1 v50.2 Try.f50.results.toList = some o50 := by kernel_rfl
-- watermeet/watermeetref01.PutVar N=36
def c51r0 : List SI := [
  ⟨none, .mv 4 (.v (.slice none 0 0)), none, 0⟩]
def c51r1 : List SI := [
  ⟨none, .mv 7 (.t 1), none, 0⟩,
  ⟨none, .cvI 8 .u64 (.t 7), none, 0⟩,
  ⟨none, .bin 9 .mul (.v (.int .u64 2)) (.t 8), none, 0⟩,
  ⟨none, .mv 5 (.t 9), none, 0⟩]
def c51r2 : List SI := [
  ⟨none, .mv 10 (.t 1), none, 0⟩,
  ⟨none, .bin 11 .lss (.t 10) (.i 0), none, 0⟩]
def c51r3 : List SI := [
  ⟨none, .mv 12 (.t 1), none, 0⟩,
  ⟨none, .bin 13 .add (.t 12) (.i 1), none, 0⟩,
  ⟨none, .un 14 .neg (.t 13), none, 0⟩,
  ⟨none, .cvI 15 .u64 (.t 14), none, 0⟩,
  ⟨none, .bin 16 .mul (.v (.int .u64 2)) (.t 15), none, 0⟩,
  ⟨none, .bin 17 .add (.t 16) (.v (.int .u64 1)), none, 0⟩,
  ⟨none, .mv 5 (.t 17), none, 0⟩]
def c51r4 : List SI := [
  ⟨none, .mv 18 (.t 0), none, 0⟩,
  ⟨none, .call 19 26 [(.t 18)], none, 0⟩,
  ⟨none, .mv 6 (.t 19), none, 0⟩]
def c51r5 : List SI := [
  ⟨none, .mv 20 (.t 5), none, 0⟩,
  ⟨none, .bin 21 .geq (.t 20) (.v (.int .u64 128)), none, 0⟩]
def c51r6 : List SI := [
  ⟨none, .mv 22 (.t 6), none, 0⟩,
  ⟨none, .mv 23 (.t 5), none, 0⟩,
  ⟨none, .bin 24 .rem (.t 23) (.v (.int .u64 128)), none, 0⟩,
  ⟨none, .bin 25 .add (.v (.int .u64 128)) (.t 24), none, 0⟩,
  ⟨none, .cvI 26 .u8 (.t 25), none, 0⟩,
  ⟨none, .bls 27 5 1 1 [(.int .u8 0)] [(0, 1, (.t 26))], none, 0⟩,
  ⟨none, .app 28 (.t 22) (.t 27) 5 1 1, none, 0⟩,
  ⟨none, .mv 6 (.t 28), none, 0⟩]
def c51r7 : List SI := [
  ⟨none, .mv 29 (.t 5), none, 0⟩,
  ⟨none, .bin 30 .quo (.t 29) (.v (.int .u64 128)), none, 0⟩,
  ⟨none, .mv 5 (.t 30), none, 0⟩]
def c51r8 : List SI := [
  ⟨none, .mv 31 (.t 6), none, 0⟩,
  ⟨none, .mv 32 (.t 5), none, 0⟩,
  ⟨none, .cvI 33 .u8 (.t 32), none, 0⟩,
  ⟨none, .bls 34 5 1 1 [(.int .u8 0)] [(0, 1, (.t 33))], none, 0⟩,
  ⟨none, .app 35 (.t 31) (.t 34) 5 1 1, none, 0⟩,
  ⟨none, .mv 4 (.t 35), none, 0⟩]
def c51 : SC :=
  (.seq (.reg false c51r0)
  (.seq (.reg false c51r1)
  (.seq (.seq (.reg false c51r2)
  (.cond (.t 11)
   (.reg false c51r3)
   .skip))
  (.seq (.reg false c51r4)
  (.seq (.blk 0 (.loop (.seq (.seq (.reg false c51r5)
    (.cond (.t 21)
     .skip
     (.exit 0)))
    (.blk 1 (.seq (.reg false c51r6)
     (.reg false c51r7))))))
  (.seq (.reg false c51r8)
  .ret))))))
def v51 : List Nat × List Nat := ([], [])
def o51 : List RS := [.t 4]
theorem s51 : slimC Try.prog Try.f51.ntmps v51.1 v51.2 ((Try.f51.body).getD .skip) = some c51 := by kernel_rfl
theorem q51 : slimR Try.prog Try.f51.ntmps v51.1 v51.2 Try.f51.results.toList = some o51 := by kernel_rfl
-- watermeet/watermeetref03.Put N=50
def c52r0 : List SI := [
  ⟨none, .bxR 3 (.t 0), none, 0⟩,
  ⟨none, .mv 6 (.v (.slice none 0 0)), none, 0⟩,
  ⟨none, .mv 7 (.i 0), none, 0⟩]
def c52r1 : List SI := [
  ⟨none, .ldR 10 3 0 (some 5), none, 0⟩,
  ⟨none, .call 11 55 [(.t 10)], none, 0⟩,
  ⟨none, .mv 8 (.t 11), none, 0⟩]
def c52r2 : List SI := [
  ⟨none, .mv 12 (.t 8), none, 0⟩,
  ⟨none, .bin 13 .neq (.t 12) (.i 0), none, 0⟩]
def c52r3 : List SI := [
  ⟨none, .mv 14 (.t 8), none, 0⟩,
  ⟨none, .mv 6 (.v (.slice none 0 0)), none, 0⟩,
  ⟨none, .mv 7 (.t 14), none, 0⟩]
def c52r4 : List SI := [
  ⟨none, .mv 15 (.t 1), none, 0⟩,
  ⟨none, .call 16 70 [(.t 15)], none, 0⟩,
  ⟨none, .un 17 .not (.t 16), none, 0⟩,
  ⟨none, .mv 18 (.t 17), none, 0⟩,
  ⟨some (18, false), .mv 19 (.t 2), none, 19⟩,
  ⟨some (18, false), .call 20 70 [(.t 19)], none, 20⟩,
  ⟨some (18, false), .un 21 .not (.t 20), none, 21⟩,
  ⟨none, .pick 22 (.t 18) (.b true) (.t 21), none, 0⟩]
def c52r5 : List SI := [
  ⟨none, .mv 6 (.v (.slice none 0 0)), none, 0⟩,
  ⟨none, .mv 7 (.i 1), none, 0⟩]
def c52r6 : List SI := [
  ⟨none, .nop, (some 3), 0⟩,
  ⟨none, .ldR 24 3 0 none, none, 0⟩,
  ⟨none, .mv 25 (.t 1), none, 0⟩,
  ⟨none, .bin 26 .sub (.t 24) (.t 25), none, 0⟩,
  ⟨none, .call 27 51 [(.v (.slice none 0 0)), (.t 26)], none, 0⟩,
  ⟨none, .mv 9 (.t 27), none, 0⟩]
def c52r7 : List SI := [
  ⟨none, .mv 28 (.t 9), none, 0⟩,
  ⟨none, .nop, (some 3), 0⟩,
  ⟨none, .ldR 30 3 4 none, none, 0⟩,
  ⟨none, .mv 31 (.t 2), none, 0⟩,
  ⟨none, .bin 32 .sub (.t 30) (.t 31), none, 0⟩,
  ⟨none, .call 33 51 [(.t 28), (.t 32)], none, 0⟩,
  ⟨none, .mv 9 (.t 33), none, 0⟩]
def c52r8 : List SI := [
  ⟨none, .nop, (some 3), 0⟩,
  ⟨none, .ldR 35 3 3 none, none, 0⟩]
def c52r9 : List SI := [
  ⟨none, .mv 36 (.t 9), none, 0⟩,
  ⟨none, .bls 37 5 1 1 [(.int .u8 0)] [(0, 1, (.v (.int .u8 1)))], none, 0⟩,
  ⟨none, .app 38 (.t 36) (.t 37) 5 1 1, none, 0⟩,
  ⟨none, .mv 9 (.t 38), none, 0⟩]
def c52r10 : List SI := [
  ⟨none, .mv 39 (.t 9), none, 0⟩,
  ⟨none, .bls 40 5 1 1 [(.int .u8 0)] [(0, 1, (.v (.int .u8 0)))], none, 0⟩,
  ⟨none, .app 41 (.t 39) (.t 40) 5 1 1, none, 0⟩,
  ⟨none, .mv 9 (.t 41), none, 0⟩]
def c52r11 : List SI := [
  ⟨none, .mv 42 (.t 9), none, 0⟩,
  ⟨none, .nop, (some 3), 0⟩,
  ⟨none, .ldR 44 3 1 none, none, 0⟩,
  ⟨none, .call 45 71 [(.t 42), (.t 44)], none, 0⟩,
  ⟨none, .mv 9 (.t 45), none, 0⟩]
def c52r12 : List SI := [
  ⟨none, .mv 46 (.t 9), none, 0⟩,
  ⟨none, .nop, (some 3), 0⟩,
  ⟨none, .ldR 48 3 2 none, none, 0⟩,
  ⟨none, .call 49 71 [(.t 46), (.t 48)], none, 0⟩,
  ⟨none, .mv 6 (.t 49), none, 0⟩,
  ⟨none, .mv 7 (.i 0), none, 0⟩]
def c52 : SC :=
  (.seq (.reg false c52r0)
  (.seq (.reg false c52r1)
  (.seq (.seq (.reg false c52r2)
  (.cond (.t 13)
   (.seq (.reg false c52r3)
   .ret)
   .skip))
  (.seq (.seq (.reg false c52r4)
  (.cond (.t 22)
   (.seq (.reg false c52r5)
   .ret)
   .skip))
  (.seq (.reg false c52r6)
  (.seq (.reg false c52r7)
  (.seq (.seq (.reg false c52r8)
  (.cond (.t 35)
   (.reg false c52r9)
   (.reg false c52r10)))
  (.seq (.reg false c52r11)
  (.seq (.reg false c52r12)
  .ret)))))))))
def v52 : List Nat × List Nat := ([3], [3, 23, 29, 34, 43, 47])
def o52 : List RS := [.t 6, .t 7]
theorem s52 : slimC Try.prog Try.f52.ntmps v52.1 v52.2 ((Try.f52.body).getD .skip) = some c52 := by kernel_rfl
theorem q52 : slimR Try.prog Try.f52.ntmps v52.1 v52.2 Try.f52.results.toList = some o52 := by kernel_rfl
-- watermeet/watermeetref02.Seal N=10
def c53r0 : List SI := [
  ⟨none, .mv 2 (.v (.slice none 0 0)), none, 0⟩]
def c53r1 : List SI := [
  ⟨none, .bl0 3, none, 0⟩,
  ⟨none, .mv 4 (.t 0), none, 0⟩,
  ⟨none, .app 5 (.t 3) (.t 4) 5 1 1, none, 0⟩,
  ⟨none, .mv 6 (.t 0), none, 0⟩,
  ⟨none, .call 7 64 [(.t 6)], none, 0⟩,
  ⟨none, .call 8 63 [(.t 7)], none, 0⟩,
  ⟨none, .app 9 (.t 5) (.t 8) 5 1 1, none, 0⟩,
  ⟨none, .mv 2 (.t 9), none, 0⟩]
def c53 : SC :=
  (.seq (.reg false c53r0)
  (.seq (.reg false c53r1)
  .ret))
def v53 : List Nat × List Nat := ([], [])
def o53 : List RS := [.t 2]
theorem s53 : slimC Try.prog Try.f53.ntmps v53.1 v53.2 ((Try.f53.body).getD .skip) = some c53 := by kernel_rfl
theorem q53 : slimR Try.prog Try.f53.ntmps v53.1 v53.2 Try.f53.results.toList = some o53 := by kernel_rfl
-- watermeet/watermeetref01.Put N=41
def c54r0 : List SI := [
  ⟨none, .mv 6 (.v (.slice none 0 0)), none, 0⟩]
def c54r1 : List SI := [
  ⟨none, .mv 10 (.t 0), none, 0⟩,
  ⟨none, .call 11 26 [(.t 10)], none, 0⟩,
  ⟨none, .mv 7 (.t 11), none, 0⟩]
def c54r2 : List SI := [
  ⟨none, .mv 12 (.t 2), none, 0⟩,
  ⟨none, .bin 13 .lss (.t 12) (.i 1), none, 0⟩,
  ⟨none, .mv 14 (.t 13), none, 0⟩,
  ⟨some (14, false), .mv 15 (.t 2), none, 15⟩,
  ⟨some (14, false), .bin 16 .gtr (.t 15) (.i 8), none, 16⟩,
  ⟨none, .pick 17 (.t 14) (.b true) (.t 16), none, 0⟩]
def c54r3 : List SI := [
  ⟨none, .mv 18 (.t 7), none, 0⟩,
  ⟨none, .mv 6 (.t 18), none, 0⟩]
def c54r4 : List SI := [
  ⟨none, .mv 19 (.t 2), none, 0⟩,
  ⟨none, .mv 20 (.i 0), none, 0⟩]
def c54r5 : List SI := [
  ⟨none, .bin 21 .lss (.t 20) (.t 19), none, 0⟩]
def c54r6 : List SI := [
  ⟨none, .mv 22 (.t 20), none, 0⟩,
  ⟨none, .mv 8 (.t 22), none, 0⟩]
def c54r7 : List SI := [
  ⟨none, .mv 23 (.t 1), none, 0⟩,
  ⟨none, .mv 9 (.t 23), none, 0⟩]
def c54r8 : List SI := [
  ⟨none, .mv 24 (.t 2), none, 0⟩,
  ⟨none, .bin 25 .sub (.t 24) (.i 1), none, 0⟩,
  ⟨none, .mv 26 (.t 8), none, 0⟩,
  ⟨none, .bin 27 .sub (.t 25) (.t 26), none, 0⟩,
  ⟨none, .mv 28 (.i 0), none, 0⟩]
def c54r9 : List SI := [
  ⟨none, .bin 29 .lss (.t 28) (.t 27), none, 0⟩]
def c54r10 : List SI := [
  ⟨none, .mv 30 (.t 9), none, 0⟩,
  ⟨none, .bin 31 .quo (.t 30) (.v (.int .u64 256)), none, 0⟩,
  ⟨none, .mv 9 (.t 31), none, 0⟩]
def c54r11 : List SI := [
  ⟨none, .bin 32 .add (.t 28) (.i 1), none, 0⟩,
  ⟨none, .mv 28 (.t 32), none, 0⟩]
def c54r12 : List SI := [
  ⟨none, .mv 33 (.t 7), none, 0⟩,
  ⟨none, .mv 34 (.t 9), none, 0⟩,
  ⟨none, .bin 35 .rem (.t 34) (.v (.int .u64 256)), none, 0⟩,
  ⟨none, .cvI 36 .u8 (.t 35), none, 0⟩,
  ⟨none, .bls 37 5 1 1 [(.int .u8 0)] [(0, 1, (.t 36))], none, 0⟩,
  ⟨none, .app 38 (.t 33) (.t 37) 5 1 1, none, 0⟩,
  ⟨none, .mv 7 (.t 38), none, 0⟩]
def c54r13 : List SI := [
  ⟨none, .bin 39 .add (.t 20) (.i 1), none, 0⟩,
  ⟨none, .mv 20 (.t 39), none, 0⟩]
def c54r14 : List SI := [
  ⟨none, .mv 40 (.t 7), none, 0⟩,
  ⟨none, .mv 6 (.t 40), none, 0⟩]
def c54 : SC :=
  (.seq (.reg false c54r0)
  (.seq (.reg false c54r1)
  (.seq (.seq (.reg false c54r2)
  (.cond (.t 17)
   (.seq (.reg false c54r3)
   .ret)
   .skip))
  (.seq (.seq (.reg false c54r4)
  (.blk 0 (.loop (.seq (.reg false c54r5)
    (.seq (.cond (.t 21)
     .skip
     (.exit 0))
    (.seq (.blk 1 (.seq (.reg false c54r6)
     (.seq (.reg false c54r7)
     (.seq (.seq (.reg false c54r8)
     (.blk 2 (.loop (.seq (.reg false c54r9)
       (.seq (.cond (.t 29)
        .skip
        (.exit 2))
       (.seq (.blk 3 (.reg false c54r10))
       (.reg false c54r11)))))))
     (.reg false c54r12)))))
    (.reg false c54r13)))))))
  (.seq (.reg false c54r14)
  .ret)))))
def v54 : List Nat × List Nat := ([], [])
def o54 : List RS := [.t 6]
theorem s54 : slimC Try.prog Try.f54.ntmps v54.1 v54.2 ((Try.f54.body).getD .skip) = some c54 := by kernel_rfl
theorem q54 : slimR Try.prog Try.f54.ntmps v54.1 v54.2 Try.f54.results.toList = some o54 := by kernel_rfl
-- watermeet/watermeetref03.Check N=39
def c55r0 : List SI := [
  ⟨none, .bxR 1 (.t 0), none, 0⟩,
  ⟨none, .mv 2 (.i 0), none, 0⟩]
def c55r1 : List SI := [
  ⟨none, .nop, (some 1), 0⟩,
  ⟨none, .ldR 4 1 0 none, none, 0⟩,
  ⟨none, .call 5 70 [(.t 4)], none, 0⟩,
  ⟨none, .un 6 .not (.t 5), none, 0⟩,
  ⟨none, .mv 7 (.t 6), none, 0⟩,
  ⟨some (7, false), .nop, (some 1), 99999⟩,
  ⟨some (7, false), .ldR 9 1 4 none, none, 9⟩,
  ⟨some (7, false), .call 10 70 [(.t 9)], none, 10⟩,
  ⟨some (7, false), .un 11 .not (.t 10), none, 11⟩,
  ⟨none, .pick 12 (.t 7) (.b true) (.t 11), none, 0⟩,
  ⟨none, .mv 13 (.t 12), none, 0⟩,
  ⟨some (13, false), .nop, (some 1), 99999⟩,
  ⟨some (13, false), .ldR 15 1 1 none, none, 15⟩,
  ⟨some (13, false), .len 16 true (.t 15), none, 16⟩,
  ⟨some (13, false), .bin 17 .gtr (.t 16) (.i 64), none, 17⟩,
  ⟨none, .pick 18 (.t 13) (.b true) (.t 17), none, 0⟩,
  ⟨none, .mv 19 (.t 18), none, 0⟩,
  ⟨some (19, false), .nop, (some 1), 99999⟩,
  ⟨some (19, false), .ldR 21 1 2 none, none, 21⟩,
  ⟨some (19, false), .len 22 true (.t 21), none, 22⟩,
  ⟨some (19, false), .bin 23 .gtr (.t 22) (.i 64), none, 23⟩,
  ⟨none, .pick 24 (.t 19) (.b true) (.t 23), none, 0⟩,
  ⟨none, .mv 25 (.t 24), none, 0⟩,
  ⟨some (25, false), .nop, (some 1), 99999⟩,
  ⟨some (25, false), .ldR 27 1 3 none, none, 27⟩,
  ⟨some (25, false), .mv 28 (.t 27), none, 28⟩,
  ⟨some (28, true), .nop, (some 1), 99999⟩,
  ⟨some (28, true), .ldR 30 1 1 none, none, 30⟩,
  ⟨some (28, true), .bin 31 .eql (.t 30) (.v (.string ⟨#[]⟩)), none, 31⟩,
  ⟨some (28, true), .mv 32 (.t 31), none, 32⟩,
  ⟨some (32, false), .nop, (some 1), 99999⟩,
  ⟨some (32, false), .ldR 34 1 2 none, none, 34⟩,
  ⟨some (32, false), .bin 35 .neq (.t 34) (.v (.string ⟨#[]⟩)), none, 35⟩,
  ⟨some (28, true), .pick 36 (.t 32) (.b true) (.t 35), none, 36⟩,
  ⟨some (25, false), .pick 37 (.t 28) (.t 36) (.b false), none, 37⟩,
  ⟨none, .pick 38 (.t 25) (.b true) (.t 37), none, 0⟩]
def c55r2 : List SI := [
  ⟨none, .mv 2 (.i 1), none, 0⟩]
def c55r3 : List SI := [
  ⟨none, .mv 2 (.i 0), none, 0⟩]
def c55 : SC :=
  (.seq (.reg false c55r0)
  (.seq (.seq (.reg false c55r1)
  (.cond (.t 38)
   (.seq (.reg false c55r2)
   .ret)
   .skip))
  (.seq (.reg false c55r3)
  .ret)))
def v55 : List Nat × List Nat := ([1], [1, 3, 8, 14, 20, 26, 29, 33])
def o55 : List RS := [.t 2]
theorem s55 : slimC Try.prog Try.f55.ntmps v55.1 v55.2 ((Try.f55.body).getD .skip) = some c55 := by kernel_rfl
theorem q55 : slimR Try.prog Try.f55.ntmps v55.1 v55.2 Try.f55.results.toList = some o55 := by kernel_rfl
-- slices.Min[[]int,int] N=25
def c56r0 : List SI := [
  ⟨none, .mv 2 (.i 0), none, 0⟩]
def c56r1 : List SI := [
  ⟨none, .mv 5 (.t 0), none, 0⟩,
  ⟨none, .len 6 false (.t 5), none, 0⟩,
  ⟨none, .bin 7 .lss (.t 6) (.i 1), none, 0⟩]
def c56r2 : List SI := [
  ⟨none, .mv 9 (.t 0), none, 0⟩,
  ⟨none, .ixA 10 (.t 9) (.i 0) 1, none, 0⟩,
  ⟨none, .ld 11 (.t 10) none, none, 0⟩,
  ⟨none, .mv 3 (.t 11), none, 0⟩]
def c56r3 : List SI := [
  ⟨none, .mv 4 (.i 1), none, 0⟩]
def c56r4 : List SI := [
  ⟨none, .mv 12 (.t 4), none, 0⟩,
  ⟨none, .mv 13 (.t 0), none, 0⟩,
  ⟨none, .len 14 false (.t 13), none, 0⟩,
  ⟨none, .bin 15 .lss (.t 12) (.t 14), none, 0⟩]
def c56r5 : List SI := [
  ⟨none, .mv 18 (.t 3), none, 0⟩,
  ⟨none, .mv 19 (.t 0), none, 0⟩,
  ⟨none, .mv 20 (.t 4), none, 0⟩,
  ⟨none, .ixA 21 (.t 19) (.t 20) 1, none, 0⟩,
  ⟨none, .ld 22 (.t 21) none, none, 0⟩,
  ⟨none, .mm 23 false (.t 18) (.t 22), none, 0⟩,
  ⟨none, .mv 3 (.t 23), none, 0⟩]
def c56r6 : List SI := [
  ⟨none, .mv 16 (.t 4), none, 0⟩,
  ⟨none, .bin 17 .add (.t 16) (.i 1), none, 0⟩,
  ⟨none, .mv 4 (.t 17), none, 0⟩]
def c56r7 : List SI := [
  ⟨none, .mv 24 (.t 3), none, 0⟩,
  ⟨none, .mv 2 (.t 24), none, 0⟩]
def c56 : SC :=
  (.seq (.reg false c56r0)
  (.seq (.seq (.reg false c56r1)
  (.cond (.t 7)
   .dead
   .skip))
  (.seq (.reg false c56r2)
  (.seq (.seq (.reg false c56r3)
  (.blk 0 (.loop (.seq (.seq (.reg false c56r4)
    (.cond (.t 15)
     .skip
     (.exit 0)))
    (.seq (.blk 1 (.reg false c56r5))
    (.reg false c56r6))))))
  (.seq (.reg false c56r7)
  .ret)))))
def v56 : List Nat × List Nat := ([], [])
def o56 : List RS := [.t 2]
theorem s56 : slimC Try.prog Try.f56.ntmps v56.1 v56.2 ((Try.f56.body).getD .skip) = some c56 := by kernel_rfl
theorem q56 : slimR Try.prog Try.f56.ntmps v56.1 v56.2 Try.f56.results.toList = some o56 := by kernel_rfl
-- slices.Max[[]int,int] N=25
def c57r0 : List SI := [
  ⟨none, .mv 2 (.i 0), none, 0⟩]
def c57r1 : List SI := [
  ⟨none, .mv 5 (.t 0), none, 0⟩,
  ⟨none, .len 6 false (.t 5), none, 0⟩,
  ⟨none, .bin 7 .lss (.t 6) (.i 1), none, 0⟩]
def c57r2 : List SI := [
  ⟨none, .mv 9 (.t 0), none, 0⟩,
  ⟨none, .ixA 10 (.t 9) (.i 0) 1, none, 0⟩,
  ⟨none, .ld 11 (.t 10) none, none, 0⟩,
  ⟨none, .mv 3 (.t 11), none, 0⟩]
def c57r3 : List SI := [
  ⟨none, .mv 4 (.i 1), none, 0⟩]
def c57r4 : List SI := [
  ⟨none, .mv 12 (.t 4), none, 0⟩,
  ⟨none, .mv 13 (.t 0), none, 0⟩,
  ⟨none, .len 14 false (.t 13), none, 0⟩,
  ⟨none, .bin 15 .lss (.t 12) (.t 14), none, 0⟩]
def c57r5 : List SI := [
  ⟨none, .mv 18 (.t 3), none, 0⟩,
  ⟨none, .mv 19 (.t 0), none, 0⟩,
  ⟨none, .mv 20 (.t 4), none, 0⟩,
  ⟨none, .ixA 21 (.t 19) (.t 20) 1, none, 0⟩,
  ⟨none, .ld 22 (.t 21) none, none, 0⟩,
  ⟨none, .mm 23 true (.t 18) (.t 22), none, 0⟩,
  ⟨none, .mv 3 (.t 23), none, 0⟩]
def c57r6 : List SI := [
  ⟨none, .mv 16 (.t 4), none, 0⟩,
  ⟨none, .bin 17 .add (.t 16) (.i 1), none, 0⟩,
  ⟨none, .mv 4 (.t 17), none, 0⟩]
def c57r7 : List SI := [
  ⟨none, .mv 24 (.t 3), none, 0⟩,
  ⟨none, .mv 2 (.t 24), none, 0⟩]
def c57 : SC :=
  (.seq (.reg false c57r0)
  (.seq (.seq (.reg false c57r1)
  (.cond (.t 7)
   .dead
   .skip))
  (.seq (.reg false c57r2)
  (.seq (.seq (.reg false c57r3)
  (.blk 0 (.loop (.seq (.seq (.reg false c57r4)
    (.cond (.t 15)
     .skip
     (.exit 0)))
    (.seq (.blk 1 (.reg false c57r5))
    (.reg false c57r6))))))
  (.seq (.reg false c57r7)
  .ret)))))
def v57 : List Nat × List Nat := ([], [])
def o57 : List RS := [.t 2]
theorem s57 : slimC Try.prog Try.f57.ntmps v57.1 v57.2 ((Try.f57.body).getD .skip) = some c57 := by kernel_rfl
theorem q57 : slimR Try.prog Try.f57.ntmps v57.1 v57.2 Try.f57.results.toList = some o57 := by kernel_rfl
-- watermeet/octet.from N=11
def c58r0 : List SI := [
  ⟨none, .mv 4 (.v (.slice none 0 0)), none, 0⟩]
def c58r1 : List SI := [
  ⟨none, .mv 5 (.t 0), none, 0⟩,
  ⟨none, .mv 6 (.t 1), none, 0⟩,
  ⟨none, .mv 7 (.t 0), none, 0⟩,
  ⟨none, .len 8 false (.t 7), none, 0⟩,
  ⟨none, .mm 9 false (.t 6) (.t 8), none, 0⟩,
  ⟨none, .sl 10 (.t 5) (some (.t 9)) none none 1, none, 0⟩,
  ⟨none, .mv 4 (.t 10), none, 0⟩]
def c58 : SC :=
  (.seq (.reg false c58r0)
  (.seq (.reg false c58r1)
  .ret))
def v58 : List Nat × List Nat := ([], [])
def o58 : List RS := [.t 4]
theorem s58 : slimC Try.prog Try.f58.ntmps v58.1 v58.2 ((Try.f58.body).getD .skip) = some c58 := by kernel_rfl
theorem q58 : slimR Try.prog Try.f58.ntmps v58.1 v58.2 Try.f58.results.toList = some o58 := by kernel_rfl
-- watermeet/crc.Sum N=21
def c59r0 : List SI := [
  ⟨none, .mv 2 (.v (.int .u32 0)), none, 0⟩]
def c59r1 : List SI := [
  ⟨none, .call 7 72 [], none, 0⟩,
  ⟨none, .mv 3 (.t 7), none, 0⟩]
def c59r2 : List SI := [
  ⟨none, .mv 4 (.v (.int .u32 4294967295)), none, 0⟩]
def c59r3 : List SI := [
  ⟨none, .mv 8 (.t 0), none, 0⟩,
  ⟨none, .len 9 false (.t 8), none, 0⟩,
  ⟨none, .mv 10 (.i 0), none, 0⟩]
def c59r4 : List SI := [
  ⟨none, .bin 11 .lss (.t 10) (.t 9), none, 0⟩]
def c59r5 : List SI := [
  ⟨none, .ixA 12 (.t 8) (.t 10) 1, none, 0⟩,
  ⟨none, .ld 13 (.t 12) none, none, 0⟩,
  ⟨none, .mv 6 (.t 13), none, 0⟩]
def c59r6 : List SI := [
  ⟨none, .mv 14 (.t 3), none, 0⟩,
  ⟨none, .mv 15 (.t 4), none, 0⟩,
  ⟨none, .mv 16 (.t 6), none, 0⟩,
  ⟨none, .cav 17 (.t 14) [(.t 15), (.t 16)], none, 0⟩,
  ⟨none, .mv 4 (.t 17), none, 0⟩]
def c59r7 : List SI := [
  ⟨none, .bin 18 .add (.t 10) (.i 1), none, 0⟩,
  ⟨none, .mv 10 (.t 18), none, 0⟩]
def c59r8 : List SI := [
  ⟨none, .mv 19 (.t 4), none, 0⟩,
  ⟨none, .un 20 .xor (.t 19), none, 0⟩,
  ⟨none, .mv 2 (.t 20), none, 0⟩]
def c59 : SC :=
  (.seq (.reg false c59r0)
  (.seq (.reg false c59r1)
  (.seq (.reg false c59r2)
  (.seq (.seq (.reg false c59r3)
  (.blk 0 (.loop (.seq (.reg false c59r4)
    (.seq (.cond (.t 11)
     .skip
     (.exit 0))
    (.seq (.blk 1 (.seq (.reg false c59r5)
     (.reg false c59r6)))
    (.reg false c59r7)))))))
  (.seq (.reg false c59r8)
  .ret)))))
def v59 : List Nat × List Nat := ([], [])
def o59 : List RS := [.t 2]
theorem s59 : slimC Try.prog Try.f59.ntmps v59.1 v59.2 ((Try.f59.body).getD .skip) = some c59 := by kernel_rfl
theorem q59 : slimR Try.prog Try.f59.ntmps v59.1 v59.2 Try.f59.results.toList = some o59 := by kernel_rfl
-- watermeet/batch.parse$1 N=18
def c60r0 : List SI := [
  ⟨none, .mv 3 (.i 0), none, 0⟩]
def c60r1 : List SI := [
  ⟨none, .ld 8 (.t 0) none, none, 0⟩,
  ⟨none, .ld 9 (.t 1) none, none, 0⟩,
  ⟨none, .call 10 61 [(.t 8), (.t 9)], none, 0⟩,
  ⟨none, .mv 7 (.t 10), none, 0⟩,
  ⟨none, .ext 11 (.t 7) 0, none, 0⟩,
  ⟨none, .ext 12 (.t 7) 1, none, 0⟩,
  ⟨none, .ext 13 (.t 7) 2, none, 0⟩,
  ⟨none, .mv 4 (.t 11), none, 0⟩,
  ⟨none, .mv 5 (.t 12), none, 0⟩,
  ⟨none, .mv 6 (.t 13), none, 0⟩]
def c60r2 : List SI := [
  ⟨none, .mv 14 (.t 6), none, 0⟩,
  ⟨none, .bin 15 .neq (.t 14) (.i 0), none, 0⟩]
def c60r3 : List SI := [
  ⟨none, .st (.t 2) 1 (.b false), none, 0⟩]
def c60r4 : List SI := [
  ⟨none, .mv 3 (.i 0), none, 0⟩]
def c60r5 : List SI := [
  ⟨none, .mv 16 (.t 5), none, 0⟩,
  ⟨none, .st (.t 1) 1 (.t 16), none, 0⟩]
def c60r6 : List SI := [
  ⟨none, .mv 17 (.t 4), none, 0⟩,
  ⟨none, .mv 3 (.t 17), none, 0⟩]
def c60 : SC :=
  (.seq (.reg false c60r0)
  (.seq (.reg false c60r1)
  (.seq (.seq (.reg false c60r2)
  (.cond (.t 15)
   (.seq (.reg false c60r3)
   (.seq (.reg false c60r4)
   .ret))
   .skip))
  (.seq (.reg false c60r5)
  (.seq (.reg false c60r6)
  .ret)))))
def v60 : List Nat × List Nat := ([], [])
def o60 : List RS := [.t 3]
theorem s60 : slimC Try.prog Try.f60.ntmps v60.1 v60.2 ((Try.f60.body).getD .skip) = some c60 := by kernel_rfl
theorem q60 : slimR Try.prog Try.f60.ntmps v60.1 v60.2 Try.f60.results.toList = some o60 := by kernel_rfl
-- watermeet/octet.GetVar N=58
def c61r0 : List SI := [
  ⟨none, .mv 4 (.i 0), none, 0⟩,
  ⟨none, .mv 5 (.i 0), none, 0⟩,
  ⟨none, .mv 6 (.i 0), none, 0⟩]
def c61r1 : List SI := [
  ⟨none, .mv 10 (.t 1), none, 0⟩,
  ⟨none, .bin 11 .lss (.t 10) (.i 0), none, 0⟩]
def c61r2 : List SI := [
  ⟨none, .mv 4 (.i 0), none, 0⟩,
  ⟨none, .mv 5 (.i 0), none, 0⟩,
  ⟨none, .mv 6 (.i 1), none, 0⟩]
def c61r3 : List SI := [
  ⟨none, .mv 7 (.v (.int .u64 0)), none, 0⟩]
def c61r4 : List SI := [
  ⟨none, .mv 12 (.t 0), none, 0⟩,
  ⟨none, .mv 13 (.t 1), none, 0⟩,
  ⟨none, .call 14 58 [(.t 12), (.t 13)], none, 0⟩,
  ⟨none, .len 15 false (.t 14), none, 0⟩,
  ⟨none, .mv 16 (.i 0), none, 0⟩]
def c61r5 : List SI := [
  ⟨none, .bin 17 .lss (.t 16) (.t 15), none, 0⟩]
def c61r6 : List SI := [
  ⟨none, .mv 18 (.t 16), none, 0⟩,
  ⟨none, .ixA 19 (.t 14) (.t 16) 1, none, 0⟩,
  ⟨none, .ld 20 (.t 19) none, none, 0⟩,
  ⟨none, .mv 8 (.t 18), none, 0⟩,
  ⟨none, .mv 9 (.t 20), none, 0⟩]
def c61r7 : List SI := [
  ⟨none, .mv 21 (.t 8), none, 0⟩,
  ⟨none, .bin 22 .eql (.t 21) (.i 9), none, 0⟩,
  ⟨none, .mv 23 (.t 22), none, 0⟩,
  ⟨some (23, true), .mv 24 (.t 9), none, 24⟩,
  ⟨some (23, true), .bin 25 .gtr (.t 24) (.v (.int .u8 1)), none, 25⟩,
  ⟨none, .pick 26 (.t 23) (.t 25) (.b false), none, 0⟩,
  ⟨none, .mv 27 (.t 26), none, 0⟩,
  ⟨some (27, false), .mv 28 (.t 8), none, 28⟩,
  ⟨some (27, false), .bin 29 .gtr (.t 28) (.i 0), none, 29⟩,
  ⟨some (27, false), .mv 30 (.t 29), none, 30⟩,
  ⟨some (30, true), .mv 31 (.t 9), none, 31⟩,
  ⟨some (30, true), .bin 32 .eql (.t 31) (.v (.int .u8 0)), none, 32⟩,
  ⟨some (27, false), .pick 33 (.t 30) (.t 32) (.b false), none, 33⟩,
  ⟨none, .pick 34 (.t 27) (.b true) (.t 33), none, 0⟩]
def c61r8 : List SI := [
  ⟨none, .mv 4 (.i 0), none, 0⟩,
  ⟨none, .mv 5 (.i 0), none, 0⟩,
  ⟨none, .mv 6 (.i 11), none, 0⟩]
def c61r9 : List SI := [
  ⟨none, .mv 35 (.t 7), none, 0⟩,
  ⟨none, .mv 36 (.t 9), none, 0⟩,
  ⟨none, .bin 37 .and (.t 36) (.v (.int .u8 127)), none, 0⟩,
  ⟨none, .cvI 38 .u64 (.t 37), none, 0⟩,
  ⟨none, .mv 39 (.t 8), none, 0⟩,
  ⟨none, .bin 40 .mul (.i 7) (.t 39), none, 0⟩,
  ⟨none, .bin 41 .shl (.t 38) (.t 40), none, 0⟩,
  ⟨none, .bin 42 .or (.t 35) (.t 41), none, 0⟩,
  ⟨none, .mv 7 (.t 42), none, 0⟩]
def c61r10 : List SI := [
  ⟨none, .mv 43 (.t 9), none, 0⟩,
  ⟨none, .bin 44 .lss (.t 43) (.v (.int .u8 128)), none, 0⟩]
def c61r11 : List SI := [
  ⟨none, .mv 45 (.t 7), none, 0⟩,
  ⟨none, .bin 46 .shr (.t 45) (.v (.int .u64 1)), none, 0⟩,
  ⟨none, .cvI 47 .i64 (.t 46), none, 0⟩,
  ⟨none, .mv 48 (.t 7), none, 0⟩,
  ⟨none, .bin 49 .and (.t 48) (.v (.int .u64 1)), none, 0⟩,
  ⟨none, .cvI 50 .i64 (.t 49), none, 0⟩,
  ⟨none, .un 51 .neg (.t 50), none, 0⟩,
  ⟨none, .bin 52 .xor (.t 47) (.t 51), none, 0⟩,
  ⟨none, .mv 53 (.t 1), none, 0⟩,
  ⟨none, .mv 54 (.t 8), none, 0⟩,
  ⟨none, .bin 55 .add (.t 53) (.t 54), none, 0⟩,
  ⟨none, .bin 56 .add (.t 55) (.i 1), none, 0⟩,
  ⟨none, .mv 4 (.t 52), none, 0⟩,
  ⟨none, .mv 5 (.t 56), none, 0⟩,
  ⟨none, .mv 6 (.i 0), none, 0⟩]
def c61r12 : List SI := [
  ⟨none, .bin 57 .add (.t 16) (.i 1), none, 0⟩,
  ⟨none, .mv 16 (.t 57), none, 0⟩]
def c61r13 : List SI := [
  ⟨none, .mv 4 (.i 0), none, 0⟩,
  ⟨none, .mv 5 (.i 0), none, 0⟩,
  ⟨none, .mv 6 (.i 10), none, 0⟩]
def c61 : SC :=
  (.seq (.reg false c61r0)
  (.seq (.seq (.reg false c61r1)
  (.cond (.t 11)
   (.seq (.reg false c61r2)
   .ret)
   .skip))
  (.seq (.reg false c61r3)
  (.seq (.seq (.reg false c61r4)
  (.blk 0 (.loop (.seq (.reg false c61r5)
    (.seq (.cond (.t 17)
     .skip
     (.exit 0))
    (.seq (.blk 1 (.seq (.reg false c61r6)
     (.seq (.seq (.reg false c61r7)
     (.cond (.t 34)
      (.seq (.reg false c61r8)
      .ret)
      .skip))
     (.seq (.reg false c61r9)
     (.seq (.reg false c61r10)
     (.cond (.t 44)
      (.seq (.reg false c61r11)
      .ret)
      .skip))))))
    (.reg false c61r12)))))))
  (.seq (.reg false c61r13)
  .ret)))))
def v61 : List Nat × List Nat := ([], [])
def o61 : List RS := [.t 4, .t 5, .t 6]
theorem s61 : slimC Try.prog Try.f61.ntmps v61.1 v61.2 ((Try.f61.body).getD .skip) = some c61 := by kernel_rfl
theorem q61 : slimR Try.prog Try.f61.ntmps v61.1 v61.2 Try.f61.results.toList = some o61 := by kernel_rfl
-- watermeet/rec.Get N=82
def c62r0 : List SI := [
  ⟨none, .alR 8 [(.int .i64 0), (.string ⟨#[]⟩), (.string ⟨#[]⟩), (.bool false), (.int .i64 0)], none, 0⟩,
  ⟨none, .mv 9 (.i 0), none, 0⟩,
  ⟨none, .mv 10 (.i 0), none, 0⟩]
def c62r1 : List SI := [
  ⟨none, .mv 13 (.t 2), none, 0⟩,
  ⟨none, .call 14 67 [(.t 13)], none, 0⟩,
  ⟨none, .un 15 .not (.t 14), none, 0⟩,
  ⟨none, .mv 16 (.t 15), none, 0⟩,
  ⟨some (16, false), .mv 17 (.t 3), none, 17⟩,
  ⟨some (16, false), .call 18 67 [(.t 17)], none, 18⟩,
  ⟨some (16, false), .un 19 .not (.t 18), none, 19⟩,
  ⟨none, .pick 20 (.t 16) (.b true) (.t 19), none, 0⟩,
  ⟨none, .mv 21 (.t 20), none, 0⟩,
  ⟨some (21, false), .mv 22 (.t 1), none, 22⟩,
  ⟨some (21, false), .bin 23 .lss (.t 22) (.i 0), none, 23⟩,
  ⟨none, .pick 24 (.t 21) (.b true) (.t 23), none, 0⟩,
  ⟨none, .mv 25 (.t 24), none, 0⟩,
  ⟨some (25, false), .mv 26 (.t 1), none, 26⟩,
  ⟨some (25, false), .mv 27 (.t 0), none, 27⟩,
  ⟨some (25, false), .len 28 false (.t 27), none, 28⟩,
  ⟨some (25, false), .bin 29 .gtr (.t 26) (.t 28), none, 29⟩,
  ⟨none, .pick 30 (.t 25) (.b true) (.t 29), none, 0⟩]
def c62r2 : List SI := [
  ⟨none, .bld 31 [(.int .i64 0), (.string ⟨#[]⟩), (.string ⟨#[]⟩), (.bool false), (.int .i64 0)] [], none, 0⟩,
  ⟨none, .stR 8 0 5 (.t 31), none, 0⟩,
  ⟨none, .mv 9 (.i 0), none, 0⟩,
  ⟨none, .mv 10 (.i 1), none, 0⟩]
def c62r3 : List SI := [
  ⟨none, .mv 32 (.t 0), none, 0⟩,
  ⟨none, .mv 33 (.t 1), none, 0⟩,
  ⟨none, .bld 34 [(.slice none 0 0), (.int .i64 0), (.int .i64 0)] [(0, 1, (.t 32)), (1, 1, (.t 33))], none, 0⟩,
  ⟨none, .bx 35 (.t 34), none, 0⟩,
  ⟨none, .mv 11 (.t 35), none, 0⟩]
def c62r4 : List SI := [
  ⟨none, .mv 12 (.v (.func (.func 73) #[] #[])), none, 0⟩]
def c62r5 : List SI := [
  ⟨none, .mv 36 (.t 2), none, 0⟩,
  ⟨none, .mv 37 (.t 11), none, 0⟩,
  ⟨none, .call 38 76 [(.t 37), (.v (.func (.func 61) #[] #[]))], none, 0⟩,
  ⟨none, .call 39 75 [(.t 36), (.t 38)], none, 0⟩,
  ⟨none, .nop, (some 8), 0⟩,
  ⟨none, .stR 8 0 1 (.t 39), none, 0⟩]
def c62r6 : List SI := [
  ⟨none, .mv 41 (.t 3), none, 0⟩,
  ⟨none, .mv 42 (.t 11), none, 0⟩,
  ⟨none, .call 43 76 [(.t 42), (.v (.func (.func 61) #[] #[]))], none, 0⟩,
  ⟨none, .call 44 75 [(.t 41), (.t 43)], none, 0⟩,
  ⟨none, .nop, (some 8), 0⟩,
  ⟨none, .stR 8 4 1 (.t 44), none, 0⟩]
def c62r7 : List SI := [
  ⟨none, .mv 46 (.t 11), none, 0⟩,
  ⟨none, .call 47 77 [(.t 46), (.v (.func (.func 78) #[] #[]))], none, 0⟩,
  ⟨none, .nop, (some 8), 0⟩,
  ⟨none, .stR 8 3 1 (.t 47), none, 0⟩]
def c62r8 : List SI := [
  ⟨none, .mv 49 (.t 11), none, 0⟩,
  ⟨none, .mv 50 (.t 12), none, 0⟩,
  ⟨none, .call 51 79 [(.t 49), (.t 50)], none, 0⟩,
  ⟨none, .mv 52 (.t 11), none, 0⟩,
  ⟨none, .mv 53 (.t 12), none, 0⟩,
  ⟨none, .call 54 79 [(.t 52), (.t 53)], none, 0⟩,
  ⟨none, .nop, (some 8), 0⟩,
  ⟨none, .stR 8 1 1 (.t 51), none, 0⟩,
  ⟨none, .nop, (some 8), 0⟩,
  ⟨none, .stR 8 2 1 (.t 54), none, 0⟩]
def c62r9 : List SI := [
  ⟨none, .mv 57 (.t 11), none, 0⟩,
  ⟨none, .nck 58 (.t 57), none, 0⟩,
  ⟨none, .flA 59 (.t 58) 2, none, 0⟩,
  ⟨none, .ld 60 (.t 59) none, none, 0⟩,
  ⟨none, .bin 61 .eql (.t 60) (.i 0), none, 0⟩]
def c62r10 : List SI := [
  ⟨none, .mv 62 (.t 11), none, 0⟩,
  ⟨none, .ldR 63 8 0 (some 5), none, 0⟩,
  ⟨none, .call 64 46 [(.t 63)], none, 0⟩,
  ⟨none, .nck 65 (.t 62), none, 0⟩,
  ⟨none, .flA 66 (.t 65) 2, none, 0⟩,
  ⟨none, .st (.t 66) 1 (.t 64), none, 0⟩]
def c62r11 : List SI := [
  ⟨none, .mv 67 (.t 11), none, 0⟩,
  ⟨none, .nck 68 (.t 67), none, 0⟩,
  ⟨none, .flA 69 (.t 68) 2, none, 0⟩,
  ⟨none, .ld 70 (.t 69) none, none, 0⟩,
  ⟨none, .bin 71 .neq (.t 70) (.i 0), none, 0⟩]
def c62r12 : List WI := [
  (true, false, ⟨none, .bld 72 [(.int .i64 0), (.string ⟨#[]⟩), (.string ⟨#[]⟩), (.bool false), (.int .i64 0)] [], none, 0⟩),
  (true, false, ⟨none, .mv 73 (.t 11), none, 0⟩),
  (true, false, ⟨none, .nck 74 (.t 73), none, 0⟩),
  (true, false, ⟨none, .flA 75 (.t 74) 2, none, 0⟩),
  (true, false, ⟨none, .ld 76 (.t 75) none, none, 0⟩),
  (false, false, ⟨none, .stR 8 0 5 (.t 72), none, 0⟩),
  (true, false, ⟨none, .mv 9 (.i 0), none, 0⟩),
  (true, false, ⟨none, .mv 10 (.t 76), none, 0⟩)]
def c62r13 : List WI := [
  (true, false, ⟨none, .ldR 77 8 0 (some 5), none, 0⟩),
  (true, false, ⟨none, .mv 78 (.t 11), none, 0⟩),
  (true, false, ⟨none, .nck 79 (.t 78), none, 0⟩),
  (true, false, ⟨none, .flA 80 (.t 79) 1, none, 0⟩),
  (true, false, ⟨none, .ld 81 (.t 80) none, none, 0⟩),
  (false, false, ⟨none, .stR 8 0 5 (.t 77), none, 0⟩),
  (true, false, ⟨none, .mv 9 (.t 81), none, 0⟩),
  (true, false, ⟨none, .mv 10 (.i 0), none, 0⟩)]
def c62 : SC :=
  (.seq (.reg false c62r0)
  (.seq (.seq (.reg false c62r1)
  (.cond (.t 30)
   (.seq (.reg false c62r2)
   .ret)
   .skip))
  (.seq (.reg false c62r3)
  (.seq (.reg false c62r4)
  (.seq (.reg false c62r5)
  (.seq (.reg false c62r6)
  (.seq (.reg false c62r7)
  (.seq (.reg false c62r8)
  (.seq (.seq (.reg false c62r9)
  (.cond (.t 61)
   (.reg false c62r10)
   .skip))
  (.seq (.seq (.reg false c62r11)
  (.cond (.t 71)
   (.seq (.rgW c62r12)
   .ret)
   .skip))
  (.seq (.rgW c62r13)
  .ret)))))))))))
def v62 : List Nat × List Nat := ([8], [8, 40, 45, 48, 55, 56])
def o62 : List RS := [.r 8 (some 5), .t 9, .t 10]
theorem s62 : slimC Try.prog Try.f62.ntmps v62.1 v62.2 ((Try.f62.body).getD .skip) = some c62 := by kernel_rfl
theorem q62 : slimR Try.prog Try.f62.ntmps v62.1 v62.2 Try.f62.results.toList = some o62 := by kernel_rfl
end Go.Proofs.Ytdiccicokbbcoaa

/- The code of the functions, types resolved, as a program of the prover reads it off the translation; each is held by the kernel. No condition. -/
namespace Go.Proofs.Ytdiccicokbbcoaa
open Go Go.Kx
-- watermeet/watermeetref02.four N=15
def c63r0 : List SI := [
  ⟨none, .mv 2 (.v (.slice none 0 0)), none, 0⟩]
def c63r1 : List SI := [
  ⟨none, .mv 3 (.t 0), none, 0⟩,
  ⟨none, .bin 4 .quo (.t 3) (.v (.int .u32 16777216)), none, 0⟩,
  ⟨none, .cvI 5 .u8 (.t 4), none, 0⟩,
  ⟨none, .mv 6 (.t 0), none, 0⟩,
  ⟨none, .bin 7 .quo (.t 6) (.v (.int .u32 65536)), none, 0⟩,
  ⟨none, .cvI 8 .u8 (.t 7), none, 0⟩,
  ⟨none, .mv 9 (.t 0), none, 0⟩,
  ⟨none, .bin 10 .quo (.t 9) (.v (.int .u32 256)), none, 0⟩,
  ⟨none, .cvI 11 .u8 (.t 10), none, 0⟩,
  ⟨none, .mv 12 (.t 0), none, 0⟩,
  ⟨none, .cvI 13 .u8 (.t 12), none, 0⟩,
  ⟨none, .bls 14 5 4 1 [(.int .u8 0), (.int .u8 0), (.int .u8 0), (.int .u8 0)] [(0, 1, (.t 5)), (1, 1, (.t 8)), (2, 1, (.t 11)), (3, 1, (.t 13))], none, 0⟩,
  ⟨none, .mv 2 (.t 14), none, 0⟩]
def c63 : SC :=
  (.seq (.reg false c63r0)
  (.seq (.reg false c63r1)
  .ret))
def v63 : List Nat × List Nat := ([], [])
def o63 : List RS := [.t 2]
theorem s63 : slimC Try.prog Try.f63.ntmps v63.1 v63.2 ((Try.f63.body).getD .skip) = some c63 := by kernel_rfl
theorem q63 : slimR Try.prog Try.f63.ntmps v63.1 v63.2 Try.f63.results.toList = some o63 := by kernel_rfl
-- watermeet/watermeetref02.Sum N=21
def c64r0 : List SI := [
  ⟨none, .mv 2 (.v (.int .u32 0)), none, 0⟩]
def c64r1 : List SI := [
  ⟨none, .mv 3 (.v (.int .u32 4294967295)), none, 0⟩]
def c64r2 : List SI := [
  ⟨none, .mv 4 (.i 0), none, 0⟩]
def c64r3 : List SI := [
  ⟨none, .mv 5 (.t 4), none, 0⟩,
  ⟨none, .mv 6 (.t 0), none, 0⟩,
  ⟨none, .len 7 false (.t 6), none, 0⟩,
  ⟨none, .bin 8 .lss (.t 5) (.t 7), none, 0⟩]
def c64r4 : List SI := [
  ⟨none, .mv 11 (.t 3), none, 0⟩,
  ⟨none, .mv 12 (.t 0), none, 0⟩,
  ⟨none, .mv 13 (.t 4), none, 0⟩,
  ⟨none, .ixA 14 (.t 12) (.t 13) 1, none, 0⟩,
  ⟨none, .ld 15 (.t 14) none, none, 0⟩,
  ⟨none, .cvI 16 .u32 (.t 15), none, 0⟩,
  ⟨none, .bin 17 .xor (.t 11) (.t 16), none, 0⟩,
  ⟨none, .call 18 80 [(.t 17), (.i 8)], none, 0⟩,
  ⟨none, .mv 3 (.t 18), none, 0⟩]
def c64r5 : List SI := [
  ⟨none, .mv 9 (.t 4), none, 0⟩,
  ⟨none, .bin 10 .add (.t 9) (.i 1), none, 0⟩,
  ⟨none, .mv 4 (.t 10), none, 0⟩]
def c64r6 : List SI := [
  ⟨none, .mv 19 (.t 3), none, 0⟩,
  ⟨none, .bin 20 .xor (.t 19) (.v (.int .u32 4294967295)), none, 0⟩,
  ⟨none, .mv 2 (.t 20), none, 0⟩]
def c64 : SC :=
  (.seq (.reg false c64r0)
  (.seq (.reg false c64r1)
  (.seq (.seq (.reg false c64r2)
  (.blk 0 (.loop (.seq (.seq (.reg false c64r3)
    (.cond (.t 8)
     .skip
     (.exit 0)))
    (.seq (.blk 1 (.reg false c64r4))
    (.reg false c64r5))))))
  (.seq (.reg false c64r6)
  .ret))))
def v64 : List Nat × List Nat := ([], [])
def o64 : List RS := [.t 2]
theorem s64 : slimC Try.prog Try.f64.ntmps v64.1 v64.2 ((Try.f64.body).getD .skip) = some c64 := by kernel_rfl
theorem q64 : slimR Try.prog Try.f64.ntmps v64.1 v64.2 Try.f64.results.toList = some o64 := by kernel_rfl
-- watermeet/watermeetref01.GetVar N=73
def c65r0 : List SI := [
  ⟨none, .mv 4 (.i 0), none, 0⟩,
  ⟨none, .mv 5 (.i 0), none, 0⟩,
  ⟨none, .mv 6 (.i 0), none, 0⟩]
def c65r1 : List SI := [
  ⟨none, .mv 12 (.t 1), none, 0⟩,
  ⟨none, .bin 13 .lss (.t 12) (.i 0), none, 0⟩]
def c65r2 : List SI := [
  ⟨none, .mv 4 (.i 0), none, 0⟩,
  ⟨none, .mv 5 (.i 0), none, 0⟩,
  ⟨none, .mv 6 (.i 1), none, 0⟩]
def c65r3 : List SI := [
  ⟨none, .mv 7 (.v (.int .u64 0)), none, 0⟩]
def c65r4 : List SI := [
  ⟨none, .mv 8 (.v (.int .u64 1)), none, 0⟩]
def c65r5 : List SI := [
  ⟨none, .mv 9 (.i 0), none, 0⟩]
def c65r6 : List SI := [
  ⟨none, .mv 16 (.t 1), none, 0⟩,
  ⟨none, .mv 17 (.t 0), none, 0⟩,
  ⟨none, .len 18 false (.t 17), none, 0⟩,
  ⟨none, .bin 19 .geq (.t 16) (.t 18), none, 0⟩,
  ⟨none, .mv 20 (.t 19), none, 0⟩,
  ⟨some (20, false), .mv 21 (.t 9), none, 21⟩,
  ⟨some (20, false), .mv 22 (.t 0), none, 22⟩,
  ⟨some (20, false), .len 23 false (.t 22), none, 23⟩,
  ⟨some (20, false), .mv 24 (.t 1), none, 24⟩,
  ⟨some (20, false), .bin 25 .sub (.t 23) (.t 24), none, 25⟩,
  ⟨some (20, false), .bin 26 .geq (.t 21) (.t 25), none, 26⟩,
  ⟨none, .pick 27 (.t 20) (.b true) (.t 26), none, 0⟩]
def c65r7 : List SI := [
  ⟨none, .mv 4 (.i 0), none, 0⟩,
  ⟨none, .mv 5 (.i 0), none, 0⟩,
  ⟨none, .mv 6 (.i 10), none, 0⟩]
def c65r8 : List SI := [
  ⟨none, .mv 28 (.t 0), none, 0⟩,
  ⟨none, .mv 29 (.t 1), none, 0⟩,
  ⟨none, .mv 30 (.t 9), none, 0⟩,
  ⟨none, .bin 31 .add (.t 29) (.t 30), none, 0⟩,
  ⟨none, .ixA 32 (.t 28) (.t 31) 1, none, 0⟩,
  ⟨none, .ld 33 (.t 32) none, none, 0⟩,
  ⟨none, .mv 10 (.t 33), none, 0⟩]
def c65r9 : List SI := [
  ⟨none, .mv 34 (.t 9), none, 0⟩,
  ⟨none, .bin 35 .eql (.t 34) (.i 9), none, 0⟩,
  ⟨none, .mv 36 (.t 35), none, 0⟩,
  ⟨some (36, true), .mv 37 (.t 10), none, 37⟩,
  ⟨some (36, true), .bin 38 .gtr (.t 37) (.v (.int .u8 1)), none, 38⟩,
  ⟨none, .pick 39 (.t 36) (.t 38) (.b false), none, 0⟩,
  ⟨none, .mv 40 (.t 39), none, 0⟩,
  ⟨some (40, false), .mv 41 (.t 9), none, 41⟩,
  ⟨some (40, false), .bin 42 .gtr (.t 41) (.i 0), none, 42⟩,
  ⟨some (40, false), .mv 43 (.t 42), none, 43⟩,
  ⟨some (43, true), .mv 44 (.t 10), none, 44⟩,
  ⟨some (43, true), .bin 45 .eql (.t 44) (.v (.int .u8 0)), none, 45⟩,
  ⟨some (40, false), .pick 46 (.t 43) (.t 45) (.b false), none, 46⟩,
  ⟨none, .pick 47 (.t 40) (.b true) (.t 46), none, 0⟩]
def c65r10 : List SI := [
  ⟨none, .mv 4 (.i 0), none, 0⟩,
  ⟨none, .mv 5 (.i 0), none, 0⟩,
  ⟨none, .mv 6 (.i 11), none, 0⟩]
def c65r11 : List SI := [
  ⟨none, .mv 48 (.t 7), none, 0⟩,
  ⟨none, .mv 49 (.t 8), none, 0⟩,
  ⟨none, .mv 50 (.t 10), none, 0⟩,
  ⟨none, .bin 51 .rem (.t 50) (.v (.int .u8 128)), none, 0⟩,
  ⟨none, .cvI 52 .u64 (.t 51), none, 0⟩,
  ⟨none, .bin 53 .mul (.t 49) (.t 52), none, 0⟩,
  ⟨none, .bin 54 .add (.t 48) (.t 53), none, 0⟩,
  ⟨none, .mv 7 (.t 54), none, 0⟩]
def c65r12 : List SI := [
  ⟨none, .mv 55 (.t 8), none, 0⟩,
  ⟨none, .bin 56 .mul (.t 55) (.v (.int .u64 128)), none, 0⟩,
  ⟨none, .mv 8 (.t 56), none, 0⟩]
def c65r13 : List SI := [
  ⟨none, .mv 57 (.t 10), none, 0⟩,
  ⟨none, .bin 58 .lss (.t 57) (.v (.int .u8 128)), none, 0⟩]
def c65r14 : List SI := [
  ⟨none, .mv 59 (.t 7), none, 0⟩,
  ⟨none, .bin 60 .quo (.t 59) (.v (.int .u64 2)), none, 0⟩,
  ⟨none, .cvI 61 .i64 (.t 60), none, 0⟩,
  ⟨none, .mv 11 (.t 61), none, 0⟩]
def c65r15 : List SI := [
  ⟨none, .mv 62 (.t 7), none, 0⟩,
  ⟨none, .bin 63 .rem (.t 62) (.v (.int .u64 2)), none, 0⟩,
  ⟨none, .bin 64 .eql (.t 63) (.v (.int .u64 1)), none, 0⟩]
def c65r16 : List SI := [
  ⟨none, .mv 65 (.t 11), none, 0⟩,
  ⟨none, .un 66 .neg (.t 65), none, 0⟩,
  ⟨none, .bin 67 .sub (.t 66) (.i 1), none, 0⟩,
  ⟨none, .mv 11 (.t 67), none, 0⟩]
def c65r17 : List SI := [
  ⟨none, .mv 68 (.t 11), none, 0⟩,
  ⟨none, .mv 69 (.t 1), none, 0⟩,
  ⟨none, .mv 70 (.t 9), none, 0⟩,
  ⟨none, .bin 71 .add (.t 69) (.t 70), none, 0⟩,
  ⟨none, .bin 72 .add (.t 71) (.i 1), none, 0⟩,
  ⟨none, .mv 4 (.t 68), none, 0⟩,
  ⟨none, .mv 5 (.t 72), none, 0⟩,
  ⟨none, .mv 6 (.i 0), none, 0⟩]
def c65r18 : List SI := [
  ⟨none, .mv 14 (.t 9), none, 0⟩,
  ⟨none, .bin 15 .add (.t 14) (.i 1), none, 0⟩,
  ⟨none, .mv 9 (.t 15), none, 0⟩]
def c65 : SC :=
  (.seq (.reg false c65r0)
  (.seq (.seq (.reg false c65r1)
  (.cond (.t 13)
   (.seq (.reg false c65r2)
   .ret)
   .skip))
  (.seq (.reg false c65r3)
  (.seq (.reg false c65r4)
  (.seq (.reg false c65r5)
  (.blk 0 (.loop (.seq (.blk 1 (.seq (.seq (.reg false c65r6)
     (.cond (.t 27)
      (.seq (.reg false c65r7)
      .ret)
      .skip))
     (.seq (.reg false c65r8)
     (.seq (.seq (.reg false c65r9)
     (.cond (.t 47)
      (.seq (.reg false c65r10)
      .ret)
      .skip))
     (.seq (.reg false c65r11)
     (.seq (.reg false c65r12)
     (.seq (.reg false c65r13)
     (.cond (.t 58)
      (.seq (.reg false c65r14)
      (.seq (.seq (.reg false c65r15)
      (.cond (.t 64)
       (.reg false c65r16)
       .skip))
      (.seq (.reg false c65r17)
      .ret)))
      .skip))))))))
    (.reg false c65r18)))))))))
def v65 : List Nat × List Nat := ([], [])
def o65 : List RS := [.t 4, .t 5, .t 6]
theorem s65 : slimC Try.prog Try.f65.ntmps v65.1 v65.2 ((Try.f65.body).getD .skip) = some c65 := by kernel_rfl
theorem q65 : slimR Try.prog Try.f65.ntmps v65.1 v65.2 Try.f65.results.toList = some o65 := by kernel_rfl
-- watermeet/watermeetref03.Get N=121
def c66r0 : List SI := [
  ⟨none, .alR 8 [(.int .i64 0), (.string ⟨#[]⟩), (.string ⟨#[]⟩), (.bool false), (.int .i64 0)], none, 0⟩,
  ⟨none, .mv 9 (.i 0), none, 0⟩,
  ⟨none, .mv 10 (.i 0), none, 0⟩]
def c66r1 : List SI := [
  ⟨none, .bld 25 [(.int .i64 0), (.string ⟨#[]⟩), (.string ⟨#[]⟩), (.bool false), (.int .i64 0)] [], none, 0⟩,
  ⟨none, .alR 11 [(.int .i64 0), (.string ⟨#[]⟩), (.string ⟨#[]⟩), (.bool false), (.int .i64 0)], none, 0⟩,
  ⟨none, .stR 11 0 5 (.t 25), none, 0⟩]
def c66r2 : List SI := [
  ⟨none, .mv 26 (.t 2), none, 0⟩,
  ⟨none, .call 27 70 [(.t 26)], none, 0⟩,
  ⟨none, .un 28 .not (.t 27), none, 0⟩,
  ⟨none, .mv 29 (.t 28), none, 0⟩,
  ⟨some (29, false), .mv 30 (.t 3), none, 30⟩,
  ⟨some (29, false), .call 31 70 [(.t 30)], none, 31⟩,
  ⟨some (29, false), .un 32 .not (.t 31), none, 32⟩,
  ⟨none, .pick 33 (.t 29) (.b true) (.t 32), none, 0⟩,
  ⟨none, .mv 34 (.t 33), none, 0⟩,
  ⟨some (34, false), .mv 35 (.t 1), none, 35⟩,
  ⟨some (34, false), .bin 36 .lss (.t 35) (.i 0), none, 36⟩,
  ⟨none, .pick 37 (.t 34) (.b true) (.t 36), none, 0⟩,
  ⟨none, .mv 38 (.t 37), none, 0⟩,
  ⟨some (38, false), .mv 39 (.t 1), none, 39⟩,
  ⟨some (38, false), .mv 40 (.t 0), none, 40⟩,
  ⟨some (38, false), .len 41 false (.t 40), none, 41⟩,
  ⟨some (38, false), .bin 42 .gtr (.t 39) (.t 41), none, 42⟩,
  ⟨none, .pick 43 (.t 38) (.b true) (.t 42), none, 0⟩]
def c66r3 : List SI := [
  ⟨none, .ldR 44 11 0 (some 5), none, 0⟩,
  ⟨none, .stR 8 0 5 (.t 44), none, 0⟩,
  ⟨none, .mv 9 (.i 0), none, 0⟩,
  ⟨none, .mv 10 (.i 1), none, 0⟩]
def c66r4 : List SI := [
  ⟨none, .mv 46 (.t 0), none, 0⟩,
  ⟨none, .mv 47 (.t 1), none, 0⟩,
  ⟨none, .call 48 65 [(.t 46), (.t 47)], none, 0⟩,
  ⟨none, .mv 45 (.t 48), none, 0⟩,
  ⟨none, .ext 49 (.t 45) 0, none, 0⟩,
  ⟨none, .ext 50 (.t 45) 1, none, 0⟩,
  ⟨none, .ext 51 (.t 45) 2, none, 0⟩,
  ⟨none, .mv 12 (.t 49), none, 0⟩,
  ⟨none, .mv 13 (.t 50), none, 0⟩,
  ⟨none, .mv 14 (.t 51), none, 0⟩]
def c66r5 : List SI := [
  ⟨none, .mv 52 (.t 14), none, 0⟩,
  ⟨none, .bin 53 .neq (.t 52) (.i 0), none, 0⟩]
def c66r6 : List SI := [
  ⟨none, .ldR 54 11 0 (some 5), none, 0⟩,
  ⟨none, .mv 55 (.t 14), none, 0⟩,
  ⟨none, .stR 8 0 5 (.t 54), none, 0⟩,
  ⟨none, .mv 9 (.i 0), none, 0⟩,
  ⟨none, .mv 10 (.t 55), none, 0⟩]
def c66r7 : List SI := [
  ⟨none, .mv 57 (.t 0), none, 0⟩,
  ⟨none, .mv 58 (.t 13), none, 0⟩,
  ⟨none, .call 59 65 [(.t 57), (.t 58)], none, 0⟩,
  ⟨none, .mv 56 (.t 59), none, 0⟩,
  ⟨none, .ext 60 (.t 56) 0, none, 0⟩,
  ⟨none, .ext 61 (.t 56) 1, none, 0⟩,
  ⟨none, .ext 62 (.t 56) 2, none, 0⟩,
  ⟨none, .mv 15 (.t 60), none, 0⟩,
  ⟨none, .mv 16 (.t 61), none, 0⟩,
  ⟨none, .mv 17 (.t 62), none, 0⟩]
def c66r8 : List SI := [
  ⟨none, .mv 63 (.t 17), none, 0⟩,
  ⟨none, .bin 64 .neq (.t 63) (.i 0), none, 0⟩]
def c66r9 : List SI := [
  ⟨none, .ldR 65 11 0 (some 5), none, 0⟩,
  ⟨none, .mv 66 (.t 17), none, 0⟩,
  ⟨none, .stR 8 0 5 (.t 65), none, 0⟩,
  ⟨none, .mv 9 (.i 0), none, 0⟩,
  ⟨none, .mv 10 (.t 66), none, 0⟩]
def c66r10 : List SI := [
  ⟨none, .mv 67 (.t 16), none, 0⟩,
  ⟨none, .mv 68 (.t 0), none, 0⟩,
  ⟨none, .len 69 false (.t 68), none, 0⟩,
  ⟨none, .bin 70 .geq (.t 67) (.t 69), none, 0⟩]
def c66r11 : List SI := [
  ⟨none, .ldR 71 11 0 (some 5), none, 0⟩,
  ⟨none, .stR 8 0 5 (.t 71), none, 0⟩,
  ⟨none, .mv 9 (.i 0), none, 0⟩,
  ⟨none, .mv 10 (.i 10), none, 0⟩]
def c66r12 : List SI := [
  ⟨none, .mv 72 (.t 0), none, 0⟩,
  ⟨none, .mv 73 (.t 16), none, 0⟩,
  ⟨none, .ixA 74 (.t 72) (.t 73) 1, none, 0⟩,
  ⟨none, .ld 75 (.t 74) none, none, 0⟩,
  ⟨none, .bin 76 .gtr (.t 75) (.v (.int .u8 1)), none, 0⟩]
def c66r13 : List SI := [
  ⟨none, .ldR 77 11 0 (some 5), none, 0⟩,
  ⟨none, .stR 8 0 5 (.t 77), none, 0⟩,
  ⟨none, .mv 9 (.i 0), none, 0⟩,
  ⟨none, .mv 10 (.i 11), none, 0⟩]
def c66r14 : List SI := [
  ⟨none, .mv 79 (.t 0), none, 0⟩,
  ⟨none, .mv 80 (.t 16), none, 0⟩,
  ⟨none, .bin 81 .add (.t 80) (.i 1), none, 0⟩,
  ⟨none, .call 82 81 [(.t 79), (.t 81), (.i 64)], none, 0⟩,
  ⟨none, .mv 78 (.t 82), none, 0⟩,
  ⟨none, .ext 83 (.t 78) 0, none, 0⟩,
  ⟨none, .ext 84 (.t 78) 1, none, 0⟩,
  ⟨none, .ext 85 (.t 78) 2, none, 0⟩,
  ⟨none, .mv 18 (.t 83), none, 0⟩,
  ⟨none, .mv 19 (.t 84), none, 0⟩,
  ⟨none, .mv 20 (.t 85), none, 0⟩]
def c66r15 : List SI := [
  ⟨none, .mv 86 (.t 20), none, 0⟩,
  ⟨none, .bin 87 .neq (.t 86) (.i 0), none, 0⟩]
def c66r16 : List SI := [
  ⟨none, .ldR 88 11 0 (some 5), none, 0⟩,
  ⟨none, .mv 89 (.t 20), none, 0⟩,
  ⟨none, .stR 8 0 5 (.t 88), none, 0⟩,
  ⟨none, .mv 9 (.i 0), none, 0⟩,
  ⟨none, .mv 10 (.t 89), none, 0⟩]
def c66r17 : List SI := [
  ⟨none, .mv 91 (.t 0), none, 0⟩,
  ⟨none, .mv 92 (.t 19), none, 0⟩,
  ⟨none, .call 93 81 [(.t 91), (.t 92), (.i 64)], none, 0⟩,
  ⟨none, .mv 90 (.t 93), none, 0⟩,
  ⟨none, .ext 94 (.t 90) 0, none, 0⟩,
  ⟨none, .ext 95 (.t 90) 1, none, 0⟩,
  ⟨none, .ext 96 (.t 90) 2, none, 0⟩,
  ⟨none, .mv 21 (.t 94), none, 0⟩,
  ⟨none, .mv 22 (.t 95), none, 0⟩,
  ⟨none, .mv 23 (.t 96), none, 0⟩]
def c66r18 : List SI := [
  ⟨none, .mv 97 (.t 23), none, 0⟩,
  ⟨none, .bin 98 .neq (.t 97) (.i 0), none, 0⟩]
def c66r19 : List SI := [
  ⟨none, .ldR 99 11 0 (some 5), none, 0⟩,
  ⟨none, .mv 100 (.t 23), none, 0⟩,
  ⟨none, .stR 8 0 5 (.t 99), none, 0⟩,
  ⟨none, .mv 9 (.i 0), none, 0⟩,
  ⟨none, .mv 10 (.t 100), none, 0⟩]
def c66r20 : RX := .br [(true, ⟨none, .mv 101 (.t 2), none, 0⟩),
  (true, ⟨none, .mv 102 (.t 12), none, 0⟩),
  (true, ⟨none, .mv 104 (.t 18), none, 0⟩),
  (true, ⟨none, .mv 105 (.t 21), none, 0⟩),
  (true, ⟨none, .mv 106 (.t 0), none, 0⟩),
  (true, ⟨none, .mv 107 (.t 16), none, 0⟩),
  (true, ⟨none, .ixA 108 (.t 106) (.t 107) 1, none, 0⟩),
  (true, ⟨none, .ld 109 (.t 108) none, none, 0⟩),
  (true, ⟨none, .bin 110 .eql (.t 109) (.v (.int .u8 1)), none, 0⟩),
  (true, ⟨none, .mv 111 (.t 3), none, 0⟩),
  (true, ⟨none, .mv 112 (.t 15), none, 0⟩)]
  ⟨none, .call 103 82 [(.t 101), (.t 102)], none, 0⟩
  (.br []
  ⟨none, .call 113 82 [(.t 111), (.t 112)], none, 0⟩
  (.leaf [(true, ⟨none, .bld 114 [(.int .i64 0), (.string ⟨#[]⟩), (.string ⟨#[]⟩), (.bool false), (.int .i64 0)] [(0, 1, (.t 103)), (1, 1, (.t 104)), (2, 1, (.t 105)), (3, 1, (.t 110)), (4, 1, (.t 113))], none, 0⟩),
  (false, ⟨none, .al 24 [(.int .i64 0), (.string ⟨#[]⟩), (.string ⟨#[]⟩), (.bool false), (.int .i64 0)], none, 0⟩),
  (false, ⟨none, .st (.t 24) 5 (.t 114), none, 0⟩)])
  ⟨none, .al 24 [(.int .i64 0), (.string ⟨#[]⟩), (.string ⟨#[]⟩), (.bool false), (.int .i64 0)], none, 0⟩
  (.leaf [(false, ⟨none, .call 113 82 [(.t 111), (.t 112)], none, 0⟩),
  (true, ⟨none, .bld 114 [(.int .i64 0), (.string ⟨#[]⟩), (.string ⟨#[]⟩), (.bool false), (.int .i64 0)] [(0, 1, (.t 103)), (1, 1, (.t 104)), (2, 1, (.t 105)), (3, 1, (.t 110)), (4, 1, (.t 113))], none, 0⟩),
  (false, ⟨none, .st (.t 24) 5 (.t 114), none, 0⟩)]))
  ⟨none, .al 24 [(.int .i64 0), (.string ⟨#[]⟩), (.string ⟨#[]⟩), (.bool false), (.int .i64 0)], none, 0⟩
  (.leaf [(false, ⟨none, .call 103 82 [(.t 101), (.t 102)], none, 0⟩),
  (false, ⟨none, .call 113 82 [(.t 111), (.t 112)], none, 0⟩),
  (true, ⟨none, .bld 114 [(.int .i64 0), (.string ⟨#[]⟩), (.string ⟨#[]⟩), (.bool false), (.int .i64 0)] [(0, 1, (.t 103)), (1, 1, (.t 104)), (2, 1, (.t 105)), (3, 1, (.t 110)), (4, 1, (.t 113))], none, 0⟩),
  (false, ⟨none, .st (.t 24) 5 (.t 114), none, 0⟩)])
def c66r21 : List SI := [
  ⟨none, .ld 115 (.t 24) (some 5), none, 0⟩,
  ⟨none, .call 116 55 [(.t 115)], none, 0⟩,
  ⟨none, .bin 117 .neq (.t 116) (.i 0), none, 0⟩]
def c66r22 : List SI := [
  ⟨none, .ldR 118 11 0 (some 5), none, 0⟩,
  ⟨none, .stR 8 0 5 (.t 118), none, 0⟩,
  ⟨none, .mv 9 (.i 0), none, 0⟩,
  ⟨none, .mv 10 (.i 1), none, 0⟩]
def c66r23 : List SI := [
  ⟨none, .ld 119 (.t 24) (some 5), none, 0⟩,
  ⟨none, .mv 120 (.t 22), none, 0⟩,
  ⟨none, .stR 8 0 5 (.t 119), none, 0⟩,
  ⟨none, .mv 9 (.t 120), none, 0⟩,
  ⟨none, .mv 10 (.i 0), none, 0⟩]
def c66 : SC :=
  (.seq (.reg false c66r0)
  (.seq (.reg false c66r1)
  (.seq (.seq (.reg false c66r2)
  (.cond (.t 43)
   (.seq (.reg false c66r3)
   .ret)
   .skip))
  (.seq (.reg false c66r4)
  (.seq (.seq (.reg false c66r5)
  (.cond (.t 53)
   (.seq (.reg false c66r6)
   .ret)
   .skip))
  (.seq (.reg false c66r7)
  (.seq (.seq (.reg false c66r8)
  (.cond (.t 64)
   (.seq (.reg false c66r9)
   .ret)
   .skip))
  (.seq (.seq (.reg false c66r10)
  (.cond (.t 70)
   (.seq (.reg false c66r11)
   .ret)
   .skip))
  (.seq (.seq (.reg false c66r12)
  (.cond (.t 76)
   (.seq (.reg false c66r13)
   .ret)
   .skip))
  (.seq (.reg false c66r14)
  (.seq (.seq (.reg false c66r15)
  (.cond (.t 87)
   (.seq (.reg false c66r16)
   .ret)
   .skip))
  (.seq (.reg false c66r17)
  (.seq (.seq (.reg false c66r18)
  (.cond (.t 98)
   (.seq (.reg false c66r19)
   .ret)
   .skip))
  (.seq (.rgZ c66r20)
  (.seq (.seq (.reg false c66r21)
  (.cond (.t 117)
   (.seq (.reg false c66r22)
   .ret)
   .skip))
  (.seq (.reg false c66r23)
  .ret))))))))))))))))
def v66 : List Nat × List Nat := ([8, 11], [8, 11])
def o66 : List RS := [.r 8 (some 5), .t 9, .t 10]
theorem s66 : slimC Try.prog Try.f66.ntmps v66.1 v66.2 ((Try.f66.body).getD .skip) = some c66 := by kernel_rfl
theorem q66 : slimR Try.prog Try.f66.ntmps v66.1 v66.2 Try.f66.results.toList = some o66 := by kernel_rfl
-- watermeet/rec.in N=9
def c67r0 : List SI := [
  ⟨none, .mv 2 (.b false), none, 0⟩]
def c67r1 : List SI := [
  ⟨none, .mv 3 (.t 0), none, 0⟩,
  ⟨none, .bin 4 .geq (.t 3) (.i 0), none, 0⟩,
  ⟨none, .mv 5 (.t 4), none, 0⟩,
  ⟨some (5, true), .mv 6 (.t 0), none, 6⟩,
  ⟨some (5, true), .bin 7 .leq (.t 6) (.i 1099511627776), none, 7⟩,
  ⟨none, .pick 8 (.t 5) (.t 7) (.b false), none, 0⟩,
  ⟨none, .mv 2 (.t 8), none, 0⟩]
def c67 : SC :=
  (.seq (.reg false c67r0)
  (.seq (.reg false c67r1)
  .ret))
def v67 : List Nat × List Nat := ([], [])
def o67 : List RS := [.t 2]
theorem s67 : slimC Try.prog Try.f67.ntmps v67.1 v67.2 ((Try.f67.body).getD .skip) = some c67 := by kernel_rfl
theorem q67 : slimR Try.prog Try.f67.ntmps v67.1 v67.2 Try.f67.results.toList = some o67 := by kernel_rfl
-- slices.Clone[[]byte,byte] N=8
def c68r0 : List SI := [
  ⟨none, .mv 2 (.v (.slice none 0 0)), none, 0⟩]
def c68r1 : List SI := [
  ⟨none, .mv 3 (.t 0), none, 0⟩,
  ⟨none, .isn 4 false (.t 3), none, 0⟩]
def c68r2 : List SI := [
  ⟨none, .mv 2 (.v (.slice none 0 0)), none, 0⟩]
def c68r3 : List SI := [
  ⟨none, .bl0 5, none, 0⟩,
  ⟨none, .mv 6 (.t 0), none, 0⟩,
  ⟨none, .app 7 (.t 5) (.t 6) 5 1 1, none, 0⟩,
  ⟨none, .mv 2 (.t 7), none, 0⟩]
def c68 : SC :=
  (.seq (.reg false c68r0)
  (.seq (.seq (.reg false c68r1)
  (.cond (.t 4)
   (.seq (.reg false c68r2)
   .ret)
   .skip))
  (.seq (.reg false c68r3)
  .ret)))
def v68 : List Nat × List Nat := ([], [])
def o68 : List RS := [.t 2]
theorem s68 : slimC Try.prog Try.f68.ntmps v68.1 v68.2 ((Try.f68.body).getD .skip) = some c68 := by kernel_rfl
theorem q68 : slimR Try.prog Try.f68.ntmps v68.1 v68.2 Try.f68.results.toList = some o68 := by kernel_rfl
-- watermeet/octet.PutText N=11
def c69r0 : List SI := [
  ⟨none, .mv 4 (.v (.slice none 0 0)), none, 0⟩]
def c69r1 : List SI := [
  ⟨none, .mv 5 (.t 0), none, 0⟩,
  ⟨none, .mv 6 (.t 1), none, 0⟩,
  ⟨none, .len 7 true (.t 6), none, 0⟩,
  ⟨none, .call 8 47 [(.t 5), (.t 7)], none, 0⟩,
  ⟨none, .mv 9 (.t 1), none, 0⟩,
  ⟨none, .app 10 (.t 8) (.t 9) 5 1 1, none, 0⟩,
  ⟨none, .mv 4 (.t 10), none, 0⟩]
def c69 : SC :=
  (.seq (.reg false c69r0)
  (.seq (.reg false c69r1)
  .ret))
def v69 : List Nat × List Nat := ([], [])
def o69 : List RS := [.t 4]
theorem s69 : slimC Try.prog Try.f69.ntmps v69.1 v69.2 ((Try.f69.body).getD .skip) = some c69 := by kernel_rfl
theorem q69 : slimR Try.prog Try.f69.ntmps v69.1 v69.2 Try.f69.results.toList = some o69 := by kernel_rfl
-- watermeet/watermeetref03.In N=9
def c70r0 : List SI := [
  ⟨none, .mv 2 (.b false), none, 0⟩]
def c70r1 : List SI := [
  ⟨none, .mv 3 (.t 0), none, 0⟩,
  ⟨none, .bin 4 .geq (.t 3) (.i 0), none, 0⟩,
  ⟨none, .mv 5 (.t 4), none, 0⟩,
  ⟨some (5, true), .mv 6 (.t 0), none, 6⟩,
  ⟨some (5, true), .bin 7 .leq (.t 6) (.i 1099511627776), none, 7⟩,
  ⟨none, .pick 8 (.t 5) (.t 7) (.b false), none, 0⟩,
  ⟨none, .mv 2 (.t 8), none, 0⟩]
def c70 : SC :=
  (.seq (.reg false c70r0)
  (.seq (.reg false c70r1)
  .ret))
def v70 : List Nat × List Nat := ([], [])
def o70 : List RS := [.t 2]
theorem s70 : slimC Try.prog Try.f70.ntmps v70.1 v70.2 ((Try.f70.body).getD .skip) = some c70 := by kernel_rfl
theorem q70 : slimR Try.prog Try.f70.ntmps v70.1 v70.2 Try.f70.results.toList = some o70 := by kernel_rfl
-- watermeet/watermeetref01.PutText N=11
def c71r0 : List SI := [
  ⟨none, .mv 4 (.v (.slice none 0 0)), none, 0⟩]
def c71r1 : List SI := [
  ⟨none, .mv 5 (.t 0), none, 0⟩,
  ⟨none, .mv 6 (.t 1), none, 0⟩,
  ⟨none, .len 7 true (.t 6), none, 0⟩,
  ⟨none, .call 8 51 [(.t 5), (.t 7)], none, 0⟩,
  ⟨none, .mv 9 (.t 1), none, 0⟩,
  ⟨none, .app 10 (.t 8) (.t 9) 5 1 1, none, 0⟩,
  ⟨none, .mv 4 (.t 10), none, 0⟩]
def c71 : SC :=
  (.seq (.reg false c71r0)
  (.seq (.reg false c71r1)
  .ret))
def v71 : List Nat × List Nat := ([], [])
def o71 : List RS := [.t 4]
theorem s71 : slimC Try.prog Try.f71.ntmps v71.1 v71.2 ((Try.f71.body).getD .skip) = some c71 := by kernel_rfl
theorem q71 : slimR Try.prog Try.f71.ntmps v71.1 v71.2 Try.f71.results.toList = some o71 := by kernel_rfl
-- watermeet/crc.adder N=13
def c72r0 : List SI := [
  ⟨none, .mv 0 (.v .nilFunc), none, 0⟩]
def c72r1 : List SI := [
  ⟨none, .al 1 [(.int .u32 0), (.int .u32 0), (.int .u32 0), (.int .u32 0), (.int .u32 0), (.int .u32 0), (.int .u32 0), (.int .u32 0), (.int .u32 0), (.int .u32 0), (.int .u32 0), (.int .u32 0), (.int .u32 0), (.int .u32 0), (.int .u32 0), (.int .u32 0)], none, 0⟩]
def c72r2 : List SI := [
  ⟨none, .mv 3 (.i 0), none, 0⟩]
def c72r3 : List SI := [
  ⟨none, .bin 4 .lss (.t 3) (.i 16), none, 0⟩]
def c72r4 : List SI := [
  ⟨none, .mv 5 (.t 3), none, 0⟩,
  ⟨none, .mv 2 (.t 5), none, 0⟩]
def c72r5 : List SI := [
  ⟨none, .mv 6 (.t 2), none, 0⟩,
  ⟨none, .mv 7 (.t 2), none, 0⟩,
  ⟨none, .cvI 8 .u32 (.t 7), none, 0⟩,
  ⟨none, .call 9 83 [(.t 8)], none, 0⟩,
  ⟨none, .ixP 10 (.t 1) (.t 6) 16 1, none, 0⟩,
  ⟨none, .st (.t 10) 1 (.t 9), none, 0⟩]
def c72r6 : List SI := [
  ⟨none, .bin 11 .add (.t 3) (.i 1), none, 0⟩,
  ⟨none, .mv 3 (.t 11), none, 0⟩]
def c72r7 : List SI := [
  ⟨none, .mkf 12 (.func 84) [(.t 1)], none, 0⟩,
  ⟨none, .mv 0 (.t 12), none, 0⟩]
def c72 : SC :=
  (.seq (.reg false c72r0)
  (.seq (.reg false c72r1)
  (.seq (.seq (.reg false c72r2)
  (.blk 0 (.loop (.seq (.reg false c72r3)
    (.seq (.cond (.t 4)
     .skip
     (.exit 0))
    (.seq (.blk 1 (.seq (.reg false c72r4)
     (.reg false c72r5)))
    (.reg false c72r6)))))))
  (.seq (.reg false c72r7)
  .ret))))
def v72 : List Nat × List Nat := ([], [])
def o72 : List RS := [.t 0]
theorem s72 : slimC Try.prog Try.f72.ntmps v72.1 v72.2 ((Try.f72.body).getD .skip) = some c72 := by kernel_rfl
theorem q72 : slimR Try.prog Try.f72.ntmps v72.1 v72.2 Try.f72.results.toList = some o72 := by kernel_rfl
-- watermeet/rec.Get$1 N=13
def c73r0 : List SI := [
  ⟨none, .mv 4 (.v (.string ⟨#[]⟩)), none, 0⟩,
  ⟨none, .mv 5 (.i 0), none, 0⟩,
  ⟨none, .mv 6 (.i 0), none, 0⟩]
def c73r1 : List SI := [
  ⟨none, .mv 7 (.t 0), none, 0⟩,
  ⟨none, .mv 8 (.t 1), none, 0⟩,
  ⟨none, .call 9 74 [(.t 7), (.t 8), (.i 64)], none, 0⟩,
  ⟨none, .ext 10 (.t 9) 0, none, 0⟩,
  ⟨none, .ext 11 (.t 9) 1, none, 0⟩,
  ⟨none, .ext 12 (.t 9) 2, none, 0⟩,
  ⟨none, .mv 4 (.t 10), none, 0⟩,
  ⟨none, .mv 5 (.t 11), none, 0⟩,
  ⟨none, .mv 6 (.t 12), none, 0⟩]
def c73 : SC :=
  (.seq (.reg false c73r0)
  (.seq (.reg false c73r1)
  .ret))
def v73 : List Nat × List Nat := ([], [])
def o73 : List RS := [.t 4, .t 5, .t 6]
theorem s73 : slimC Try.prog Try.f73.ntmps v73.1 v73.2 ((Try.f73.body).getD .skip) = some c73 := by kernel_rfl
theorem q73 : slimR Try.prog Try.f73.ntmps v73.1 v73.2 Try.f73.results.toList = some o73 := by kernel_rfl
-- watermeet/octet.GetText N=45
def c74r0 : List SI := [
  ⟨none, .mv 6 (.v (.string ⟨#[]⟩)), none, 0⟩,
  ⟨none, .mv 7 (.i 0), none, 0⟩,
  ⟨none, .mv 8 (.i 0), none, 0⟩]
def c74r1 : List SI := [
  ⟨none, .mv 11 (.t 0), none, 0⟩,
  ⟨none, .mv 12 (.t 1), none, 0⟩,
  ⟨none, .call 13 61 [(.t 11), (.t 12)], none, 0⟩,
  ⟨none, .mv 10 (.t 13), none, 0⟩,
  ⟨none, .ext 14 (.t 10) 0, none, 0⟩,
  ⟨none, .ext 15 (.t 10) 1, none, 0⟩,
  ⟨none, .ext 16 (.t 10) 2, none, 0⟩,
  ⟨none, .mv 9 (.t 14), none, 0⟩,
  ⟨none, .mv 7 (.t 15), none, 0⟩,
  ⟨none, .mv 8 (.t 16), none, 0⟩]
def c74r2 : List SI := [
  ⟨none, .mv 18 (.t 8), none, 0⟩,
  ⟨none, .bin 19 .neq (.t 18) (.i 0), none, 0⟩,
  ⟨none, .mv 17 (.t 19), none, 0⟩]
def c74r3 : List SI := [
  ⟨none, .mv 20 (.t 8), none, 0⟩,
  ⟨none, .mv 6 (.v (.string ⟨#[]⟩)), none, 0⟩,
  ⟨none, .mv 7 (.i 0), none, 0⟩,
  ⟨none, .mv 8 (.t 20), none, 0⟩]
def c74r4 : List SI := [
  ⟨none, .mv 22 (.t 9), none, 0⟩,
  ⟨none, .bin 23 .lss (.t 22) (.i 0), none, 0⟩,
  ⟨none, .mv 21 (.t 23), none, 0⟩]
def c74r5 : List SI := [
  ⟨none, .mv 6 (.v (.string ⟨#[]⟩)), none, 0⟩,
  ⟨none, .mv 7 (.i 0), none, 0⟩,
  ⟨none, .mv 8 (.i 11), none, 0⟩]
def c74r6 : List SI := [
  ⟨none, .mv 25 (.t 9), none, 0⟩,
  ⟨none, .mv 26 (.t 2), none, 0⟩,
  ⟨none, .bin 27 .gtr (.t 25) (.t 26), none, 0⟩,
  ⟨none, .mv 24 (.t 27), none, 0⟩]
def c74r7 : List SI := [
  ⟨none, .mv 6 (.v (.string ⟨#[]⟩)), none, 0⟩,
  ⟨none, .mv 7 (.i 0), none, 0⟩,
  ⟨none, .mv 8 (.i 2), none, 0⟩]
def c74r8 : List SI := [
  ⟨none, .mv 29 (.t 9), none, 0⟩,
  ⟨none, .mv 30 (.t 0), none, 0⟩,
  ⟨none, .len 31 false (.t 30), none, 0⟩,
  ⟨none, .mv 32 (.t 7), none, 0⟩,
  ⟨none, .bin 33 .sub (.t 31) (.t 32), none, 0⟩,
  ⟨none, .bin 34 .gtr (.t 29) (.t 33), none, 0⟩,
  ⟨none, .mv 28 (.t 34), none, 0⟩]
def c74r9 : List SI := [
  ⟨none, .mv 6 (.v (.string ⟨#[]⟩)), none, 0⟩,
  ⟨none, .mv 7 (.i 0), none, 0⟩,
  ⟨none, .mv 8 (.i 10), none, 0⟩]
def c74r10 : List SI := [
  ⟨none, .mv 35 (.t 0), none, 0⟩,
  ⟨none, .mv 36 (.t 7), none, 0⟩,
  ⟨none, .mv 37 (.t 7), none, 0⟩,
  ⟨none, .mv 38 (.t 9), none, 0⟩,
  ⟨none, .bin 39 .add (.t 37) (.t 38), none, 0⟩,
  ⟨none, .sl 40 (.t 35) (some (.t 36)) (some (.t 39)) none 1, none, 0⟩,
  ⟨none, .cvS 41 (.t 40), none, 0⟩,
  ⟨none, .mv 42 (.t 7), none, 0⟩,
  ⟨none, .mv 43 (.t 9), none, 0⟩,
  ⟨none, .bin 44 .add (.t 42) (.t 43), none, 0⟩,
  ⟨none, .mv 6 (.t 41), none, 0⟩,
  ⟨none, .mv 7 (.t 44), none, 0⟩,
  ⟨none, .mv 8 (.i 0), none, 0⟩]
def c74 : SC :=
  (.seq (.reg false c74r0)
  (.seq (.reg false c74r1)
  (.seq (.blk 0 (.seq (.reg false c74r2)
   (.cond (.t 17)
    (.seq (.reg false c74r3)
    .ret)
    (.seq (.reg false c74r4)
    (.cond (.t 21)
     (.seq (.reg false c74r5)
     .ret)
     (.seq (.reg false c74r6)
     (.cond (.t 24)
      (.seq (.reg false c74r7)
      .ret)
      (.seq (.reg false c74r8)
      (.cond (.t 28)
       (.seq (.reg false c74r9)
       .ret)
       .skip)))))))))
  (.seq (.reg false c74r10)
  .ret))))
def v74 : List Nat × List Nat := ([], [])
def o74 : List RS := [.t 6, .t 7, .t 8]
theorem s74 : slimC Try.prog Try.f74.ntmps v74.1 v74.2 ((Try.f74.body).getD .skip) = some c74 := by kernel_rfl
theorem q74 : slimR Try.prog Try.f74.ntmps v74.1 v74.2 Try.f74.results.toList = some o74 := by kernel_rfl
-- watermeet/rec.beside N=14
def c75r0 : List SI := [
  ⟨none, .mv 4 (.i 0), none, 0⟩]
def c75r1 : List SI := [
  ⟨none, .mv 5 (.t 1), none, 0⟩,
  ⟨none, .bin 6 .lss (.t 5) (.i (-1099511627776)), none, 0⟩,
  ⟨none, .mv 7 (.t 6), none, 0⟩,
  ⟨some (7, false), .mv 8 (.t 1), none, 8⟩,
  ⟨some (7, false), .bin 9 .gtr (.t 8) (.i 1099511627776), none, 9⟩,
  ⟨none, .pick 10 (.t 7) (.b true) (.t 9), none, 0⟩]
def c75r2 : List SI := [
  ⟨none, .mv 4 (.i (-1)), none, 0⟩]
def c75r3 : List SI := [
  ⟨none, .mv 11 (.t 0), none, 0⟩,
  ⟨none, .mv 12 (.t 1), none, 0⟩,
  ⟨none, .bin 13 .add (.t 11) (.t 12), none, 0⟩,
  ⟨none, .mv 4 (.t 13), none, 0⟩]
def c75 : SC :=
  (.seq (.reg false c75r0)
  (.seq (.seq (.reg false c75r1)
  (.cond (.t 10)
   (.seq (.reg false c75r2)
   .ret)
   .skip))
  (.seq (.reg false c75r3)
  .ret)))
def v75 : List Nat × List Nat := ([], [])
def o75 : List RS := [.t 4]
theorem s75 : slimC Try.prog Try.f75.ntmps v75.1 v75.2 ((Try.f75.body).getD .skip) = some c75 := by kernel_rfl
theorem q75 : slimR Try.prog Try.f75.ntmps v75.1 v75.2 Try.f75.results.toList = some o75 := by kernel_rfl
-- watermeet/rec.field[int] N=32
def c76r0 : List SI := [
  ⟨none, .mv 4 (.i 0), none, 0⟩]
def c76r1 : List SI := [
  ⟨none, .mv 5 (.i 0), none, 0⟩]
def c76r2 : List SI := [
  ⟨none, .mv 6 (.t 0), none, 0⟩,
  ⟨none, .nck 7 (.t 6), none, 0⟩,
  ⟨none, .flA 8 (.t 7) 2, none, 0⟩,
  ⟨none, .ld 9 (.t 8) none, none, 0⟩,
  ⟨none, .bin 10 .eql (.t 9) (.i 0), none, 0⟩]
def c76r3 : List WI := [
  (true, false, ⟨none, .mv 12 (.t 0), none, 0⟩),
  (true, false, ⟨none, .mv 13 (.t 0), none, 0⟩),
  (true, false, ⟨none, .mv 14 (.t 1), none, 0⟩),
  (true, false, ⟨none, .mv 15 (.t 0), none, 0⟩),
  (true, false, ⟨none, .nck 16 (.t 15), none, 0⟩),
  (true, false, ⟨none, .flA 17 (.t 16) 0, none, 0⟩),
  (true, false, ⟨none, .ld 18 (.t 17) none, none, 0⟩),
  (true, false, ⟨none, .mv 19 (.t 0), none, 0⟩),
  (true, false, ⟨none, .nck 20 (.t 19), none, 0⟩),
  (true, false, ⟨none, .flA 21 (.t 20) 1, none, 0⟩),
  (true, false, ⟨none, .ld 22 (.t 21) none, none, 0⟩),
  (false, true, ⟨none, .cav 23 (.t 14) [(.t 18), (.t 22)], none, 0⟩),
  (true, false, ⟨none, .mv 11 (.t 23), none, 0⟩),
  (true, false, ⟨none, .ext 24 (.t 11) 0, none, 0⟩),
  (true, false, ⟨none, .ext 25 (.t 11) 1, none, 0⟩),
  (true, false, ⟨none, .ext 26 (.t 11) 2, none, 0⟩),
  (true, false, ⟨none, .mv 5 (.t 24), none, 0⟩),
  (true, false, ⟨none, .nck 27 (.t 12), none, 0⟩),
  (true, false, ⟨none, .flA 28 (.t 27) 1, none, 0⟩),
  (false, true, ⟨none, .st (.t 28) 1 (.t 25), none, 0⟩),
  (true, false, ⟨none, .nck 29 (.t 13), none, 0⟩),
  (true, false, ⟨none, .flA 30 (.t 29) 2, none, 0⟩),
  (false, true, ⟨none, .st (.t 30) 1 (.t 26), none, 0⟩)]
def c76r4 : List SI := [
  ⟨none, .mv 31 (.t 5), none, 0⟩,
  ⟨none, .mv 4 (.t 31), none, 0⟩]
def c76 : SC :=
  (.seq (.reg false c76r0)
  (.seq (.reg false c76r1)
  (.seq (.seq (.reg false c76r2)
  (.cond (.t 10)
   (.rgW c76r3)
   .skip))
  (.seq (.reg false c76r4)
  .ret))))
def v76 : List Nat × List Nat := ([], [])
def o76 : List RS := [.t 4]
theorem s76 : slimC Try.prog Try.f76.ntmps v76.1 v76.2 ((Try.f76.body).getD .skip) = some c76 := by kernel_rfl
theorem q76 : slimR Try.prog Try.f76.ntmps v76.1 v76.2 Try.f76.results.toList = some o76 := by kernel_rfl
-- watermeet/rec.field[bool] N=32
def c77r0 : List SI := [
  ⟨none, .mv 4 (.b false), none, 0⟩]
def c77r1 : List SI := [
  ⟨none, .mv 5 (.b false), none, 0⟩]
def c77r2 : List SI := [
  ⟨none, .mv 6 (.t 0), none, 0⟩,
  ⟨none, .nck 7 (.t 6), none, 0⟩,
  ⟨none, .flA 8 (.t 7) 2, none, 0⟩,
  ⟨none, .ld 9 (.t 8) none, none, 0⟩,
  ⟨none, .bin 10 .eql (.t 9) (.i 0), none, 0⟩]
def c77r3 : List WI := [
  (true, false, ⟨none, .mv 12 (.t 0), none, 0⟩),
  (true, false, ⟨none, .mv 13 (.t 0), none, 0⟩),
  (true, false, ⟨none, .mv 14 (.t 1), none, 0⟩),
  (true, false, ⟨none, .mv 15 (.t 0), none, 0⟩),
  (true, false, ⟨none, .nck 16 (.t 15), none, 0⟩),
  (true, false, ⟨none, .flA 17 (.t 16) 0, none, 0⟩),
  (true, false, ⟨none, .ld 18 (.t 17) none, none, 0⟩),
  (true, false, ⟨none, .mv 19 (.t 0), none, 0⟩),
  (true, false, ⟨none, .nck 20 (.t 19), none, 0⟩),
  (true, false, ⟨none, .flA 21 (.t 20) 1, none, 0⟩),
  (true, false, ⟨none, .ld 22 (.t 21) none, none, 0⟩),
  (false, true, ⟨none, .cav 23 (.t 14) [(.t 18), (.t 22)], none, 0⟩),
  (true, false, ⟨none, .mv 11 (.t 23), none, 0⟩),
  (true, false, ⟨none, .ext 24 (.t 11) 0, none, 0⟩),
  (true, false, ⟨none, .ext 25 (.t 11) 1, none, 0⟩),
  (true, false, ⟨none, .ext 26 (.t 11) 2, none, 0⟩),
  (true, false, ⟨none, .mv 5 (.t 24), none, 0⟩),
  (true, false, ⟨none, .nck 27 (.t 12), none, 0⟩),
  (true, false, ⟨none, .flA 28 (.t 27) 1, none, 0⟩),
  (false, true, ⟨none, .st (.t 28) 1 (.t 25), none, 0⟩),
  (true, false, ⟨none, .nck 29 (.t 13), none, 0⟩),
  (true, false, ⟨none, .flA 30 (.t 29) 2, none, 0⟩),
  (false, true, ⟨none, .st (.t 30) 1 (.t 26), none, 0⟩)]
def c77r4 : List SI := [
  ⟨none, .mv 31 (.t 5), none, 0⟩,
  ⟨none, .mv 4 (.t 31), none, 0⟩]
def c77 : SC :=
  (.seq (.reg false c77r0)
  (.seq (.reg false c77r1)
  (.seq (.seq (.reg false c77r2)
  (.cond (.t 10)
   (.rgW c77r3)
   .skip))
  (.seq (.reg false c77r4)
  .ret))))
def v77 : List Nat × List Nat := ([], [])
def o77 : List RS := [.t 4]
theorem s77 : slimC Try.prog Try.f77.ntmps v77.1 v77.2 ((Try.f77.body).getD .skip) = some c77 := by kernel_rfl
theorem q77 : slimR Try.prog Try.f77.ntmps v77.1 v77.2 Try.f77.results.toList = some o77 := by kernel_rfl
-- watermeet/rec.flag N=25
def c78r0 : List SI := [
  ⟨none, .mv 4 (.b false), none, 0⟩,
  ⟨none, .mv 5 (.i 0), none, 0⟩,
  ⟨none, .mv 6 (.i 0), none, 0⟩]
def c78r1 : List SI := [
  ⟨none, .mv 8 (.t 1), none, 0⟩,
  ⟨none, .mv 9 (.t 0), none, 0⟩,
  ⟨none, .len 10 false (.t 9), none, 0⟩,
  ⟨none, .bin 11 .geq (.t 8) (.t 10), none, 0⟩,
  ⟨none, .mv 7 (.t 11), none, 0⟩]
def c78r2 : List SI := [
  ⟨none, .mv 4 (.b false), none, 0⟩,
  ⟨none, .mv 5 (.i 0), none, 0⟩,
  ⟨none, .mv 6 (.i 10), none, 0⟩]
def c78r3 : List SI := [
  ⟨none, .mv 13 (.t 0), none, 0⟩,
  ⟨none, .mv 14 (.t 1), none, 0⟩,
  ⟨none, .ixA 15 (.t 13) (.t 14) 1, none, 0⟩,
  ⟨none, .ld 16 (.t 15) none, none, 0⟩,
  ⟨none, .bin 17 .gtr (.t 16) (.v (.int .u8 1)), none, 0⟩,
  ⟨none, .mv 12 (.t 17), none, 0⟩]
def c78r4 : List SI := [
  ⟨none, .mv 4 (.b false), none, 0⟩,
  ⟨none, .mv 5 (.i 0), none, 0⟩,
  ⟨none, .mv 6 (.i 11), none, 0⟩]
def c78r5 : List SI := [
  ⟨none, .mv 18 (.t 0), none, 0⟩,
  ⟨none, .mv 19 (.t 1), none, 0⟩,
  ⟨none, .ixA 20 (.t 18) (.t 19) 1, none, 0⟩,
  ⟨none, .ld 21 (.t 20) none, none, 0⟩,
  ⟨none, .bin 22 .eql (.t 21) (.v (.int .u8 1)), none, 0⟩,
  ⟨none, .mv 23 (.t 1), none, 0⟩,
  ⟨none, .bin 24 .add (.t 23) (.i 1), none, 0⟩,
  ⟨none, .mv 4 (.t 22), none, 0⟩,
  ⟨none, .mv 5 (.t 24), none, 0⟩,
  ⟨none, .mv 6 (.i 0), none, 0⟩]
def c78 : SC :=
  (.seq (.reg false c78r0)
  (.seq (.blk 0 (.seq (.reg false c78r1)
   (.cond (.t 7)
    (.seq (.reg false c78r2)
    .ret)
    (.seq (.reg false c78r3)
    (.cond (.t 12)
     (.seq (.reg false c78r4)
     .ret)
     .skip)))))
  (.seq (.reg false c78r5)
  .ret)))
def v78 : List Nat × List Nat := ([], [])
def o78 : List RS := [.t 4, .t 5, .t 6]
theorem s78 : slimC Try.prog Try.f78.ntmps v78.1 v78.2 ((Try.f78.body).getD .skip) = some c78 := by kernel_rfl
theorem q78 : slimR Try.prog Try.f78.ntmps v78.1 v78.2 Try.f78.results.toList = some o78 := by kernel_rfl
-- watermeet/rec.field[string] N=32
def c79r0 : List SI := [
  ⟨none, .mv 4 (.v (.string ⟨#[]⟩)), none, 0⟩]
def c79r1 : List SI := [
  ⟨none, .mv 5 (.v (.string ⟨#[]⟩)), none, 0⟩]
def c79r2 : List SI := [
  ⟨none, .mv 6 (.t 0), none, 0⟩,
  ⟨none, .nck 7 (.t 6), none, 0⟩,
  ⟨none, .flA 8 (.t 7) 2, none, 0⟩,
  ⟨none, .ld 9 (.t 8) none, none, 0⟩,
  ⟨none, .bin 10 .eql (.t 9) (.i 0), none, 0⟩]
def c79r3 : List WI := [
  (true, false, ⟨none, .mv 12 (.t 0), none, 0⟩),
  (true, false, ⟨none, .mv 13 (.t 0), none, 0⟩),
  (true, false, ⟨none, .mv 14 (.t 1), none, 0⟩),
  (true, false, ⟨none, .mv 15 (.t 0), none, 0⟩),
  (true, false, ⟨none, .nck 16 (.t 15), none, 0⟩),
  (true, false, ⟨none, .flA 17 (.t 16) 0, none, 0⟩),
  (true, false, ⟨none, .ld 18 (.t 17) none, none, 0⟩),
  (true, false, ⟨none, .mv 19 (.t 0), none, 0⟩),
  (true, false, ⟨none, .nck 20 (.t 19), none, 0⟩),
  (true, false, ⟨none, .flA 21 (.t 20) 1, none, 0⟩),
  (true, false, ⟨none, .ld 22 (.t 21) none, none, 0⟩),
  (false, true, ⟨none, .cav 23 (.t 14) [(.t 18), (.t 22)], none, 0⟩),
  (true, false, ⟨none, .mv 11 (.t 23), none, 0⟩),
  (true, false, ⟨none, .ext 24 (.t 11) 0, none, 0⟩),
  (true, false, ⟨none, .ext 25 (.t 11) 1, none, 0⟩),
  (true, false, ⟨none, .ext 26 (.t 11) 2, none, 0⟩),
  (true, false, ⟨none, .mv 5 (.t 24), none, 0⟩),
  (true, false, ⟨none, .nck 27 (.t 12), none, 0⟩),
  (true, false, ⟨none, .flA 28 (.t 27) 1, none, 0⟩),
  (false, true, ⟨none, .st (.t 28) 1 (.t 25), none, 0⟩),
  (true, false, ⟨none, .nck 29 (.t 13), none, 0⟩),
  (true, false, ⟨none, .flA 30 (.t 29) 2, none, 0⟩),
  (false, true, ⟨none, .st (.t 30) 1 (.t 26), none, 0⟩)]
def c79r4 : List SI := [
  ⟨none, .mv 31 (.t 5), none, 0⟩,
  ⟨none, .mv 4 (.t 31), none, 0⟩]
def c79 : SC :=
  (.seq (.reg false c79r0)
  (.seq (.reg false c79r1)
  (.seq (.seq (.reg false c79r2)
  (.cond (.t 10)
   (.rgW c79r3)
   .skip))
  (.seq (.reg false c79r4)
  .ret))))
def v79 : List Nat × List Nat := ([], [])
def o79 : List RS := [.t 4]
theorem s79 : slimC Try.prog Try.f79.ntmps v79.1 v79.2 ((Try.f79.body).getD .skip) = some c79 := by kernel_rfl
theorem q79 : slimR Try.prog Try.f79.ntmps v79.1 v79.2 Try.f79.results.toList = some o79 := by kernel_rfl
-- watermeet/watermeetref02.steps N=14
def c80r0 : List SI := [
  ⟨none, .mv 4 (.v (.int .u32 0)), none, 0⟩]
def c80r1 : List SI := [
  ⟨none, .mv 5 (.i 0), none, 0⟩]
def c80r2 : List SI := [
  ⟨none, .mv 6 (.t 5), none, 0⟩,
  ⟨none, .mv 7 (.t 1), none, 0⟩,
  ⟨none, .bin 8 .lss (.t 6) (.t 7), none, 0⟩]
def c80r3 : List SI := [
  ⟨none, .mv 11 (.t 0), none, 0⟩,
  ⟨none, .call 12 85 [(.t 11)], none, 0⟩,
  ⟨none, .mv 0 (.t 12), none, 0⟩]
def c80r4 : List SI := [
  ⟨none, .mv 9 (.t 5), none, 0⟩,
  ⟨none, .bin 10 .add (.t 9) (.i 1), none, 0⟩,
  ⟨none, .mv 5 (.t 10), none, 0⟩]
def c80r5 : List SI := [
  ⟨none, .mv 13 (.t 0), none, 0⟩,
  ⟨none, .mv 4 (.t 13), none, 0⟩]
def c80 : SC :=
  (.seq (.reg false c80r0)
  (.seq (.seq (.reg false c80r1)
  (.blk 0 (.loop (.seq (.seq (.reg false c80r2)
    (.cond (.t 8)
     .skip
     (.exit 0)))
    (.seq (.blk 1 (.reg false c80r3))
    (.reg false c80r4))))))
  (.seq (.reg false c80r5)
  .ret)))
def v80 : List Nat × List Nat := ([], [])
def o80 : List RS := [.t 4]
theorem s80 : slimC Try.prog Try.f80.ntmps v80.1 v80.2 ((Try.f80.body).getD .skip) = some c80 := by kernel_rfl
theorem q80 : slimR Try.prog Try.f80.ntmps v80.1 v80.2 Try.f80.results.toList = some o80 := by kernel_rfl
-- watermeet/watermeetref01.GetText N=43
def c81r0 : List SI := [
  ⟨none, .mv 6 (.v (.string ⟨#[]⟩)), none, 0⟩,
  ⟨none, .mv 7 (.i 0), none, 0⟩,
  ⟨none, .mv 8 (.i 0), none, 0⟩]
def c81r1 : List SI := [
  ⟨none, .mv 13 (.t 0), none, 0⟩,
  ⟨none, .mv 14 (.t 1), none, 0⟩,
  ⟨none, .call 15 65 [(.t 13), (.t 14)], none, 0⟩,
  ⟨none, .mv 12 (.t 15), none, 0⟩,
  ⟨none, .ext 16 (.t 12) 0, none, 0⟩,
  ⟨none, .ext 17 (.t 12) 1, none, 0⟩,
  ⟨none, .ext 18 (.t 12) 2, none, 0⟩,
  ⟨none, .mv 9 (.t 16), none, 0⟩,
  ⟨none, .mv 10 (.t 17), none, 0⟩,
  ⟨none, .mv 11 (.t 18), none, 0⟩]
def c81r2 : List SI := [
  ⟨none, .mv 19 (.t 11), none, 0⟩,
  ⟨none, .bin 20 .neq (.t 19) (.i 0), none, 0⟩]
def c81r3 : List SI := [
  ⟨none, .mv 21 (.t 11), none, 0⟩,
  ⟨none, .mv 6 (.v (.string ⟨#[]⟩)), none, 0⟩,
  ⟨none, .mv 7 (.i 0), none, 0⟩,
  ⟨none, .mv 8 (.t 21), none, 0⟩]
def c81r4 : List SI := [
  ⟨none, .mv 22 (.t 9), none, 0⟩,
  ⟨none, .bin 23 .lss (.t 22) (.i 0), none, 0⟩]
def c81r5 : List SI := [
  ⟨none, .mv 6 (.v (.string ⟨#[]⟩)), none, 0⟩,
  ⟨none, .mv 7 (.i 0), none, 0⟩,
  ⟨none, .mv 8 (.i 11), none, 0⟩]
def c81r6 : List SI := [
  ⟨none, .mv 24 (.t 9), none, 0⟩,
  ⟨none, .mv 25 (.t 2), none, 0⟩,
  ⟨none, .bin 26 .gtr (.t 24) (.t 25), none, 0⟩]
def c81r7 : List SI := [
  ⟨none, .mv 6 (.v (.string ⟨#[]⟩)), none, 0⟩,
  ⟨none, .mv 7 (.i 0), none, 0⟩,
  ⟨none, .mv 8 (.i 2), none, 0⟩]
def c81r8 : List SI := [
  ⟨none, .mv 27 (.t 0), none, 0⟩,
  ⟨none, .len 28 false (.t 27), none, 0⟩,
  ⟨none, .mv 29 (.t 10), none, 0⟩,
  ⟨none, .bin 30 .sub (.t 28) (.t 29), none, 0⟩,
  ⟨none, .mv 31 (.t 9), none, 0⟩,
  ⟨none, .bin 32 .lss (.t 30) (.t 31), none, 0⟩]
def c81r9 : List SI := [
  ⟨none, .mv 6 (.v (.string ⟨#[]⟩)), none, 0⟩,
  ⟨none, .mv 7 (.i 0), none, 0⟩,
  ⟨none, .mv 8 (.i 10), none, 0⟩]
def c81r10 : List SI := [
  ⟨none, .mv 33 (.t 0), none, 0⟩,
  ⟨none, .mv 34 (.t 10), none, 0⟩,
  ⟨none, .mv 35 (.t 10), none, 0⟩,
  ⟨none, .mv 36 (.t 9), none, 0⟩,
  ⟨none, .bin 37 .add (.t 35) (.t 36), none, 0⟩,
  ⟨none, .sl 38 (.t 33) (some (.t 34)) (some (.t 37)) none 1, none, 0⟩,
  ⟨none, .cvS 39 (.t 38), none, 0⟩,
  ⟨none, .mv 40 (.t 10), none, 0⟩,
  ⟨none, .mv 41 (.t 9), none, 0⟩,
  ⟨none, .bin 42 .add (.t 40) (.t 41), none, 0⟩,
  ⟨none, .mv 6 (.t 39), none, 0⟩,
  ⟨none, .mv 7 (.t 42), none, 0⟩,
  ⟨none, .mv 8 (.i 0), none, 0⟩]
def c81 : SC :=
  (.seq (.reg false c81r0)
  (.seq (.reg false c81r1)
  (.seq (.seq (.reg false c81r2)
  (.cond (.t 20)
   (.seq (.reg false c81r3)
   .ret)
   .skip))
  (.seq (.seq (.reg false c81r4)
  (.cond (.t 23)
   (.seq (.reg false c81r5)
   .ret)
   .skip))
  (.seq (.seq (.reg false c81r6)
  (.cond (.t 26)
   (.seq (.reg false c81r7)
   .ret)
   .skip))
  (.seq (.seq (.reg false c81r8)
  (.cond (.t 32)
   (.seq (.reg false c81r9)
   .ret)
   .skip))
  (.seq (.reg false c81r10)
  .ret)))))))
def v81 : List Nat × List Nat := ([], [])
def o81 : List RS := [.t 6, .t 7, .t 8]
theorem s81 : slimC Try.prog Try.f81.ntmps v81.1 v81.2 ((Try.f81.body).getD .skip) = some c81 := by kernel_rfl
theorem q81 : slimR Try.prog Try.f81.ntmps v81.1 v81.2 Try.f81.results.toList = some o81 := by kernel_rfl
-- watermeet/watermeetref03.beside N=21
def c82r0 : List SI := [
  ⟨none, .mv 4 (.i 0), none, 0⟩]
def c82r1 : List SI := [
  ⟨none, .mv 5 (.t 1), none, 0⟩,
  ⟨none, .bin 6 .lss (.t 5) (.i (-1099511627776)), none, 0⟩,
  ⟨none, .mv 7 (.t 6), none, 0⟩,
  ⟨some (7, false), .mv 8 (.t 1), none, 8⟩,
  ⟨some (7, false), .bin 9 .gtr (.t 8) (.i 1099511627776), none, 9⟩,
  ⟨none, .pick 10 (.t 7) (.b true) (.t 9), none, 0⟩,
  ⟨none, .mv 11 (.t 10), none, 0⟩,
  ⟨some (11, false), .mv 12 (.t 0), none, 12⟩,
  ⟨some (11, false), .mv 13 (.t 1), none, 13⟩,
  ⟨some (11, false), .bin 14 .add (.t 12) (.t 13), none, 14⟩,
  ⟨some (11, false), .call 15 70 [(.t 14)], none, 15⟩,
  ⟨some (11, false), .un 16 .not (.t 15), none, 16⟩,
  ⟨none, .pick 17 (.t 11) (.b true) (.t 16), none, 0⟩]
def c82r2 : List SI := [
  ⟨none, .mv 4 (.i (-1)), none, 0⟩]
def c82r3 : List SI := [
  ⟨none, .mv 18 (.t 0), none, 0⟩,
  ⟨none, .mv 19 (.t 1), none, 0⟩,
  ⟨none, .bin 20 .add (.t 18) (.t 19), none, 0⟩,
  ⟨none, .mv 4 (.t 20), none, 0⟩]
def c82 : SC :=
  (.seq (.reg false c82r0)
  (.seq (.seq (.reg false c82r1)
  (.cond (.t 17)
   (.seq (.reg false c82r2)
   .ret)
   .skip))
  (.seq (.reg false c82r3)
  .ret)))
def v82 : List Nat × List Nat := ([], [])
def o82 : List RS := [.t 4]
theorem s82 : slimC Try.prog Try.f82.ntmps v82.1 v82.2 ((Try.f82.body).getD .skip) = some c82 := by kernel_rfl
theorem q82 : slimR Try.prog Try.f82.ntmps v82.1 v82.2 Try.f82.results.toList = some o82 := by kernel_rfl
-- watermeet/crc.half N=14
def c83r0 : List SI := [
  ⟨none, .mv 2 (.v (.int .u32 0)), none, 0⟩]
def c83r1 : List SI := [
  ⟨none, .mv 3 (.i 0), none, 0⟩]
def c83r2 : List SI := [
  ⟨none, .bin 4 .lss (.t 3) (.i 4), none, 0⟩]
def c83r3 : List SI := [
  ⟨none, .mv 5 (.t 0), none, 0⟩,
  ⟨none, .bin 6 .shr (.t 5) (.v (.int .u64 1)), none, 0⟩,
  ⟨none, .mv 7 (.t 0), none, 0⟩,
  ⟨none, .bin 8 .and (.t 7) (.v (.int .u32 1)), none, 0⟩,
  ⟨none, .un 9 .neg (.t 8), none, 0⟩,
  ⟨none, .bin 10 .and (.v (.int .u32 3988292384)) (.t 9), none, 0⟩,
  ⟨none, .bin 11 .xor (.t 6) (.t 10), none, 0⟩,
  ⟨none, .mv 0 (.t 11), none, 0⟩]
def c83r4 : List SI := [
  ⟨none, .bin 12 .add (.t 3) (.i 1), none, 0⟩,
  ⟨none, .mv 3 (.t 12), none, 0⟩]
def c83r5 : List SI := [
  ⟨none, .mv 13 (.t 0), none, 0⟩,
  ⟨none, .mv 2 (.t 13), none, 0⟩]
def c83 : SC :=
  (.seq (.reg false c83r0)
  (.seq (.seq (.reg false c83r1)
  (.blk 0 (.loop (.seq (.reg false c83r2)
    (.seq (.cond (.t 4)
     .skip
     (.exit 0))
    (.seq (.blk 1 (.reg false c83r3))
    (.reg false c83r4)))))))
  (.seq (.reg false c83r5)
  .ret)))
def v83 : List Nat × List Nat := ([], [])
def o83 : List RS := [.t 2]
theorem s83 : slimC Try.prog Try.f83.ntmps v83.1 v83.2 ((Try.f83.body).getD .skip) = some c83 := by kernel_rfl
theorem q83 : slimR Try.prog Try.f83.ntmps v83.1 v83.2 Try.f83.results.toList = some o83 := by kernel_rfl
-- watermeet/crc.adder$1 N=24
def c84r0 : List SI := [
  ⟨none, .mv 5 (.v (.int .u32 0)), none, 0⟩]
def c84r1 : List SI := [
  ⟨none, .mv 6 (.t 0), none, 0⟩,
  ⟨none, .mv 7 (.t 1), none, 0⟩,
  ⟨none, .cvI 8 .u32 (.t 7), none, 0⟩,
  ⟨none, .bin 9 .xor (.t 6) (.t 8), none, 0⟩,
  ⟨none, .mv 0 (.t 9), none, 0⟩]
def c84r2 : List SI := [
  ⟨none, .mv 10 (.t 0), none, 0⟩,
  ⟨none, .bin 11 .and (.t 10) (.v (.int .u32 15)), none, 0⟩,
  ⟨none, .ixP 12 (.t 2) (.t 11) 16 1, none, 0⟩,
  ⟨none, .ld 13 (.t 12) none, none, 0⟩,
  ⟨none, .mv 14 (.t 0), none, 0⟩,
  ⟨none, .bin 15 .shr (.t 14) (.v (.int .u64 4)), none, 0⟩,
  ⟨none, .bin 16 .xor (.t 13) (.t 15), none, 0⟩,
  ⟨none, .mv 0 (.t 16), none, 0⟩]
def c84r3 : List SI := [
  ⟨none, .mv 17 (.t 0), none, 0⟩,
  ⟨none, .bin 18 .and (.t 17) (.v (.int .u32 15)), none, 0⟩,
  ⟨none, .ixP 19 (.t 2) (.t 18) 16 1, none, 0⟩,
  ⟨none, .ld 20 (.t 19) none, none, 0⟩,
  ⟨none, .mv 21 (.t 0), none, 0⟩,
  ⟨none, .bin 22 .shr (.t 21) (.v (.int .u64 4)), none, 0⟩,
  ⟨none, .bin 23 .xor (.t 20) (.t 22), none, 0⟩,
  ⟨none, .mv 5 (.t 23), none, 0⟩]
def c84 : SC :=
  (.seq (.reg false c84r0)
  (.seq (.reg false c84r1)
  (.seq (.reg false c84r2)
  (.seq (.reg false c84r3)
  .ret))))
def v84 : List Nat × List Nat := ([], [])
def o84 : List RS := [.t 5]
theorem s84 : slimC Try.prog Try.f84.ntmps v84.1 v84.2 ((Try.f84.body).getD .skip) = some c84 := by kernel_rfl
theorem q84 : slimR Try.prog Try.f84.ntmps v84.1 v84.2 Try.f84.results.toList = some o84 := by kernel_rfl
-- watermeet/watermeetref02.step N=11
def c85r0 : List SI := [
  ⟨none, .mv 2 (.v (.int .u32 0)), none, 0⟩]
def c85r1 : List SI := [
  ⟨none, .mv 3 (.t 0), none, 0⟩,
  ⟨none, .bin 4 .rem (.t 3) (.v (.int .u32 2)), none, 0⟩,
  ⟨none, .bin 5 .eql (.t 4) (.v (.int .u32 1)), none, 0⟩]
def c85r2 : List SI := [
  ⟨none, .mv 6 (.t 0), none, 0⟩,
  ⟨none, .bin 7 .quo (.t 6) (.v (.int .u32 2)), none, 0⟩,
  ⟨none, .bin 8 .xor (.t 7) (.v (.int .u32 3988292384)), none, 0⟩,
  ⟨none, .mv 2 (.t 8), none, 0⟩]
def c85r3 : List SI := [
  ⟨none, .mv 9 (.t 0), none, 0⟩,
  ⟨none, .bin 10 .quo (.t 9) (.v (.int .u32 2)), none, 0⟩,
  ⟨none, .mv 2 (.t 10), none, 0⟩]
def c85 : SC :=
  (.seq (.reg false c85r0)
  (.seq (.seq (.reg false c85r1)
  (.cond (.t 5)
   (.seq (.reg false c85r2)
   .ret)
   .skip))
  (.seq (.reg false c85r3)
  .ret)))
def v85 : List Nat × List Nat := ([], [])
def o85 : List RS := [.t 2]
theorem s85 : slimC Try.prog Try.f85.ntmps v85.1 v85.2 ((Try.f85.body).getD .skip) = some c85 := by kernel_rfl
theorem q85 : slimR Try.prog Try.f85.ntmps v85.1 v85.2 Try.f85.results.toList = some o85 := by kernel_rfl
end Go.Proofs.Ytdiccicokbbcoaa

/- Bytes, part 1 of a proof: the forms, and copies. No condition. -/
set_option linter.unusedSimpArgs false
set_option linter.unusedVariables false
namespace Go.Proofs.Ytdiccicokbbcoaa
open Go Go.Kx
theorem F26 : Fun Try.prog 26 5 v26 c26 o26 := Fun.mk' Try.func26 Try.ntmps26 (by kernel_rfl) (by kernel_rfl) s26 q26
theorem F68 : Fun Try.prog 68 8 v68 c68 o68 := Fun.mk' Try.func68 Try.ntmps68 (by kernel_rfl) (by kernel_rfl) s68 q68

def UE (x : UInt8) (cs : List Value) : Prop := cs = [.int .u8 (x.toNat : Int)]
theorem UE1 : ∀ (x : UInt8) cs, UE x cs → ∀ u ∈ cs, u.oneCell' = true := fun x cs h u hu => by
  rw [h] at hu
  simp at hu
  subst hu
  rfl
abbrev SB (G : Nat → Option Obj) (v : Value) (l : List UInt8) : Prop := SlV G UE 1 v l
/-- Bytes that are handed over. -/
abbrev OwnB (zs : List UInt8) (L' : List Kx.Item) (r : Value) : Prop := OwnL UE 5 1 zs L' r
theorem SB.le {G G' : Nat → Option Obj} {v : Value} {l : List UInt8} (h : SB G v l) (hg : Gle G G') : SB G' v l := SlV.le h hg fun _ _ h => h
def cellB (l : List UInt8) : List Value := l.map fun b => .int .u8 (b.toNat : Int)
theorem cells_b : ∀ (l : List UInt8), Cells UE 1 l (cellB l)
  | [] => .nil
  | b :: l => .cons (cs := [.int .u8 (b.toNat : Int)]) rfl rfl (cells_b l)
theorem cells_bl {l : List UInt8} {zc : List Value} (h : Cells UE 1 l zc) : zc = cellB l := by
  induction h with
  | nil => rfl
  | cons h1 h2 h3 ih => rw [h1, ih]; rfl
theorem byteCells_b (s : ByteArray) : byteCells s = cellB s.data.toList := rfl
/-- One byte more. -/
theorem app8 {P : Program} {h : H} {d : Nat} {l : List SI} {e : Env} {K : Env → H → Prop} {u : Value} {b : Nat} {zs : List UInt8} {zc : List Value} {L1 L2 : List Kx.Item} {x : UInt8} {y : Int} (hL : h.L = .row (.slice (some ⟨b, 0, none⟩) 1 1) 5 1 1 [.int .u8 y] :: L1 ++ .row u 5 1 zs.length zc :: L2) (hy : y = (x.toNat : Int))
    (hc : Cells UE 1 zs zc) (hz : zs.length ≤ 10000000)
    (hk : ∀ A' c' zc', Cells UE 1 (zs ++ [x]) zc' → kR P l d e K (.slice A' (zs ++ [x]).length c') ⟨h.G, .row (.slice (some ⟨b, 0, none⟩) 1 1) 5 1 1 [.int .u8 y] :: L1 ++ .row (.slice A' (zs ++ [x]).length c') 5 1 (zs ++ [x]).length zc' :: L2, h.D⟩) :
    apX P u (.slice (some ⟨b, 0, none⟩) 1 1) 5 1 1 d l e h K := by
  subst hy
  refine ⟨.row (.slice (some ⟨b, 0, none⟩) 1 1) 5 1 1 [.int .u8 (x.toNat : Int)] :: L1, zs.length, zc, L2, 1, [.int .u8 (x.toNat : Int)], .inl hL, srcH_row (h := h) (by rw [hL]; exact .head _) (UE1 x _ rfl) rfl, by unfold maxLen; omega, fun A' c' => ?_⟩
  have := hk A' c' (zc ++ [.int .u8 (x.toNat : Int)]) (hc.app (.one (show UE x [.int .u8 (x.toNat : Int)] from rfl) rfl))
  simp only [List.length_append, List.length_cons, List.length_nil, Nat.zero_add] at this
  exact this
/-- A text put behind bytes. -/
theorem apX_s {P : Program} {h : H} {d : Nat} {l : List SI} {e : Env} {K : Env → H → Prop} {u : Value} {s : ByteArray} {zs : List UInt8} {zc : List Value} {L1 L2 : List Kx.Item} (hr : RowAt h.L u 5 1 L1 zs.length zc L2) (hc : Cells UE 1 zs zc) (hz : zs.length + s.size ≤ 10000000)
    (hk : ∀ A' c' zc', Cells UE 1 (zs ++ s.data.toList) zc' → kR P l d e K (.slice A' (zs ++ s.data.toList).length c') { h with L := L1 ++ .row (.slice A' (zs ++ s.data.toList).length c') 5 1 (zs ++ s.data.toList).length zc' :: L2 }) :
    apX P u (.string s) 5 1 1 d l e h K := by
  refine ⟨L1, zs.length, zc, L2, s.size, cellB s.data.toList, hr, ⟨fun u hu => ?_, ?_, .inr (.inr ⟨s, rfl, rfl, byteCells_b s, rfl⟩)⟩, by unfold maxLen; omega, fun A' c' => ?_⟩
  · simp [cellB] at hu; obtain ⟨_, _, rfl⟩ := hu; rfl
  · simp [cellB]
  · have := hk A' c' (zc ++ cellB s.data.toList) (hc.app (cells_b _))
    rw [List.length_append] at this
    exact this

theorem bin_mul (k : IntKind) (a b : Int) : binV .mul (.int k a) (.int k b) = some (.int k (k.wrap (a * b))) := by simp [binV]
theorem bin_add (k : IntKind) (a b : Int) : binV .add (.int k a) (.int k b) = some (.int k (k.wrap (a + b))) := by simp [binV]
theorem bin_sub (k : IntKind) (a b : Int) : binV .sub (.int k a) (.int k b) = some (.int k (k.wrap (a - b))) := by simp [binV]
theorem bin_quo (k : IntKind) (a b : Nat) (hb : b ≠ 0) (ha : (a : Int) ≤ k.max) (hk : k.signed = false) : binV .quo (.int k a) (.int k b) = some (.int k ((a / b : Nat) : Int)) := by
  have h1 : ¬ (b : Int) = 0 := by omega
  have h2 : k.wrap (((a / b : Nat) : Int)) = ((a / b : Nat) : Int) := by
    have hq := Nat.div_le_self a b
    generalize a / b = q at hq ⊢
    cases k <;> simp [IntKind.signed] at hk <;> simp [IntKind.max, IntKind.signed, IntKind.bits] at ha <;> simp only [IntKind.wrap, IntKind.signed, IntKind.bits] <;> simp <;> omega
  simp only [binV]
  rw [if_pos trivial, if_neg h1]
  have : (a : Int).tdiv (b : Int) = ((a / b : Nat) : Int) := by rw [Int.tdiv_eq_ediv_of_nonneg (by omega)]; rfl
  rw [this, h2]
theorem bin_rem (k : IntKind) (a b : Nat) (hb : b ≠ 0) : binV .rem (.int k a) (.int k b) = some (.int k ((a % b : Nat) : Int)) := by
  have h1 : ¬ (b : Int) = 0 := by omega
  simp only [binV]
  rw [if_pos trivial, if_neg h1]
  have : (a : Int).tmod (b : Int) = ((a % b : Nat) : Int) := by rw [Int.tmod_eq_emod_of_nonneg (by omega)]; rfl
  rw [this]
/-- What is owned is set down ahead of a call. -/
theorem callsH_gx {P : Program} {f : FuncId} {args : Array Value} {h : H} {M : H → Prop} {R : Value → H → Prop} (hE : Enters P f) (hg : GhostX h M) (hc : ∀ h', M h' → CallsH P f args h' R) : CallsH P f args h R :=
  ⟨hE, fun β w hs => by
    obtain ⟨h1, m, s1, t1, d1, r1⟩ := hg β w hs
    exact ((hc h1 m).2 β w s1).mono fun _ _ ⟨v, h2, a, ⟨b1, b2⟩, c, d, r⟩ => ⟨v, h2, a, ⟨b1.trans d1, r1.trans b2⟩, c, t1.trans d, r⟩⟩
theorem SB.nil {G : Nat → Option Obj} : SB G (.slice none 0 0) [] := ⟨none, 0, rfl, Nat.le_refl _, Nat.zero_le _, fun i x hx => by simp at hx⟩
theorem Copy_ok (l : List UInt8) (v : Value) (G : Nat → Option Obj) (hl : SB G v l) (hb : l.length ≤ 1000000) :
    FnO Try.prog 26 #[v] G [] (fun _ L' r => OwnB l L' r) := by
  refine F26.fnO (by simp) noRegs_nil (go_of ?_)
  unfold c26
  (intros; try refine go_st ?_); refine go_r 0 0 (by decide) ?_; (refine sJ c26r0.eq_1 ?_; try with_reducible exact True.intro)
  (intros; try refine go_st ?_); refine go_r 3 5 (by decide) ?_; (refine sJ c26r1.eq_1 ?_; try with_reducible exact True.intro)
  refine apX_v (.inr ⟨⟨none, rfl⟩, rfl, rfl, rfl, rfl⟩) hl rfl UE1 (by unfold maxLen; omega) fun ys A c hc => ?_
  simp only [Nat.zero_add]
  (refine sI ?_; try with_reducible exact True.intro)
  (intros; try refine go_st ?_)
  refine go_ret (retQ_o _ rfl (List.Sublist.refl _) (noRegs_row noRegs_nil) ?_)
  exact ⟨ys, hc, rfl⟩
theorem Clone_ok (l : List UInt8) (v : Value) (G : Nat → Option Obj) (hl : SB G v l) (hb : l.length ≤ 1000000) :
    FnO Try.prog 68 #[v] G [] (fun _ L' r => OwnB l L' r) := by
  refine F68.fnO (by simp) noRegs_nil (go_of ?_)
  have hl0 := hl
  obtain ⟨A, c, rfl, hc, hm, hA⟩ := hl
  unfold c68
  (intros; try refine go_st ?_); refine go_r 0 0 (by decide) ?_; (refine sJ c68r0.eq_1 ?_; try with_reducible exact True.intro)
  (intros; try refine go_st ?_); refine go_r 3 4 (by decide) ?_; (refine sJ c68r1.eq_1 ?_; try with_reducible exact True.intro)
  (intros; try refine go_st ?_); refine go_c ?_; (refine sI ?_; try with_reducible exact True.intro)
  refine gb (fun ht => ?_) (fun ht => ?_)
  · (intros; try refine go_st ?_); refine go_r 0 0 (by decide) ?_; (refine sJ c68r2.eq_1 ?_; try with_reducible exact True.intro)
    (intros; try refine go_st ?_)
    have hA0 : l = [] := by
      match l, hA with
      | [], _ => rfl
      | x :: xs, hA => obtain ⟨a, _, ha, _⟩ := hA 0 x rfl; subst ha; cases ht
    subst hA0
    refine go_ghost (ghost_nil none 5 1) ?_
    refine go_ret (retQ_o _ rfl (List.Sublist.refl _) (noRegs_row noRegs_nil) ?_)
    exact ⟨[], .nil, rfl⟩
  · (intros; try refine go_st ?_); refine go_r 5 8 (by decide) ?_; (refine sJ c68r3.eq_1 ?_; try with_reducible exact True.intro)
    intro b hb'
    refine apX_v (.inr ⟨⟨_, rfl⟩, rfl, rfl, rfl, rfl⟩) hl0 rfl UE1 (by unfold maxLen; omega) fun ys A c hc => ?_
    simp only [Nat.zero_add]
    (refine sI ?_; try with_reducible exact True.intro)
    (intros; try refine go_st ?_)
    refine go_ret (retQ_o _ rfl (List.Sublist.refl _) (noRegs_row noRegs_nil) ?_)
    exact ⟨ys, hc, rfl⟩
end Go.Proofs.Ytdiccicokbbcoaa

/- The code of the functions, types resolved, as a program of the prover reads it off the translation; each is held by the kernel. No condition. -/
import Derived.Test.YtgclikgkfchmlaaRows
import Derived.Test.YtgclikgkfchmlaaKm
namespace Go.Proofs.Ytgclikgkfchmlaa
open Go Go.Kx
-- watermeet/watermeetlaw10.EpochPuts
def c3r0 : List SI := [
  ⟨none, .mv 6 (.b false), none, 0⟩]
def c3r1 : List SI := [
  ⟨none, .call 14 11 [], none, 0⟩,
  ⟨none, .un 15 .not (.t 14), none, 0⟩]
def c3r2 : List SI := [
  ⟨none, .mv 6 (.b false), none, 0⟩]
def c3r3 : List SI := [
  ⟨none, .mv 16 (.t 0), none, 0⟩,
  ⟨none, .call 17 12 [(.t 16)], none, 0⟩,
  ⟨none, .un 18 .not (.t 17), none, 0⟩]
def c3r4 : List SI := [
  ⟨none, .mv 6 (.b true), none, 0⟩]
def c3r5 : List SI := [
  ⟨none, .mv 19 (.t 0), none, 0⟩,
  ⟨none, .call 20 13 [(.t 19)], none, 0⟩,
  ⟨none, .mv 7 (.t 20), none, 0⟩]
def c3r6 : List SI := [
  ⟨none, .mv 22 (.t 0), none, 0⟩,
  ⟨none, .mv 23 (.t 1), none, 0⟩,
  ⟨none, .mv 24 (.t 2), none, 0⟩,
  ⟨none, .call 25 14 [(.t 22), (.t 23), (.t 24)], none, 0⟩,
  ⟨none, .mv 21 (.t 25), none, 0⟩,
  ⟨none, .ext 26 (.t 21) 0, none, 0⟩,
  ⟨none, .ext 27 (.t 21) 1, none, 0⟩,
  ⟨none, .mv 8 (.t 26), none, 0⟩,
  ⟨none, .mv 9 (.t 27), none, 0⟩]
def c3r7 : List SI := [
  ⟨none, .mv 29 (.t 0), none, 0⟩,
  ⟨none, .mv 30 (.t 1), none, 0⟩,
  ⟨none, .mv 31 (.t 2), none, 0⟩,
  ⟨none, .call 32 15 [(.t 29), (.t 30), (.t 31)], none, 0⟩,
  ⟨none, .mv 28 (.t 32), none, 0⟩,
  ⟨none, .ext 33 (.t 28) 0, none, 0⟩,
  ⟨none, .ext 34 (.t 28) 1, none, 0⟩,
  ⟨none, .mv 10 (.t 33), none, 0⟩,
  ⟨none, .mv 11 (.t 34), none, 0⟩]
def c3r8 : List SI := [
  ⟨none, .mv 35 (.t 8), none, 0⟩,
  ⟨none, .mv 36 (.t 10), none, 0⟩,
  ⟨none, .call 37 16 [(.t 35), (.t 36)], none, 0⟩,
  ⟨none, .mv 38 (.t 37), none, 0⟩,
  ⟨some (38, true), .mv 39 (.t 9), none, 39⟩,
  ⟨some (38, true), .mv 40 (.t 11), none, 40⟩,
  ⟨some (38, true), .bin 41 .eql (.t 39) (.t 40), none, 41⟩,
  ⟨none, .pick 42 (.t 38) (.t 41) (.b false), none, 0⟩,
  ⟨none, .mv 43 (.t 42), none, 0⟩,
  ⟨some (43, true), .mv 44 (.t 0), none, 44⟩,
  ⟨some (43, true), .call 45 17 [(.t 44)], none, 45⟩,
  ⟨some (43, true), .mv 46 (.t 0), none, 46⟩,
  ⟨some (43, true), .call 47 18 [(.t 46)], none, 47⟩,
  ⟨some (43, true), .bin 48 .eql (.t 45) (.t 47), none, 48⟩,
  ⟨none, .pick 49 (.t 43) (.t 48) (.b false), none, 0⟩,
  ⟨none, .mv 12 (.t 49), none, 0⟩]
def c3r9 : List SI := [
  ⟨none, .mv 50 (.t 8), none, 0⟩,
  ⟨none, .len 51 false (.t 50), none, 0⟩,
  ⟨none, .mv 52 (.i 0), none, 0⟩]
def c3r10 : List SI := [
  ⟨none, .bin 53 .lss (.t 52) (.t 51), none, 0⟩]
def c3r11 : List SI := [
  ⟨none, .mv 54 (.t 52), none, 0⟩,
  ⟨none, .mv 13 (.t 54), none, 0⟩]
def c3r12 : List SI := [
  ⟨none, .mv 55 (.t 8), none, 0⟩,
  ⟨none, .mv 56 (.t 13), none, 0⟩,
  ⟨none, .ixA 57 (.t 55) (.t 56) 2, none, 0⟩,
  ⟨none, .flA 58 (.t 57) 1, none, 0⟩,
  ⟨none, .ld 59 (.t 58) none, none, 0⟩,
  ⟨none, .bin 60 .add (.t 59) (.i 1), none, 0⟩,
  ⟨none, .ixA 61 (.t 55) (.t 56) 2, none, 0⟩,
  ⟨none, .flA 62 (.t 61) 1, none, 0⟩,
  ⟨none, .st (.t 62) 1 (.t 60), none, 0⟩]
def c3r13 : List SI := [
  ⟨none, .bin 63 .add (.t 52) (.i 1), none, 0⟩,
  ⟨none, .mv 52 (.t 63), none, 0⟩]
def c3r14 : List SI := [
  ⟨none, .mv 64 (.t 12), none, 0⟩,
  ⟨none, .mv 65 (.t 64), none, 0⟩,
  ⟨some (65, true), .mv 66 (.t 0), none, 66⟩,
  ⟨some (65, true), .mv 67 (.t 7), none, 67⟩,
  ⟨some (65, true), .call 68 16 [(.t 66), (.t 67)], none, 68⟩,
  ⟨none, .pick 69 (.t 65) (.t 68) (.b false), none, 0⟩,
  ⟨none, .mv 6 (.t 69), none, 0⟩]
def c3 : SC :=
  (.seq (.reg false c3r0)
  (.seq (.seq (.reg false c3r1)
  (.cond (.t 15)
   (.seq (.reg false c3r2)
   .ret)
   .skip))
  (.seq (.seq (.reg false c3r3)
  (.cond (.t 18)
   (.seq (.reg false c3r4)
   .ret)
   .skip))
  (.seq (.reg false c3r5)
  (.seq (.reg false c3r6)
  (.seq (.reg false c3r7)
  (.seq (.reg false c3r8)
  (.seq (.seq (.reg false c3r9)
  (.blk 0 (.loop (.seq (.reg false c3r10)
    (.seq (.cond (.t 53)
     .skip
     (.exit 0))
    (.seq (.blk 1 (.seq (.reg false c3r11)
     (.reg false c3r12)))
    (.reg false c3r13)))))))
  (.seq (.reg false c3r14)
  .ret)))))))))
def v3 : List Nat × List Nat := ([], [])
def o3 : List RS := [.t 6]
theorem s3 : slimC Try.prog Try.f3.ntmps v3.1 v3.2 ((Try.f3.body).getD .skip) = some c3 := by kernel_rfl
theorem q3 : slimR Try.prog Try.f3.ntmps v3.1 v3.2 Try.f3.results.toList = some o3 := by kernel_rfl
-- watermeet/watermeetlaw10.EpochEnds
def c4r0 : List SI := [
  ⟨none, .mv 4 (.b false), none, 0⟩]
def c4r1 : List SI := [
  ⟨none, .call 12 11 [], none, 0⟩,
  ⟨none, .un 13 .not (.t 12), none, 0⟩]
def c4r2 : List SI := [
  ⟨none, .mv 4 (.b false), none, 0⟩]
def c4r3 : List SI := [
  ⟨none, .mv 14 (.t 0), none, 0⟩,
  ⟨none, .call 15 12 [(.t 14)], none, 0⟩,
  ⟨none, .un 16 .not (.t 15), none, 0⟩,
  ⟨none, .mv 17 (.t 16), none, 0⟩,
  ⟨some (17, false), .mv 18 (.t 0), none, 18⟩,
  ⟨some (17, false), .call 19 17 [(.t 18)], none, 19⟩,
  ⟨some (17, false), .bin 20 .neq (.t 19) (.i 0), none, 20⟩,
  ⟨none, .pick 21 (.t 17) (.b true) (.t 20), none, 0⟩]
def c4r4 : List SI := [
  ⟨none, .mv 4 (.b true), none, 0⟩]
def c4r5 : List SI := [
  ⟨none, .mv 22 (.t 0), none, 0⟩,
  ⟨none, .len 23 false (.t 22), none, 0⟩,
  ⟨none, .mv 24 (.i 0), none, 0⟩]
def c4r6 : List SI := [
  ⟨none, .bin 25 .lss (.t 24) (.t 23), none, 0⟩]
def c4r7 : List SI := [
  ⟨none, .mv 26 (.t 24), none, 0⟩,
  ⟨none, .ixA 27 (.t 22) (.t 24) 2, none, 0⟩,
  ⟨none, .ld 28 (.t 27) (some 2), none, 0⟩,
  ⟨none, .alR 6 [(.int .i64 0), (.int .i64 0)], none, 0⟩,
  ⟨none, .mv 5 (.t 26), none, 0⟩,
  ⟨none, .stR 6 0 2 (.t 28), none, 0⟩]
def c4r8 : List SI := [
  ⟨none, .mv 30 (.t 0), none, 0⟩,
  ⟨none, .nop, (some 6), 0⟩,
  ⟨none, .ldR 32 6 0 none, none, 0⟩,
  ⟨none, .mv 33 (.t 1), none, 0⟩,
  ⟨none, .call 34 19 [(.t 30), (.t 32), (.t 33)], none, 0⟩,
  ⟨none, .mv 29 (.t 34), none, 0⟩,
  ⟨none, .ext 35 (.t 29) 0, none, 0⟩,
  ⟨none, .ext 36 (.t 29) 1, none, 0⟩,
  ⟨none, .mv 7 (.t 35), none, 0⟩,
  ⟨none, .mv 8 (.t 36), none, 0⟩]
def c4r9 : List SI := [
  ⟨none, .mv 37 (.t 1), none, 0⟩,
  ⟨none, .mv 9 (.t 37), none, 0⟩]
def c4r10 : List SI := [
  ⟨none, .mv 38 (.t 5), none, 0⟩,
  ⟨none, .bin 39 .add (.t 38) (.i 1), none, 0⟩,
  ⟨none, .mv 40 (.t 0), none, 0⟩,
  ⟨none, .len 41 false (.t 40), none, 0⟩,
  ⟨none, .bin 42 .lss (.t 39) (.t 41), none, 0⟩]
def c4r11 : List SI := [
  ⟨none, .mv 43 (.t 0), none, 0⟩,
  ⟨none, .mv 44 (.t 5), none, 0⟩,
  ⟨none, .bin 45 .add (.t 44) (.i 1), none, 0⟩,
  ⟨none, .ixA 46 (.t 43) (.t 45) 2, none, 0⟩,
  ⟨none, .flA 47 (.t 46) 1, none, 0⟩,
  ⟨none, .ld 48 (.t 47) none, none, 0⟩,
  ⟨none, .mv 9 (.t 48), none, 0⟩]
def c4r12 : List SI := [
  ⟨none, .mv 49 (.t 7), none, 0⟩,
  ⟨none, .nop, (some 6), 0⟩,
  ⟨none, .ldR 51 6 0 none, none, 0⟩,
  ⟨none, .bin 52 .neq (.t 49) (.t 51), none, 0⟩,
  ⟨none, .mv 53 (.t 52), none, 0⟩,
  ⟨some (53, false), .mv 54 (.t 8), none, 54⟩,
  ⟨some (53, false), .mv 55 (.t 9), none, 55⟩,
  ⟨some (53, false), .bin 56 .neq (.t 54) (.t 55), none, 56⟩,
  ⟨none, .pick 57 (.t 53) (.b true) (.t 56), none, 0⟩]
def c4r13 : List SI := [
  ⟨none, .mv 4 (.b false), none, 0⟩]
def c4r14 : List SI := [
  ⟨none, .mv 59 (.t 0), none, 0⟩,
  ⟨none, .nop, (some 6), 0⟩,
  ⟨none, .ldR 61 6 0 none, none, 0⟩,
  ⟨none, .bin 62 .sub (.t 61) (.i 1), none, 0⟩,
  ⟨none, .mv 63 (.t 1), none, 0⟩,
  ⟨none, .call 64 19 [(.t 59), (.t 62), (.t 63)], none, 0⟩,
  ⟨none, .mv 58 (.t 64), none, 0⟩,
  ⟨none, .ext 65 (.t 58) 0, none, 0⟩,
  ⟨none, .ext 66 (.t 58) 1, none, 0⟩,
  ⟨none, .mv 10 (.t 65), none, 0⟩,
  ⟨none, .mv 11 (.t 66), none, 0⟩]
def c4r15 : List SI := [
  ⟨none, .mv 67 (.t 5), none, 0⟩,
  ⟨none, .bin 68 .eql (.t 67) (.i 0), none, 0⟩,
  ⟨none, .mv 69 (.t 68), none, 0⟩,
  ⟨some (69, true), .mv 70 (.t 10), none, 70⟩,
  ⟨some (69, true), .bin 71 .neq (.t 70) (.i (-1)), none, 71⟩,
  ⟨some (69, true), .mv 72 (.t 71), none, 72⟩,
  ⟨some (72, false), .mv 73 (.t 11), none, 73⟩,
  ⟨some (72, false), .bin 74 .neq (.t 73) (.i 0), none, 74⟩,
  ⟨some (69, true), .pick 75 (.t 72) (.b true) (.t 74), none, 75⟩,
  ⟨none, .pick 76 (.t 69) (.t 75) (.b false), none, 0⟩,
  ⟨none, .mv 77 (.t 76), none, 0⟩,
  ⟨some (77, false), .mv 78 (.t 5), none, 78⟩,
  ⟨some (77, false), .bin 79 .gtr (.t 78) (.i 0), none, 79⟩,
  ⟨some (77, false), .mv 80 (.t 79), none, 80⟩,
  ⟨some (80, true), .mv 81 (.t 10), none, 81⟩,
  ⟨some (80, true), .mv 82 (.t 0), none, 82⟩,
  ⟨some (80, true), .mv 83 (.t 5), none, 83⟩,
  ⟨some (80, true), .bin 84 .sub (.t 83) (.i 1), none, 84⟩,
  ⟨some (80, true), .ixA 85 (.t 82) (.t 84) 2, none, 85⟩,
  ⟨some (80, true), .flA 86 (.t 85) 0, none, 86⟩,
  ⟨some (80, true), .ld 87 (.t 86) none, none, 87⟩,
  ⟨some (80, true), .bin 88 .neq (.t 81) (.t 87), none, 88⟩,
  ⟨some (80, true), .mv 89 (.t 88), none, 89⟩,
  ⟨some (89, false), .mv 90 (.t 11), none, 90⟩,
  ⟨some (89, false), .nop, (some 6), 99999⟩,
  ⟨some (89, false), .ldR 92 6 1 none, none, 92⟩,
  ⟨some (89, false), .bin 93 .neq (.t 90) (.t 92), none, 93⟩,
  ⟨some (80, true), .pick 94 (.t 89) (.b true) (.t 93), none, 94⟩,
  ⟨some (77, false), .pick 95 (.t 80) (.t 94) (.b false), none, 95⟩,
  ⟨none, .pick 96 (.t 77) (.b true) (.t 95), none, 0⟩]
def c4r16 : List SI := [
  ⟨none, .mv 4 (.b false), none, 0⟩]
def c4r17 : List SI := [
  ⟨none, .bin 97 .add (.t 24) (.i 1), none, 0⟩,
  ⟨none, .mv 24 (.t 97), none, 0⟩]
def c4r18 : List SI := [
  ⟨none, .mv 4 (.b true), none, 0⟩]
def c4 : SC :=
  (.seq (.reg false c4r0)
  (.seq (.seq (.reg false c4r1)
  (.cond (.t 13)
   (.seq (.reg false c4r2)
   .ret)
   .skip))
  (.seq (.seq (.reg false c4r3)
  (.cond (.t 21)
   (.seq (.reg false c4r4)
   .ret)
   .skip))
  (.seq (.seq (.reg false c4r5)
  (.blk 0 (.loop (.seq (.reg false c4r6)
    (.seq (.cond (.t 25)
     .skip
     (.exit 0))
    (.seq (.blk 1 (.seq (.reg false c4r7)
     (.seq (.reg false c4r8)
     (.seq (.reg false c4r9)
     (.seq (.seq (.reg false c4r10)
     (.cond (.t 42)
      (.reg false c4r11)
      .skip))
     (.seq (.seq (.reg false c4r12)
     (.cond (.t 57)
      (.seq (.reg false c4r13)
      .ret)
      .skip))
     (.seq (.reg false c4r14)
     (.seq (.reg false c4r15)
     (.cond (.t 96)
      (.seq (.reg false c4r16)
      .ret)
      .skip)))))))))
    (.reg false c4r17)))))))
  (.seq (.reg false c4r18)
  .ret)))))
def v4 : List Nat × List Nat := ([6], [6, 31, 50, 60, 91])
def o4 : List RS := [.t 4]
theorem s4 : slimC Try.prog Try.f4.ntmps v4.1 v4.2 ((Try.f4.body).getD .skip) = some c4 := by kernel_rfl
theorem q4 : slimR Try.prog Try.f4.ntmps v4.1 v4.2 Try.f4.results.toList = some o4 := by kernel_rfl
-- watermeet/watermeetlaw10.EpochTells
def c5r0 : List SI := [
  ⟨none, .mv 6 (.b false), none, 0⟩]
def c5r1 : List SI := [
  ⟨none, .call 17 11 [], none, 0⟩,
  ⟨none, .un 18 .not (.t 17), none, 0⟩]
def c5r2 : List SI := [
  ⟨none, .mv 6 (.b false), none, 0⟩]
def c5r3 : List SI := [
  ⟨none, .mv 19 (.t 0), none, 0⟩,
  ⟨none, .call 20 12 [(.t 19)], none, 0⟩,
  ⟨none, .un 21 .not (.t 20), none, 0⟩]
def c5r4 : List SI := [
  ⟨none, .mv 6 (.b true), none, 0⟩]
def c5r5 : List SI := [
  ⟨none, .mv 22 (.t 0), none, 0⟩,
  ⟨none, .call 23 13 [(.t 22)], none, 0⟩,
  ⟨none, .mv 7 (.t 23), none, 0⟩]
def c5r6 : List SI := [
  ⟨none, .mv 25 (.t 0), none, 0⟩,
  ⟨none, .mv 26 (.t 1), none, 0⟩,
  ⟨none, .mv 27 (.t 2), none, 0⟩,
  ⟨none, .call 28 19 [(.t 25), (.t 26), (.t 27)], none, 0⟩,
  ⟨none, .mv 24 (.t 28), none, 0⟩,
  ⟨none, .ext 29 (.t 24) 0, none, 0⟩,
  ⟨none, .ext 30 (.t 24) 1, none, 0⟩,
  ⟨none, .mv 8 (.t 29), none, 0⟩,
  ⟨none, .mv 9 (.t 30), none, 0⟩]
def c5r7 : List SI := [
  ⟨none, .mv 32 (.t 0), none, 0⟩,
  ⟨none, .mv 33 (.t 1), none, 0⟩,
  ⟨none, .mv 34 (.t 2), none, 0⟩,
  ⟨none, .call 35 20 [(.t 32), (.t 33), (.t 34)], none, 0⟩,
  ⟨none, .mv 31 (.t 35), none, 0⟩,
  ⟨none, .ext 36 (.t 31) 0, none, 0⟩,
  ⟨none, .ext 37 (.t 31) 1, none, 0⟩,
  ⟨none, .mv 10 (.t 36), none, 0⟩,
  ⟨none, .mv 11 (.t 37), none, 0⟩]
def c5r8 : List SI := [
  ⟨none, .mv 38 (.t 0), none, 0⟩,
  ⟨none, .mv 39 (.t 2), none, 0⟩,
  ⟨none, .call 40 21 [(.t 38), (.t 39)], none, 0⟩,
  ⟨none, .mv 41 (.t 0), none, 0⟩,
  ⟨none, .mv 42 (.t 2), none, 0⟩,
  ⟨none, .call 43 22 [(.t 41), (.t 42)], none, 0⟩,
  ⟨none, .mv 12 (.t 40), none, 0⟩,
  ⟨none, .mv 13 (.t 43), none, 0⟩]
def c5r9 : List SI := [
  ⟨none, .mv 44 (.t 8), none, 0⟩,
  ⟨none, .mv 45 (.t 10), none, 0⟩,
  ⟨none, .bin 46 .eql (.t 44) (.t 45), none, 0⟩,
  ⟨none, .mv 47 (.t 46), none, 0⟩,
  ⟨some (47, true), .mv 48 (.t 9), none, 48⟩,
  ⟨some (47, true), .mv 49 (.t 11), none, 49⟩,
  ⟨some (47, true), .bin 50 .eql (.t 48) (.t 49), none, 50⟩,
  ⟨none, .pick 51 (.t 47) (.t 50) (.b false), none, 0⟩,
  ⟨none, .mv 52 (.t 51), none, 0⟩,
  ⟨some (52, true), .mv 53 (.t 12), none, 53⟩,
  ⟨some (52, true), .mv 54 (.t 0), none, 54⟩,
  ⟨some (52, true), .mv 55 (.t 2), none, 55⟩,
  ⟨some (52, true), .call 56 23 [(.t 54), (.t 55)], none, 56⟩,
  ⟨some (52, true), .call 57 16 [(.t 53), (.t 56)], none, 57⟩,
  ⟨none, .pick 58 (.t 52) (.t 57) (.b false), none, 0⟩,
  ⟨none, .mv 59 (.t 58), none, 0⟩,
  ⟨some (59, true), .mv 60 (.t 13), none, 60⟩,
  ⟨some (59, true), .mv 61 (.t 0), none, 61⟩,
  ⟨some (59, true), .mv 62 (.t 2), none, 62⟩,
  ⟨some (59, true), .call 63 24 [(.t 61), (.t 62)], none, 63⟩,
  ⟨some (59, true), .call 64 16 [(.t 60), (.t 63)], none, 64⟩,
  ⟨none, .pick 65 (.t 59) (.t 64) (.b false), none, 0⟩,
  ⟨none, .mv 14 (.t 65), none, 0⟩]
def c5r10 : List SI := [
  ⟨none, .mv 66 (.t 12), none, 0⟩,
  ⟨none, .len 67 false (.t 66), none, 0⟩,
  ⟨none, .mv 68 (.i 0), none, 0⟩]
def c5r11 : List SI := [
  ⟨none, .bin 69 .lss (.t 68) (.t 67), none, 0⟩]
def c5r12 : List SI := [
  ⟨none, .mv 70 (.t 68), none, 0⟩,
  ⟨none, .mv 15 (.t 70), none, 0⟩]
def c5r13 : List SI := [
  ⟨none, .mv 71 (.t 12), none, 0⟩,
  ⟨none, .mv 72 (.t 15), none, 0⟩,
  ⟨none, .ixA 73 (.t 71) (.t 72) 2, none, 0⟩,
  ⟨none, .flA 74 (.t 73) 1, none, 0⟩,
  ⟨none, .ld 75 (.t 74) none, none, 0⟩,
  ⟨none, .bin 76 .add (.t 75) (.i 1), none, 0⟩,
  ⟨none, .ixA 77 (.t 71) (.t 72) 2, none, 0⟩,
  ⟨none, .flA 78 (.t 77) 1, none, 0⟩,
  ⟨none, .st (.t 78) 1 (.t 76), none, 0⟩]
def c5r14 : List SI := [
  ⟨none, .bin 79 .add (.t 68) (.i 1), none, 0⟩,
  ⟨none, .mv 68 (.t 79), none, 0⟩]
def c5r15 : List SI := [
  ⟨none, .mv 80 (.t 13), none, 0⟩,
  ⟨none, .len 81 false (.t 80), none, 0⟩,
  ⟨none, .mv 82 (.i 0), none, 0⟩]
def c5r16 : List SI := [
  ⟨none, .bin 83 .lss (.t 82) (.t 81), none, 0⟩]
def c5r17 : List SI := [
  ⟨none, .mv 84 (.t 82), none, 0⟩,
  ⟨none, .mv 16 (.t 84), none, 0⟩]
def c5r18 : List SI := [
  ⟨none, .mv 85 (.t 13), none, 0⟩,
  ⟨none, .mv 86 (.t 16), none, 0⟩,
  ⟨none, .ixA 87 (.t 85) (.t 86) 2, none, 0⟩,
  ⟨none, .flA 88 (.t 87) 1, none, 0⟩,
  ⟨none, .ld 89 (.t 88) none, none, 0⟩,
  ⟨none, .bin 90 .add (.t 89) (.i 1), none, 0⟩,
  ⟨none, .ixA 91 (.t 85) (.t 86) 2, none, 0⟩,
  ⟨none, .flA 92 (.t 91) 1, none, 0⟩,
  ⟨none, .st (.t 92) 1 (.t 90), none, 0⟩]
def c5r19 : List SI := [
  ⟨none, .bin 93 .add (.t 82) (.i 1), none, 0⟩,
  ⟨none, .mv 82 (.t 93), none, 0⟩]
def c5r20 : List SI := [
  ⟨none, .mv 94 (.t 14), none, 0⟩,
  ⟨none, .mv 95 (.t 94), none, 0⟩,
  ⟨some (95, true), .mv 96 (.t 0), none, 96⟩,
  ⟨some (95, true), .mv 97 (.t 7), none, 97⟩,
  ⟨some (95, true), .call 98 16 [(.t 96), (.t 97)], none, 98⟩,
  ⟨none, .pick 99 (.t 95) (.t 98) (.b false), none, 0⟩,
  ⟨none, .mv 6 (.t 99), none, 0⟩]
def c5 : SC :=
  (.seq (.reg false c5r0)
  (.seq (.seq (.reg false c5r1)
  (.cond (.t 18)
   (.seq (.reg false c5r2)
   .ret)
   .skip))
  (.seq (.seq (.reg false c5r3)
  (.cond (.t 21)
   (.seq (.reg false c5r4)
   .ret)
   .skip))
  (.seq (.reg false c5r5)
  (.seq (.reg false c5r6)
  (.seq (.reg false c5r7)
  (.seq (.reg false c5r8)
  (.seq (.reg false c5r9)
  (.seq (.seq (.reg false c5r10)
  (.blk 0 (.loop (.seq (.reg false c5r11)
    (.seq (.cond (.t 69)
     .skip
     (.exit 0))
    (.seq (.blk 1 (.seq (.reg false c5r12)
     (.reg false c5r13)))
    (.reg false c5r14)))))))
  (.seq (.seq (.reg false c5r15)
  (.blk 2 (.loop (.seq (.reg false c5r16)
    (.seq (.cond (.t 83)
     .skip
     (.exit 2))
    (.seq (.blk 3 (.seq (.reg false c5r17)
     (.reg false c5r18)))
    (.reg false c5r19)))))))
  (.seq (.reg false c5r20)
  .ret)))))))))))
def v5 : List Nat × List Nat := ([], [])
def o5 : List RS := [.t 6]
theorem s5 : slimC Try.prog Try.f5.ntmps v5.1 v5.2 ((Try.f5.body).getD .skip) = some c5 := by kernel_rfl
theorem q5 : slimR Try.prog Try.f5.ntmps v5.1 v5.2 Try.f5.results.toList = some o5 := by kernel_rfl
-- watermeet/watermeetlaw10.EpochStays
def c6r0 : List SI := [
  ⟨none, .mv 8 (.b false), none, 0⟩]
def c6r1 : List SI := [
  ⟨none, .call 11 11 [], none, 0⟩,
  ⟨none, .un 12 .not (.t 11), none, 0⟩]
def c6r2 : List SI := [
  ⟨none, .mv 8 (.b false), none, 0⟩]
def c6r3 : List SI := [
  ⟨none, .mv 13 (.t 0), none, 0⟩,
  ⟨none, .call 14 12 [(.t 13)], none, 0⟩,
  ⟨none, .un 15 .not (.t 14), none, 0⟩]
def c6r4 : List SI := [
  ⟨none, .mv 8 (.b true), none, 0⟩]
def c6r5 : List SI := [
  ⟨none, .mv 17 (.t 0), none, 0⟩,
  ⟨none, .mv 18 (.t 1), none, 0⟩,
  ⟨none, .mv 19 (.t 2), none, 0⟩,
  ⟨none, .call 20 14 [(.t 17), (.t 18), (.t 19)], none, 0⟩,
  ⟨none, .mv 16 (.t 20), none, 0⟩,
  ⟨none, .ext 21 (.t 16) 0, none, 0⟩,
  ⟨none, .ext 22 (.t 16) 1, none, 0⟩,
  ⟨none, .mv 9 (.t 21), none, 0⟩,
  ⟨none, .mv 10 (.t 22), none, 0⟩]
def c6r6 : List SI := [
  ⟨none, .mv 23 (.t 10), none, 0⟩,
  ⟨none, .bin 24 .neq (.t 23) (.i 0), none, 0⟩]
def c6r7 : List SI := [
  ⟨none, .mv 25 (.t 9), none, 0⟩,
  ⟨none, .len 26 false (.t 25), none, 0⟩,
  ⟨none, .bin 27 .eql (.t 26) (.i 0), none, 0⟩,
  ⟨none, .mv 28 (.t 27), none, 0⟩,
  ⟨some (28, true), .mv 29 (.t 0), none, 29⟩,
  ⟨some (28, true), .call 30 17 [(.t 29)], none, 30⟩,
  ⟨some (28, true), .bin 31 .neq (.t 30) (.i 0), none, 31⟩,
  ⟨some (28, true), .mv 32 (.t 31), none, 32⟩,
  ⟨some (32, false), .mv 33 (.t 1), none, 33⟩,
  ⟨some (32, false), .bin 34 .lss (.t 33) (.i 0), none, 34⟩,
  ⟨some (28, true), .pick 35 (.t 32) (.b true) (.t 34), none, 35⟩,
  ⟨some (28, true), .mv 36 (.t 35), none, 36⟩,
  ⟨some (36, false), .mv 37 (.t 1), none, 37⟩,
  ⟨some (36, false), .bin 38 .gtr (.t 37) (.i 1048576), none, 38⟩,
  ⟨some (28, true), .pick 39 (.t 36) (.b true) (.t 38), none, 39⟩,
  ⟨some (28, true), .mv 40 (.t 39), none, 40⟩,
  ⟨some (40, false), .mv 41 (.t 2), none, 41⟩,
  ⟨some (40, false), .bin 42 .lss (.t 41) (.i 0), none, 42⟩,
  ⟨some (28, true), .pick 43 (.t 40) (.b true) (.t 42), none, 43⟩,
  ⟨some (28, true), .mv 44 (.t 43), none, 44⟩,
  ⟨some (44, false), .mv 45 (.t 2), none, 45⟩,
  ⟨some (44, false), .bin 46 .gtr (.t 45) (.i 1099511627776), none, 46⟩,
  ⟨some (28, true), .pick 47 (.t 44) (.b true) (.t 46), none, 47⟩,
  ⟨some (28, true), .mv 48 (.t 47), none, 48⟩,
  ⟨some (48, false), .mv 49 (.t 0), none, 49⟩,
  ⟨some (48, false), .len 50 false (.t 49), none, 50⟩,
  ⟨some (48, false), .bin 51 .gtr (.t 50) (.i 0), none, 51⟩,
  ⟨some (48, false), .mv 52 (.t 51), none, 52⟩,
  ⟨some (52, true), .mv 53 (.t 1), none, 53⟩,
  ⟨some (52, true), .mv 54 (.t 0), none, 54⟩,
  ⟨some (52, true), .mv 55 (.t 0), none, 55⟩,
  ⟨some (52, true), .len 56 false (.t 55), none, 56⟩,
  ⟨some (52, true), .bin 57 .sub (.t 56) (.i 1), none, 57⟩,
  ⟨some (52, true), .ixA 58 (.t 54) (.t 57) 2, none, 58⟩,
  ⟨some (52, true), .flA 59 (.t 58) 0, none, 59⟩,
  ⟨some (52, true), .ld 60 (.t 59) none, none, 60⟩,
  ⟨some (52, true), .bin 61 .lss (.t 53) (.t 60), none, 61⟩,
  ⟨some (52, true), .mv 62 (.t 61), none, 62⟩,
  ⟨some (62, false), .mv 63 (.t 2), none, 63⟩,
  ⟨some (62, false), .mv 64 (.t 0), none, 64⟩,
  ⟨some (62, false), .mv 65 (.t 0), none, 65⟩,
  ⟨some (62, false), .len 66 false (.t 65), none, 66⟩,
  ⟨some (62, false), .bin 67 .sub (.t 66) (.i 1), none, 67⟩,
  ⟨some (62, false), .ixA 68 (.t 64) (.t 67) 2, none, 68⟩,
  ⟨some (62, false), .flA 69 (.t 68) 1, none, 69⟩,
  ⟨some (62, false), .ld 70 (.t 69) none, none, 70⟩,
  ⟨some (62, false), .bin 71 .lss (.t 63) (.t 70), none, 71⟩,
  ⟨some (52, true), .pick 72 (.t 62) (.b true) (.t 71), none, 72⟩,
  ⟨some (48, false), .pick 73 (.t 52) (.t 72) (.b false), none, 73⟩,
  ⟨some (28, true), .pick 74 (.t 48) (.b true) (.t 73), none, 74⟩,
  ⟨none, .pick 75 (.t 28) (.t 74) (.b false), none, 0⟩,
  ⟨none, .mv 8 (.t 75), none, 0⟩]
def c6r8 : List SI := [
  ⟨none, .mv 76 (.t 9), none, 0⟩,
  ⟨none, .len 77 false (.t 76), none, 0⟩,
  ⟨none, .bin 78 .eql (.t 77) (.i 0), none, 0⟩,
  ⟨none, .mv 79 (.t 78), none, 0⟩,
  ⟨some (79, false), .mv 80 (.t 9), none, 80⟩,
  ⟨some (79, false), .mv 81 (.t 9), none, 81⟩,
  ⟨some (79, false), .len 82 false (.t 81), none, 82⟩,
  ⟨some (79, false), .bin 83 .sub (.t 82) (.i 1), none, 83⟩,
  ⟨some (79, false), .ixA 84 (.t 80) (.t 83) 2, none, 84⟩,
  ⟨some (79, false), .flA 85 (.t 84) 0, none, 85⟩,
  ⟨some (79, false), .ld 86 (.t 85) none, none, 86⟩,
  ⟨some (79, false), .mv 87 (.t 1), none, 87⟩,
  ⟨some (79, false), .bin 88 .neq (.t 86) (.t 87), none, 88⟩,
  ⟨none, .pick 89 (.t 79) (.b true) (.t 88), none, 0⟩,
  ⟨none, .mv 90 (.t 89), none, 0⟩,
  ⟨some (90, false), .mv 91 (.t 9), none, 91⟩,
  ⟨some (90, false), .mv 92 (.t 9), none, 92⟩,
  ⟨some (90, false), .len 93 false (.t 92), none, 93⟩,
  ⟨some (90, false), .bin 94 .sub (.t 93) (.i 1), none, 94⟩,
  ⟨some (90, false), .ixA 95 (.t 91) (.t 94) 2, none, 95⟩,
  ⟨some (90, false), .flA 96 (.t 95) 1, none, 96⟩,
  ⟨some (90, false), .ld 97 (.t 96) none, none, 97⟩,
  ⟨some (90, false), .mv 98 (.t 2), none, 98⟩,
  ⟨some (90, false), .bin 99 .gtr (.t 97) (.t 98), none, 99⟩,
  ⟨some (90, false), .mv 100 (.t 99), none, 100⟩,
  ⟨some (100, true), .mv 101 (.t 0), none, 101⟩,
  ⟨some (100, true), .len 102 false (.t 101), none, 102⟩,
  ⟨some (100, true), .bin 103 .eql (.t 102) (.i 0), none, 103⟩,
  ⟨some (100, true), .mv 104 (.t 103), none, 104⟩,
  ⟨some (104, false), .mv 105 (.t 9), none, 105⟩,
  ⟨some (104, false), .mv 106 (.t 9), none, 106⟩,
  ⟨some (104, false), .len 107 false (.t 106), none, 107⟩,
  ⟨some (104, false), .bin 108 .sub (.t 107) (.i 1), none, 108⟩,
  ⟨some (104, false), .ixA 109 (.t 105) (.t 108) 2, none, 109⟩,
  ⟨some (104, false), .ld 110 (.t 109) (some 2), none, 110⟩,
  ⟨some (104, false), .mv 111 (.t 0), none, 111⟩,
  ⟨some (104, false), .mv 112 (.t 0), none, 112⟩,
  ⟨some (104, false), .len 113 false (.t 112), none, 113⟩,
  ⟨some (104, false), .bin 114 .sub (.t 113) (.i 1), none, 114⟩,
  ⟨some (104, false), .ixA 115 (.t 111) (.t 114) 2, none, 115⟩,
  ⟨some (104, false), .ld 116 (.t 115) (some 2), none, 116⟩,
  ⟨some (104, false), .eqf 117 true [0, 0] (.t 110) (.t 116), none, 117⟩,
  ⟨some (100, true), .pick 118 (.t 104) (.b true) (.t 117), none, 118⟩,
  ⟨some (90, false), .pick 119 (.t 100) (.t 118) (.b false), none, 119⟩,
  ⟨none, .pick 120 (.t 90) (.b true) (.t 119), none, 0⟩]
def c6r9 : List SI := [
  ⟨none, .mv 8 (.b false), none, 0⟩]
def c6r10 : List SI := [
  ⟨none, .mv 121 (.t 9), none, 0⟩,
  ⟨none, .call 122 17 [(.t 121)], none, 0⟩,
  ⟨none, .bin 123 .eql (.t 122) (.i 0), none, 0⟩,
  ⟨none, .mv 124 (.t 123), none, 0⟩,
  ⟨some (124, true), .mv 125 (.t 9), none, 125⟩,
  ⟨some (124, true), .mv 126 (.t 3), none, 126⟩,
  ⟨some (124, true), .call 127 21 [(.t 125), (.t 126)], none, 127⟩,
  ⟨some (124, true), .call 128 17 [(.t 127)], none, 128⟩,
  ⟨some (124, true), .bin 129 .eql (.t 128) (.i 0), none, 129⟩,
  ⟨none, .pick 130 (.t 124) (.t 129) (.b false), none, 0⟩,
  ⟨none, .mv 131 (.t 130), none, 0⟩,
  ⟨some (131, true), .mv 132 (.t 9), none, 132⟩,
  ⟨some (131, true), .mv 133 (.t 3), none, 133⟩,
  ⟨some (131, true), .call 134 22 [(.t 132), (.t 133)], none, 134⟩,
  ⟨some (131, true), .call 135 17 [(.t 134)], none, 135⟩,
  ⟨some (131, true), .bin 136 .eql (.t 135) (.i 0), none, 136⟩,
  ⟨none, .pick 137 (.t 131) (.t 136) (.b false), none, 0⟩,
  ⟨none, .mv 8 (.t 137), none, 0⟩]
def c6 : SC :=
  (.seq (.reg false c6r0)
  (.seq (.seq (.reg false c6r1)
  (.cond (.t 12)
   (.seq (.reg false c6r2)
   .ret)
   .skip))
  (.seq (.seq (.reg false c6r3)
  (.cond (.t 15)
   (.seq (.reg false c6r4)
   .ret)
   .skip))
  (.seq (.reg false c6r5)
  (.seq (.seq (.reg false c6r6)
  (.cond (.t 24)
   (.seq (.reg false c6r7)
   .ret)
   .skip))
  (.seq (.seq (.reg true c6r8)
  (.cond (.t 120)
   (.seq (.reg false c6r9)
   .ret)
   .skip))
  (.seq (.reg false c6r10)
  .ret)))))))
def v6 : List Nat × List Nat := ([], [])
def o6 : List RS := [.t 8]
theorem s6 : slimC Try.prog Try.f6.ntmps v6.1 v6.2 ((Try.f6.body).getD .skip) = some c6 := by kernel_rfl
theorem q6 : slimR Try.prog Try.f6.ntmps v6.1 v6.2 Try.f6.results.toList = some o6 := by kernel_rfl
-- watermeet/watermeetlaw10.EpochGone
def c7r0 : List SI := [
  ⟨none, .mv 6 (.b false), none, 0⟩]
def c7r1 : List SI := [
  ⟨none, .call 7 11 [], none, 0⟩,
  ⟨none, .un 8 .not (.t 7), none, 0⟩]
def c7r2 : List SI := [
  ⟨none, .mv 6 (.b false), none, 0⟩]
def c7r3 : List SI := [
  ⟨none, .mv 9 (.t 0), none, 0⟩,
  ⟨none, .call 10 12 [(.t 9)], none, 0⟩,
  ⟨none, .un 11 .not (.t 10), none, 0⟩,
  ⟨none, .mv 12 (.t 11), none, 0⟩,
  ⟨some (12, false), .mv 13 (.t 1), none, 13⟩,
  ⟨some (12, false), .bin 14 .lss (.t 13) (.i 0), none, 14⟩,
  ⟨none, .pick 15 (.t 12) (.b true) (.t 14), none, 0⟩,
  ⟨none, .mv 16 (.t 15), none, 0⟩,
  ⟨some (16, false), .mv 17 (.t 1), none, 17⟩,
  ⟨some (16, false), .bin 18 .gtr (.t 17) (.i 1099511627776), none, 18⟩,
  ⟨none, .pick 19 (.t 16) (.b true) (.t 18), none, 0⟩,
  ⟨none, .mv 20 (.t 19), none, 0⟩,
  ⟨some (20, false), .mv 21 (.t 2), none, 21⟩,
  ⟨some (20, false), .mv 22 (.t 1), none, 22⟩,
  ⟨some (20, false), .bin 23 .leq (.t 21) (.t 22), none, 23⟩,
  ⟨none, .pick 24 (.t 20) (.b true) (.t 23), none, 0⟩]
def c7r4 : List SI := [
  ⟨none, .mv 6 (.b true), none, 0⟩]
def c7r5 : List SI := [
  ⟨none, .mv 25 (.t 0), none, 0⟩,
  ⟨none, .mv 26 (.t 1), none, 0⟩,
  ⟨none, .call 27 22 [(.t 25), (.t 26)], none, 0⟩,
  ⟨none, .mv 28 (.t 2), none, 0⟩,
  ⟨none, .call 29 21 [(.t 27), (.t 28)], none, 0⟩,
  ⟨none, .mv 30 (.t 0), none, 0⟩,
  ⟨none, .mv 31 (.t 2), none, 0⟩,
  ⟨none, .call 32 21 [(.t 30), (.t 31)], none, 0⟩,
  ⟨none, .mv 33 (.t 1), none, 0⟩,
  ⟨none, .call 34 22 [(.t 32), (.t 33)], none, 0⟩,
  ⟨none, .call 35 16 [(.t 29), (.t 34)], none, 0⟩,
  ⟨none, .mv 6 (.t 35), none, 0⟩]
def c7 : SC :=
  (.seq (.reg false c7r0)
  (.seq (.seq (.reg false c7r1)
  (.cond (.t 8)
   (.seq (.reg false c7r2)
   .ret)
   .skip))
  (.seq (.seq (.reg false c7r3)
  (.cond (.t 24)
   (.seq (.reg false c7r4)
   .ret)
   .skip))
  (.seq (.reg false c7r5)
  .ret))))
def v7 : List Nat × List Nat := ([], [])
def o7 : List RS := [.t 6]
theorem s7 : slimC Try.prog Try.f7.ntmps v7.1 v7.2 ((Try.f7.body).getD .skip) = some c7 := by kernel_rfl
theorem q7 : slimR Try.prog Try.f7.ntmps v7.1 v7.2 Try.f7.results.toList = some o7 := by kernel_rfl
-- watermeet/watermeetlaw10.EpochBoth
def c8r0 : List SI := [
  ⟨none, .mv 8 (.b false), none, 0⟩]
def c8r1 : List SI := [
  ⟨none, .call 12 11 [], none, 0⟩,
  ⟨none, .un 13 .not (.t 12), none, 0⟩]
def c8r2 : List SI := [
  ⟨none, .mv 8 (.b false), none, 0⟩]
def c8r3 : List SI := [
  ⟨none, .mv 14 (.t 0), none, 0⟩,
  ⟨none, .call 15 12 [(.t 14)], none, 0⟩,
  ⟨none, .un 16 .not (.t 15), none, 0⟩,
  ⟨none, .mv 17 (.t 16), none, 0⟩,
  ⟨some (17, false), .mv 18 (.t 1), none, 18⟩,
  ⟨some (17, false), .call 19 12 [(.t 18)], none, 19⟩,
  ⟨some (17, false), .un 20 .not (.t 19), none, 20⟩,
  ⟨none, .pick 21 (.t 17) (.b true) (.t 20), none, 0⟩]
def c8r4 : List SI := [
  ⟨none, .mv 8 (.b true), none, 0⟩]
def c8r5 : List SI := [
  ⟨none, .mv 22 (.t 0), none, 0⟩,
  ⟨none, .mv 23 (.t 2), none, 0⟩,
  ⟨none, .mv 24 (.t 1), none, 0⟩,
  ⟨none, .mv 25 (.t 3), none, 0⟩,
  ⟨none, .call 26 25 [(.t 22), (.t 23), (.t 24), (.t 25)], none, 0⟩,
  ⟨none, .mv 9 (.t 26), none, 0⟩]
def c8r6 : List SI := [
  ⟨none, .mv 27 (.t 9), none, 0⟩,
  ⟨none, .mv 28 (.t 1), none, 0⟩,
  ⟨none, .mv 29 (.t 3), none, 0⟩,
  ⟨none, .mv 30 (.t 0), none, 0⟩,
  ⟨none, .mv 31 (.t 2), none, 0⟩,
  ⟨none, .call 32 25 [(.t 28), (.t 29), (.t 30), (.t 31)], none, 0⟩,
  ⟨none, .bin 33 .neq (.t 27) (.t 32), none, 0⟩]
def c8r7 : List SI := [
  ⟨none, .mv 8 (.b false), none, 0⟩]
def c8r8 : List SI := [
  ⟨none, .mv 34 (.t 0), none, 0⟩,
  ⟨none, .call 35 17 [(.t 34)], none, 0⟩,
  ⟨none, .bin 36 .neq (.t 35) (.i 0), none, 0⟩,
  ⟨none, .mv 37 (.t 36), none, 0⟩,
  ⟨some (37, false), .mv 38 (.t 1), none, 38⟩,
  ⟨some (37, false), .call 39 17 [(.t 38)], none, 39⟩,
  ⟨some (37, false), .bin 40 .neq (.t 39) (.i 0), none, 40⟩,
  ⟨none, .pick 41 (.t 37) (.b true) (.t 40), none, 0⟩,
  ⟨none, .mv 42 (.t 41), none, 0⟩,
  ⟨some (42, false), .mv 43 (.t 0), none, 43⟩,
  ⟨some (42, false), .len 44 false (.t 43), none, 44⟩,
  ⟨some (42, false), .bin 45 .eql (.t 44) (.i 0), none, 45⟩,
  ⟨none, .pick 46 (.t 42) (.b true) (.t 45), none, 0⟩,
  ⟨none, .mv 47 (.t 46), none, 0⟩,
  ⟨some (47, false), .mv 48 (.t 1), none, 48⟩,
  ⟨some (47, false), .len 49 false (.t 48), none, 49⟩,
  ⟨some (47, false), .bin 50 .eql (.t 49) (.i 0), none, 50⟩,
  ⟨none, .pick 51 (.t 47) (.b true) (.t 50), none, 0⟩]
def c8r9 : List SI := [
  ⟨none, .mv 52 (.t 9), none, 0⟩,
  ⟨none, .bin 53 .eql (.t 52) (.i 0), none, 0⟩,
  ⟨none, .mv 8 (.t 53), none, 0⟩]
def c8r10 : List SI := [
  ⟨none, .mv 54 (.t 0), none, 0⟩,
  ⟨none, .mv 55 (.t 0), none, 0⟩,
  ⟨none, .len 56 false (.t 55), none, 0⟩,
  ⟨none, .bin 57 .sub (.t 56) (.i 1), none, 0⟩,
  ⟨none, .ixA 58 (.t 54) (.t 57) 2, none, 0⟩,
  ⟨none, .flA 59 (.t 58) 1, none, 0⟩,
  ⟨none, .ld 60 (.t 59) none, none, 0⟩,
  ⟨none, .mv 61 (.t 1), none, 0⟩,
  ⟨none, .mv 62 (.t 1), none, 0⟩,
  ⟨none, .len 63 false (.t 62), none, 0⟩,
  ⟨none, .bin 64 .sub (.t 63) (.i 1), none, 0⟩,
  ⟨none, .ixA 65 (.t 61) (.t 64) 2, none, 0⟩,
  ⟨none, .flA 66 (.t 65) 1, none, 0⟩,
  ⟨none, .ld 67 (.t 66) none, none, 0⟩,
  ⟨none, .mv 10 (.t 60), none, 0⟩,
  ⟨none, .mv 11 (.t 67), none, 0⟩]
def c8r11 : List SI := [
  ⟨none, .mv 68 (.t 2), none, 0⟩,
  ⟨none, .mv 69 (.t 10), none, 0⟩,
  ⟨none, .bin 70 .lss (.t 68) (.t 69), none, 0⟩,
  ⟨none, .mv 71 (.t 70), none, 0⟩,
  ⟨some (71, false), .mv 72 (.t 3), none, 72⟩,
  ⟨some (71, false), .mv 73 (.t 11), none, 73⟩,
  ⟨some (71, false), .bin 74 .lss (.t 72) (.t 73), none, 74⟩,
  ⟨none, .pick 75 (.t 71) (.b true) (.t 74), none, 0⟩,
  ⟨none, .mv 76 (.t 75), none, 0⟩,
  ⟨some (76, false), .mv 77 (.t 9), none, 77⟩,
  ⟨some (76, false), .bin 78 .geq (.t 77) (.i 0), none, 78⟩,
  ⟨some (76, false), .mv 79 (.t 78), none, 79⟩,
  ⟨some (79, true), .mv 80 (.t 9), none, 80⟩,
  ⟨some (79, true), .mv 81 (.t 2), none, 81⟩,
  ⟨some (79, true), .bin 82 .leq (.t 80) (.t 81), none, 82⟩,
  ⟨some (76, false), .pick 83 (.t 79) (.t 82) (.b false), none, 83⟩,
  ⟨some (76, false), .mv 84 (.t 83), none, 84⟩,
  ⟨some (84, true), .mv 85 (.t 9), none, 85⟩,
  ⟨some (84, true), .mv 86 (.t 3), none, 86⟩,
  ⟨some (84, true), .bin 87 .leq (.t 85) (.t 86), none, 87⟩,
  ⟨some (76, false), .pick 88 (.t 84) (.t 87) (.b false), none, 88⟩,
  ⟨none, .pick 89 (.t 76) (.b true) (.t 88), none, 0⟩,
  ⟨none, .mv 8 (.t 89), none, 0⟩]
def c8 : SC :=
  (.seq (.reg false c8r0)
  (.seq (.seq (.reg false c8r1)
  (.cond (.t 13)
   (.seq (.reg false c8r2)
   .ret)
   .skip))
  (.seq (.seq (.reg false c8r3)
  (.cond (.t 21)
   (.seq (.reg false c8r4)
   .ret)
   .skip))
  (.seq (.reg false c8r5)
  (.seq (.seq (.reg false c8r6)
  (.cond (.t 33)
   (.seq (.reg false c8r7)
   .ret)
   .skip))
  (.seq (.seq (.reg false c8r8)
  (.cond (.t 51)
   (.seq (.reg false c8r9)
   .ret)
   .skip))
  (.seq (.reg true c8r10)
  (.seq (.reg false c8r11)
  .ret))))))))
def v8 : List Nat × List Nat := ([], [])
def o8 : List RS := [.t 8]
theorem s8 : slimC Try.prog Try.f8.ntmps v8.1 v8.2 ((Try.f8.body).getD .skip) = some c8 := by kernel_rfl
theorem q8 : slimR Try.prog Try.f8.ntmps v8.1 v8.2 Try.f8.results.toList = some o8 := by kernel_rfl
-- watermeet/watermeetlaw10.EpochMeets
def c9r0 : List SI := [
  ⟨none, .mv 10 (.b false), none, 0⟩]
def c9r1 : List SI := [
  ⟨none, .call 11 11 [], none, 0⟩,
  ⟨none, .un 12 .not (.t 11), none, 0⟩]
def c9r2 : List SI := [
  ⟨none, .mv 10 (.b false), none, 0⟩]
def c9r3 : List SI := [
  ⟨none, .mv 13 (.t 0), none, 0⟩,
  ⟨none, .call 14 12 [(.t 13)], none, 0⟩,
  ⟨none, .un 15 .not (.t 14), none, 0⟩,
  ⟨none, .mv 16 (.t 15), none, 0⟩,
  ⟨some (16, false), .mv 17 (.t 1), none, 17⟩,
  ⟨some (16, false), .call 18 12 [(.t 17)], none, 18⟩,
  ⟨some (16, false), .un 19 .not (.t 18), none, 19⟩,
  ⟨none, .pick 20 (.t 16) (.b true) (.t 19), none, 0⟩,
  ⟨none, .mv 21 (.t 20), none, 0⟩,
  ⟨some (21, false), .mv 22 (.t 4), none, 22⟩,
  ⟨some (21, false), .call 23 26 [(.t 22), (.i 60)], none, 23⟩,
  ⟨some (21, false), .un 24 .not (.t 23), none, 24⟩,
  ⟨none, .pick 25 (.t 21) (.b true) (.t 24), none, 0⟩]
def c9r4 : List SI := [
  ⟨none, .mv 10 (.b true), none, 0⟩]
def c9r5 : List SI := [
  ⟨none, .mv 26 (.t 0), none, 0⟩,
  ⟨none, .mv 27 (.t 2), none, 0⟩,
  ⟨none, .mv 28 (.t 1), none, 0⟩,
  ⟨none, .mv 29 (.t 3), none, 0⟩,
  ⟨none, .call 30 25 [(.t 26), (.t 27), (.t 28), (.t 29)], none, 0⟩,
  ⟨none, .mv 31 (.t 0), none, 0⟩,
  ⟨none, .mv 32 (.t 2), none, 0⟩,
  ⟨none, .mv 33 (.t 1), none, 0⟩,
  ⟨none, .mv 34 (.t 3), none, 0⟩,
  ⟨none, .call 35 27 [(.t 31), (.t 32), (.t 33), (.t 34)], none, 0⟩,
  ⟨none, .bin 36 .eql (.t 30) (.t 35), none, 0⟩,
  ⟨none, .mv 37 (.t 36), none, 0⟩,
  ⟨some (37, true), .mv 38 (.t 4), none, 38⟩,
  ⟨some (37, true), .call 39 28 [(.t 38)], none, 39⟩,
  ⟨some (37, true), .mv 40 (.t 4), none, 40⟩,
  ⟨some (37, true), .call 41 29 [(.t 40)], none, 41⟩,
  ⟨some (37, true), .call 42 16 [(.t 39), (.t 41)], none, 42⟩,
  ⟨none, .pick 43 (.t 37) (.t 42) (.b false), none, 0⟩,
  ⟨none, .mv 10 (.t 43), none, 0⟩]
def c9 : SC :=
  (.seq (.reg false c9r0)
  (.seq (.seq (.reg false c9r1)
  (.cond (.t 12)
   (.seq (.reg false c9r2)
   .ret)
   .skip))
  (.seq (.seq (.reg false c9r3)
  (.cond (.t 25)
   (.seq (.reg false c9r4)
   .ret)
   .skip))
  (.seq (.reg false c9r5)
  .ret))))
def v9 : List Nat × List Nat := ([], [])
def o9 : List RS := [.t 10]
theorem s9 : slimC Try.prog Try.f9.ntmps v9.1 v9.2 ((Try.f9.body).getD .skip) = some c9 := by kernel_rfl
theorem q9 : slimR Try.prog Try.f9.ntmps v9.1 v9.2 Try.f9.results.toList = some o9 := by kernel_rfl
-- watermeet/watermeetlaw10.EpochSafe
def c10r0 : List SI := [
  ⟨none, .mv 6 (.b false), none, 0⟩]
def c10r1 : List SI := [
  ⟨none, .call 14 11 [], none, 0⟩,
  ⟨none, .un 15 .not (.t 14), none, 0⟩]
def c10r2 : List SI := [
  ⟨none, .mv 6 (.b false), none, 0⟩]
def c10r3 : List SI := [
  ⟨none, .mv 16 (.t 0), none, 0⟩,
  ⟨none, .len 17 false (.t 16), none, 0⟩,
  ⟨none, .bin 18 .gtr (.t 17) (.i 30), none, 0⟩,
  ⟨none, .mv 19 (.t 18), none, 0⟩,
  ⟨some (19, false), .mv 20 (.t 1), none, 20⟩,
  ⟨some (19, false), .len 21 false (.t 20), none, 21⟩,
  ⟨some (19, false), .bin 22 .gtr (.t 21) (.i 30), none, 22⟩,
  ⟨none, .pick 23 (.t 19) (.b true) (.t 22), none, 0⟩,
  ⟨none, .mv 24 (.t 23), none, 0⟩,
  ⟨some (24, false), .mv 25 (.t 2), none, 25⟩,
  ⟨some (24, false), .len 26 false (.t 25), none, 26⟩,
  ⟨some (24, false), .bin 27 .gtr (.t 26) (.i 30), none, 27⟩,
  ⟨none, .pick 28 (.t 24) (.b true) (.t 27), none, 0⟩]
def c10r4 : List SI := [
  ⟨none, .mv 6 (.b true), none, 0⟩]
def c10r5 : List SI := [
  ⟨none, .mv 29 (.t 0), none, 0⟩,
  ⟨none, .call 30 30 [(.i 0), (.i 1), (.i 1), (.t 29)], none, 0⟩,
  ⟨none, .mv 7 (.t 30), none, 0⟩]
def c10r6 : List SI := [
  ⟨none, .mv 8 (.i 1), none, 0⟩]
def c10r7 : List SI := [
  ⟨none, .mv 31 (.t 7), none, 0⟩,
  ⟨none, .len 32 false (.t 31), none, 0⟩,
  ⟨none, .bin 33 .gtr (.t 32) (.i 0), none, 0⟩]
def c10r8 : List SI := [
  ⟨none, .mv 34 (.t 7), none, 0⟩,
  ⟨none, .mv 35 (.t 7), none, 0⟩,
  ⟨none, .len 36 false (.t 35), none, 0⟩,
  ⟨none, .bin 37 .sub (.t 36) (.i 1), none, 0⟩,
  ⟨none, .ixA 38 (.t 34) (.t 37) 10, none, 0⟩,
  ⟨none, .flA 39 (.t 38) 3, none, 0⟩,
  ⟨none, .ld 40 (.t 39) none, none, 0⟩,
  ⟨none, .mv 8 (.t 40), none, 0⟩]
def c10r9 : List SI := [
  ⟨none, .mv 41 (.t 8), none, 0⟩,
  ⟨none, .bin 42 .add (.t 41) (.i 2), none, 0⟩,
  ⟨none, .mv 43 (.t 8), none, 0⟩,
  ⟨none, .bin 44 .rem (.t 43) (.i 2), none, 0⟩,
  ⟨none, .bin 45 .sub (.t 42) (.t 44), none, 0⟩,
  ⟨none, .mv 46 (.t 8), none, 0⟩,
  ⟨none, .bin 47 .add (.t 46) (.i 1), none, 0⟩,
  ⟨none, .mv 48 (.t 8), none, 0⟩,
  ⟨none, .bin 49 .rem (.t 48) (.i 2), none, 0⟩,
  ⟨none, .bin 50 .add (.t 47) (.t 49), none, 0⟩,
  ⟨none, .mv 9 (.t 45), none, 0⟩,
  ⟨none, .mv 10 (.t 50), none, 0⟩]
def c10r10 : List SI := [
  ⟨none, .mv 51 (.t 1), none, 0⟩,
  ⟨none, .len 52 false (.t 51), none, 0⟩,
  ⟨none, .bin 53 .gtr (.t 52) (.i 0), none, 0⟩]
def c10r11 : List SI := [
  ⟨none, .bls 54 5 1 1 [(.int .u8 0)] [(0, 1, (.v (.int .u8 0)))], none, 0⟩,
  ⟨none, .mv 55 (.t 1), none, 0⟩,
  ⟨none, .app 56 (.t 54) (.t 55) 5 1 1, none, 0⟩,
  ⟨none, .mv 1 (.t 56), none, 0⟩]
def c10r12 : List SI := [
  ⟨none, .mv 57 (.t 2), none, 0⟩,
  ⟨none, .len 58 false (.t 57), none, 0⟩,
  ⟨none, .bin 59 .gtr (.t 58) (.i 0), none, 0⟩]
def c10r13 : List SI := [
  ⟨none, .bls 60 5 1 1 [(.int .u8 0)] [(0, 1, (.v (.int .u8 0)))], none, 0⟩,
  ⟨none, .mv 61 (.t 2), none, 0⟩,
  ⟨none, .app 62 (.t 60) (.t 61) 5 1 1, none, 0⟩,
  ⟨none, .mv 2 (.t 62), none, 0⟩]
def c10r14 : List SI := [
  ⟨none, .mv 63 (.t 7), none, 0⟩,
  ⟨none, .app 64 (.v (.slice none 0 0)) (.t 63) 49 10 96, none, 0⟩,
  ⟨none, .mv 65 (.t 0), none, 0⟩,
  ⟨none, .len 66 false (.t 65), none, 0⟩,
  ⟨none, .mv 67 (.t 9), none, 0⟩,
  ⟨none, .mv 68 (.t 1), none, 0⟩,
  ⟨none, .call 69 30 [(.t 66), (.t 67), (.i 2), (.t 68)], none, 0⟩,
  ⟨none, .app 70 (.t 64) (.t 69) 49 10 96, none, 0⟩,
  ⟨none, .mv 11 (.t 70), none, 0⟩]
def c10r15 : List SI := [
  ⟨none, .mv 71 (.t 7), none, 0⟩,
  ⟨none, .app 72 (.v (.slice none 0 0)) (.t 71) 49 10 96, none, 0⟩,
  ⟨none, .mv 73 (.t 0), none, 0⟩,
  ⟨none, .len 74 false (.t 73), none, 0⟩,
  ⟨none, .mv 75 (.t 10), none, 0⟩,
  ⟨none, .mv 76 (.t 2), none, 0⟩,
  ⟨none, .call 77 30 [(.t 74), (.t 75), (.i 2), (.t 76)], none, 0⟩,
  ⟨none, .app 78 (.t 72) (.t 77) 49 10 96, none, 0⟩,
  ⟨none, .mv 12 (.t 78), none, 0⟩]
def c10r16 : List SI := [
  ⟨none, .mv 79 (.t 11), none, 0⟩,
  ⟨none, .call 80 28 [(.t 79)], none, 0⟩,
  ⟨none, .mv 81 (.t 11), none, 0⟩,
  ⟨none, .len 82 false (.t 81), none, 0⟩,
  ⟨none, .mv 83 (.t 12), none, 0⟩,
  ⟨none, .call 84 28 [(.t 83)], none, 0⟩,
  ⟨none, .mv 85 (.t 12), none, 0⟩,
  ⟨none, .len 86 false (.t 85), none, 0⟩,
  ⟨none, .call 87 25 [(.t 80), (.t 82), (.t 84), (.t 86)], none, 0⟩,
  ⟨none, .mv 13 (.t 87), none, 0⟩]
def c10r17 : List SI := [
  ⟨none, .mv 88 (.t 13), none, 0⟩,
  ⟨none, .bin 89 .lss (.t 88) (.i 0), none, 0⟩,
  ⟨none, .mv 90 (.t 89), none, 0⟩,
  ⟨some (90, false), .mv 91 (.t 13), none, 91⟩,
  ⟨some (90, false), .mv 92 (.t 11), none, 92⟩,
  ⟨some (90, false), .len 93 false (.t 92), none, 93⟩,
  ⟨some (90, false), .bin 94 .gtr (.t 91) (.t 93), none, 94⟩,
  ⟨none, .pick 95 (.t 90) (.b true) (.t 94), none, 0⟩,
  ⟨none, .mv 96 (.t 95), none, 0⟩,
  ⟨some (96, false), .mv 97 (.t 13), none, 97⟩,
  ⟨some (96, false), .mv 98 (.t 12), none, 98⟩,
  ⟨some (96, false), .len 99 false (.t 98), none, 99⟩,
  ⟨some (96, false), .bin 100 .gtr (.t 97) (.t 99), none, 100⟩,
  ⟨none, .pick 101 (.t 96) (.b true) (.t 100), none, 0⟩,
  ⟨none, .mv 102 (.t 101), none, 0⟩,
  ⟨some (102, false), .mv 103 (.t 0), none, 103⟩,
  ⟨some (102, false), .len 104 false (.t 103), none, 104⟩,
  ⟨some (102, false), .bin 105 .gtr (.t 104) (.i 0), none, 105⟩,
  ⟨some (102, false), .mv 106 (.t 105), none, 106⟩,
  ⟨some (106, true), .mv 107 (.t 13), none, 107⟩,
  ⟨some (106, true), .mv 108 (.t 0), none, 108⟩,
  ⟨some (106, true), .len 109 false (.t 108), none, 109⟩,
  ⟨some (106, true), .bin 110 .lss (.t 107) (.t 109), none, 110⟩,
  ⟨some (102, false), .pick 111 (.t 106) (.t 110) (.b false), none, 111⟩,
  ⟨none, .pick 112 (.t 102) (.b true) (.t 111), none, 0⟩]
def c10r18 : List SI := [
  ⟨none, .mv 6 (.b false), none, 0⟩]
def c10r19 : List SI := [
  ⟨none, .mv 113 (.t 11), none, 0⟩,
  ⟨none, .mv 114 (.t 13), none, 0⟩,
  ⟨none, .sl 115 (.t 113) none (some (.t 114)) none 10, none, 0⟩,
  ⟨none, .mv 116 (.t 12), none, 0⟩,
  ⟨none, .mv 117 (.t 13), none, 0⟩,
  ⟨none, .sl 118 (.t 116) none (some (.t 117)) none 10, none, 0⟩,
  ⟨none, .call 119 31 [(.t 115), (.t 118)], none, 0⟩,
  ⟨none, .mv 6 (.t 119), none, 0⟩]
def c10 : SC :=
  (.seq (.reg false c10r0)
  (.seq (.seq (.reg false c10r1)
  (.cond (.t 15)
   (.seq (.reg false c10r2)
   .ret)
   .skip))
  (.seq (.seq (.reg false c10r3)
  (.cond (.t 28)
   (.seq (.reg false c10r4)
   .ret)
   .skip))
  (.seq (.reg false c10r5)
  (.seq (.reg false c10r6)
  (.seq (.seq (.reg false c10r7)
  (.cond (.t 33)
   (.reg false c10r8)
   .skip))
  (.seq (.reg false c10r9)
  (.seq (.seq (.reg false c10r10)
  (.cond (.t 53)
   (.reg false c10r11)
   .skip))
  (.seq (.seq (.reg false c10r12)
  (.cond (.t 59)
   (.reg false c10r13)
   .skip))
  (.seq (.reg false c10r14)
  (.seq (.reg false c10r15)
  (.seq (.reg false c10r16)
  (.seq (.seq (.reg false c10r17)
  (.cond (.t 112)
   (.seq (.reg false c10r18)
   .ret)
   .skip))
  (.seq (.reg true c10r19)
  .ret))))))))))))))
def v10 : List Nat × List Nat := ([], [])
def o10 : List RS := [.t 6]
theorem s10 : slimC Try.prog Try.f10.ntmps v10.1 v10.2 ((Try.f10.body).getD .skip) = some c10 := by kernel_rfl
theorem q10 : slimR Try.prog Try.f10.ntmps v10.1 v10.2 Try.f10.results.toList = some o10 := by kernel_rfl
-- watermeet/watermeetlaw10.live
def c11r0 : List SI := [
  ⟨none, .mv 0 (.b false), none, 0⟩]
def c11r1 : List SI := [
  ⟨none, .bld 6 [(.int .i64 0), (.int .i64 0)] [(0, 1, (.i 1)), (1, 1, (.i 0))], none, 0⟩,
  ⟨none, .bld 7 [(.int .i64 0), (.int .i64 0)] [(0, 1, (.i 3)), (1, 1, (.i 10))], none, 0⟩,
  ⟨none, .bls 8 32 2 2 [(.int .i64 0), (.int .i64 0), (.int .i64 0), (.int .i64 0)] [(0, 2, (.t 6)), (2, 2, (.t 7))], none, 0⟩,
  ⟨none, .mv 1 (.t 8), none, 0⟩]
def c11r2 : List SI := [
  ⟨none, .mv 10 (.t 1), none, 0⟩,
  ⟨none, .call 11 19 [(.t 10), (.i 2), (.i 15)], none, 0⟩,
  ⟨none, .mv 9 (.t 11), none, 0⟩,
  ⟨none, .ext 12 (.t 9) 0, none, 0⟩,
  ⟨none, .ext 13 (.t 9) 1, none, 0⟩,
  ⟨none, .mv 2 (.t 12), none, 0⟩,
  ⟨none, .mv 3 (.t 13), none, 0⟩]
def c11r3 : List SI := [
  ⟨none, .mv 15 (.t 1), none, 0⟩,
  ⟨none, .call 16 14 [(.t 15), (.i 4), (.i 12)], none, 0⟩,
  ⟨none, .mv 14 (.t 16), none, 0⟩,
  ⟨none, .ext 17 (.t 14) 0, none, 0⟩,
  ⟨none, .ext 18 (.t 14) 1, none, 0⟩,
  ⟨none, .mv 4 (.t 17), none, 0⟩,
  ⟨none, .mv 5 (.t 18), none, 0⟩]
def c11r4 : List SI := [
  ⟨none, .mv 19 (.t 2), none, 0⟩,
  ⟨none, .bin 20 .eql (.t 19) (.i 1), none, 0⟩,
  ⟨none, .mv 21 (.t 20), none, 0⟩,
  ⟨some (21, true), .mv 22 (.t 3), none, 22⟩,
  ⟨some (21, true), .bin 23 .eql (.t 22) (.i 10), none, 23⟩,
  ⟨none, .pick 24 (.t 21) (.t 23) (.b false), none, 0⟩,
  ⟨none, .mv 25 (.t 24), none, 0⟩,
  ⟨some (25, true), .mv 26 (.t 5), none, 26⟩,
  ⟨some (25, true), .bin 27 .eql (.t 26) (.i 0), none, 27⟩,
  ⟨none, .pick 28 (.t 25) (.t 27) (.b false), none, 0⟩,
  ⟨none, .mv 29 (.t 28), none, 0⟩,
  ⟨some (29, true), .mv 30 (.t 4), none, 30⟩,
  ⟨some (29, true), .len 31 false (.t 30), none, 31⟩,
  ⟨some (29, true), .bin 32 .eql (.t 31) (.i 3), none, 32⟩,
  ⟨none, .pick 33 (.t 29) (.t 32) (.b false), none, 0⟩,
  ⟨none, .mv 0 (.t 33), none, 0⟩]
def c11 : SC :=
  (.seq (.reg false c11r0)
  (.seq (.reg false c11r1)
  (.seq (.reg false c11r2)
  (.seq (.reg false c11r3)
  (.seq (.reg false c11r4)
  .ret)))))
def v11 : List Nat × List Nat := ([], [])
def o11 : List RS := [.t 0]
theorem s11 : slimC Try.prog Try.f11.ntmps v11.1 v11.2 ((Try.f11.body).getD .skip) = some c11 := by kernel_rfl
theorem q11 : slimR Try.prog Try.f11.ntmps v11.1 v11.2 Try.f11.results.toList = some o11 := by kernel_rfl
-- watermeet/watermeetlaw10.few
def c12r0 : List SI := [
  ⟨none, .mv 2 (.b false), none, 0⟩]
def c12r1 : List SI := [
  ⟨none, .mv 3 (.t 0), none, 0⟩,
  ⟨none, .len 4 false (.t 3), none, 0⟩,
  ⟨none, .bin 5 .leq (.t 4) (.i 100), none, 0⟩,
  ⟨none, .mv 2 (.t 5), none, 0⟩]
def c12 : SC :=
  (.seq (.reg false c12r0)
  (.seq (.reg false c12r1)
  .ret))
def v12 : List Nat × List Nat := ([], [])
def o12 : List RS := [.t 2]
theorem s12 : slimC Try.prog Try.f12.ntmps v12.1 v12.2 ((Try.f12.body).getD .skip) = some c12 := by kernel_rfl
theorem q12 : slimR Try.prog Try.f12.ntmps v12.1 v12.2 Try.f12.results.toList = some o12 := by kernel_rfl
-- watermeet/watermeetref10.Copy
def c13r0 : List SI := [
  ⟨none, .mv 2 (.v (.slice none 0 0)), none, 0⟩]
def c13r1 : List SI := [
  ⟨none, .mv 3 (.t 0), none, 0⟩,
  ⟨none, .app 4 (.v (.slice none 0 0)) (.t 3) 32 2 16, none, 0⟩,
  ⟨none, .mv 2 (.t 4), none, 0⟩]
def c13 : SC :=
  (.seq (.reg false c13r0)
  (.seq (.reg false c13r1)
  .ret))
def v13 : List Nat × List Nat := ([], [])
def o13 : List RS := [.t 2]
theorem s13 : slimC Try.prog Try.f13.ntmps v13.1 v13.2 ((Try.f13.body).getD .skip) = some c13 := by kernel_rfl
theorem q13 : slimR Try.prog Try.f13.ntmps v13.1 v13.2 Try.f13.results.toList = some o13 := by kernel_rfl
-- watermeet/epoch.Put
def c14r0 : List SI := [
  ⟨none, .mv 6 (.v (.slice none 0 0)), none, 0⟩,
  ⟨none, .mv 7 (.i 0), none, 0⟩]
def c14r1 : List SI := [
  ⟨none, .mv 11 (.t 0), none, 0⟩,
  ⟨none, .call 12 17 [(.t 11)], none, 0⟩,
  ⟨none, .bin 13 .neq (.t 12) (.i 0), none, 0⟩,
  ⟨none, .mv 14 (.t 13), none, 0⟩,
  ⟨some (14, false), .mv 15 (.t 1), none, 15⟩,
  ⟨some (14, false), .call 16 32 [(.t 15), (.i 1048576)], none, 16⟩,
  ⟨some (14, false), .un 17 .not (.t 16), none, 17⟩,
  ⟨none, .pick 18 (.t 14) (.b true) (.t 17), none, 0⟩,
  ⟨none, .mv 19 (.t 18), none, 0⟩,
  ⟨some (19, false), .mv 20 (.t 2), none, 20⟩,
  ⟨some (19, false), .call 21 32 [(.t 20), (.i 1099511627776)], none, 21⟩,
  ⟨some (19, false), .un 22 .not (.t 21), none, 22⟩,
  ⟨none, .pick 23 (.t 19) (.b true) (.t 22), none, 0⟩]
def c14r2 : List SI := [
  ⟨none, .mv 6 (.v (.slice none 0 0)), none, 0⟩,
  ⟨none, .mv 7 (.i 1), none, 0⟩]
def c14r3 : List SI := [
  ⟨none, .mv 24 (.t 0), none, 0⟩,
  ⟨none, .call 25 33 [(.t 24)], none, 0⟩,
  ⟨none, .mv 26 (.t 1), none, 0⟩,
  ⟨none, .mv 27 (.t 2), none, 0⟩,
  ⟨none, .bld 28 [(.int .i64 0), (.int .i64 0)] [(0, 1, (.t 26)), (1, 1, (.t 27))], none, 0⟩,
  ⟨none, .alR 9 [(.int .i64 0), (.int .i64 0)], none, 0⟩,
  ⟨none, .mv 8 (.t 25), none, 0⟩,
  ⟨none, .stR 9 0 2 (.t 28), none, 0⟩]
def c14r4 : List SI := [
  ⟨none, .mv 29 (.t 0), none, 0⟩,
  ⟨none, .len 30 false (.t 29), none, 0⟩,
  ⟨none, .bin 31 .eql (.t 30) (.i 0), none, 0⟩]
def c14r5 : List SI := [
  ⟨none, .mv 32 (.t 8), none, 0⟩,
  ⟨none, .ldR 33 9 0 (some 2), none, 0⟩,
  ⟨none, .bls 34 32 1 2 [(.int .i64 0), (.int .i64 0)] [(0, 2, (.t 33))], none, 0⟩,
  ⟨none, .app 35 (.t 32) (.t 34) 32 2 16, none, 0⟩,
  ⟨none, .mv 6 (.t 35), none, 0⟩,
  ⟨none, .mv 7 (.i 0), none, 0⟩]
def c14r6 : List SI := [
  ⟨none, .mv 36 (.t 8), none, 0⟩,
  ⟨none, .mv 37 (.t 8), none, 0⟩,
  ⟨none, .len 38 false (.t 37), none, 0⟩,
  ⟨none, .bin 39 .sub (.t 38) (.i 1), none, 0⟩,
  ⟨none, .ixA 40 (.t 36) (.t 39) 2, none, 0⟩,
  ⟨none, .mv 10 (.t 40), none, 0⟩]
def c14r7 : List SI := [
  ⟨none, .mv 46 (.t 1), none, 0⟩,
  ⟨none, .mv 47 (.t 10), none, 0⟩,
  ⟨none, .nck 48 (.t 47), none, 0⟩,
  ⟨none, .flA 49 (.t 48) 0, none, 0⟩,
  ⟨none, .ld 50 (.t 49) none, none, 0⟩,
  ⟨none, .bin 51 .lss (.t 46) (.t 50), none, 0⟩,
  ⟨none, .mv 45 (.t 51), none, 0⟩]
def c14r8 : List SI := [
  ⟨none, .mv 6 (.v (.slice none 0 0)), none, 0⟩,
  ⟨none, .mv 7 (.i 100), none, 0⟩]
def c14r9 : List SI := [
  ⟨none, .mv 53 (.t 1), none, 0⟩,
  ⟨none, .mv 54 (.t 10), none, 0⟩,
  ⟨none, .nck 55 (.t 54), none, 0⟩,
  ⟨none, .flA 56 (.t 55) 0, none, 0⟩,
  ⟨none, .ld 57 (.t 56) none, none, 0⟩,
  ⟨none, .bin 58 .eql (.t 53) (.t 57), none, 0⟩,
  ⟨none, .mv 52 (.t 58), none, 0⟩]
def c14r10 : List SI := [
  ⟨none, .mv 60 (.t 2), none, 0⟩,
  ⟨none, .mv 61 (.t 10), none, 0⟩,
  ⟨none, .nck 62 (.t 61), none, 0⟩,
  ⟨none, .flA 63 (.t 62) 1, none, 0⟩,
  ⟨none, .ld 64 (.t 63) none, none, 0⟩,
  ⟨none, .bin 65 .lss (.t 60) (.t 64), none, 0⟩,
  ⟨none, .mv 59 (.t 65), none, 0⟩]
def c14r11 : List SI := [
  ⟨none, .mv 6 (.v (.slice none 0 0)), none, 0⟩,
  ⟨none, .mv 7 (.i 71), none, 0⟩]
def c14r12 : List SI := [
  ⟨none, .mv 67 (.t 2), none, 0⟩,
  ⟨none, .mv 68 (.t 10), none, 0⟩,
  ⟨none, .nck 69 (.t 68), none, 0⟩,
  ⟨none, .flA 70 (.t 69) 1, none, 0⟩,
  ⟨none, .ld 71 (.t 70) none, none, 0⟩,
  ⟨none, .bin 72 .eql (.t 67) (.t 71), none, 0⟩,
  ⟨none, .mv 66 (.t 72), none, 0⟩]
def c14r13 : List SI := [
  ⟨none, .mv 73 (.t 10), none, 0⟩,
  ⟨none, .ldR 74 9 0 (some 2), none, 0⟩,
  ⟨none, .nck 75 (.t 73), none, 0⟩,
  ⟨none, .st (.t 75) 2 (.t 74), none, 0⟩]
def c14r14 : List SI := [
  ⟨none, .mv 41 (.t 8), none, 0⟩,
  ⟨none, .ldR 42 9 0 (some 2), none, 0⟩,
  ⟨none, .bls 43 32 1 2 [(.int .i64 0), (.int .i64 0)] [(0, 2, (.t 42))], none, 0⟩,
  ⟨none, .app 44 (.t 41) (.t 43) 32 2 16, none, 0⟩,
  ⟨none, .mv 8 (.t 44), none, 0⟩]
def c14r15 : List SI := [
  ⟨none, .mv 76 (.t 8), none, 0⟩,
  ⟨none, .mv 6 (.t 76), none, 0⟩,
  ⟨none, .mv 7 (.i 0), none, 0⟩]
def c14 : SC :=
  (.seq (.reg false c14r0)
  (.seq (.seq (.reg false c14r1)
  (.cond (.t 23)
   (.seq (.reg false c14r2)
   .ret)
   .skip))
  (.seq (.reg false c14r3)
  (.seq (.seq (.reg false c14r4)
  (.cond (.t 31)
   (.seq (.reg false c14r5)
   .ret)
   .skip))
  (.seq (.seq (.reg false c14r6)
  (.blk 0 (.seq (.reg false c14r7)
   (.cond (.t 45)
    (.seq (.reg false c14r8)
    .ret)
    (.seq (.reg false c14r9)
    (.cond (.t 52)
     .skip
     (.seq (.reg false c14r10)
     (.cond (.t 59)
      (.seq (.reg false c14r11)
      .ret)
      (.seq (.reg false c14r12)
      (.cond (.t 66)
       (.reg false c14r13)
       (.reg false c14r14)))))))))))
  (.seq (.reg false c14r15)
  .ret))))))
def v14 : List Nat × List Nat := ([9], [9])
def o14 : List RS := [.t 6, .t 7]
theorem s14 : slimC Try.prog Try.f14.ntmps v14.1 v14.2 ((Try.f14.body).getD .skip) = some c14 := by kernel_rfl
theorem q14 : slimR Try.prog Try.f14.ntmps v14.1 v14.2 Try.f14.results.toList = some o14 := by kernel_rfl
-- watermeet/watermeetref10.Put
def c15r0 : List SI := [
  ⟨none, .mv 6 (.v (.slice none 0 0)), none, 0⟩,
  ⟨none, .mv 7 (.i 0), none, 0⟩]
def c15r1 : List SI := [
  ⟨none, .mv 10 (.t 0), none, 0⟩,
  ⟨none, .call 11 18 [(.t 10)], none, 0⟩,
  ⟨none, .bin 12 .neq (.t 11) (.i 0), none, 0⟩,
  ⟨none, .mv 13 (.t 12), none, 0⟩,
  ⟨some (13, false), .mv 14 (.t 1), none, 14⟩,
  ⟨some (13, false), .bin 15 .lss (.t 14) (.i 0), none, 15⟩,
  ⟨none, .pick 16 (.t 13) (.b true) (.t 15), none, 0⟩,
  ⟨none, .mv 17 (.t 16), none, 0⟩,
  ⟨some (17, false), .mv 18 (.t 1), none, 18⟩,
  ⟨some (17, false), .bin 19 .gtr (.t 18) (.i 1048576), none, 19⟩,
  ⟨none, .pick 20 (.t 17) (.b true) (.t 19), none, 0⟩,
  ⟨none, .mv 21 (.t 20), none, 0⟩,
  ⟨some (21, false), .mv 22 (.t 2), none, 22⟩,
  ⟨some (21, false), .bin 23 .lss (.t 22) (.i 0), none, 23⟩,
  ⟨none, .pick 24 (.t 21) (.b true) (.t 23), none, 0⟩,
  ⟨none, .mv 25 (.t 24), none, 0⟩,
  ⟨some (25, false), .mv 26 (.t 2), none, 26⟩,
  ⟨some (25, false), .bin 27 .gtr (.t 26) (.i 1099511627776), none, 27⟩,
  ⟨none, .pick 28 (.t 25) (.b true) (.t 27), none, 0⟩]
def c15r2 : List SI := [
  ⟨none, .mv 6 (.v (.slice none 0 0)), none, 0⟩,
  ⟨none, .mv 7 (.i 1), none, 0⟩]
def c15r3 : List SI := [
  ⟨none, .mv 29 (.t 0), none, 0⟩,
  ⟨none, .call 30 13 [(.t 29)], none, 0⟩,
  ⟨none, .mv 8 (.t 30), none, 0⟩]
def c15r4 : List SI := [
  ⟨none, .mv 31 (.t 0), none, 0⟩,
  ⟨none, .len 32 false (.t 31), none, 0⟩,
  ⟨none, .bin 33 .gtr (.t 32) (.i 0), none, 0⟩]
def c15r5 : List SI := [
  ⟨none, .mv 34 (.t 0), none, 0⟩,
  ⟨none, .mv 35 (.t 0), none, 0⟩,
  ⟨none, .len 36 false (.t 35), none, 0⟩,
  ⟨none, .bin 37 .sub (.t 36) (.i 1), none, 0⟩,
  ⟨none, .ixA 38 (.t 34) (.t 37) 2, none, 0⟩,
  ⟨none, .ld 39 (.t 38) (some 2), none, 0⟩,
  ⟨none, .alR 9 [(.int .i64 0), (.int .i64 0)], none, 0⟩,
  ⟨none, .stR 9 0 2 (.t 39), none, 0⟩]
def c15r6 : List SI := [
  ⟨none, .mv 40 (.t 1), none, 0⟩,
  ⟨none, .nop, (some 9), 0⟩,
  ⟨none, .ldR 42 9 0 none, none, 0⟩,
  ⟨none, .bin 43 .lss (.t 40) (.t 42), none, 0⟩]
def c15r7 : List SI := [
  ⟨none, .mv 6 (.v (.slice none 0 0)), none, 0⟩,
  ⟨none, .mv 7 (.i 100), none, 0⟩]
def c15r8 : List SI := [
  ⟨none, .mv 44 (.t 1), none, 0⟩,
  ⟨none, .nop, (some 9), 0⟩,
  ⟨none, .ldR 46 9 0 none, none, 0⟩,
  ⟨none, .bin 47 .eql (.t 44) (.t 46), none, 0⟩]
def c15r9 : List SI := [
  ⟨none, .mv 48 (.t 8), none, 0⟩,
  ⟨none, .mv 6 (.t 48), none, 0⟩,
  ⟨none, .mv 7 (.i 0), none, 0⟩]
def c15r10 : List SI := [
  ⟨none, .mv 49 (.t 2), none, 0⟩,
  ⟨none, .nop, (some 9), 0⟩,
  ⟨none, .ldR 51 9 1 none, none, 0⟩,
  ⟨none, .bin 52 .lss (.t 49) (.t 51), none, 0⟩]
def c15r11 : List SI := [
  ⟨none, .mv 6 (.v (.slice none 0 0)), none, 0⟩,
  ⟨none, .mv 7 (.i 71), none, 0⟩]
def c15r12 : List SI := [
  ⟨none, .mv 53 (.t 2), none, 0⟩,
  ⟨none, .nop, (some 9), 0⟩,
  ⟨none, .ldR 55 9 1 none, none, 0⟩,
  ⟨none, .bin 56 .eql (.t 53) (.t 55), none, 0⟩]
def c15r13 : List SI := [
  ⟨none, .mv 57 (.t 8), none, 0⟩,
  ⟨none, .mv 58 (.t 8), none, 0⟩,
  ⟨none, .len 59 false (.t 58), none, 0⟩,
  ⟨none, .bin 60 .sub (.t 59) (.i 1), none, 0⟩,
  ⟨none, .sl 61 (.t 57) none (some (.t 60)) none 2, none, 0⟩,
  ⟨none, .mv 8 (.t 61), none, 0⟩]
def c15r14 : List SI := [
  ⟨none, .mv 62 (.t 8), none, 0⟩,
  ⟨none, .mv 63 (.t 1), none, 0⟩,
  ⟨none, .mv 64 (.t 2), none, 0⟩,
  ⟨none, .bld 65 [(.int .i64 0), (.int .i64 0)] [(0, 1, (.t 63)), (1, 1, (.t 64))], none, 0⟩,
  ⟨none, .bls 66 32 1 2 [(.int .i64 0), (.int .i64 0)] [(0, 2, (.t 65))], none, 0⟩,
  ⟨none, .app 67 (.t 62) (.t 66) 32 2 16, none, 0⟩,
  ⟨none, .mv 6 (.t 67), none, 0⟩,
  ⟨none, .mv 7 (.i 0), none, 0⟩]
def c15 : SC :=
  (.seq (.reg false c15r0)
  (.seq (.seq (.reg false c15r1)
  (.cond (.t 28)
   (.seq (.reg false c15r2)
   .ret)
   .skip))
  (.seq (.reg false c15r3)
  (.seq (.seq (.reg false c15r4)
  (.cond (.t 33)
   (.seq (.reg false c15r5)
   (.seq (.seq (.reg false c15r6)
   (.cond (.t 43)
    (.seq (.reg false c15r7)
    .ret)
    .skip))
   (.seq (.seq (.reg false c15r8)
   (.cond (.t 47)
    (.seq (.reg false c15r9)
    .ret)
    .skip))
   (.seq (.seq (.reg false c15r10)
   (.cond (.t 52)
    (.seq (.reg false c15r11)
    .ret)
    .skip))
   (.seq (.reg false c15r12)
   (.cond (.t 56)
    (.reg false c15r13)
    .skip))))))
   .skip))
  (.seq (.reg false c15r14)
  .ret)))))
def v15 : List Nat × List Nat := ([9], [9, 41, 45, 50, 54])
def o15 : List RS := [.t 6, .t 7]
theorem s15 : slimC Try.prog Try.f15.ntmps v15.1 v15.2 ((Try.f15.body).getD .skip) = some c15 := by kernel_rfl
theorem q15 : slimR Try.prog Try.f15.ntmps v15.1 v15.2 Try.f15.results.toList = some o15 := by kernel_rfl
-- watermeet/watermeetref10.Same
def c16r0 : List SI := [
  ⟨none, .mv 4 (.b false), none, 0⟩]
def c16r1 : List SI := [
  ⟨none, .mv 6 (.t 0), none, 0⟩,
  ⟨none, .len 7 false (.t 6), none, 0⟩,
  ⟨none, .mv 8 (.t 1), none, 0⟩,
  ⟨none, .len 9 false (.t 8), none, 0⟩,
  ⟨none, .bin 10 .neq (.t 7) (.t 9), none, 0⟩]
def c16r2 : List SI := [
  ⟨none, .mv 4 (.b false), none, 0⟩]
def c16r3 : List SI := [
  ⟨none, .mv 11 (.t 0), none, 0⟩,
  ⟨none, .len 12 false (.t 11), none, 0⟩,
  ⟨none, .mv 13 (.i 0), none, 0⟩]
def c16r4 : List SI := [
  ⟨none, .bin 14 .lss (.t 13) (.t 12), none, 0⟩]
def c16r5 : List SI := [
  ⟨none, .mv 15 (.t 13), none, 0⟩,
  ⟨none, .mv 5 (.t 15), none, 0⟩]
def c16r6 : List SI := [
  ⟨none, .mv 16 (.t 0), none, 0⟩,
  ⟨none, .mv 17 (.t 5), none, 0⟩,
  ⟨none, .ixA 18 (.t 16) (.t 17) 2, none, 0⟩,
  ⟨none, .ld 19 (.t 18) (some 2), none, 0⟩,
  ⟨none, .mv 20 (.t 1), none, 0⟩,
  ⟨none, .mv 21 (.t 5), none, 0⟩,
  ⟨none, .ixA 22 (.t 20) (.t 21) 2, none, 0⟩,
  ⟨none, .ld 23 (.t 22) (some 2), none, 0⟩,
  ⟨none, .eqf 24 true [0, 0] (.t 19) (.t 23), none, 0⟩]
def c16r7 : List SI := [
  ⟨none, .mv 4 (.b false), none, 0⟩]
def c16r8 : List SI := [
  ⟨none, .bin 25 .add (.t 13) (.i 1), none, 0⟩,
  ⟨none, .mv 13 (.t 25), none, 0⟩]
def c16r9 : List SI := [
  ⟨none, .mv 4 (.b true), none, 0⟩]
def c16 : SC :=
  (.seq (.reg false c16r0)
  (.seq (.seq (.reg false c16r1)
  (.cond (.t 10)
   (.seq (.reg false c16r2)
   .ret)
   .skip))
  (.seq (.seq (.reg false c16r3)
  (.blk 0 (.loop (.seq (.reg false c16r4)
    (.seq (.cond (.t 14)
     .skip
     (.exit 0))
    (.seq (.blk 1 (.seq (.reg false c16r5)
     (.seq (.reg true c16r6)
     (.cond (.t 24)
      (.seq (.reg false c16r7)
      .ret)
      .skip))))
    (.reg false c16r8)))))))
  (.seq (.reg false c16r9)
  .ret))))
def v16 : List Nat × List Nat := ([], [])
def o16 : List RS := [.t 4]
theorem s16 : slimC Try.prog Try.f16.ntmps v16.1 v16.2 ((Try.f16.body).getD .skip) = some c16 := by kernel_rfl
theorem q16 : slimR Try.prog Try.f16.ntmps v16.1 v16.2 Try.f16.results.toList = some o16 := by kernel_rfl
-- watermeet/epoch.Check
def c17r0 : List SI := [
  ⟨none, .mv 2 (.i 0), none, 0⟩]
def c17r1 : List SI := [
  ⟨none, .mv 5 (.t 0), none, 0⟩,
  ⟨none, .len 6 false (.t 5), none, 0⟩,
  ⟨none, .mv 7 (.i 0), none, 0⟩]
def c17r2 : List SI := [
  ⟨none, .bin 8 .lss (.t 7) (.t 6), none, 0⟩]
def c17r3 : List SI := [
  ⟨none, .mv 9 (.t 7), none, 0⟩,
  ⟨none, .ixA 10 (.t 5) (.t 7) 2, none, 0⟩,
  ⟨none, .ld 11 (.t 10) (some 2), none, 0⟩,
  ⟨none, .alR 4 [(.int .i64 0), (.int .i64 0)], none, 0⟩,
  ⟨none, .mv 3 (.t 9), none, 0⟩,
  ⟨none, .stR 4 0 2 (.t 11), none, 0⟩]
def c17r4 : List SI := [
  ⟨none, .nop, (some 4), 0⟩,
  ⟨none, .ldR 13 4 0 none, none, 0⟩,
  ⟨none, .call 14 32 [(.t 13), (.i 1048576)], none, 0⟩,
  ⟨none, .un 15 .not (.t 14), none, 0⟩,
  ⟨none, .mv 16 (.t 15), none, 0⟩,
  ⟨some (16, false), .nop, (some 4), 99999⟩,
  ⟨some (16, false), .ldR 18 4 1 none, none, 18⟩,
  ⟨some (16, false), .call 19 32 [(.t 18), (.i 1099511627776)], none, 19⟩,
  ⟨some (16, false), .un 20 .not (.t 19), none, 20⟩,
  ⟨none, .pick 21 (.t 16) (.b true) (.t 20), none, 0⟩]
def c17r5 : List SI := [
  ⟨none, .mv 2 (.i 1), none, 0⟩]
def c17r6 : List SI := [
  ⟨none, .mv 22 (.t 3), none, 0⟩,
  ⟨none, .bin 23 .gtr (.t 22) (.i 0), none, 0⟩,
  ⟨none, .mv 24 (.t 23), none, 0⟩,
  ⟨some (24, true), .nop, (some 4), 99999⟩,
  ⟨some (24, true), .ldR 26 4 0 none, none, 26⟩,
  ⟨some (24, true), .mv 27 (.t 0), none, 27⟩,
  ⟨some (24, true), .mv 28 (.t 3), none, 28⟩,
  ⟨some (24, true), .bin 29 .sub (.t 28) (.i 1), none, 29⟩,
  ⟨some (24, true), .ixA 30 (.t 27) (.t 29) 2, none, 30⟩,
  ⟨some (24, true), .flA 31 (.t 30) 0, none, 31⟩,
  ⟨some (24, true), .ld 32 (.t 31) none, none, 32⟩,
  ⟨some (24, true), .bin 33 .sub (.t 26) (.t 32), none, 33⟩,
  ⟨some (24, true), .nop, (some 4), 99999⟩,
  ⟨some (24, true), .ldR 35 4 1 none, none, 35⟩,
  ⟨some (24, true), .mv 36 (.t 0), none, 36⟩,
  ⟨some (24, true), .mv 37 (.t 3), none, 37⟩,
  ⟨some (24, true), .bin 38 .sub (.t 37) (.i 1), none, 38⟩,
  ⟨some (24, true), .ixA 39 (.t 36) (.t 38) 2, none, 39⟩,
  ⟨some (24, true), .flA 40 (.t 39) 1, none, 40⟩,
  ⟨some (24, true), .ld 41 (.t 40) none, none, 41⟩,
  ⟨some (24, true), .bin 42 .sub (.t 35) (.t 41), none, 42⟩,
  ⟨some (24, true), .mm 43 false (.t 33) (.t 42), none, 43⟩,
  ⟨some (24, true), .bin 44 .leq (.t 43) (.i 0), none, 44⟩,
  ⟨none, .pick 45 (.t 24) (.t 44) (.b false), none, 0⟩]
def c17r7 : List SI := [
  ⟨none, .mv 2 (.i 1), none, 0⟩]
def c17r8 : List SI := [
  ⟨none, .bin 46 .add (.t 7) (.i 1), none, 0⟩,
  ⟨none, .mv 7 (.t 46), none, 0⟩]
def c17r9 : List SI := [
  ⟨none, .mv 2 (.i 0), none, 0⟩]
def c17 : SC :=
  (.seq (.reg false c17r0)
  (.seq (.seq (.reg false c17r1)
  (.blk 0 (.loop (.seq (.reg false c17r2)
    (.seq (.cond (.t 8)
     .skip
     (.exit 0))
    (.seq (.blk 1 (.seq (.reg false c17r3)
     (.seq (.seq (.reg false c17r4)
     (.cond (.t 21)
      (.seq (.reg false c17r5)
      .ret)
      .skip))
     (.seq (.reg true c17r6)
     (.cond (.t 45)
      (.seq (.reg false c17r7)
      .ret)
      .skip)))))
    (.reg false c17r8)))))))
  (.seq (.reg false c17r9)
  .ret)))
def v17 : List Nat × List Nat := ([4], [4, 12, 17, 25, 34])
def o17 : List RS := [.t 2]
theorem s17 : slimC Try.prog Try.f17.ntmps v17.1 v17.2 ((Try.f17.body).getD .skip) = some c17 := by kernel_rfl
theorem q17 : slimR Try.prog Try.f17.ntmps v17.1 v17.2 Try.f17.results.toList = some o17 := by kernel_rfl
-- watermeet/watermeetref10.Check
def c18r0 : List SI := [
  ⟨none, .mv 2 (.i 0), none, 0⟩]
def c18r1 : List SI := [
  ⟨none, .mv 5 (.t 0), none, 0⟩,
  ⟨none, .len 6 false (.t 5), none, 0⟩,
  ⟨none, .mv 7 (.i 0), none, 0⟩]
def c18r2 : List SI := [
  ⟨none, .bin 8 .lss (.t 7) (.t 6), none, 0⟩]
def c18r3 : List SI := [
  ⟨none, .mv 9 (.t 7), none, 0⟩,
  ⟨none, .ixA 10 (.t 5) (.t 7) 2, none, 0⟩,
  ⟨none, .ld 11 (.t 10) (some 2), none, 0⟩,
  ⟨none, .alR 4 [(.int .i64 0), (.int .i64 0)], none, 0⟩,
  ⟨none, .mv 3 (.t 9), none, 0⟩,
  ⟨none, .stR 4 0 2 (.t 11), none, 0⟩]
def c18r4 : List SI := [
  ⟨none, .nop, (some 4), 0⟩,
  ⟨none, .ldR 13 4 0 none, none, 0⟩,
  ⟨none, .bin 14 .lss (.t 13) (.i 0), none, 0⟩,
  ⟨none, .mv 15 (.t 14), none, 0⟩,
  ⟨some (15, false), .nop, (some 4), 99999⟩,
  ⟨some (15, false), .ldR 17 4 0 none, none, 17⟩,
  ⟨some (15, false), .bin 18 .gtr (.t 17) (.i 1048576), none, 18⟩,
  ⟨none, .pick 19 (.t 15) (.b true) (.t 18), none, 0⟩,
  ⟨none, .mv 20 (.t 19), none, 0⟩,
  ⟨some (20, false), .nop, (some 4), 99999⟩,
  ⟨some (20, false), .ldR 22 4 1 none, none, 22⟩,
  ⟨some (20, false), .bin 23 .lss (.t 22) (.i 0), none, 23⟩,
  ⟨none, .pick 24 (.t 20) (.b true) (.t 23), none, 0⟩,
  ⟨none, .mv 25 (.t 24), none, 0⟩,
  ⟨some (25, false), .nop, (some 4), 99999⟩,
  ⟨some (25, false), .ldR 27 4 1 none, none, 27⟩,
  ⟨some (25, false), .bin 28 .gtr (.t 27) (.i 1099511627776), none, 28⟩,
  ⟨none, .pick 29 (.t 25) (.b true) (.t 28), none, 0⟩,
  ⟨none, .mv 30 (.t 29), none, 0⟩,
  ⟨some (30, false), .mv 31 (.t 3), none, 31⟩,
  ⟨some (30, false), .bin 32 .gtr (.t 31) (.i 0), none, 32⟩,
  ⟨some (30, false), .mv 33 (.t 32), none, 33⟩,
  ⟨some (33, true), .nop, (some 4), 99999⟩,
  ⟨some (33, true), .ldR 35 4 0 none, none, 35⟩,
  ⟨some (33, true), .mv 36 (.t 0), none, 36⟩,
  ⟨some (33, true), .mv 37 (.t 3), none, 37⟩,
  ⟨some (33, true), .bin 38 .sub (.t 37) (.i 1), none, 38⟩,
  ⟨some (33, true), .ixA 39 (.t 36) (.t 38) 2, none, 39⟩,
  ⟨some (33, true), .flA 40 (.t 39) 0, none, 40⟩,
  ⟨some (33, true), .ld 41 (.t 40) none, none, 41⟩,
  ⟨some (33, true), .bin 42 .leq (.t 35) (.t 41), none, 42⟩,
  ⟨some (33, true), .mv 43 (.t 42), none, 43⟩,
  ⟨some (43, false), .nop, (some 4), 99999⟩,
  ⟨some (43, false), .ldR 45 4 1 none, none, 45⟩,
  ⟨some (43, false), .mv 46 (.t 0), none, 46⟩,
  ⟨some (43, false), .mv 47 (.t 3), none, 47⟩,
  ⟨some (43, false), .bin 48 .sub (.t 47) (.i 1), none, 48⟩,
  ⟨some (43, false), .ixA 49 (.t 46) (.t 48) 2, none, 49⟩,
  ⟨some (43, false), .flA 50 (.t 49) 1, none, 50⟩,
  ⟨some (43, false), .ld 51 (.t 50) none, none, 51⟩,
  ⟨some (43, false), .bin 52 .leq (.t 45) (.t 51), none, 52⟩,
  ⟨some (33, true), .pick 53 (.t 43) (.b true) (.t 52), none, 53⟩,
  ⟨some (30, false), .pick 54 (.t 33) (.t 53) (.b false), none, 54⟩,
  ⟨none, .pick 55 (.t 30) (.b true) (.t 54), none, 0⟩]
def c18r5 : List SI := [
  ⟨none, .mv 2 (.i 1), none, 0⟩]
def c18r6 : List SI := [
  ⟨none, .bin 56 .add (.t 7) (.i 1), none, 0⟩,
  ⟨none, .mv 7 (.t 56), none, 0⟩]
def c18r7 : List SI := [
  ⟨none, .mv 2 (.i 0), none, 0⟩]
def c18 : SC :=
  (.seq (.reg false c18r0)
  (.seq (.seq (.reg false c18r1)
  (.blk 0 (.loop (.seq (.reg false c18r2)
    (.seq (.cond (.t 8)
     .skip
     (.exit 0))
    (.seq (.blk 1 (.seq (.reg false c18r3)
     (.seq (.reg true c18r4)
     (.cond (.t 55)
      (.seq (.reg false c18r5)
      .ret)
      .skip))))
    (.reg false c18r6)))))))
  (.seq (.reg false c18r7)
  .ret)))
def v18 : List Nat × List Nat := ([4], [4, 12, 16, 21, 26, 34, 44])
def o18 : List RS := [.t 2]
theorem s18 : slimC Try.prog Try.f18.ntmps v18.1 v18.2 ((Try.f18.body).getD .skip) = some c18 := by kernel_rfl
theorem q18 : slimR Try.prog Try.f18.ntmps v18.1 v18.2 Try.f18.results.toList = some o18 := by kernel_rfl
-- watermeet/epoch.EndOf
def c19r0 : List SI := [
  ⟨none, .mv 6 (.i 0), none, 0⟩,
  ⟨none, .mv 7 (.i 0), none, 0⟩]
def c19r1 : List SI := [
  ⟨none, .mv 8 (.i 0), none, 0⟩]
def c19r2 : List SI := [
  ⟨none, .mv 9 (.t 0), none, 0⟩,
  ⟨none, .call 10 17 [(.t 9)], none, 0⟩,
  ⟨none, .bin 11 .eql (.t 10) (.i 0), none, 0⟩]
def c19r3 : List SI := [
  ⟨none, .mv 12 (.t 0), none, 0⟩,
  ⟨none, .mv 13 (.t 1), none, 0⟩,
  ⟨none, .call 14 34 [(.t 12), (.t 13)], none, 0⟩,
  ⟨none, .mv 8 (.t 14), none, 0⟩]
def c19r4 : List SI := [
  ⟨none, .mv 15 (.t 8), none, 0⟩,
  ⟨none, .bin 16 .eql (.t 15) (.i 0), none, 0⟩]
def c19r5 : List SI := [
  ⟨none, .mv 6 (.i (-1)), none, 0⟩,
  ⟨none, .mv 7 (.i 0), none, 0⟩]
def c19r6 : List SI := [
  ⟨none, .mv 17 (.t 8), none, 0⟩,
  ⟨none, .mv 18 (.t 0), none, 0⟩,
  ⟨none, .len 19 false (.t 18), none, 0⟩,
  ⟨none, .bin 20 .lss (.t 17) (.t 19), none, 0⟩]
def c19r7 : List SI := [
  ⟨none, .mv 21 (.t 0), none, 0⟩,
  ⟨none, .mv 22 (.t 8), none, 0⟩,
  ⟨none, .ixA 23 (.t 21) (.t 22) 2, none, 0⟩,
  ⟨none, .flA 24 (.t 23) 1, none, 0⟩,
  ⟨none, .ld 25 (.t 24) none, none, 0⟩,
  ⟨none, .mv 2 (.t 25), none, 0⟩]
def c19r8 : List SI := [
  ⟨none, .mv 26 (.t 0), none, 0⟩,
  ⟨none, .mv 27 (.t 8), none, 0⟩,
  ⟨none, .bin 28 .sub (.t 27) (.i 1), none, 0⟩,
  ⟨none, .ixA 29 (.t 26) (.t 28) 2, none, 0⟩,
  ⟨none, .flA 30 (.t 29) 0, none, 0⟩,
  ⟨none, .ld 31 (.t 30) none, none, 0⟩,
  ⟨none, .mv 32 (.t 2), none, 0⟩,
  ⟨none, .mv 6 (.t 31), none, 0⟩,
  ⟨none, .mv 7 (.t 32), none, 0⟩]
def c19 : SC :=
  (.seq (.reg false c19r0)
  (.seq (.reg false c19r1)
  (.seq (.seq (.reg false c19r2)
  (.cond (.t 11)
   (.reg false c19r3)
   .skip))
  (.seq (.seq (.reg false c19r4)
  (.cond (.t 16)
   (.seq (.reg false c19r5)
   .ret)
   .skip))
  (.seq (.seq (.reg false c19r6)
  (.cond (.t 20)
   (.reg false c19r7)
   .skip))
  (.seq (.reg false c19r8)
  .ret))))))
def v19 : List Nat × List Nat := ([], [])
def o19 : List RS := [.t 6, .t 7]
theorem s19 : slimC Try.prog Try.f19.ntmps v19.1 v19.2 ((Try.f19.body).getD .skip) = some c19 := by kernel_rfl
theorem q19 : slimR Try.prog Try.f19.ntmps v19.1 v19.2 Try.f19.results.toList = some o19 := by kernel_rfl
-- watermeet/watermeetref10.EndOf
def c20r0 : List SI := [
  ⟨none, .mv 6 (.i 0), none, 0⟩,
  ⟨none, .mv 7 (.i 0), none, 0⟩]
def c20r1 : List SI := [
  ⟨none, .mv 8 (.i (-1)), none, 0⟩,
  ⟨none, .mv 9 (.i 0), none, 0⟩]
def c20r2 : List SI := [
  ⟨none, .mv 12 (.t 0), none, 0⟩,
  ⟨none, .call 13 18 [(.t 12)], none, 0⟩,
  ⟨none, .bin 14 .neq (.t 13) (.i 0), none, 0⟩]
def c20r3 : List SI := [
  ⟨none, .mv 15 (.t 8), none, 0⟩,
  ⟨none, .mv 16 (.t 9), none, 0⟩,
  ⟨none, .mv 6 (.t 15), none, 0⟩,
  ⟨none, .mv 7 (.t 16), none, 0⟩]
def c20r4 : List SI := [
  ⟨none, .mv 17 (.t 0), none, 0⟩,
  ⟨none, .len 18 false (.t 17), none, 0⟩,
  ⟨none, .mv 19 (.i 0), none, 0⟩]
def c20r5 : List SI := [
  ⟨none, .bin 20 .lss (.t 19) (.t 18), none, 0⟩]
def c20r6 : List SI := [
  ⟨none, .mv 21 (.t 19), none, 0⟩,
  ⟨none, .ixA 22 (.t 17) (.t 19) 2, none, 0⟩,
  ⟨none, .ld 23 (.t 22) (some 2), none, 0⟩,
  ⟨none, .alR 11 [(.int .i64 0), (.int .i64 0)], none, 0⟩,
  ⟨none, .mv 10 (.t 21), none, 0⟩,
  ⟨none, .stR 11 0 2 (.t 23), none, 0⟩]
def c20r7 : List SI := [
  ⟨none, .nop, (some 11), 0⟩,
  ⟨none, .ldR 25 11 0 none, none, 0⟩,
  ⟨none, .mv 26 (.t 1), none, 0⟩,
  ⟨none, .bin 27 .leq (.t 25) (.t 26), none, 0⟩]
def c20r8 : List SI := [
  ⟨none, .nop, (some 11), 0⟩,
  ⟨none, .ldR 29 11 0 none, none, 0⟩,
  ⟨none, .mv 8 (.t 29), none, 0⟩]
def c20r9 : List SI := [
  ⟨none, .mv 30 (.t 0), none, 0⟩,
  ⟨none, .mv 31 (.t 10), none, 0⟩,
  ⟨none, .mv 32 (.t 2), none, 0⟩,
  ⟨none, .call 33 35 [(.t 30), (.t 31), (.t 32)], none, 0⟩,
  ⟨none, .mv 9 (.t 33), none, 0⟩]
def c20r10 : List SI := [
  ⟨none, .bin 34 .add (.t 19) (.i 1), none, 0⟩,
  ⟨none, .mv 19 (.t 34), none, 0⟩]
def c20r11 : List SI := [
  ⟨none, .mv 35 (.t 8), none, 0⟩,
  ⟨none, .mv 36 (.t 9), none, 0⟩,
  ⟨none, .mv 6 (.t 35), none, 0⟩,
  ⟨none, .mv 7 (.t 36), none, 0⟩]
def c20 : SC :=
  (.seq (.reg false c20r0)
  (.seq (.reg false c20r1)
  (.seq (.seq (.reg false c20r2)
  (.cond (.t 14)
   (.seq (.reg false c20r3)
   .ret)
   .skip))
  (.seq (.seq (.reg false c20r4)
  (.blk 0 (.loop (.seq (.reg false c20r5)
    (.seq (.cond (.t 20)
     .skip
     (.exit 0))
    (.seq (.blk 1 (.seq (.reg false c20r6)
     (.seq (.reg false c20r7)
     (.cond (.t 27)
      (.seq (.reg false c20r8)
      (.reg false c20r9))
      .skip))))
    (.reg false c20r10)))))))
  (.seq (.reg false c20r11)
  .ret)))))
def v20 : List Nat × List Nat := ([11], [11, 24, 28])
def o20 : List RS := [.t 6, .t 7]
theorem s20 : slimC Try.prog Try.f20.ntmps v20.1 v20.2 ((Try.f20.body).getD .skip) = some c20 := by kernel_rfl
theorem q20 : slimR Try.prog Try.f20.ntmps v20.1 v20.2 Try.f20.results.toList = some o20 := by kernel_rfl
-- watermeet/epoch.Cut
def c21r0 : List SI := [
  ⟨none, .bx 2 (.t 0), none, 0⟩,
  ⟨none, .bx 3 (.t 1), none, 0⟩,
  ⟨none, .mv 4 (.v (.slice none 0 0)), none, 0⟩]
def c21r1 : List SI := [
  ⟨none, .ld 6 (.t 2) none, none, 0⟩,
  ⟨none, .call 7 17 [(.t 6)], none, 0⟩,
  ⟨none, .bin 8 .neq (.t 7) (.i 0), none, 0⟩]
def c21r2 : List SI := [
  ⟨none, .mv 4 (.v (.slice none 0 0)), none, 0⟩]
def c21r3 : List SI := [
  ⟨none, .ld 9 (.t 2) none, none, 0⟩,
  ⟨none, .len 10 false (.t 9), none, 0⟩,
  ⟨none, .mkf 11 (.func 37) [(.t 2), (.t 3)], none, 0⟩,
  ⟨none, .call 12 36 [(.t 10), (.t 11)], none, 0⟩,
  ⟨none, .mv 5 (.t 12), none, 0⟩]
def c21r4 : List SI := [
  ⟨none, .ld 13 (.t 2) none, none, 0⟩,
  ⟨none, .mv 14 (.t 5), none, 0⟩,
  ⟨none, .sl 15 (.t 13) none (some (.t 14)) none 2, none, 0⟩,
  ⟨none, .call 16 33 [(.t 15)], none, 0⟩,
  ⟨none, .mv 4 (.t 16), none, 0⟩]
def c21 : SC :=
  (.seq (.reg false c21r0)
  (.seq (.seq (.reg false c21r1)
  (.cond (.t 8)
   (.seq (.reg false c21r2)
   .ret)
   .skip))
  (.seq (.reg false c21r3)
  (.seq (.reg false c21r4)
  .ret))))
def v21 : List Nat × List Nat := ([], [])
def o21 : List RS := [.t 4]
theorem s21 : slimC Try.prog Try.f21.ntmps v21.1 v21.2 ((Try.f21.body).getD .skip) = some c21 := by kernel_rfl
theorem q21 : slimR Try.prog Try.f21.ntmps v21.1 v21.2 Try.f21.results.toList = some o21 := by kernel_rfl
-- watermeet/epoch.Trim
def c22r0 : List SI := [
  ⟨none, .bx 2 (.t 0), none, 0⟩,
  ⟨none, .bx 3 (.t 1), none, 0⟩,
  ⟨none, .mv 4 (.v (.slice none 0 0)), none, 0⟩]
def c22r1 : List SI := [
  ⟨none, .ld 7 (.t 2) none, none, 0⟩,
  ⟨none, .call 8 17 [(.t 7)], none, 0⟩,
  ⟨none, .bin 9 .neq (.t 8) (.i 0), none, 0⟩,
  ⟨none, .mv 10 (.t 9), none, 0⟩,
  ⟨some (10, false), .ld 11 (.t 3) none, none, 11⟩,
  ⟨some (10, false), .call 12 32 [(.t 11), (.i 1099511627776)], none, 12⟩,
  ⟨some (10, false), .un 13 .not (.t 12), none, 13⟩,
  ⟨none, .pick 14 (.t 10) (.b true) (.t 13), none, 0⟩,
  ⟨none, .mv 15 (.t 14), none, 0⟩,
  ⟨some (15, false), .ld 16 (.t 2) none, none, 16⟩,
  ⟨some (15, false), .len 17 false (.t 16), none, 17⟩,
  ⟨some (15, false), .bin 18 .eql (.t 17) (.i 0), none, 18⟩,
  ⟨none, .pick 19 (.t 15) (.b true) (.t 18), none, 0⟩]
def c22r2 : List SI := [
  ⟨none, .mv 4 (.v (.slice none 0 0)), none, 0⟩]
def c22r3 : List SI := [
  ⟨none, .ld 20 (.t 2) none, none, 0⟩,
  ⟨none, .len 21 false (.t 20), none, 0⟩,
  ⟨none, .bin 22 .sub (.t 21) (.i 1), none, 0⟩,
  ⟨none, .mkf 23 (.func 38) [(.t 2), (.t 3)], none, 0⟩,
  ⟨none, .call 24 36 [(.t 22), (.t 23)], none, 0⟩,
  ⟨none, .mv 5 (.t 24), none, 0⟩]
def c22r4 : List SI := [
  ⟨none, .ld 25 (.t 2) none, none, 0⟩,
  ⟨none, .mv 26 (.t 5), none, 0⟩,
  ⟨none, .sl 27 (.t 25) (some (.t 26)) none none 2, none, 0⟩,
  ⟨none, .call 28 33 [(.t 27)], none, 0⟩,
  ⟨none, .mv 6 (.t 28), none, 0⟩]
def c22r5 : List SI := [
  ⟨none, .mv 29 (.t 6), none, 0⟩,
  ⟨none, .mv 30 (.t 6), none, 0⟩,
  ⟨none, .ixA 31 (.t 30) (.i 0) 2, none, 0⟩,
  ⟨none, .flA 32 (.t 31) 1, none, 0⟩,
  ⟨none, .ld 33 (.t 32) none, none, 0⟩,
  ⟨none, .ld 34 (.t 3) none, none, 0⟩,
  ⟨none, .mm 35 true (.t 33) (.t 34), none, 0⟩,
  ⟨none, .ixA 36 (.t 29) (.i 0) 2, none, 0⟩,
  ⟨none, .flA 37 (.t 36) 1, none, 0⟩]
def c22r6 : List SI := [
  ⟨none, .st (.t 37) 1 (.t 35), none, 0⟩]
def c22r7 : List SI := [
  ⟨none, .mv 38 (.t 6), none, 0⟩,
  ⟨none, .mv 4 (.t 38), none, 0⟩]
def c22 : SC :=
  (.seq (.reg false c22r0)
  (.seq (.seq (.reg false c22r1)
  (.cond (.t 19)
   (.seq (.reg false c22r2)
   .ret)
   .skip))
  (.seq (.reg false c22r3)
  (.seq (.reg false c22r4)
  (.seq (.rgT c22r5 c22r6)
  (.seq (.reg false c22r7)
  .ret))))))
def v22 : List Nat × List Nat := ([], [])
def o22 : List RS := [.t 4]
theorem s22 : slimC Try.prog Try.f22.ntmps v22.1 v22.2 ((Try.f22.body).getD .skip) = some c22 := by kernel_rfl
theorem q22 : slimR Try.prog Try.f22.ntmps v22.1 v22.2 Try.f22.results.toList = some o22 := by kernel_rfl
-- watermeet/watermeetref10.Cut
def c23r0 : List SI := [
  ⟨none, .mv 4 (.v (.slice none 0 0)), none, 0⟩]
def c23r1 : List SI := [
  ⟨none, .mv 5 (.v (.slice none 0 0)), none, 0⟩]
def c23r2 : List SI := [
  ⟨none, .mv 8 (.t 0), none, 0⟩,
  ⟨none, .len 9 false (.t 8), none, 0⟩,
  ⟨none, .mv 10 (.i 0), none, 0⟩]
def c23r3 : List SI := [
  ⟨none, .bin 11 .lss (.t 10) (.t 9), none, 0⟩]
def c23r4 : List SI := [
  ⟨none, .ixA 12 (.t 8) (.t 10) 2, none, 0⟩,
  ⟨none, .ld 13 (.t 12) (some 2), none, 0⟩,
  ⟨none, .alR 7 [(.int .i64 0), (.int .i64 0)], none, 0⟩,
  ⟨none, .stR 7 0 2 (.t 13), none, 0⟩]
def c23r5 : List SI := [
  ⟨none, .mv 14 (.t 0), none, 0⟩,
  ⟨none, .call 15 18 [(.t 14)], none, 0⟩,
  ⟨none, .bin 16 .eql (.t 15) (.i 0), none, 0⟩,
  ⟨none, .mv 17 (.t 16), none, 0⟩,
  ⟨some (17, true), .nop, (some 7), 99999⟩,
  ⟨some (17, true), .ldR 19 7 1 none, none, 19⟩,
  ⟨some (17, true), .mv 20 (.t 1), none, 20⟩,
  ⟨some (17, true), .bin 21 .lss (.t 19) (.t 20), none, 21⟩,
  ⟨none, .pick 22 (.t 17) (.t 21) (.b false), none, 0⟩]
def c23r6 : List SI := [
  ⟨none, .mv 23 (.t 5), none, 0⟩,
  ⟨none, .ldR 24 7 0 (some 2), none, 0⟩,
  ⟨none, .bls 25 32 1 2 [(.int .i64 0), (.int .i64 0)] [(0, 2, (.t 24))], none, 0⟩,
  ⟨none, .app 26 (.t 23) (.t 25) 32 2 16, none, 0⟩,
  ⟨none, .mv 5 (.t 26), none, 0⟩]
def c23r7 : List SI := [
  ⟨none, .bin 27 .add (.t 10) (.i 1), none, 0⟩,
  ⟨none, .mv 10 (.t 27), none, 0⟩]
def c23r8 : List SI := [
  ⟨none, .mv 28 (.t 5), none, 0⟩,
  ⟨none, .mv 4 (.t 28), none, 0⟩]
def c23 : SC :=
  (.seq (.reg false c23r0)
  (.seq (.reg false c23r1)
  (.seq (.seq (.reg false c23r2)
  (.blk 0 (.loop (.seq (.reg false c23r3)
    (.seq (.cond (.t 11)
     .skip
     (.exit 0))
    (.seq (.blk 1 (.seq (.reg false c23r4)
     (.seq (.reg false c23r5)
     (.cond (.t 22)
      (.reg false c23r6)
      .skip))))
    (.reg false c23r7)))))))
  (.seq (.reg false c23r8)
  .ret))))
def v23 : List Nat × List Nat := ([7], [7, 18])
def o23 : List RS := [.t 4]
theorem s23 : slimC Try.prog Try.f23.ntmps v23.1 v23.2 ((Try.f23.body).getD .skip) = some c23 := by kernel_rfl
theorem q23 : slimR Try.prog Try.f23.ntmps v23.1 v23.2 Try.f23.results.toList = some o23 := by kernel_rfl
-- watermeet/watermeetref10.Trim
def c24r0 : List SI := [
  ⟨none, .mv 4 (.v (.slice none 0 0)), none, 0⟩]
def c24r1 : List SI := [
  ⟨none, .mv 8 (.t 0), none, 0⟩,
  ⟨none, .call 9 18 [(.t 8)], none, 0⟩,
  ⟨none, .bin 10 .neq (.t 9) (.i 0), none, 0⟩,
  ⟨none, .mv 11 (.t 10), none, 0⟩,
  ⟨some (11, false), .mv 12 (.t 1), none, 12⟩,
  ⟨some (11, false), .bin 13 .lss (.t 12) (.i 0), none, 13⟩,
  ⟨none, .pick 14 (.t 11) (.b true) (.t 13), none, 0⟩,
  ⟨none, .mv 15 (.t 14), none, 0⟩,
  ⟨some (15, false), .mv 16 (.t 1), none, 16⟩,
  ⟨some (15, false), .bin 17 .gtr (.t 16) (.i 1099511627776), none, 17⟩,
  ⟨none, .pick 18 (.t 15) (.b true) (.t 17), none, 0⟩]
def c24r2 : List SI := [
  ⟨none, .mv 4 (.v (.slice none 0 0)), none, 0⟩]
def c24r3 : List SI := [
  ⟨none, .mv 5 (.v (.slice none 0 0)), none, 0⟩]
def c24r4 : List SI := [
  ⟨none, .mv 19 (.t 0), none, 0⟩,
  ⟨none, .len 20 false (.t 19), none, 0⟩,
  ⟨none, .mv 21 (.i 0), none, 0⟩]
def c24r5 : List SI := [
  ⟨none, .bin 22 .lss (.t 21) (.t 20), none, 0⟩]
def c24r6 : List SI := [
  ⟨none, .mv 23 (.t 21), none, 0⟩,
  ⟨none, .ixA 24 (.t 19) (.t 21) 2, none, 0⟩,
  ⟨none, .ld 25 (.t 24) (some 2), none, 0⟩,
  ⟨none, .alR 7 [(.int .i64 0), (.int .i64 0)], none, 0⟩,
  ⟨none, .mv 6 (.t 23), none, 0⟩,
  ⟨none, .stR 7 0 2 (.t 25), none, 0⟩]
def c24r7 : List SI := [
  ⟨none, .mv 26 (.t 6), none, 0⟩,
  ⟨none, .bin 27 .add (.t 26) (.i 1), none, 0⟩,
  ⟨none, .mv 28 (.t 0), none, 0⟩,
  ⟨none, .len 29 false (.t 28), none, 0⟩,
  ⟨none, .bin 30 .eql (.t 27) (.t 29), none, 0⟩,
  ⟨none, .mv 31 (.t 30), none, 0⟩,
  ⟨some (31, false), .mv 32 (.t 0), none, 32⟩,
  ⟨some (31, false), .mv 33 (.t 6), none, 33⟩,
  ⟨some (31, false), .bin 34 .add (.t 33) (.i 1), none, 34⟩,
  ⟨some (31, false), .ixA 35 (.t 32) (.t 34) 2, none, 35⟩,
  ⟨some (31, false), .flA 36 (.t 35) 1, none, 36⟩,
  ⟨some (31, false), .ld 37 (.t 36) none, none, 37⟩,
  ⟨some (31, false), .mv 38 (.t 1), none, 38⟩,
  ⟨some (31, false), .bin 39 .gtr (.t 37) (.t 38), none, 39⟩,
  ⟨none, .pick 40 (.t 31) (.b true) (.t 39), none, 0⟩]
def c24r8 : List SI := [
  ⟨none, .mv 41 (.t 5), none, 0⟩,
  ⟨none, .nop, (some 7), 0⟩,
  ⟨none, .ldR 43 7 0 none, none, 0⟩,
  ⟨none, .nop, (some 7), 0⟩,
  ⟨none, .ldR 45 7 1 none, none, 0⟩,
  ⟨none, .mv 46 (.t 1), none, 0⟩,
  ⟨none, .mm 47 true (.t 45) (.t 46), none, 0⟩,
  ⟨none, .bld 48 [(.int .i64 0), (.int .i64 0)] [(0, 1, (.t 43)), (1, 1, (.t 47))], none, 0⟩,
  ⟨none, .bls 49 32 1 2 [(.int .i64 0), (.int .i64 0)] [(0, 2, (.t 48))], none, 0⟩,
  ⟨none, .app 50 (.t 41) (.t 49) 32 2 16, none, 0⟩,
  ⟨none, .mv 5 (.t 50), none, 0⟩]
def c24r9 : List SI := [
  ⟨none, .bin 51 .add (.t 21) (.i 1), none, 0⟩,
  ⟨none, .mv 21 (.t 51), none, 0⟩]
def c24r10 : List SI := [
  ⟨none, .mv 52 (.t 5), none, 0⟩,
  ⟨none, .mv 4 (.t 52), none, 0⟩]
def c24 : SC :=
  (.seq (.reg false c24r0)
  (.seq (.seq (.reg false c24r1)
  (.cond (.t 18)
   (.seq (.reg false c24r2)
   .ret)
   .skip))
  (.seq (.reg false c24r3)
  (.seq (.seq (.reg false c24r4)
  (.blk 0 (.loop (.seq (.reg false c24r5)
    (.seq (.cond (.t 22)
     .skip
     (.exit 0))
    (.seq (.blk 1 (.seq (.reg false c24r6)
     (.seq (.reg false c24r7)
     (.cond (.t 40)
      (.reg false c24r8)
      .skip))))
    (.reg false c24r9)))))))
  (.seq (.reg false c24r10)
  .ret)))))
def v24 : List Nat × List Nat := ([7], [7, 42, 44])
def o24 : List RS := [.t 4]
theorem s24 : slimC Try.prog Try.f24.ntmps v24.1 v24.2 ((Try.f24.body).getD .skip) = some c24 := by kernel_rfl
theorem q24 : slimR Try.prog Try.f24.ntmps v24.1 v24.2 Try.f24.results.toList = some o24 := by kernel_rfl
-- watermeet/epoch.Meet
def c25r0 : List SI := [
  ⟨none, .bx 4 (.t 0), none, 0⟩,
  ⟨none, .bx 5 (.t 1), none, 0⟩,
  ⟨none, .bx 6 (.t 2), none, 0⟩,
  ⟨none, .bx 7 (.t 3), none, 0⟩,
  ⟨none, .al 8 [(.int .i64 0)], none, 0⟩]
def c25r1 : List SI := [
  ⟨none, .ld 15 (.t 4) none, none, 0⟩,
  ⟨none, .call 16 17 [(.t 15)], none, 0⟩,
  ⟨none, .bin 17 .neq (.t 16) (.i 0), none, 0⟩,
  ⟨none, .mv 18 (.t 17), none, 0⟩,
  ⟨some (18, false), .ld 19 (.t 6) none, none, 19⟩,
  ⟨some (18, false), .call 20 17 [(.t 19)], none, 20⟩,
  ⟨some (18, false), .bin 21 .neq (.t 20) (.i 0), none, 21⟩,
  ⟨none, .pick 22 (.t 18) (.b true) (.t 21), none, 0⟩]
def c25r2 : List SI := [
  ⟨none, .st (.t 8) 1 (.i 0), none, 0⟩]
def c25r3 : List SI := [
  ⟨none, .ld 23 (.t 4) none, none, 0⟩,
  ⟨none, .call 24 39 [(.t 23)], none, 0⟩]
def c25r4 : List SI := [
  ⟨none, .alR 10 [(.int .i64 0), (.int .i64 0)], none, 0⟩,
  ⟨none, .stR 10 0 2 (.t 26), none, 0⟩]
def c25r5 : List SI := [
  ⟨none, .ld 28 (.t 6) none, none, 0⟩,
  ⟨none, .nop, (some 10), 0⟩,
  ⟨none, .ldR 30 10 0 none, none, 0⟩,
  ⟨none, .ld 31 (.t 7) none, none, 0⟩,
  ⟨none, .call 32 19 [(.t 28), (.t 30), (.t 31)], none, 0⟩,
  ⟨none, .mv 27 (.t 32), none, 0⟩,
  ⟨none, .ext 33 (.t 27) 0, none, 0⟩,
  ⟨none, .ext 34 (.t 27) 1, none, 0⟩,
  ⟨none, .mv 11 (.t 33), none, 0⟩,
  ⟨none, .mv 12 (.t 34), none, 0⟩]
def c25r6 : List SI := [
  ⟨none, .mv 35 (.t 11), none, 0⟩,
  ⟨none, .nop, (some 10), 0⟩,
  ⟨none, .ldR 37 10 0 none, none, 0⟩,
  ⟨none, .bin 38 .eql (.t 35) (.t 37), none, 0⟩]
def c25r7 : List SI := [
  ⟨none, .ld 40 (.t 4) none, none, 0⟩,
  ⟨none, .nop, (some 10), 0⟩,
  ⟨none, .ldR 42 10 0 none, none, 0⟩,
  ⟨none, .ld 43 (.t 5) none, none, 0⟩,
  ⟨none, .call 44 19 [(.t 40), (.t 42), (.t 43)], none, 0⟩,
  ⟨none, .mv 39 (.t 44), none, 0⟩,
  ⟨none, .ext 45 (.t 39) 0, none, 0⟩,
  ⟨none, .ext 46 (.t 39) 1, none, 0⟩,
  ⟨none, .mv 13 (.t 45), none, 0⟩,
  ⟨none, .mv 14 (.t 46), none, 0⟩]
def c25r8 : List SI := [
  ⟨none, .mv 47 (.t 14), none, 0⟩,
  ⟨none, .mv 48 (.t 12), none, 0⟩,
  ⟨none, .mm 49 false (.t 47) (.t 48), none, 0⟩,
  ⟨none, .st (.t 8) 1 (.t 49), none, 0⟩]
def c25r9 : List SI := [
  ⟨none, .st (.t 8) 1 (.i 0), none, 0⟩]
def c25 : SC :=
  (.seq (.reg false c25r0)
  (.seq (.seq (.reg false c25r1)
  (.cond (.t 22)
   (.seq (.reg false c25r2)
   .ret)
   .skip))
  (.seq (.seq (.reg false c25r3)
  (.blk 0 (.rf (.t 24) [25, 26] (.reg false c25r4)
    (.blk 1 (.seq (.reg false c25r5)
     (.seq (.reg false c25r6)
     (.cond (.t 38)
      (.seq (.reg false c25r7)
      (.seq (.reg false c25r8)
      .ret))
      .skip)))))))
  (.seq (.reg false c25r9)
  .ret))))
def v25 : List Nat × List Nat := ([10], [10, 29, 36, 41])
def o25 : List RS := [.c 8 none]
theorem s25 : slimC Try.prog Try.f25.ntmps v25.1 v25.2 ((Try.f25.body).getD .skip) = some c25 := by kernel_rfl
theorem q25 : slimR Try.prog Try.f25.ntmps v25.1 v25.2 Try.f25.results.toList = some o25 := by kernel_rfl
-- watermeet/watermeetref04.FewAll
def c26r0 : List SI := [
  ⟨none, .mv 4 (.b false), none, 0⟩]
def c26r1 : List SI := [
  ⟨none, .mv 7 (.t 0), none, 0⟩,
  ⟨none, .len 8 false (.t 7), none, 0⟩,
  ⟨none, .mv 9 (.i 0), none, 0⟩]
def c26r2 : List SI := [
  ⟨none, .bin 10 .lss (.t 9) (.t 8), none, 0⟩]
def c26r3 : List SI := [
  ⟨none, .ixA 11 (.t 7) (.t 9) 10, none, 0⟩,
  ⟨none, .ld 12 (.t 11) (some 10), none, 0⟩,
  ⟨none, .alR 6 [(.int .i64 0), (.int .i64 0), (.int .i64 0), (.int .i64 0), (.int .i64 0), (.int .i64 0), (.int .i64 0), (.bool false), (.int .i64 0), (.slice none 0 0)], none, 0⟩,
  ⟨none, .stR 6 0 10 (.t 12), none, 0⟩]
def c26r4 : List SI := [
  ⟨none, .ldR 13 6 0 (some 10), none, 0⟩,
  ⟨none, .call 14 40 [(.t 13)], none, 0⟩,
  ⟨none, .un 15 .not (.t 14), none, 0⟩]
def c26r5 : List SI := [
  ⟨none, .mv 4 (.b false), none, 0⟩]
def c26r6 : List SI := [
  ⟨none, .bin 16 .add (.t 9) (.i 1), none, 0⟩,
  ⟨none, .mv 9 (.t 16), none, 0⟩]
def c26r7 : List SI := [
  ⟨none, .mv 17 (.t 0), none, 0⟩,
  ⟨none, .len 18 false (.t 17), none, 0⟩,
  ⟨none, .mv 19 (.t 1), none, 0⟩,
  ⟨none, .bin 20 .leq (.t 18) (.t 19), none, 0⟩,
  ⟨none, .mv 4 (.t 20), none, 0⟩]
def c26 : SC :=
  (.seq (.reg false c26r0)
  (.seq (.seq (.reg false c26r1)
  (.blk 0 (.loop (.seq (.reg false c26r2)
    (.seq (.cond (.t 10)
     .skip
     (.exit 0))
    (.seq (.blk 1 (.seq (.reg false c26r3)
     (.seq (.reg false c26r4)
     (.cond (.t 15)
      (.seq (.reg false c26r5)
      .ret)
      .skip))))
    (.reg false c26r6)))))))
  (.seq (.reg false c26r7)
  .ret)))
def v26 : List Nat × List Nat := ([6], [6])
def o26 : List RS := [.t 4]
theorem s26 : slimC Try.prog Try.f26.ntmps v26.1 v26.2 ((Try.f26.body).getD .skip) = some c26 := by kernel_rfl
theorem q26 : slimR Try.prog Try.f26.ntmps v26.1 v26.2 Try.f26.results.toList = some o26 := by kernel_rfl
-- watermeet/watermeetref10.Meet
def c27r0 : List SI := [
  ⟨none, .mv 8 (.i 0), none, 0⟩]
def c27r1 : List SI := [
  ⟨none, .mv 14 (.t 0), none, 0⟩,
  ⟨none, .call 15 18 [(.t 14)], none, 0⟩,
  ⟨none, .bin 16 .neq (.t 15) (.i 0), none, 0⟩,
  ⟨none, .mv 17 (.t 16), none, 0⟩,
  ⟨some (17, false), .mv 18 (.t 2), none, 18⟩,
  ⟨some (17, false), .call 19 18 [(.t 18)], none, 19⟩,
  ⟨some (17, false), .bin 20 .neq (.t 19) (.i 0), none, 20⟩,
  ⟨none, .pick 21 (.t 17) (.b true) (.t 20), none, 0⟩]
def c27r2 : List SI := [
  ⟨none, .mv 8 (.i 0), none, 0⟩]
def c27r3 : List SI := [
  ⟨none, .mv 9 (.i 0), none, 0⟩]
def c27r4 : List SI := [
  ⟨none, .mv 22 (.t 0), none, 0⟩,
  ⟨none, .len 23 false (.t 22), none, 0⟩,
  ⟨none, .mv 24 (.i 0), none, 0⟩]
def c27r5 : List SI := [
  ⟨none, .bin 25 .lss (.t 24) (.t 23), none, 0⟩]
def c27r6 : List SI := [
  ⟨none, .mv 26 (.t 24), none, 0⟩,
  ⟨none, .ixA 27 (.t 22) (.t 24) 2, none, 0⟩,
  ⟨none, .ld 28 (.t 27) (some 2), none, 0⟩,
  ⟨none, .alR 11 [(.int .i64 0), (.int .i64 0)], none, 0⟩,
  ⟨none, .mv 10 (.t 26), none, 0⟩,
  ⟨none, .stR 11 0 2 (.t 28), none, 0⟩]
def c27r7 : List SI := [
  ⟨none, .mv 29 (.t 2), none, 0⟩,
  ⟨none, .len 30 false (.t 29), none, 0⟩,
  ⟨none, .mv 31 (.i 0), none, 0⟩]
def c27r8 : List SI := [
  ⟨none, .bin 32 .lss (.t 31) (.t 30), none, 0⟩]
def c27r9 : List SI := [
  ⟨none, .mv 33 (.t 31), none, 0⟩,
  ⟨none, .ixA 34 (.t 29) (.t 31) 2, none, 0⟩,
  ⟨none, .ld 35 (.t 34) (some 2), none, 0⟩,
  ⟨none, .alR 13 [(.int .i64 0), (.int .i64 0)], none, 0⟩,
  ⟨none, .mv 12 (.t 33), none, 0⟩,
  ⟨none, .stR 13 0 2 (.t 35), none, 0⟩]
def c27r10 : List SI := [
  ⟨none, .nop, (some 11), 0⟩,
  ⟨none, .ldR 37 11 0 none, none, 0⟩,
  ⟨none, .nop, (some 13), 0⟩,
  ⟨none, .ldR 39 13 0 none, none, 0⟩,
  ⟨none, .bin 40 .eql (.t 37) (.t 39), none, 0⟩]
def c27r11 : List SI := [
  ⟨none, .mv 41 (.t 0), none, 0⟩,
  ⟨none, .mv 42 (.t 10), none, 0⟩,
  ⟨none, .mv 43 (.t 1), none, 0⟩,
  ⟨none, .call 44 35 [(.t 41), (.t 42), (.t 43)], none, 0⟩,
  ⟨none, .mv 45 (.t 2), none, 0⟩,
  ⟨none, .mv 46 (.t 12), none, 0⟩,
  ⟨none, .mv 47 (.t 3), none, 0⟩,
  ⟨none, .call 48 35 [(.t 45), (.t 46), (.t 47)], none, 0⟩,
  ⟨none, .mm 49 false (.t 44) (.t 48), none, 0⟩,
  ⟨none, .mv 9 (.t 49), none, 0⟩]
def c27r12 : List SI := [
  ⟨none, .bin 50 .add (.t 31) (.i 1), none, 0⟩,
  ⟨none, .mv 31 (.t 50), none, 0⟩]
def c27r13 : List SI := [
  ⟨none, .bin 51 .add (.t 24) (.i 1), none, 0⟩,
  ⟨none, .mv 24 (.t 51), none, 0⟩]
def c27r14 : List SI := [
  ⟨none, .mv 52 (.t 9), none, 0⟩,
  ⟨none, .mv 8 (.t 52), none, 0⟩]
def c27 : SC :=
  (.seq (.reg false c27r0)
  (.seq (.seq (.reg false c27r1)
  (.cond (.t 21)
   (.seq (.reg false c27r2)
   .ret)
   .skip))
  (.seq (.reg false c27r3)
  (.seq (.seq (.reg false c27r4)
  (.blk 0 (.loop (.seq (.reg false c27r5)
    (.seq (.cond (.t 25)
     .skip
     (.exit 0))
    (.seq (.blk 1 (.seq (.reg false c27r6)
     (.seq (.reg false c27r7)
     (.blk 2 (.loop (.seq (.reg false c27r8)
       (.seq (.cond (.t 32)
        .skip
        (.exit 2))
       (.seq (.blk 3 (.seq (.reg false c27r9)
        (.seq (.reg false c27r10)
        (.cond (.t 40)
         (.reg false c27r11)
         .skip))))
       (.reg false c27r12)))))))))
    (.reg false c27r13)))))))
  (.seq (.reg false c27r14)
  .ret)))))
def v27 : List Nat × List Nat := ([11, 13], [11, 13, 36, 38])
def o27 : List RS := [.t 8]
theorem s27 : slimC Try.prog Try.f27.ntmps v27.1 v27.2 ((Try.f27.body).getD .skip) = some c27 := by kernel_rfl
theorem q27 : slimR Try.prog Try.f27.ntmps v27.1 v27.2 Try.f27.results.toList = some o27 := by kernel_rfl
-- watermeet/epoch.Of
def c28r0 : List SI := [
  ⟨none, .mv 2 (.v (.slice none 0 0)), none, 0⟩]
def c28r1 : List SI := [
  ⟨none, .mv 7 (.t 0), none, 0⟩,
  ⟨none, .len 8 false (.t 7), none, 0⟩,
  ⟨none, .mv 9 (.i 0), none, 0⟩]
def c28r2 : List SI := [
  ⟨none, .bin 10 .lss (.t 9) (.t 8), none, 0⟩]
def c28r3 : List SI := [
  ⟨none, .ixA 11 (.t 7) (.t 9) 10, none, 0⟩,
  ⟨none, .ld 12 (.t 11) (some 10), none, 0⟩,
  ⟨none, .alR 4 [(.int .i64 0), (.int .i64 0), (.int .i64 0), (.int .i64 0), (.int .i64 0), (.int .i64 0), (.int .i64 0), (.bool false), (.int .i64 0), (.slice none 0 0)], none, 0⟩,
  ⟨none, .stR 4 0 10 (.t 12), none, 0⟩]
def c28r4 : List SI := [
  ⟨none, .mv 14 (.t 2), none, 0⟩,
  ⟨none, .nop, (some 4), 0⟩,
  ⟨none, .ldR 16 4 3 none, none, 0⟩,
  ⟨none, .nop, (some 4), 0⟩,
  ⟨none, .ldR 18 4 0 none, none, 0⟩,
  ⟨none, .call 19 14 [(.t 14), (.t 16), (.t 18)], none, 0⟩,
  ⟨none, .mv 13 (.t 19), none, 0⟩,
  ⟨none, .ext 20 (.t 13) 0, none, 0⟩,
  ⟨none, .ext 21 (.t 13) 1, none, 0⟩,
  ⟨none, .mv 5 (.t 20), none, 0⟩,
  ⟨none, .mv 6 (.t 21), none, 0⟩]
def c28r5 : List SI := [
  ⟨none, .mv 22 (.t 6), none, 0⟩,
  ⟨none, .bin 23 .eql (.t 22) (.i 0), none, 0⟩]
def c28r6 : List SI := [
  ⟨none, .mv 24 (.t 5), none, 0⟩,
  ⟨none, .mv 2 (.t 24), none, 0⟩]
def c28r7 : List SI := [
  ⟨none, .bin 25 .add (.t 9) (.i 1), none, 0⟩,
  ⟨none, .mv 9 (.t 25), none, 0⟩]
def c28r8 : List SI := [
  ⟨none, .mv 26 (.t 2), none, 0⟩,
  ⟨none, .mv 2 (.t 26), none, 0⟩]
def c28 : SC :=
  (.seq (.reg false c28r0)
  (.seq (.seq (.reg false c28r1)
  (.blk 0 (.loop (.seq (.reg false c28r2)
    (.seq (.cond (.t 10)
     .skip
     (.exit 0))
    (.seq (.blk 1 (.seq (.reg false c28r3)
     (.seq (.reg false c28r4)
     (.seq (.reg false c28r5)
     (.cond (.t 23)
      (.reg false c28r6)
      .skip)))))
    (.reg false c28r7)))))))
  (.seq (.reg false c28r8)
  .ret)))
def v28 : List Nat × List Nat := ([4], [4, 15, 17])
def o28 : List RS := [.t 2]
theorem s28 : slimC Try.prog Try.f28.ntmps v28.1 v28.2 ((Try.f28.body).getD .skip) = some c28 := by kernel_rfl
theorem q28 : slimR Try.prog Try.f28.ntmps v28.1 v28.2 Try.f28.results.toList = some o28 := by kernel_rfl
-- watermeet/watermeetref10.Of
def c29r0 : List SI := [
  ⟨none, .mv 2 (.v (.slice none 0 0)), none, 0⟩]
def c29r1 : List SI := [
  ⟨none, .mv 3 (.v (.slice none 0 0)), none, 0⟩]
def c29r2 : List SI := [
  ⟨none, .mv 8 (.t 0), none, 0⟩,
  ⟨none, .len 9 false (.t 8), none, 0⟩,
  ⟨none, .mv 10 (.i 0), none, 0⟩]
def c29r3 : List SI := [
  ⟨none, .bin 11 .lss (.t 10) (.t 9), none, 0⟩]
def c29r4 : List SI := [
  ⟨none, .ixA 12 (.t 8) (.t 10) 10, none, 0⟩,
  ⟨none, .ld 13 (.t 12) (some 10), none, 0⟩,
  ⟨none, .alR 5 [(.int .i64 0), (.int .i64 0), (.int .i64 0), (.int .i64 0), (.int .i64 0), (.int .i64 0), (.int .i64 0), (.bool false), (.int .i64 0), (.slice none 0 0)], none, 0⟩,
  ⟨none, .stR 5 0 10 (.t 13), none, 0⟩]
def c29r5 : List SI := [
  ⟨none, .mv 15 (.t 3), none, 0⟩,
  ⟨none, .nop, (some 5), 0⟩,
  ⟨none, .ldR 17 5 3 none, none, 0⟩,
  ⟨none, .nop, (some 5), 0⟩,
  ⟨none, .ldR 19 5 0 none, none, 0⟩,
  ⟨none, .call 20 15 [(.t 15), (.t 17), (.t 19)], none, 0⟩,
  ⟨none, .mv 14 (.t 20), none, 0⟩,
  ⟨none, .ext 21 (.t 14) 0, none, 0⟩,
  ⟨none, .ext 22 (.t 14) 1, none, 0⟩,
  ⟨none, .mv 6 (.t 21), none, 0⟩,
  ⟨none, .mv 7 (.t 22), none, 0⟩]
def c29r6 : List SI := [
  ⟨none, .mv 23 (.t 7), none, 0⟩,
  ⟨none, .bin 24 .eql (.t 23) (.i 0), none, 0⟩]
def c29r7 : List SI := [
  ⟨none, .mv 25 (.t 6), none, 0⟩,
  ⟨none, .mv 3 (.t 25), none, 0⟩]
def c29r8 : List SI := [
  ⟨none, .bin 26 .add (.t 10) (.i 1), none, 0⟩,
  ⟨none, .mv 10 (.t 26), none, 0⟩]
def c29r9 : List SI := [
  ⟨none, .mv 27 (.t 3), none, 0⟩,
  ⟨none, .mv 2 (.t 27), none, 0⟩]
def c29 : SC :=
  (.seq (.reg false c29r0)
  (.seq (.reg false c29r1)
  (.seq (.seq (.reg false c29r2)
  (.blk 0 (.loop (.seq (.reg false c29r3)
    (.seq (.cond (.t 11)
     .skip
     (.exit 0))
    (.seq (.blk 1 (.seq (.reg false c29r4)
     (.seq (.reg false c29r5)
     (.seq (.reg false c29r6)
     (.cond (.t 24)
      (.reg false c29r7)
      .skip)))))
    (.reg false c29r8)))))))
  (.seq (.reg false c29r9)
  .ret))))
def v29 : List Nat × List Nat := ([5], [5, 16, 18])
def o29 : List RS := [.t 2]
theorem s29 : slimC Try.prog Try.f29.ntmps v29.1 v29.2 ((Try.f29.body).getD .skip) = some c29 := by kernel_rfl
theorem q29 : slimR Try.prog Try.f29.ntmps v29.1 v29.2 Try.f29.results.toList = some o29 := by kernel_rfl
-- watermeet/watermeetlaw10.log
def c30r0 : List SI := [
  ⟨none, .mv 8 (.v (.slice none 0 0)), none, 0⟩]
def c30r1 : List SI := [
  ⟨none, .mv 9 (.v (.slice none 0 0)), none, 0⟩]
def c30r2 : List SI := [
  ⟨none, .mv 12 (.t 3), none, 0⟩,
  ⟨none, .len 13 false (.t 12), none, 0⟩,
  ⟨none, .mv 14 (.i 0), none, 0⟩]
def c30r3 : List SI := [
  ⟨none, .bin 15 .lss (.t 14) (.t 13), none, 0⟩]
def c30r4 : List SI := [
  ⟨none, .mv 16 (.t 14), none, 0⟩,
  ⟨none, .ixA 17 (.t 12) (.t 14) 1, none, 0⟩,
  ⟨none, .ld 18 (.t 17) none, none, 0⟩,
  ⟨none, .mv 10 (.t 16), none, 0⟩,
  ⟨none, .mv 11 (.t 18), none, 0⟩]
def c30r5 : List SI := [
  ⟨none, .mv 19 (.t 1), none, 0⟩,
  ⟨none, .mv 20 (.t 2), none, 0⟩,
  ⟨none, .mv 21 (.t 11), none, 0⟩,
  ⟨none, .cvI 22 .i64 (.t 21), none, 0⟩,
  ⟨none, .bin 23 .rem (.t 22) (.i 3), none, 0⟩,
  ⟨none, .bin 24 .mul (.t 20) (.t 23), none, 0⟩,
  ⟨none, .bin 25 .add (.t 19) (.t 24), none, 0⟩,
  ⟨none, .mv 1 (.t 25), none, 0⟩]
def c30r6 : List SI := [
  ⟨none, .mv 26 (.t 9), none, 0⟩,
  ⟨none, .mv 27 (.t 0), none, 0⟩,
  ⟨none, .mv 28 (.t 10), none, 0⟩,
  ⟨none, .bin 29 .add (.t 27) (.t 28), none, 0⟩,
  ⟨none, .mv 30 (.t 0), none, 0⟩,
  ⟨none, .mv 31 (.t 10), none, 0⟩,
  ⟨none, .bin 32 .add (.t 30) (.t 31), none, 0⟩,
  ⟨none, .mv 33 (.t 1), none, 0⟩,
  ⟨none, .bld 34 [(.int .i64 0), (.int .i64 0), (.int .i64 0), (.int .i64 0), (.int .i64 0), (.int .i64 0), (.int .i64 0), (.bool false), (.int .i64 0), (.slice none 0 0)] [(0, 1, (.t 29)), (1, 1, (.t 32)), (3, 1, (.t 33)), (4, 1, (.i (-1)))], none, 0⟩,
  ⟨none, .bls 35 49 1 10 [(.int .i64 0), (.int .i64 0), (.int .i64 0), (.int .i64 0), (.int .i64 0), (.int .i64 0), (.int .i64 0), (.bool false), (.int .i64 0), (.slice none 0 0)] [(0, 10, (.t 34))], none, 0⟩,
  ⟨none, .app 36 (.t 26) (.t 35) 49 10 96, none, 0⟩,
  ⟨none, .mv 9 (.t 36), none, 0⟩]
def c30r7 : List SI := [
  ⟨none, .bin 37 .add (.t 14) (.i 1), none, 0⟩,
  ⟨none, .mv 14 (.t 37), none, 0⟩]
def c30r8 : List SI := [
  ⟨none, .mv 38 (.t 9), none, 0⟩,
  ⟨none, .mv 8 (.t 38), none, 0⟩]
def c30 : SC :=
  (.seq (.reg false c30r0)
  (.seq (.reg false c30r1)
  (.seq (.seq (.reg false c30r2)
  (.blk 0 (.loop (.seq (.reg false c30r3)
    (.seq (.cond (.t 15)
     .skip
     (.exit 0))
    (.seq (.blk 1 (.seq (.reg false c30r4)
     (.seq (.reg false c30r5)
     (.reg false c30r6))))
    (.reg false c30r7)))))))
  (.seq (.reg false c30r8)
  .ret))))
def v30 : List Nat × List Nat := ([], [])
def o30 : List RS := [.t 8]
theorem s30 : slimC Try.prog Try.f30.ntmps v30.1 v30.2 ((Try.f30.body).getD .skip) = some c30 := by kernel_rfl
theorem q30 : slimR Try.prog Try.f30.ntmps v30.1 v30.2 Try.f30.results.toList = some o30 := by kernel_rfl
-- watermeet/watermeetref04.SameAll
def c31r0 : List SI := [
  ⟨none, .mv 4 (.b false), none, 0⟩]
def c31r1 : List SI := [
  ⟨none, .mv 6 (.t 0), none, 0⟩,
  ⟨none, .len 7 false (.t 6), none, 0⟩,
  ⟨none, .mv 8 (.t 1), none, 0⟩,
  ⟨none, .len 9 false (.t 8), none, 0⟩,
  ⟨none, .bin 10 .neq (.t 7) (.t 9), none, 0⟩]
def c31r2 : List SI := [
  ⟨none, .mv 4 (.b false), none, 0⟩]
def c31r3 : List SI := [
  ⟨none, .mv 11 (.t 0), none, 0⟩,
  ⟨none, .len 12 false (.t 11), none, 0⟩,
  ⟨none, .mv 13 (.i 0), none, 0⟩]
def c31r4 : List SI := [
  ⟨none, .bin 14 .lss (.t 13) (.t 12), none, 0⟩]
def c31r5 : List SI := [
  ⟨none, .mv 15 (.t 13), none, 0⟩,
  ⟨none, .mv 5 (.t 15), none, 0⟩]
def c31r6 : List SI := [
  ⟨none, .mv 16 (.t 0), none, 0⟩,
  ⟨none, .mv 17 (.t 5), none, 0⟩,
  ⟨none, .ixA 18 (.t 16) (.t 17) 10, none, 0⟩,
  ⟨none, .ld 19 (.t 18) (some 10), none, 0⟩,
  ⟨none, .mv 20 (.t 1), none, 0⟩,
  ⟨none, .mv 21 (.t 5), none, 0⟩,
  ⟨none, .ixA 22 (.t 20) (.t 21) 10, none, 0⟩,
  ⟨none, .ld 23 (.t 22) (some 10), none, 0⟩,
  ⟨none, .call 24 41 [(.t 19), (.t 23)], none, 0⟩,
  ⟨none, .un 25 .not (.t 24), none, 0⟩]
def c31r7 : List SI := [
  ⟨none, .mv 4 (.b false), none, 0⟩]
def c31r8 : List SI := [
  ⟨none, .bin 26 .add (.t 13) (.i 1), none, 0⟩,
  ⟨none, .mv 13 (.t 26), none, 0⟩]
def c31r9 : List SI := [
  ⟨none, .mv 4 (.b true), none, 0⟩]
def c31 : SC :=
  (.seq (.reg false c31r0)
  (.seq (.seq (.reg false c31r1)
  (.cond (.t 10)
   (.seq (.reg false c31r2)
   .ret)
   .skip))
  (.seq (.seq (.reg false c31r3)
  (.blk 0 (.loop (.seq (.reg false c31r4)
    (.seq (.cond (.t 14)
     .skip
     (.exit 0))
    (.seq (.blk 1 (.seq (.reg false c31r5)
     (.seq (.reg true c31r6)
     (.cond (.t 25)
      (.seq (.reg false c31r7)
      .ret)
      .skip))))
    (.reg false c31r8)))))))
  (.seq (.reg false c31r9)
  .ret))))
def v31 : List Nat × List Nat := ([], [])
def o31 : List RS := [.t 4]
theorem s31 : slimC Try.prog Try.f31.ntmps v31.1 v31.2 ((Try.f31.body).getD .skip) = some c31 := by kernel_rfl
theorem q31 : slimR Try.prog Try.f31.ntmps v31.1 v31.2 Try.f31.results.toList = some o31 := by kernel_rfl
-- watermeet/epoch.within
def c32r0 : List SI := [
  ⟨none, .mv 4 (.b false), none, 0⟩]
def c32r1 : List SI := [
  ⟨none, .mv 5 (.t 0), none, 0⟩,
  ⟨none, .bin 6 .geq (.t 5) (.i 0), none, 0⟩,
  ⟨none, .mv 7 (.t 6), none, 0⟩,
  ⟨some (7, true), .mv 8 (.t 0), none, 8⟩,
  ⟨some (7, true), .mv 9 (.t 1), none, 9⟩,
  ⟨some (7, true), .bin 10 .leq (.t 8) (.t 9), none, 10⟩,
  ⟨none, .pick 11 (.t 7) (.t 10) (.b false), none, 0⟩,
  ⟨none, .mv 4 (.t 11), none, 0⟩]
def c32 : SC :=
  (.seq (.reg false c32r0)
  (.seq (.reg false c32r1)
  .ret))
def v32 : List Nat × List Nat := ([], [])
def o32 : List RS := [.t 4]
theorem s32 : slimC Try.prog Try.f32.ntmps v32.1 v32.2 ((Try.f32.body).getD .skip) = some c32 := by kernel_rfl
theorem q32 : slimR Try.prog Try.f32.ntmps v32.1 v32.2 Try.f32.results.toList = some o32 := by kernel_rfl
-- slices.Clone[[]watermeet/api.Epo,watermeet/api.Epo]
def c33r0 : List SI := [
  ⟨none, .mv 2 (.v (.slice none 0 0)), none, 0⟩]
def c33r1 : List SI := [
  ⟨none, .mv 3 (.t 0), none, 0⟩,
  ⟨none, .isn 4 false (.t 3), none, 0⟩]
def c33r2 : List SI := [
  ⟨none, .mv 2 (.v (.slice none 0 0)), none, 0⟩]
def c33r3 : List SI := [
  ⟨none, .bl0 5, none, 0⟩,
  ⟨none, .mv 6 (.t 0), none, 0⟩,
  ⟨none, .app 7 (.t 5) (.t 6) 32 2 16, none, 0⟩,
  ⟨none, .mv 2 (.t 7), none, 0⟩]
def c33 : SC :=
  (.seq (.reg false c33r0)
  (.seq (.seq (.reg false c33r1)
  (.cond (.t 4)
   (.seq (.reg false c33r2)
   .ret)
   .skip))
  (.seq (.reg false c33r3)
  .ret)))
def v33 : List Nat × List Nat := ([], [])
def o33 : List RS := [.t 2]
theorem s33 : slimC Try.prog Try.f33.ntmps v33.1 v33.2 ((Try.f33.body).getD .skip) = some c33 := by kernel_rfl
theorem q33 : slimR Try.prog Try.f33.ntmps v33.1 v33.2 Try.f33.results.toList = some o33 := by kernel_rfl
-- watermeet/epoch.upto
def c34r0 : List SI := [
  ⟨none, .bx 2 (.t 0), none, 0⟩,
  ⟨none, .bx 3 (.t 1), none, 0⟩,
  ⟨none, .mv 4 (.i 0), none, 0⟩]
def c34r1 : List SI := [
  ⟨none, .ld 5 (.t 2) none, none, 0⟩,
  ⟨none, .len 6 false (.t 5), none, 0⟩,
  ⟨none, .mkf 7 (.func 42) [(.t 2), (.t 3)], none, 0⟩,
  ⟨none, .call 8 36 [(.t 6), (.t 7)], none, 0⟩,
  ⟨none, .mv 4 (.t 8), none, 0⟩]
def c34 : SC :=
  (.seq (.reg false c34r0)
  (.seq (.reg false c34r1)
  .ret))
def v34 : List Nat × List Nat := ([], [])
def o34 : List RS := [.t 4]
theorem s34 : slimC Try.prog Try.f34.ntmps v34.1 v34.2 ((Try.f34.body).getD .skip) = some c34 := by kernel_rfl
theorem q34 : slimR Try.prog Try.f34.ntmps v34.1 v34.2 Try.f34.results.toList = some o34 := by kernel_rfl
-- watermeet/watermeetref10.end
def c35r0 : List SI := [
  ⟨none, .mv 6 (.i 0), none, 0⟩]
def c35r1 : List SI := [
  ⟨none, .mv 7 (.t 1), none, 0⟩,
  ⟨none, .bin 8 .add (.t 7) (.i 1), none, 0⟩,
  ⟨none, .mv 9 (.t 0), none, 0⟩,
  ⟨none, .len 10 false (.t 9), none, 0⟩,
  ⟨none, .bin 11 .lss (.t 8) (.t 10), none, 0⟩]
def c35r2 : List SI := [
  ⟨none, .mv 12 (.t 0), none, 0⟩,
  ⟨none, .mv 13 (.t 1), none, 0⟩,
  ⟨none, .bin 14 .add (.t 13) (.i 1), none, 0⟩,
  ⟨none, .ixA 15 (.t 12) (.t 14) 2, none, 0⟩,
  ⟨none, .flA 16 (.t 15) 1, none, 0⟩,
  ⟨none, .ld 17 (.t 16) none, none, 0⟩,
  ⟨none, .mv 6 (.t 17), none, 0⟩]
def c35r3 : List SI := [
  ⟨none, .mv 18 (.t 2), none, 0⟩,
  ⟨none, .mv 6 (.t 18), none, 0⟩]
def c35 : SC :=
  (.seq (.reg false c35r0)
  (.seq (.seq (.reg false c35r1)
  (.cond (.t 11)
   (.seq (.reg false c35r2)
   .ret)
   .skip))
  (.seq (.reg false c35r3)
  .ret)))
def v35 : List Nat × List Nat := ([], [])
def o35 : List RS := [.t 6]
theorem s35 : slimC Try.prog Try.f35.ntmps v35.1 v35.2 ((Try.f35.body).getD .skip) = some c35 := by kernel_rfl
theorem q35 : slimR Try.prog Try.f35.ntmps v35.1 v35.2 Try.f35.results.toList = some o35 := by kernel_rfl
-- sort.Search
def c36r0 : List SI := [
  ⟨none, .mv 4 (.i 0), none, 0⟩]
def c36r1 : List SI := [
  ⟨none, .mv 8 (.t 0), none, 0⟩,
  ⟨none, .mv 5 (.i 0), none, 0⟩,
  ⟨none, .mv 6 (.t 8), none, 0⟩]
def c36r2 : List SI := [
  ⟨none, .mv 9 (.t 5), none, 0⟩,
  ⟨none, .mv 10 (.t 6), none, 0⟩,
  ⟨none, .bin 11 .lss (.t 9) (.t 10), none, 0⟩]
def c36r3 : List SI := [
  ⟨none, .mv 12 (.t 5), none, 0⟩,
  ⟨none, .mv 13 (.t 6), none, 0⟩,
  ⟨none, .bin 14 .add (.t 12) (.t 13), none, 0⟩,
  ⟨none, .cvI 15 .u64 (.t 14), none, 0⟩,
  ⟨none, .bin 16 .shr (.t 15) (.v (.int .u64 1)), none, 0⟩,
  ⟨none, .cvI 17 .i64 (.t 16), none, 0⟩,
  ⟨none, .mv 7 (.t 17), none, 0⟩]
def c36r4 : List SI := [
  ⟨none, .mv 18 (.t 1), none, 0⟩,
  ⟨none, .mv 19 (.t 7), none, 0⟩,
  ⟨none, .cav 20 (.t 18) [(.t 19)], none, 0⟩,
  ⟨none, .un 21 .not (.t 20), none, 0⟩]
def c36r5 : List SI := [
  ⟨none, .mv 22 (.t 7), none, 0⟩,
  ⟨none, .bin 23 .add (.t 22) (.i 1), none, 0⟩,
  ⟨none, .mv 5 (.t 23), none, 0⟩]
def c36r6 : List SI := [
  ⟨none, .mv 24 (.t 7), none, 0⟩,
  ⟨none, .mv 6 (.t 24), none, 0⟩]
def c36r7 : List SI := [
  ⟨none, .mv 25 (.t 5), none, 0⟩,
  ⟨none, .mv 4 (.t 25), none, 0⟩]
def c36 : SC :=
  (.seq (.reg false c36r0)
  (.seq (.reg false c36r1)
  (.seq (.blk 0 (.loop (.seq (.seq (.reg false c36r2)
    (.cond (.t 11)
     .skip
     (.exit 0)))
    (.blk 1 (.seq (.reg false c36r3)
     (.seq (.reg false c36r4)
     (.cond (.t 21)
      (.reg false c36r5)
      (.reg false c36r6))))))))
  (.seq (.reg false c36r7)
  .ret))))
def v36 : List Nat × List Nat := ([], [])
def o36 : List RS := [.t 4]
theorem s36 : slimC Try.prog Try.f36.ntmps v36.1 v36.2 ((Try.f36.body).getD .skip) = some c36 := by kernel_rfl
theorem q36 : slimR Try.prog Try.f36.ntmps v36.1 v36.2 Try.f36.results.toList = some o36 := by kernel_rfl
-- watermeet/epoch.Cut$1
def c37r0 : List SI := [
  ⟨none, .mv 4 (.b false), none, 0⟩]
def c37r1 : List SI := [
  ⟨none, .ld 5 (.t 1) none, none, 0⟩,
  ⟨none, .mv 6 (.t 0), none, 0⟩,
  ⟨none, .ixA 7 (.t 5) (.t 6) 2, none, 0⟩,
  ⟨none, .flA 8 (.t 7) 1, none, 0⟩,
  ⟨none, .ld 9 (.t 8) none, none, 0⟩,
  ⟨none, .ld 10 (.t 2) none, none, 0⟩,
  ⟨none, .bin 11 .geq (.t 9) (.t 10), none, 0⟩,
  ⟨none, .mv 4 (.t 11), none, 0⟩]
def c37 : SC :=
  (.seq (.reg false c37r0)
  (.seq (.reg true c37r1)
  .ret))
def v37 : List Nat × List Nat := ([], [])
def o37 : List RS := [.t 4]
theorem s37 : slimC Try.prog Try.f37.ntmps v37.1 v37.2 ((Try.f37.body).getD .skip) = some c37 := by kernel_rfl
theorem q37 : slimR Try.prog Try.f37.ntmps v37.1 v37.2 Try.f37.results.toList = some o37 := by kernel_rfl
-- watermeet/epoch.Trim$1
def c38r0 : List SI := [
  ⟨none, .mv 4 (.b false), none, 0⟩]
def c38r1 : List SI := [
  ⟨none, .ld 5 (.t 1) none, none, 0⟩,
  ⟨none, .mv 6 (.t 0), none, 0⟩,
  ⟨none, .bin 7 .add (.t 6) (.i 1), none, 0⟩,
  ⟨none, .ixA 8 (.t 5) (.t 7) 2, none, 0⟩,
  ⟨none, .flA 9 (.t 8) 1, none, 0⟩,
  ⟨none, .ld 10 (.t 9) none, none, 0⟩,
  ⟨none, .ld 11 (.t 2) none, none, 0⟩,
  ⟨none, .bin 12 .gtr (.t 10) (.t 11), none, 0⟩,
  ⟨none, .mv 4 (.t 12), none, 0⟩]
def c38 : SC :=
  (.seq (.reg false c38r0)
  (.seq (.reg true c38r1)
  .ret))
def v38 : List Nat × List Nat := ([], [])
def o38 : List RS := [.t 4]
theorem s38 : slimC Try.prog Try.f38.ntmps v38.1 v38.2 ((Try.f38.body).getD .skip) = some c38 := by kernel_rfl
theorem q38 : slimR Try.prog Try.f38.ntmps v38.1 v38.2 Try.f38.results.toList = some o38 := by kernel_rfl
-- slices.Backward[[]watermeet/api.Epo,watermeet/api.Epo]
def c39r0 : List SI := [
  ⟨none, .bx 1 (.t 0), none, 0⟩,
  ⟨none, .mv 2 (.v .nilFunc), none, 0⟩]
def c39r1 : List SI := [
  ⟨none, .mkf 3 (.func 43) [(.t 1)], none, 0⟩,
  ⟨none, .mv 2 (.t 3), none, 0⟩]
def c39 : SC :=
  (.seq (.reg false c39r0)
  (.seq (.reg false c39r1)
  .ret))
def v39 : List Nat × List Nat := ([], [])
def o39 : List RS := [.t 2]
theorem s39 : slimC Try.prog Try.f39.ntmps v39.1 v39.2 ((Try.f39.body).getD .skip) = some c39 := by kernel_rfl
theorem q39 : slimR Try.prog Try.f39.ntmps v39.1 v39.2 Try.f39.results.toList = some o39 := by kernel_rfl
-- watermeet/watermeetref04.Few
def c40r0 : List SI := [
  ⟨none, .bxR 1 (.t 0), none, 0⟩,
  ⟨none, .mv 2 (.b false), none, 0⟩]
def c40r1 : List SI := [
  ⟨none, .mv 3 (.i 0), none, 0⟩]
def c40r2 : List SI := [
  ⟨none, .nop, (some 1), 0⟩,
  ⟨none, .ldR 7 1 9 none, none, 0⟩,
  ⟨none, .len 8 false (.t 7), none, 0⟩,
  ⟨none, .mv 9 (.i 0), none, 0⟩]
def c40r3 : List SI := [
  ⟨none, .bin 10 .lss (.t 9) (.t 8), none, 0⟩]
def c40r4 : List SI := [
  ⟨none, .ixA 11 (.t 7) (.t 9) 5, none, 0⟩,
  ⟨none, .ld 12 (.t 11) (some 5), none, 0⟩,
  ⟨none, .alR 5 [(.int .i64 0), (.string ⟨#[]⟩), (.string ⟨#[]⟩), (.bool false), (.int .i64 0)], none, 0⟩,
  ⟨none, .stR 5 0 5 (.t 12), none, 0⟩]
def c40r5 : List SI := [
  ⟨none, .mv 13 (.t 3), none, 0⟩,
  ⟨none, .nop, (some 5), 0⟩,
  ⟨none, .ldR 15 5 1 none, none, 0⟩,
  ⟨none, .len 16 true (.t 15), none, 0⟩,
  ⟨none, .nop, (some 5), 0⟩,
  ⟨none, .ldR 18 5 2 none, none, 0⟩,
  ⟨none, .len 19 true (.t 18), none, 0⟩,
  ⟨none, .bin 20 .add (.t 16) (.t 19), none, 0⟩,
  ⟨none, .bin 21 .add (.t 13) (.t 20), none, 0⟩,
  ⟨none, .mv 3 (.t 21), none, 0⟩]
def c40r6 : List SI := [
  ⟨none, .mv 22 (.t 3), none, 0⟩,
  ⟨none, .bin 23 .gtr (.t 22) (.i 20000), none, 0⟩]
def c40r7 : List SI := [
  ⟨none, .mv 2 (.b false), none, 0⟩]
def c40r8 : List SI := [
  ⟨none, .bin 24 .add (.t 9) (.i 1), none, 0⟩,
  ⟨none, .mv 9 (.t 24), none, 0⟩]
def c40r9 : List SI := [
  ⟨none, .nop, (some 1), 0⟩,
  ⟨none, .ldR 26 1 9 none, none, 0⟩,
  ⟨none, .len 27 false (.t 26), none, 0⟩,
  ⟨none, .bin 28 .leq (.t 27) (.i 100), none, 0⟩,
  ⟨none, .mv 2 (.t 28), none, 0⟩]
def c40 : SC :=
  (.seq (.reg false c40r0)
  (.seq (.reg false c40r1)
  (.seq (.seq (.reg false c40r2)
  (.blk 0 (.loop (.seq (.reg false c40r3)
    (.seq (.cond (.t 10)
     .skip
     (.exit 0))
    (.seq (.blk 1 (.seq (.reg false c40r4)
     (.seq (.reg false c40r5)
     (.seq (.reg false c40r6)
     (.cond (.t 23)
      (.seq (.reg false c40r7)
      .ret)
      .skip)))))
    (.reg false c40r8)))))))
  (.seq (.reg false c40r9)
  .ret))))
def v40 : List Nat × List Nat := ([1, 5], [1, 5, 6, 14, 17, 25])
def o40 : List RS := [.t 2]
theorem s40 : slimC Try.prog Try.f40.ntmps v40.1 v40.2 ((Try.f40.body).getD .skip) = some c40 := by kernel_rfl
theorem q40 : slimR Try.prog Try.f40.ntmps v40.1 v40.2 Try.f40.results.toList = some o40 := by kernel_rfl
-- watermeet/watermeetref04.Same
def c41r0 : List SI := [
  ⟨none, .bxR 2 (.t 0), none, 0⟩,
  ⟨none, .bxR 3 (.t 1), none, 0⟩,
  ⟨none, .mv 4 (.b false), none, 0⟩]
def c41r1 : List SI := [
  ⟨none, .nop, (some 2), 0⟩,
  ⟨none, .ldR 6 2 0 none, none, 0⟩,
  ⟨none, .nop, (some 3), 0⟩,
  ⟨none, .ldR 8 3 0 none, none, 0⟩,
  ⟨none, .bin 9 .eql (.t 6) (.t 8), none, 0⟩,
  ⟨none, .mv 10 (.t 9), none, 0⟩,
  ⟨some (10, true), .nop, (some 2), 99999⟩,
  ⟨some (10, true), .ldR 12 2 1 none, none, 12⟩,
  ⟨some (10, true), .nop, (some 3), 99999⟩,
  ⟨some (10, true), .ldR 14 3 1 none, none, 14⟩,
  ⟨some (10, true), .bin 15 .eql (.t 12) (.t 14), none, 15⟩,
  ⟨none, .pick 16 (.t 10) (.t 15) (.b false), none, 0⟩,
  ⟨none, .mv 17 (.t 16), none, 0⟩,
  ⟨some (17, true), .nop, (some 2), 99999⟩,
  ⟨some (17, true), .ldR 19 2 2 none, none, 19⟩,
  ⟨some (17, true), .nop, (some 3), 99999⟩,
  ⟨some (17, true), .ldR 21 3 2 none, none, 21⟩,
  ⟨some (17, true), .bin 22 .eql (.t 19) (.t 21), none, 22⟩,
  ⟨none, .pick 23 (.t 17) (.t 22) (.b false), none, 0⟩,
  ⟨none, .mv 24 (.t 23), none, 0⟩,
  ⟨some (24, true), .nop, (some 2), 99999⟩,
  ⟨some (24, true), .ldR 26 2 3 none, none, 26⟩,
  ⟨some (24, true), .nop, (some 3), 99999⟩,
  ⟨some (24, true), .ldR 28 3 3 none, none, 28⟩,
  ⟨some (24, true), .bin 29 .eql (.t 26) (.t 28), none, 29⟩,
  ⟨none, .pick 30 (.t 24) (.t 29) (.b false), none, 0⟩,
  ⟨none, .mv 31 (.t 30), none, 0⟩,
  ⟨some (31, true), .nop, (some 2), 99999⟩,
  ⟨some (31, true), .ldR 33 2 4 none, none, 33⟩,
  ⟨some (31, true), .nop, (some 3), 99999⟩,
  ⟨some (31, true), .ldR 35 3 4 none, none, 35⟩,
  ⟨some (31, true), .bin 36 .eql (.t 33) (.t 35), none, 36⟩,
  ⟨none, .pick 37 (.t 31) (.t 36) (.b false), none, 0⟩,
  ⟨none, .mv 38 (.t 37), none, 0⟩,
  ⟨some (38, true), .nop, (some 2), 99999⟩,
  ⟨some (38, true), .ldR 40 2 5 none, none, 40⟩,
  ⟨some (38, true), .nop, (some 3), 99999⟩,
  ⟨some (38, true), .ldR 42 3 5 none, none, 42⟩,
  ⟨some (38, true), .bin 43 .eql (.t 40) (.t 42), none, 43⟩,
  ⟨none, .pick 44 (.t 38) (.t 43) (.b false), none, 0⟩,
  ⟨none, .mv 45 (.t 44), none, 0⟩,
  ⟨some (45, true), .nop, (some 2), 99999⟩,
  ⟨some (45, true), .ldR 47 2 6 none, none, 47⟩,
  ⟨some (45, true), .nop, (some 3), 99999⟩,
  ⟨some (45, true), .ldR 49 3 6 none, none, 49⟩,
  ⟨some (45, true), .bin 50 .eql (.t 47) (.t 49), none, 50⟩,
  ⟨none, .pick 51 (.t 45) (.t 50) (.b false), none, 0⟩,
  ⟨none, .mv 52 (.t 51), none, 0⟩,
  ⟨some (52, true), .nop, (some 2), 99999⟩,
  ⟨some (52, true), .ldR 54 2 7 none, none, 54⟩,
  ⟨some (52, true), .nop, (some 3), 99999⟩,
  ⟨some (52, true), .ldR 56 3 7 none, none, 56⟩,
  ⟨some (52, true), .eqb 57 false (.t 54) (.t 56), none, 57⟩,
  ⟨none, .pick 58 (.t 52) (.t 57) (.b false), none, 0⟩,
  ⟨none, .mv 59 (.t 58), none, 0⟩,
  ⟨some (59, true), .nop, (some 2), 99999⟩,
  ⟨some (59, true), .ldR 61 2 8 none, none, 61⟩,
  ⟨some (59, true), .nop, (some 3), 99999⟩,
  ⟨some (59, true), .ldR 63 3 8 none, none, 63⟩,
  ⟨some (59, true), .bin 64 .eql (.t 61) (.t 63), none, 64⟩,
  ⟨none, .pick 65 (.t 59) (.t 64) (.b false), none, 0⟩,
  ⟨none, .mv 66 (.t 65), none, 0⟩,
  ⟨some (66, true), .nop, (some 2), 99999⟩,
  ⟨some (66, true), .ldR 68 2 9 none, none, 68⟩,
  ⟨some (66, true), .nop, (some 3), 99999⟩,
  ⟨some (66, true), .ldR 70 3 9 none, none, 70⟩,
  ⟨some (66, true), .call 71 44 [(.t 68), (.t 70)], none, 71⟩,
  ⟨none, .pick 72 (.t 66) (.t 71) (.b false), none, 0⟩,
  ⟨none, .mv 4 (.t 72), none, 0⟩]
def c41 : SC :=
  (.seq (.reg false c41r0)
  (.seq (.reg false c41r1)
  .ret))
def v41 : List Nat × List Nat := ([2, 3], [2, 3, 5, 7, 11, 13, 18, 20, 25, 27, 32, 34, 39, 41, 46, 48, 53, 55, 60, 62, 67, 69])
def o41 : List RS := [.t 4]
theorem s41 : slimC Try.prog Try.f41.ntmps v41.1 v41.2 ((Try.f41.body).getD .skip) = some c41 := by kernel_rfl
theorem q41 : slimR Try.prog Try.f41.ntmps v41.1 v41.2 Try.f41.results.toList = some o41 := by kernel_rfl
-- watermeet/epoch.upto$1
def c42r0 : List SI := [
  ⟨none, .mv 4 (.b false), none, 0⟩]
def c42r1 : List SI := [
  ⟨none, .ld 5 (.t 1) none, none, 0⟩,
  ⟨none, .mv 6 (.t 0), none, 0⟩,
  ⟨none, .ixA 7 (.t 5) (.t 6) 2, none, 0⟩,
  ⟨none, .flA 8 (.t 7) 0, none, 0⟩,
  ⟨none, .ld 9 (.t 8) none, none, 0⟩,
  ⟨none, .ld 10 (.t 2) none, none, 0⟩,
  ⟨none, .bin 11 .gtr (.t 9) (.t 10), none, 0⟩,
  ⟨none, .mv 4 (.t 11), none, 0⟩]
def c42 : SC :=
  (.seq (.reg false c42r0)
  (.seq (.reg true c42r1)
  .ret))
def v42 : List Nat × List Nat := ([], [])
def o42 : List RS := [.t 4]
theorem s42 : slimC Try.prog Try.f42.ntmps v42.1 v42.2 ((Try.f42.body).getD .skip) = some c42 := by kernel_rfl
theorem q42 : slimR Try.prog Try.f42.ntmps v42.1 v42.2 Try.f42.results.toList = some o42 := by kernel_rfl
-- slices.Backward[[]watermeet/api.Epo,watermeet/api.Epo]$1
def c43r0 : List SI := [
  ⟨none, .ld 4 (.t 1) none, none, 0⟩,
  ⟨none, .len 5 false (.t 4), none, 0⟩,
  ⟨none, .bin 6 .sub (.t 5) (.i 1), none, 0⟩,
  ⟨none, .mv 3 (.t 6), none, 0⟩]
def c43r1 : List SI := [
  ⟨none, .mv 7 (.t 3), none, 0⟩,
  ⟨none, .bin 8 .geq (.t 7) (.i 0), none, 0⟩]
def c43r2 : List SI := [
  ⟨none, .mv 11 (.t 0), none, 0⟩,
  ⟨none, .mv 12 (.t 3), none, 0⟩,
  ⟨none, .ld 13 (.t 1) none, none, 0⟩,
  ⟨none, .mv 14 (.t 3), none, 0⟩,
  ⟨none, .ixA 15 (.t 13) (.t 14) 2, none, 0⟩,
  ⟨none, .ld 16 (.t 15) (some 2), none, 0⟩,
  ⟨none, .cav 17 (.t 11) [(.t 12), (.t 16)], none, 0⟩,
  ⟨none, .un 18 .not (.t 17), none, 0⟩]
def c43r3 : List SI := [
  ⟨none, .mv 9 (.t 3), none, 0⟩,
  ⟨none, .bin 10 .sub (.t 9) (.i 1), none, 0⟩,
  ⟨none, .mv 3 (.t 10), none, 0⟩]
def c43 : SC :=
  (.seq (.reg false c43r0)
  (.blk 0 (.loop (.seq (.seq (.reg false c43r1)
    (.cond (.t 8)
     .skip
     (.exit 0)))
    (.seq (.blk 1 (.seq (.reg false c43r2)
     (.cond (.t 18)
      .ret
      .skip)))
    (.reg false c43r3))))))
def v43 : List Nat × List Nat := ([], [])
def o43 : List RS := []
theorem s43 : slimC Try.prog Try.f43.ntmps v43.1 v43.2 ((Try.f43.body).getD .skip) = some c43 := by kernel_rfl
theorem q43 : slimR Try.prog Try.f43.ntmps v43.1 v43.2 Try.f43.results.toList = some o43 := by kernel_rfl
-- watermeet/watermeetref04.SameRecs
def c44r0 : List SI := [
  ⟨none, .mv 4 (.b false), none, 0⟩]
def c44r1 : List SI := [
  ⟨none, .mv 6 (.t 0), none, 0⟩,
  ⟨none, .len 7 false (.t 6), none, 0⟩,
  ⟨none, .mv 8 (.t 1), none, 0⟩,
  ⟨none, .len 9 false (.t 8), none, 0⟩,
  ⟨none, .bin 10 .neq (.t 7) (.t 9), none, 0⟩]
def c44r2 : List SI := [
  ⟨none, .mv 4 (.b false), none, 0⟩]
def c44r3 : List SI := [
  ⟨none, .mv 11 (.t 0), none, 0⟩,
  ⟨none, .len 12 false (.t 11), none, 0⟩,
  ⟨none, .mv 13 (.i 0), none, 0⟩]
def c44r4 : List SI := [
  ⟨none, .bin 14 .lss (.t 13) (.t 12), none, 0⟩]
def c44r5 : List SI := [
  ⟨none, .mv 15 (.t 13), none, 0⟩,
  ⟨none, .mv 5 (.t 15), none, 0⟩]
def c44r6 : List SI := [
  ⟨none, .mv 16 (.t 0), none, 0⟩,
  ⟨none, .mv 17 (.t 5), none, 0⟩,
  ⟨none, .ixA 18 (.t 16) (.t 17) 5, none, 0⟩,
  ⟨none, .ld 19 (.t 18) (some 5), none, 0⟩,
  ⟨none, .mv 20 (.t 1), none, 0⟩,
  ⟨none, .mv 21 (.t 5), none, 0⟩,
  ⟨none, .ixA 22 (.t 20) (.t 21) 5, none, 0⟩,
  ⟨none, .ld 23 (.t 22) (some 5), none, 0⟩,
  ⟨none, .eqf 24 true [0, 2, 2, 1, 0] (.t 19) (.t 23), none, 0⟩]
def c44r7 : List SI := [
  ⟨none, .mv 4 (.b false), none, 0⟩]
def c44r8 : List SI := [
  ⟨none, .bin 25 .add (.t 13) (.i 1), none, 0⟩,
  ⟨none, .mv 13 (.t 25), none, 0⟩]
def c44r9 : List SI := [
  ⟨none, .mv 4 (.b true), none, 0⟩]
def c44 : SC :=
  (.seq (.reg false c44r0)
  (.seq (.seq (.reg false c44r1)
  (.cond (.t 10)
   (.seq (.reg false c44r2)
   .ret)
   .skip))
  (.seq (.seq (.reg false c44r3)
  (.blk 0 (.loop (.seq (.reg false c44r4)
    (.seq (.cond (.t 14)
     .skip
     (.exit 0))
    (.seq (.blk 1 (.seq (.reg false c44r5)
     (.seq (.reg true c44r6)
     (.cond (.t 24)
      (.seq (.reg false c44r7)
      .ret)
      .skip))))
    (.reg false c44r8)))))))
  (.seq (.reg false c44r9)
  .ret))))
def v44 : List Nat × List Nat := ([], [])
def o44 : List RS := [.t 4]
theorem s44 : slimC Try.prog Try.f44.ntmps v44.1 v44.2 ((Try.f44.body).getD .skip) = some c44 := by kernel_rfl
theorem q44 : slimR Try.prog Try.f44.ntmps v44.1 v44.2 Try.f44.results.toList = some o44 := by kernel_rfl
end Go.Proofs.Ytgclikgkfchmlaa

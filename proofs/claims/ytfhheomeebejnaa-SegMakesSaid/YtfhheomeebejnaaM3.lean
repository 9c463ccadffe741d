/- Parts of a proof, 1 texts in one file. No condition. -/
import Derived.Test.YtfhheomeebejnaaRows
import Derived.Test.YtfhheomeebejnaaM1
import Derived.Test.YtfhheomeebejnaaM2

/- The code of the functions, types resolved, as a program of the prover reads it off the translation; each is held by the kernel. No condition. -/
namespace Go.Proofs.Ytfhheomeebejnaa
open Go Go.Kx
-- watermeet/watermeetlaw07.SegAppends N=70
def c3r0 : List SI := [
  ⟨none, .bxR 3 (.t 0), none, 0⟩,
  ⟨none, .bxR 4 (.t 1), none, 0⟩,
  ⟨none, .mv 6 (.b false), none, 0⟩]
def c3r1 : List SI := [
  ⟨none, .call 14 12 [], none, 0⟩,
  ⟨none, .un 15 .not (.t 14), none, 0⟩]
def c3r2 : List SI := [
  ⟨none, .mv 6 (.b false), none, 0⟩]
def c3r3 : List SI := [
  ⟨none, .ldR 16 3 0 (some 2), none, 0⟩,
  ⟨none, .call 17 13 [(.t 16)], none, 0⟩,
  ⟨none, .un 18 .not (.t 17), none, 0⟩,
  ⟨none, .mv 19 (.t 18), none, 0⟩,
  ⟨some (19, false), .ldR 20 4 0 (some 10), none, 20⟩,
  ⟨some (19, false), .call 21 14 [(.t 20)], none, 21⟩,
  ⟨some (19, false), .un 22 .not (.t 21), none, 22⟩,
  ⟨none, .pick 23 (.t 19) (.b true) (.t 22), none, 0⟩]
def c3r4 : List SI := [
  ⟨none, .mv 6 (.b true), none, 0⟩]
def c3r5 : List SI := [
  ⟨none, .nop, (some 3), 0⟩,
  ⟨none, .ldR 25 3 1 none, none, 0⟩,
  ⟨none, .call 26 15 [(.t 25)], none, 0⟩,
  ⟨none, .mv 7 (.t 26), none, 0⟩]
def c3r6 : List SI := [
  ⟨none, .ldR 28 3 0 (some 2), none, 0⟩,
  ⟨none, .ldR 29 4 0 (some 10), none, 0⟩,
  ⟨none, .mv 30 (.t 2), none, 0⟩,
  ⟨none, .call 31 16 [(.t 28), (.t 29), (.t 30)], none, 0⟩,
  ⟨none, .mv 27 (.t 31), none, 0⟩,
  ⟨none, .ext 32 (.t 27) 0, none, 0⟩,
  ⟨none, .ext 33 (.t 27) 1, none, 0⟩,
  ⟨none, .alR 8 [(.int .i64 0), (.slice none 0 0)], none, 0⟩,
  ⟨none, .stR 8 0 2 (.t 32), none, 0⟩,
  ⟨none, .mv 9 (.t 33), none, 0⟩]
def c3r7 : List SI := [
  ⟨none, .ldR 35 3 0 (some 2), none, 0⟩,
  ⟨none, .ldR 36 4 0 (some 10), none, 0⟩,
  ⟨none, .mv 37 (.t 2), none, 0⟩,
  ⟨none, .call 38 17 [(.t 35), (.t 36), (.t 37)], none, 0⟩,
  ⟨none, .mv 34 (.t 38), none, 0⟩,
  ⟨none, .ext 39 (.t 34) 0, none, 0⟩,
  ⟨none, .ext 40 (.t 34) 1, none, 0⟩,
  ⟨none, .alR 10 [(.int .i64 0), (.slice none 0 0)], none, 0⟩,
  ⟨none, .stR 10 0 2 (.t 39), none, 0⟩,
  ⟨none, .mv 11 (.t 40), none, 0⟩]
def c3r8 : List SI := [
  ⟨none, .ldR 41 8 0 (some 2), none, 0⟩,
  ⟨none, .ldR 42 10 0 (some 2), none, 0⟩,
  ⟨none, .call 43 18 [(.t 41), (.t 42)], none, 0⟩,
  ⟨none, .mv 44 (.t 43), none, 0⟩,
  ⟨some (44, true), .mv 45 (.t 9), none, 45⟩,
  ⟨some (44, true), .mv 46 (.t 11), none, 46⟩,
  ⟨some (44, true), .bin 47 .eql (.t 45) (.t 46), none, 47⟩,
  ⟨none, .pick 48 (.t 44) (.t 47) (.b false), none, 0⟩,
  ⟨none, .mv 12 (.t 48), none, 0⟩]
def c3r9 : List SI := [
  ⟨none, .nop, (some 8), 0⟩,
  ⟨none, .ldR 50 8 1 none, none, 0⟩,
  ⟨none, .len 51 false (.t 50), none, 0⟩,
  ⟨none, .mv 52 (.i 0), none, 0⟩]
def c3r10 : List SI := [
  ⟨none, .bin 53 .lss (.t 52) (.t 51), none, 0⟩]
def c3r11 : List SI := [
  ⟨none, .mv 54 (.t 52), none, 0⟩,
  ⟨none, .mv 13 (.t 54), none, 0⟩]
def c3r12 : List SI := [
  ⟨none, .nop, (some 8), 0⟩,
  ⟨none, .ldR 56 8 1 none, none, 0⟩,
  ⟨none, .mv 57 (.t 13), none, 0⟩,
  ⟨none, .ixA 58 (.t 56) (.t 57) 1, none, 0⟩,
  ⟨none, .ld 59 (.t 58) none, none, 0⟩,
  ⟨none, .bin 60 .add (.t 59) (.v (.int .u8 1)), none, 0⟩,
  ⟨none, .ixA 61 (.t 56) (.t 57) 1, none, 0⟩,
  ⟨none, .st (.t 61) 1 (.t 60), none, 0⟩]
def c3r13 : List SI := [
  ⟨none, .bin 62 .add (.t 52) (.i 1), none, 0⟩,
  ⟨none, .mv 52 (.t 62), none, 0⟩]
def c3r14 : List SI := [
  ⟨none, .mv 63 (.t 12), none, 0⟩,
  ⟨none, .mv 64 (.t 63), none, 0⟩,
  ⟨some (64, true), .nop, (some 3), 99999⟩,
  ⟨some (64, true), .ldR 66 3 1 none, none, 66⟩,
  ⟨some (64, true), .mv 67 (.t 7), none, 67⟩,
  ⟨some (64, true), .call 68 19 [(.t 66), (.t 67)], none, 68⟩,
  ⟨none, .pick 69 (.t 64) (.t 68) (.b false), none, 0⟩,
  ⟨none, .mv 6 (.t 69), none, 0⟩]
def c3 : SC :=
  (.seq (.reg false c3r0)
  (.seq (.seq (.reg false c3r1)
  (.cond (.t 15)
   (.seq (.reg false c3r2)
   .ret)
   .skip))
  (.seq (.seq (.reg false c3r3)
  (.cond (.t 23)
   (.seq (.reg false c3r4)
   .ret)
   .skip))
  (.seq (.reg false c3r5)
  (.seq (.reg false c3r6)
  (.seq (.reg false c3r7)
  (.seq (.reg false c3r8)
  (.seq (.seq (.reg false c3r9)
  (.blk 0 (.loop (.seq (.reg false c3r10)
    (.seq (.cond (.t 53)
     .skip
     (.exit 0))
    (.seq (.blk 1 (.seq (.reg false c3r11)
     (.reg false c3r12)))
    (.reg false c3r13)))))))
  (.seq (.reg false c3r14)
  .ret)))))))))
def v3 : List Nat × List Nat := ([3, 4, 8, 10], [3, 4, 8, 10, 24, 49, 55, 65])
def o3 : List RS := [.t 6]
theorem s3 : slimC Try.prog Try.f3.ntmps v3.1 v3.2 ((Try.f3.body).getD .skip) = some c3 := by kernel_rfl
theorem q3 : slimR Try.prog Try.f3.ntmps v3.1 v3.2 Try.f3.results.toList = some o3 := by kernel_rfl
-- watermeet/watermeetlaw07.SegBack N=110
def c4r0 : List SI := [
  ⟨none, .mv 6 (.b false), none, 0⟩]
def c4r1 : List SI := [
  ⟨none, .call 17 12 [], none, 0⟩,
  ⟨none, .un 18 .not (.t 17), none, 0⟩]
def c4r2 : List SI := [
  ⟨none, .mv 6 (.b false), none, 0⟩]
def c4r3 : List SI := [
  ⟨none, .mv 19 (.t 1), none, 0⟩,
  ⟨none, .call 20 20 [(.t 19), (.i 30)], none, 0⟩,
  ⟨none, .un 21 .not (.t 20), none, 0⟩]
def c4r4 : List SI := [
  ⟨none, .mv 6 (.b true), none, 0⟩]
def c4r5 : List SI := [
  ⟨none, .mv 23 (.t 0), none, 0⟩,
  ⟨none, .call 24 21 [(.t 23)], none, 0⟩,
  ⟨none, .mv 22 (.t 24), none, 0⟩,
  ⟨none, .ext 25 (.t 22) 0, none, 0⟩,
  ⟨none, .ext 26 (.t 22) 1, none, 0⟩,
  ⟨none, .alR 7 [(.int .i64 0), (.slice none 0 0)], none, 0⟩,
  ⟨none, .stR 7 0 2 (.t 25), none, 0⟩,
  ⟨none, .mv 8 (.t 26), none, 0⟩]
def c4r6 : List SI := [
  ⟨none, .mv 27 (.t 8), none, 0⟩,
  ⟨none, .bin 28 .neq (.t 27) (.i 0), none, 0⟩]
def c4r7 : List SI := [
  ⟨none, .nop, (some 7), 0⟩,
  ⟨none, .ldR 30 7 1 none, none, 0⟩,
  ⟨none, .len 31 false (.t 30), none, 0⟩,
  ⟨none, .bin 32 .eql (.t 31) (.i 0), none, 0⟩,
  ⟨none, .mv 33 (.t 32), none, 0⟩,
  ⟨some (33, true), .nop, (some 7), 99999⟩,
  ⟨some (33, true), .ldR 35 7 0 none, none, 35⟩,
  ⟨some (33, true), .bin 36 .eql (.t 35) (.i 0), none, 36⟩,
  ⟨none, .pick 37 (.t 33) (.t 36) (.b false), none, 0⟩,
  ⟨none, .mv 6 (.t 37), none, 0⟩]
def c4r8 : List SI := [
  ⟨none, .mv 9 (.v (.slice none 0 0)), none, 0⟩]
def c4r9 : List SI := [
  ⟨none, .mv 38 (.t 1), none, 0⟩,
  ⟨none, .len 39 false (.t 38), none, 0⟩,
  ⟨none, .mv 40 (.i 0), none, 0⟩]
def c4r10 : List SI := [
  ⟨none, .bin 41 .lss (.t 40) (.t 39), none, 0⟩]
def c4r11 : List SI := [
  ⟨none, .ixA 42 (.t 38) (.t 40) 10, none, 0⟩,
  ⟨none, .ld 43 (.t 42) (some 10), none, 0⟩,
  ⟨none, .alR 11 [(.int .i64 0), (.int .i64 0), (.int .i64 0), (.int .i64 0), (.int .i64 0), (.int .i64 0), (.int .i64 0), (.bool false), (.int .i64 0), (.slice none 0 0)], none, 0⟩,
  ⟨none, .stR 11 0 10 (.t 43), none, 0⟩]
def c4r12 : List SI := [
  ⟨none, .ldR 45 7 0 (some 2), none, 0⟩,
  ⟨none, .ldR 46 11 0 (some 10), none, 0⟩,
  ⟨none, .mv 47 (.t 2), none, 0⟩,
  ⟨none, .call 48 16 [(.t 45), (.t 46), (.t 47)], none, 0⟩,
  ⟨none, .mv 44 (.t 48), none, 0⟩,
  ⟨none, .ext 49 (.t 44) 0, none, 0⟩,
  ⟨none, .ext 50 (.t 44) 1, none, 0⟩,
  ⟨none, .alR 12 [(.int .i64 0), (.slice none 0 0)], none, 0⟩,
  ⟨none, .stR 12 0 2 (.t 49), none, 0⟩,
  ⟨none, .mv 13 (.t 50), none, 0⟩]
def c4r13 : List SI := [
  ⟨none, .mv 51 (.t 13), none, 0⟩,
  ⟨none, .bin 52 .eql (.t 51) (.i 0), none, 0⟩]
def c4r14 : List SI := [
  ⟨none, .ldR 53 12 0 (some 2), none, 0⟩,
  ⟨none, .stR 7 0 2 (.t 53), none, 0⟩]
def c4r15 : List SI := [
  ⟨none, .mv 54 (.t 9), none, 0⟩,
  ⟨none, .ldR 55 11 0 (some 10), none, 0⟩,
  ⟨none, .bls 56 27 1 10 [(.int .i64 0), (.int .i64 0), (.int .i64 0), (.int .i64 0), (.int .i64 0), (.int .i64 0), (.int .i64 0), (.bool false), (.int .i64 0), (.slice none 0 0)] [(0, 10, (.t 55))], none, 0⟩,
  ⟨none, .app 57 (.t 54) (.t 56) 27 10 96, none, 0⟩,
  ⟨none, .mv 9 (.t 57), none, 0⟩]
def c4r16 : List SI := [
  ⟨none, .bin 58 .add (.t 40) (.i 1), none, 0⟩,
  ⟨none, .mv 40 (.t 58), none, 0⟩]
def c4r17 : List SI := [
  ⟨none, .ldR 60 7 0 (some 2), none, 0⟩,
  ⟨none, .call 61 22 [(.t 60)], none, 0⟩,
  ⟨none, .mv 59 (.t 61), none, 0⟩,
  ⟨none, .ext 62 (.t 59) 0, none, 0⟩,
  ⟨none, .ext 63 (.t 59) 1, none, 0⟩,
  ⟨none, .mv 14 (.t 62), none, 0⟩,
  ⟨none, .mv 15 (.t 63), none, 0⟩]
def c4r18 : List SI := [
  ⟨none, .mv 64 (.t 0), none, 0⟩,
  ⟨none, .mv 16 (.t 64), none, 0⟩]
def c4r19 : List SI := [
  ⟨none, .mv 65 (.t 9), none, 0⟩,
  ⟨none, .len 66 false (.t 65), none, 0⟩,
  ⟨none, .bin 67 .gtr (.t 66) (.i 0), none, 0⟩]
def c4r20 : List SI := [
  ⟨none, .mv 68 (.t 9), none, 0⟩,
  ⟨none, .mv 69 (.t 9), none, 0⟩,
  ⟨none, .len 70 false (.t 69), none, 0⟩,
  ⟨none, .bin 71 .sub (.t 70) (.i 1), none, 0⟩,
  ⟨none, .ixA 72 (.t 68) (.t 71) 10, none, 0⟩,
  ⟨none, .flA 73 (.t 72) 1, none, 0⟩,
  ⟨none, .ld 74 (.t 73) none, none, 0⟩,
  ⟨none, .bin 75 .add (.t 74) (.i 1), none, 0⟩,
  ⟨none, .mv 16 (.t 75), none, 0⟩]
def c4r21 : List SI := [
  ⟨none, .mv 76 (.t 14), none, 0⟩,
  ⟨none, .mv 77 (.t 9), none, 0⟩,
  ⟨none, .call 78 23 [(.t 76), (.t 77)], none, 0⟩,
  ⟨none, .mv 79 (.t 78), none, 0⟩,
  ⟨some (79, true), .mv 80 (.t 15), none, 80⟩,
  ⟨some (79, true), .nop, (some 7), 99999⟩,
  ⟨some (79, true), .ldR 82 7 1 none, none, 82⟩,
  ⟨some (79, true), .len 83 false (.t 82), none, 83⟩,
  ⟨some (79, true), .bin 84 .eql (.t 80) (.t 83), none, 84⟩,
  ⟨none, .pick 85 (.t 79) (.t 84) (.b false), none, 0⟩,
  ⟨none, .mv 86 (.t 85), none, 0⟩,
  ⟨some (86, true), .ldR 87 7 0 (some 2), none, 87⟩,
  ⟨some (86, true), .call 88 24 [(.t 87)], none, 88⟩,
  ⟨some (86, true), .mv 89 (.t 16), none, 89⟩,
  ⟨some (86, true), .bin 90 .eql (.t 88) (.t 89), none, 90⟩,
  ⟨none, .pick 91 (.t 86) (.t 90) (.b false), none, 0⟩,
  ⟨none, .mv 92 (.t 91), none, 0⟩,
  ⟨some (92, true), .mv 93 (.t 9), none, 93⟩,
  ⟨some (92, true), .len 94 false (.t 93), none, 94⟩,
  ⟨some (92, true), .bin 95 .eql (.t 94) (.i 0), none, 95⟩,
  ⟨some (92, true), .mv 96 (.t 95), none, 96⟩,
  ⟨some (96, false), .nop, (some 7), 99999⟩,
  ⟨some (96, false), .ldR 98 7 1 none, none, 98⟩,
  ⟨some (96, false), .len 99 false (.t 98), none, 99⟩,
  ⟨some (96, false), .mv 100 (.t 2), none, 100⟩,
  ⟨some (96, false), .bin 101 .leq (.t 99) (.t 100), none, 101⟩,
  ⟨some (92, true), .pick 102 (.t 96) (.b true) (.t 101), none, 102⟩,
  ⟨none, .pick 103 (.t 92) (.t 102) (.b false), none, 0⟩,
  ⟨none, .mv 104 (.t 103), none, 0⟩,
  ⟨some (104, true), .nop, (some 7), 99999⟩,
  ⟨some (104, true), .ldR 106 7 0 none, none, 106⟩,
  ⟨some (104, true), .mv 107 (.t 0), none, 107⟩,
  ⟨some (104, true), .bin 108 .eql (.t 106) (.t 107), none, 108⟩,
  ⟨none, .pick 109 (.t 104) (.t 108) (.b false), none, 0⟩,
  ⟨none, .mv 6 (.t 109), none, 0⟩]
def c4 : SC :=
  (.seq (.reg false c4r0)
  (.seq (.seq (.reg false c4r1)
  (.cond (.t 18)
   (.seq (.reg false c4r2)
   .ret)
   .skip))
  (.seq (.seq (.reg false c4r3)
  (.cond (.t 21)
   (.seq (.reg false c4r4)
   .ret)
   .skip))
  (.seq (.reg false c4r5)
  (.seq (.seq (.reg false c4r6)
  (.cond (.t 28)
   (.seq (.reg false c4r7)
   .ret)
   .skip))
  (.seq (.reg false c4r8)
  (.seq (.seq (.reg false c4r9)
  (.blk 0 (.loop (.seq (.reg false c4r10)
    (.seq (.cond (.t 41)
     .skip
     (.exit 0))
    (.seq (.blk 1 (.seq (.reg false c4r11)
     (.seq (.reg false c4r12)
     (.seq (.reg false c4r13)
     (.cond (.t 52)
      (.seq (.reg false c4r14)
      (.reg false c4r15))
      .skip)))))
    (.reg false c4r16)))))))
  (.seq (.reg false c4r17)
  (.seq (.reg false c4r18)
  (.seq (.seq (.reg false c4r19)
  (.cond (.t 67)
   (.reg false c4r20)
   .skip))
  (.seq (.reg false c4r21)
  .ret)))))))))))
def v4 : List Nat × List Nat := ([7, 11, 12], [7, 11, 12, 29, 34, 81, 97, 105])
def o4 : List RS := [.t 6]
theorem s4 : slimC Try.prog Try.f4.ntmps v4.1 v4.2 ((Try.f4.body).getD .skip) = some c4 := by kernel_rfl
theorem q4 : slimR Try.prog Try.f4.ntmps v4.1 v4.2 Try.f4.results.toList = some o4 := by kernel_rfl
-- watermeet/watermeetlaw07.SegSpoilt N=121
def c5r0 : List SI := [
  ⟨none, .bxR 3 (.t 0), none, 0⟩,
  ⟨none, .mv 6 (.b false), none, 0⟩]
def c5r1 : List SI := [
  ⟨none, .call 14 12 [], none, 0⟩,
  ⟨none, .un 15 .not (.t 14), none, 0⟩]
def c5r2 : List SI := [
  ⟨none, .mv 6 (.b false), none, 0⟩]
def c5r3 : List SI := [
  ⟨none, .ldR 16 3 0 (some 2), none, 0⟩,
  ⟨none, .call 17 13 [(.t 16)], none, 0⟩,
  ⟨none, .un 18 .not (.t 17), none, 0⟩,
  ⟨none, .mv 19 (.t 18), none, 0⟩,
  ⟨some (19, false), .mv 20 (.t 1), none, 20⟩,
  ⟨some (19, false), .bin 21 .lss (.t 20) (.i 0), none, 21⟩,
  ⟨none, .pick 22 (.t 19) (.b true) (.t 21), none, 0⟩,
  ⟨none, .mv 23 (.t 22), none, 0⟩,
  ⟨some (23, false), .mv 24 (.t 1), none, 24⟩,
  ⟨some (23, false), .nop, (some 3), 99999⟩,
  ⟨some (23, false), .ldR 26 3 1 none, none, 26⟩,
  ⟨some (23, false), .len 27 false (.t 26), none, 27⟩,
  ⟨some (23, false), .bin 28 .geq (.t 24) (.t 27), none, 28⟩,
  ⟨none, .pick 29 (.t 23) (.b true) (.t 28), none, 0⟩,
  ⟨none, .mv 30 (.t 29), none, 0⟩,
  ⟨some (30, false), .nop, (some 3), 99999⟩,
  ⟨some (30, false), .ldR 32 3 1 none, none, 32⟩,
  ⟨some (30, false), .mv 33 (.t 1), none, 33⟩,
  ⟨some (30, false), .ixA 34 (.t 32) (.t 33) 1, none, 34⟩,
  ⟨some (30, false), .ld 35 (.t 34) none, none, 35⟩,
  ⟨some (30, false), .mv 36 (.t 2), none, 36⟩,
  ⟨some (30, false), .bin 37 .eql (.t 35) (.t 36), none, 37⟩,
  ⟨none, .pick 38 (.t 30) (.b true) (.t 37), none, 0⟩]
def c5r4 : List SI := [
  ⟨none, .mv 6 (.b true), none, 0⟩]
def c5r5 : List SI := [
  ⟨none, .ldR 40 3 0 (some 2), none, 0⟩,
  ⟨none, .call 41 22 [(.t 40)], none, 0⟩,
  ⟨none, .mv 39 (.t 41), none, 0⟩,
  ⟨none, .ext 42 (.t 39) 0, none, 0⟩,
  ⟨none, .ext 43 (.t 39) 1, none, 0⟩,
  ⟨none, .mv 7 (.t 42), none, 0⟩,
  ⟨none, .mv 8 (.t 43), none, 0⟩]
def c5r6 : RX := .br [(true, ⟨none, .nop, (some 3), 0⟩),
  (true, ⟨none, .ldR 45 3 0 none, none, 0⟩),
  (true, ⟨none, .nop, (some 3), 0⟩),
  (true, ⟨none, .ldR 47 3 1 none, none, 0⟩)]
  ⟨none, .call 48 15 [(.t 47)], none, 0⟩
  (.leaf [(true, ⟨none, .bld 49 [(.int .i64 0), (.slice none 0 0)] [(0, 1, (.t 45)), (1, 1, (.t 48))], none, 0⟩),
  (false, ⟨none, .al 9 [(.int .i64 0), (.slice none 0 0)], none, 0⟩),
  (false, ⟨none, .st (.t 9) 2 (.t 49), none, 0⟩)])
  ⟨none, .al 9 [(.int .i64 0), (.slice none 0 0)], none, 0⟩
  (.leaf [(false, ⟨none, .call 48 15 [(.t 47)], none, 0⟩),
  (true, ⟨none, .bld 49 [(.int .i64 0), (.slice none 0 0)] [(0, 1, (.t 45)), (1, 1, (.t 48))], none, 0⟩),
  (false, ⟨none, .st (.t 9) 2 (.t 49), none, 0⟩)])
def c5r7 : List SI := [
  ⟨none, .flA 50 (.t 9) 1, none, 0⟩,
  ⟨none, .ld 51 (.t 50) none, none, 0⟩,
  ⟨none, .mv 52 (.t 1), none, 0⟩,
  ⟨none, .mv 53 (.t 2), none, 0⟩,
  ⟨none, .ixA 54 (.t 51) (.t 52) 1, none, 0⟩,
  ⟨none, .st (.t 54) 1 (.t 53), none, 0⟩]
def c5r8 : List SI := [
  ⟨none, .ld 56 (.t 9) (some 2), none, 0⟩,
  ⟨none, .call 57 22 [(.t 56)], none, 0⟩,
  ⟨none, .mv 55 (.t 57), none, 0⟩,
  ⟨none, .ext 58 (.t 55) 0, none, 0⟩,
  ⟨none, .ext 59 (.t 55) 1, none, 0⟩,
  ⟨none, .mv 10 (.t 58), none, 0⟩,
  ⟨none, .mv 11 (.t 59), none, 0⟩]
def c5r9 : List SI := [
  ⟨none, .mv 60 (.t 1), none, 0⟩,
  ⟨none, .mv 61 (.t 8), none, 0⟩,
  ⟨none, .bin 62 .geq (.t 60) (.t 61), none, 0⟩]
def c5r10 : List SI := [
  ⟨none, .mv 63 (.t 10), none, 0⟩,
  ⟨none, .len 64 false (.t 63), none, 0⟩,
  ⟨none, .mv 65 (.t 7), none, 0⟩,
  ⟨none, .len 66 false (.t 65), none, 0⟩,
  ⟨none, .bin 67 .geq (.t 64) (.t 66), none, 0⟩,
  ⟨none, .mv 68 (.t 67), none, 0⟩,
  ⟨some (68, true), .mv 69 (.t 10), none, 69⟩,
  ⟨some (68, true), .mv 70 (.t 7), none, 70⟩,
  ⟨some (68, true), .len 71 false (.t 70), none, 71⟩,
  ⟨some (68, true), .sl 72 (.t 69) none (some (.t 71)) none 10, none, 72⟩,
  ⟨some (68, true), .mv 73 (.t 7), none, 73⟩,
  ⟨some (68, true), .call 74 23 [(.t 72), (.t 73)], none, 74⟩,
  ⟨none, .pick 75 (.t 68) (.t 74) (.b false), none, 0⟩,
  ⟨none, .mv 76 (.t 75), none, 0⟩,
  ⟨some (76, true), .mv 77 (.t 11), none, 77⟩,
  ⟨some (76, true), .mv 78 (.t 8), none, 78⟩,
  ⟨some (76, true), .bin 79 .geq (.t 77) (.t 78), none, 79⟩,
  ⟨none, .pick 80 (.t 76) (.t 79) (.b false), none, 0⟩,
  ⟨none, .mv 6 (.t 80), none, 0⟩]
def c5r11 : List SI := [
  ⟨none, .mv 12 (.i 0), none, 0⟩,
  ⟨none, .mv 13 (.i 0), none, 0⟩]
def c5r12 : List SI := [
  ⟨none, .mv 81 (.t 12), none, 0⟩,
  ⟨none, .mv 82 (.t 7), none, 0⟩,
  ⟨none, .len 83 false (.t 82), none, 0⟩,
  ⟨none, .bin 84 .lss (.t 81) (.t 83), none, 0⟩,
  ⟨none, .mv 85 (.t 84), none, 0⟩,
  ⟨some (85, true), .mv 86 (.t 13), none, 86⟩,
  ⟨some (85, true), .mv 87 (.t 7), none, 87⟩,
  ⟨some (85, true), .mv 88 (.t 12), none, 88⟩,
  ⟨some (85, true), .ixA 89 (.t 87) (.t 88) 10, none, 89⟩,
  ⟨some (85, true), .ld 90 (.t 89) (some 10), none, 90⟩,
  ⟨some (85, true), .call 91 25 [(.t 90)], none, 91⟩,
  ⟨some (85, true), .bin 92 .add (.t 86) (.t 91), none, 92⟩,
  ⟨some (85, true), .mv 93 (.t 1), none, 93⟩,
  ⟨some (85, true), .bin 94 .leq (.t 92) (.t 93), none, 94⟩,
  ⟨none, .pick 95 (.t 85) (.t 94) (.b false), none, 0⟩]
def c5r13 : List SI := [
  ⟨none, .mv 96 (.t 13), none, 0⟩,
  ⟨none, .mv 97 (.t 7), none, 0⟩,
  ⟨none, .mv 98 (.t 12), none, 0⟩,
  ⟨none, .ixA 99 (.t 97) (.t 98) 10, none, 0⟩,
  ⟨none, .ld 100 (.t 99) (some 10), none, 0⟩,
  ⟨none, .call 101 25 [(.t 100)], none, 0⟩,
  ⟨none, .bin 102 .add (.t 96) (.t 101), none, 0⟩,
  ⟨none, .mv 13 (.t 102), none, 0⟩]
def c5r14 : List SI := [
  ⟨none, .mv 103 (.t 12), none, 0⟩,
  ⟨none, .bin 104 .add (.t 103) (.i 1), none, 0⟩,
  ⟨none, .mv 12 (.t 104), none, 0⟩]
def c5r15 : List SI := [
  ⟨none, .mv 105 (.t 10), none, 0⟩,
  ⟨none, .len 106 false (.t 105), none, 0⟩,
  ⟨none, .mv 107 (.t 12), none, 0⟩,
  ⟨none, .bin 108 .eql (.t 106) (.t 107), none, 0⟩,
  ⟨none, .mv 109 (.t 108), none, 0⟩,
  ⟨some (109, true), .mv 110 (.t 11), none, 110⟩,
  ⟨some (109, true), .mv 111 (.t 13), none, 111⟩,
  ⟨some (109, true), .bin 112 .eql (.t 110) (.t 111), none, 112⟩,
  ⟨none, .pick 113 (.t 109) (.t 112) (.b false), none, 0⟩,
  ⟨none, .mv 114 (.t 113), none, 0⟩,
  ⟨some (114, true), .mv 115 (.t 10), none, 115⟩,
  ⟨some (114, true), .mv 116 (.t 7), none, 116⟩,
  ⟨some (114, true), .mv 117 (.t 12), none, 117⟩,
  ⟨some (114, true), .sl 118 (.t 116) none (some (.t 117)) none 10, none, 118⟩,
  ⟨some (114, true), .call 119 23 [(.t 115), (.t 118)], none, 119⟩,
  ⟨none, .pick 120 (.t 114) (.t 119) (.b false), none, 0⟩,
  ⟨none, .mv 6 (.t 120), none, 0⟩]
def c5 : SC :=
  (.seq (.reg false c5r0)
  (.seq (.seq (.reg false c5r1)
  (.cond (.t 15)
   (.seq (.reg false c5r2)
   .ret)
   .skip))
  (.seq (.seq (.reg false c5r3)
  (.cond (.t 38)
   (.seq (.reg false c5r4)
   .ret)
   .skip))
  (.seq (.reg false c5r5)
  (.seq (.rgZ c5r6)
  (.seq (.reg false c5r7)
  (.seq (.reg false c5r8)
  (.seq (.seq (.reg false c5r9)
  (.cond (.t 62)
   (.seq (.reg false c5r10)
   .ret)
   .skip))
  (.seq (.reg false c5r11)
  (.seq (.blk 0 (.loop (.seq (.seq (.reg false c5r12)
    (.cond (.t 95)
     .skip
     (.exit 0)))
    (.blk 1 (.seq (.reg false c5r13)
     (.reg false c5r14))))))
  (.seq (.reg false c5r15)
  .ret)))))))))))
def v5 : List Nat × List Nat := ([3], [3, 25, 31, 44, 46])
def o5 : List RS := [.t 6]
theorem s5 : slimC Try.prog Try.f5.ntmps v5.1 v5.2 ((Try.f5.body).getD .skip) = some c5 := by kernel_rfl
theorem q5 : slimR Try.prog Try.f5.ntmps v5.1 v5.2 Try.f5.results.toList = some o5 := by kernel_rfl
-- watermeet/watermeetlaw07.SegOrder N=67
def c6r0 : List SI := [
  ⟨none, .bxR 1 (.t 0), none, 0⟩,
  ⟨none, .mv 2 (.b false), none, 0⟩]
def c6r1 : List SI := [
  ⟨none, .call 9 12 [], none, 0⟩,
  ⟨none, .un 10 .not (.t 9), none, 0⟩]
def c6r2 : List SI := [
  ⟨none, .mv 2 (.b false), none, 0⟩]
def c6r3 : List SI := [
  ⟨none, .ldR 11 1 0 (some 2), none, 0⟩,
  ⟨none, .call 12 13 [(.t 11)], none, 0⟩,
  ⟨none, .un 13 .not (.t 12), none, 0⟩]
def c6r4 : List SI := [
  ⟨none, .mv 2 (.b true), none, 0⟩]
def c6r5 : List SI := [
  ⟨none, .ldR 15 1 0 (some 2), none, 0⟩,
  ⟨none, .call 16 22 [(.t 15)], none, 0⟩,
  ⟨none, .mv 14 (.t 16), none, 0⟩,
  ⟨none, .ext 17 (.t 14) 0, none, 0⟩,
  ⟨none, .ext 18 (.t 14) 1, none, 0⟩,
  ⟨none, .mv 3 (.t 17), none, 0⟩,
  ⟨none, .mv 4 (.t 18), none, 0⟩]
def c6r6 : List SI := [
  ⟨none, .nop, (some 1), 0⟩,
  ⟨none, .ldR 20 1 0 none, none, 0⟩,
  ⟨none, .mv 5 (.t 20), none, 0⟩,
  ⟨none, .mv 6 (.i 0), none, 0⟩]
def c6r7 : List SI := [
  ⟨none, .mv 21 (.t 3), none, 0⟩,
  ⟨none, .len 22 false (.t 21), none, 0⟩,
  ⟨none, .mv 23 (.i 0), none, 0⟩]
def c6r8 : List SI := [
  ⟨none, .bin 24 .lss (.t 23) (.t 22), none, 0⟩]
def c6r9 : List SI := [
  ⟨none, .ixA 25 (.t 21) (.t 23) 10, none, 0⟩,
  ⟨none, .ld 26 (.t 25) (some 10), none, 0⟩,
  ⟨none, .alR 8 [(.int .i64 0), (.int .i64 0), (.int .i64 0), (.int .i64 0), (.int .i64 0), (.int .i64 0), (.int .i64 0), (.bool false), (.int .i64 0), (.slice none 0 0)], none, 0⟩,
  ⟨none, .stR 8 0 10 (.t 26), none, 0⟩]
def c6r10 : List SI := [
  ⟨none, .nop, (some 8), 0⟩,
  ⟨none, .ldR 28 8 0 none, none, 0⟩,
  ⟨none, .mv 29 (.t 5), none, 0⟩,
  ⟨none, .bin 30 .lss (.t 28) (.t 29), none, 0⟩,
  ⟨none, .mv 31 (.t 30), none, 0⟩,
  ⟨some (31, false), .nop, (some 8), 99999⟩,
  ⟨some (31, false), .ldR 33 8 1 none, none, 33⟩,
  ⟨some (31, false), .nop, (some 8), 99999⟩,
  ⟨some (31, false), .ldR 35 8 0 none, none, 35⟩,
  ⟨some (31, false), .bin 36 .lss (.t 33) (.t 35), none, 36⟩,
  ⟨none, .pick 37 (.t 31) (.b true) (.t 36), none, 0⟩,
  ⟨none, .mv 38 (.t 37), none, 0⟩,
  ⟨some (38, false), .ldR 39 8 0 (some 10), none, 39⟩,
  ⟨some (38, false), .call 40 26 [(.t 39)], none, 40⟩,
  ⟨some (38, false), .bin 41 .neq (.t 40) (.i 0), none, 41⟩,
  ⟨none, .pick 42 (.t 38) (.b true) (.t 41), none, 0⟩]
def c6r11 : List SI := [
  ⟨none, .mv 2 (.b false), none, 0⟩]
def c6r12 : List SI := [
  ⟨none, .nop, (some 8), 0⟩,
  ⟨none, .ldR 44 8 1 none, none, 0⟩,
  ⟨none, .bin 45 .add (.t 44) (.i 1), none, 0⟩,
  ⟨none, .mv 5 (.t 45), none, 0⟩]
def c6r13 : List SI := [
  ⟨none, .mv 46 (.t 6), none, 0⟩,
  ⟨none, .ldR 47 8 0 (some 10), none, 0⟩,
  ⟨none, .call 48 25 [(.t 47)], none, 0⟩,
  ⟨none, .bin 49 .add (.t 46) (.t 48), none, 0⟩,
  ⟨none, .mv 6 (.t 49), none, 0⟩]
def c6r14 : List SI := [
  ⟨none, .bin 50 .add (.t 23) (.i 1), none, 0⟩,
  ⟨none, .mv 23 (.t 50), none, 0⟩]
def c6r15 : List SI := [
  ⟨none, .mv 51 (.t 6), none, 0⟩,
  ⟨none, .mv 52 (.t 4), none, 0⟩,
  ⟨none, .bin 53 .eql (.t 51) (.t 52), none, 0⟩,
  ⟨none, .mv 54 (.t 53), none, 0⟩,
  ⟨some (54, true), .mv 55 (.t 4), none, 55⟩,
  ⟨some (54, true), .nop, (some 1), 99999⟩,
  ⟨some (54, true), .ldR 57 1 1 none, none, 57⟩,
  ⟨some (54, true), .len 58 false (.t 57), none, 58⟩,
  ⟨some (54, true), .bin 59 .leq (.t 55) (.t 58), none, 59⟩,
  ⟨none, .pick 60 (.t 54) (.t 59) (.b false), none, 0⟩,
  ⟨none, .mv 61 (.t 60), none, 0⟩,
  ⟨some (61, true), .ldR 62 1 0 (some 2), none, 62⟩,
  ⟨some (61, true), .call 63 24 [(.t 62)], none, 63⟩,
  ⟨some (61, true), .mv 64 (.t 5), none, 64⟩,
  ⟨some (61, true), .bin 65 .eql (.t 63) (.t 64), none, 65⟩,
  ⟨none, .pick 66 (.t 61) (.t 65) (.b false), none, 0⟩,
  ⟨none, .mv 2 (.t 66), none, 0⟩]
def c6 : SC :=
  (.seq (.reg false c6r0)
  (.seq (.seq (.reg false c6r1)
  (.cond (.t 10)
   (.seq (.reg false c6r2)
   .ret)
   .skip))
  (.seq (.seq (.reg false c6r3)
  (.cond (.t 13)
   (.seq (.reg false c6r4)
   .ret)
   .skip))
  (.seq (.reg false c6r5)
  (.seq (.reg false c6r6)
  (.seq (.seq (.reg false c6r7)
  (.blk 0 (.loop (.seq (.reg false c6r8)
    (.seq (.cond (.t 24)
     .skip
     (.exit 0))
    (.seq (.blk 1 (.seq (.reg false c6r9)
     (.seq (.seq (.reg false c6r10)
     (.cond (.t 42)
      (.seq (.reg false c6r11)
      .ret)
      .skip))
     (.seq (.reg false c6r12)
     (.reg false c6r13)))))
    (.reg false c6r14)))))))
  (.seq (.reg false c6r15)
  .ret)))))))
def v6 : List Nat × List Nat := ([1, 8], [1, 8, 19, 27, 32, 34, 43, 56])
def o6 : List RS := [.t 2]
theorem q6 : slimR Try.prog Try.f6.ntmps v6.1 v6.2 Try.f6.results.toList = some o6 := by kernel_rfl
-- watermeet/watermeetlaw07.SegScans N=88
def c7r0 : List SI := [
  ⟨none, .bxR 1 (.t 0), none, 0⟩,
  ⟨none, .mv 2 (.b false), none, 0⟩]
def c7r1 : List SI := [
  ⟨none, .call 14 12 [], none, 0⟩,
  ⟨none, .un 15 .not (.t 14), none, 0⟩]
def c7r2 : List SI := [
  ⟨none, .mv 2 (.b false), none, 0⟩]
def c7r3 : List SI := [
  ⟨none, .ldR 16 1 0 (some 2), none, 0⟩,
  ⟨none, .call 17 13 [(.t 16)], none, 0⟩,
  ⟨none, .un 18 .not (.t 17), none, 0⟩]
def c7r4 : List SI := [
  ⟨none, .mv 2 (.b true), none, 0⟩]
def c7r5 : List SI := [
  ⟨none, .nop, (some 1), 0⟩,
  ⟨none, .ldR 20 1 1 none, none, 0⟩,
  ⟨none, .call 21 15 [(.t 20)], none, 0⟩,
  ⟨none, .mv 3 (.t 21), none, 0⟩]
def c7r6 : List SI := [
  ⟨none, .ldR 23 1 0 (some 2), none, 0⟩,
  ⟨none, .call 24 22 [(.t 23)], none, 0⟩,
  ⟨none, .mv 22 (.t 24), none, 0⟩,
  ⟨none, .ext 25 (.t 22) 0, none, 0⟩,
  ⟨none, .ext 26 (.t 22) 1, none, 0⟩,
  ⟨none, .mv 4 (.t 25), none, 0⟩,
  ⟨none, .mv 5 (.t 26), none, 0⟩]
def c7r7 : List SI := [
  ⟨none, .ldR 28 1 0 (some 2), none, 0⟩,
  ⟨none, .call 29 27 [(.t 28)], none, 0⟩,
  ⟨none, .mv 27 (.t 29), none, 0⟩,
  ⟨none, .ext 30 (.t 27) 0, none, 0⟩,
  ⟨none, .ext 31 (.t 27) 1, none, 0⟩,
  ⟨none, .mv 6 (.t 30), none, 0⟩,
  ⟨none, .mv 7 (.t 31), none, 0⟩]
def c7r8 : List SI := [
  ⟨none, .ldR 33 1 0 (some 2), none, 0⟩,
  ⟨none, .call 34 28 [(.t 33)], none, 0⟩,
  ⟨none, .mv 32 (.t 34), none, 0⟩,
  ⟨none, .ext 35 (.t 32) 0, none, 0⟩,
  ⟨none, .ext 36 (.t 32) 1, none, 0⟩,
  ⟨none, .alR 8 [(.int .i64 0), (.slice none 0 0)], none, 0⟩,
  ⟨none, .stR 8 0 2 (.t 35), none, 0⟩,
  ⟨none, .mv 9 (.t 36), none, 0⟩]
def c7r9 : List SI := [
  ⟨none, .ldR 38 1 0 (some 2), none, 0⟩,
  ⟨none, .call 39 29 [(.t 38)], none, 0⟩,
  ⟨none, .mv 37 (.t 39), none, 0⟩,
  ⟨none, .ext 40 (.t 37) 0, none, 0⟩,
  ⟨none, .ext 41 (.t 37) 1, none, 0⟩,
  ⟨none, .alR 10 [(.int .i64 0), (.slice none 0 0)], none, 0⟩,
  ⟨none, .stR 10 0 2 (.t 40), none, 0⟩,
  ⟨none, .mv 11 (.t 41), none, 0⟩]
def c7r10 : List (Bool × SI) := [
  (true, ⟨none, .mv 42 (.t 4), none, 0⟩),
  (true, ⟨none, .mv 43 (.t 6), none, 0⟩),
  (false, ⟨none, .call 44 23 [(.t 42), (.t 43)], none, 0⟩),
  (true, ⟨none, .mv 45 (.t 44), none, 0⟩),
  (true, ⟨some (45, true), .mv 46 (.t 5), none, 46⟩),
  (true, ⟨some (45, true), .mv 47 (.t 7), none, 47⟩),
  (true, ⟨some (45, true), .bin 48 .eql (.t 46) (.t 47), none, 48⟩),
  (true, ⟨none, .pick 49 (.t 45) (.t 48) (.b false), none, 0⟩),
  (true, ⟨none, .mv 50 (.t 49), none, 0⟩),
  (true, ⟨some (50, true), .ldR 51 1 0 (some 2), none, 51⟩),
  (true, ⟨some (50, true), .ldR 53 1 0 (some 2), none, 53⟩),
  (false, ⟨some (50, true), .call 52 24 [(.t 51)], none, 52⟩),
  (false, ⟨some (50, true), .call 54 30 [(.t 53)], none, 54⟩),
  (true, ⟨some (50, true), .bin 55 .eql (.t 52) (.t 54), none, 55⟩),
  (true, ⟨none, .pick 56 (.t 50) (.t 55) (.b false), none, 0⟩),
  (true, ⟨none, .mv 57 (.t 56), none, 0⟩),
  (true, ⟨some (57, true), .ldR 58 8 0 (some 2), none, 58⟩),
  (true, ⟨some (57, true), .ldR 59 10 0 (some 2), none, 59⟩),
  (false, ⟨some (57, true), .call 60 18 [(.t 58), (.t 59)], none, 60⟩),
  (true, ⟨none, .pick 61 (.t 57) (.t 60) (.b false), none, 0⟩),
  (true, ⟨none, .mv 62 (.t 61), none, 0⟩),
  (true, ⟨some (62, true), .mv 63 (.t 9), none, 63⟩),
  (true, ⟨some (62, true), .mv 64 (.t 11), none, 64⟩),
  (true, ⟨some (62, true), .bin 65 .eql (.t 63) (.t 64), none, 65⟩),
  (true, ⟨none, .pick 66 (.t 62) (.t 65) (.b false), none, 0⟩),
  (true, ⟨none, .mv 12 (.t 66), none, 0⟩)]
def c7r11 : List SI := [
  ⟨none, .nop, (some 8), 0⟩,
  ⟨none, .ldR 68 8 1 none, none, 0⟩,
  ⟨none, .len 69 false (.t 68), none, 0⟩,
  ⟨none, .mv 70 (.i 0), none, 0⟩]
def c7r12 : List SI := [
  ⟨none, .bin 71 .lss (.t 70) (.t 69), none, 0⟩]
def c7r13 : List SI := [
  ⟨none, .mv 72 (.t 70), none, 0⟩,
  ⟨none, .mv 13 (.t 72), none, 0⟩]
def c7r14 : List SI := [
  ⟨none, .nop, (some 8), 0⟩,
  ⟨none, .ldR 74 8 1 none, none, 0⟩,
  ⟨none, .mv 75 (.t 13), none, 0⟩,
  ⟨none, .ixA 76 (.t 74) (.t 75) 1, none, 0⟩,
  ⟨none, .ld 77 (.t 76) none, none, 0⟩,
  ⟨none, .bin 78 .add (.t 77) (.v (.int .u8 1)), none, 0⟩,
  ⟨none, .ixA 79 (.t 74) (.t 75) 1, none, 0⟩,
  ⟨none, .st (.t 79) 1 (.t 78), none, 0⟩]
def c7r15 : List SI := [
  ⟨none, .bin 80 .add (.t 70) (.i 1), none, 0⟩,
  ⟨none, .mv 70 (.t 80), none, 0⟩]
def c7r16 : List SI := [
  ⟨none, .mv 81 (.t 12), none, 0⟩,
  ⟨none, .mv 82 (.t 81), none, 0⟩,
  ⟨some (82, true), .nop, (some 1), 99999⟩,
  ⟨some (82, true), .ldR 84 1 1 none, none, 84⟩,
  ⟨some (82, true), .mv 85 (.t 3), none, 85⟩,
  ⟨some (82, true), .call 86 19 [(.t 84), (.t 85)], none, 86⟩,
  ⟨none, .pick 87 (.t 82) (.t 86) (.b false), none, 0⟩,
  ⟨none, .mv 2 (.t 87), none, 0⟩]
def c7 : SC :=
  (.seq (.reg false c7r0)
  (.seq (.seq (.reg false c7r1)
  (.cond (.t 15)
   (.seq (.reg false c7r2)
   .ret)
   .skip))
  (.seq (.seq (.reg false c7r3)
  (.cond (.t 18)
   (.seq (.reg false c7r4)
   .ret)
   .skip))
  (.seq (.reg false c7r5)
  (.seq (.reg false c7r6)
  (.seq (.reg false c7r7)
  (.seq (.reg false c7r8)
  (.seq (.reg false c7r9)
  (.seq (.rgX c7r10)
  (.seq (.seq (.reg false c7r11)
  (.blk 0 (.loop (.seq (.reg false c7r12)
    (.seq (.cond (.t 71)
     .skip
     (.exit 0))
    (.seq (.blk 1 (.seq (.reg false c7r13)
     (.reg false c7r14)))
    (.reg false c7r15)))))))
  (.seq (.reg false c7r16)
  .ret)))))))))))
def v7 : List Nat × List Nat := ([1, 8, 10], [1, 8, 10, 19, 67, 73, 83])
def o7 : List RS := [.t 2]
theorem q7 : slimR Try.prog Try.f7.ntmps v7.1 v7.2 Try.f7.results.toList = some o7 := by kernel_rfl
-- watermeet/watermeetlaw07.SegTorn N=128
def c8r0 : List SI := [
  ⟨none, .bxR 2 (.t 0), none, 0⟩,
  ⟨none, .mv 4 (.b false), none, 0⟩]
def c8r1 : List SI := [
  ⟨none, .call 14 12 [], none, 0⟩,
  ⟨none, .un 15 .not (.t 14), none, 0⟩]
def c8r2 : List SI := [
  ⟨none, .mv 4 (.b false), none, 0⟩]
def c8r3 : List SI := [
  ⟨none, .ldR 16 2 0 (some 2), none, 0⟩,
  ⟨none, .call 17 13 [(.t 16)], none, 0⟩,
  ⟨none, .un 18 .not (.t 17), none, 0⟩,
  ⟨none, .mv 19 (.t 18), none, 0⟩,
  ⟨some (19, false), .mv 20 (.t 1), none, 20⟩,
  ⟨some (19, false), .bin 21 .lss (.t 20) (.i 0), none, 21⟩,
  ⟨none, .pick 22 (.t 19) (.b true) (.t 21), none, 0⟩,
  ⟨none, .mv 23 (.t 22), none, 0⟩,
  ⟨some (23, false), .mv 24 (.t 1), none, 24⟩,
  ⟨some (23, false), .nop, (some 2), 99999⟩,
  ⟨some (23, false), .ldR 26 2 1 none, none, 26⟩,
  ⟨some (23, false), .len 27 false (.t 26), none, 27⟩,
  ⟨some (23, false), .bin 28 .gtr (.t 24) (.t 27), none, 28⟩,
  ⟨none, .pick 29 (.t 23) (.b true) (.t 28), none, 0⟩]
def c8r4 : List SI := [
  ⟨none, .mv 4 (.b true), none, 0⟩]
def c8r5 : List SI := [
  ⟨none, .ldR 31 2 0 (some 2), none, 0⟩,
  ⟨none, .call 32 22 [(.t 31)], none, 0⟩,
  ⟨none, .mv 30 (.t 32), none, 0⟩,
  ⟨none, .ext 33 (.t 30) 0, none, 0⟩,
  ⟨none, .ext 34 (.t 30) 1, none, 0⟩,
  ⟨none, .mv 5 (.t 33), none, 0⟩,
  ⟨none, .mv 6 (.t 34), none, 0⟩]
def c8r6 : RX := .br [(true, ⟨none, .nop, (some 2), 0⟩),
  (true, ⟨none, .ldR 36 2 0 none, none, 0⟩),
  (true, ⟨none, .nop, (some 2), 0⟩),
  (true, ⟨none, .ldR 38 2 1 none, none, 0⟩),
  (true, ⟨none, .mv 39 (.t 1), none, 0⟩),
  (true, ⟨none, .sl 40 (.t 38) none (some (.t 39)) none 1, none, 0⟩)]
  ⟨none, .call 41 15 [(.t 40)], none, 0⟩
  (.leaf [(true, ⟨none, .bld 42 [(.int .i64 0), (.slice none 0 0)] [(0, 1, (.t 36)), (1, 1, (.t 41))], none, 0⟩),
  (false, ⟨none, .al 7 [(.int .i64 0), (.slice none 0 0)], none, 0⟩),
  (false, ⟨none, .st (.t 7) 2 (.t 42), none, 0⟩)])
  ⟨none, .al 7 [(.int .i64 0), (.slice none 0 0)], none, 0⟩
  (.leaf [(false, ⟨none, .call 41 15 [(.t 40)], none, 0⟩),
  (true, ⟨none, .bld 42 [(.int .i64 0), (.slice none 0 0)] [(0, 1, (.t 36)), (1, 1, (.t 41))], none, 0⟩),
  (false, ⟨none, .st (.t 7) 2 (.t 42), none, 0⟩)])
def c8r7 : List SI := [
  ⟨none, .ld 44 (.t 7) (some 2), none, 0⟩,
  ⟨none, .call 45 22 [(.t 44)], none, 0⟩,
  ⟨none, .mv 43 (.t 45), none, 0⟩,
  ⟨none, .ext 46 (.t 43) 0, none, 0⟩,
  ⟨none, .ext 47 (.t 43) 1, none, 0⟩,
  ⟨none, .mv 8 (.t 46), none, 0⟩,
  ⟨none, .mv 9 (.t 47), none, 0⟩]
def c8r8 : List SI := [
  ⟨none, .mv 48 (.t 8), none, 0⟩,
  ⟨none, .len 49 false (.t 48), none, 0⟩,
  ⟨none, .mv 50 (.t 5), none, 0⟩,
  ⟨none, .len 51 false (.t 50), none, 0⟩,
  ⟨none, .bin 52 .gtr (.t 49) (.t 51), none, 0⟩,
  ⟨none, .mv 53 (.t 52), none, 0⟩,
  ⟨some (53, false), .mv 54 (.t 9), none, 54⟩,
  ⟨some (53, false), .mv 55 (.t 1), none, 55⟩,
  ⟨some (53, false), .bin 56 .gtr (.t 54) (.t 55), none, 56⟩,
  ⟨none, .pick 57 (.t 53) (.b true) (.t 56), none, 0⟩,
  ⟨none, .mv 58 (.t 57), none, 0⟩,
  ⟨some (58, false), .mv 59 (.t 9), none, 59⟩,
  ⟨some (58, false), .mv 60 (.t 6), none, 60⟩,
  ⟨some (58, false), .bin 61 .gtr (.t 59) (.t 60), none, 61⟩,
  ⟨none, .pick 62 (.t 58) (.b true) (.t 61), none, 0⟩,
  ⟨none, .mv 63 (.t 62), none, 0⟩,
  ⟨some (63, false), .mv 64 (.t 8), none, 64⟩,
  ⟨some (63, false), .mv 65 (.t 5), none, 65⟩,
  ⟨some (63, false), .mv 66 (.t 8), none, 66⟩,
  ⟨some (63, false), .len 67 false (.t 66), none, 67⟩,
  ⟨some (63, false), .sl 68 (.t 65) none (some (.t 67)) none 10, none, 68⟩,
  ⟨some (63, false), .call 69 23 [(.t 64), (.t 68)], none, 69⟩,
  ⟨some (63, false), .un 70 .not (.t 69), none, 70⟩,
  ⟨none, .pick 71 (.t 63) (.b true) (.t 70), none, 0⟩,
  ⟨none, .mv 72 (.t 71), none, 0⟩,
  ⟨some (72, false), .mv 73 (.t 6), none, 73⟩,
  ⟨some (72, false), .mv 74 (.t 1), none, 74⟩,
  ⟨some (72, false), .bin 75 .leq (.t 73) (.t 74), none, 75⟩,
  ⟨some (72, false), .mv 76 (.t 75), none, 76⟩,
  ⟨some (76, true), .mv 77 (.t 9), none, 77⟩,
  ⟨some (76, true), .mv 78 (.t 6), none, 78⟩,
  ⟨some (76, true), .bin 79 .neq (.t 77) (.t 78), none, 79⟩,
  ⟨some (72, false), .pick 80 (.t 76) (.t 79) (.b false), none, 80⟩,
  ⟨none, .pick 81 (.t 72) (.b true) (.t 80), none, 0⟩]
def c8r9 : List SI := [
  ⟨none, .mv 4 (.b false), none, 0⟩]
def c8r10 : List SI := [
  ⟨none, .ld 83 (.t 7) (some 2), none, 0⟩,
  ⟨none, .call 84 28 [(.t 83)], none, 0⟩,
  ⟨none, .mv 82 (.t 84), none, 0⟩,
  ⟨none, .ext 85 (.t 82) 0, none, 0⟩,
  ⟨none, .ext 86 (.t 82) 1, none, 0⟩,
  ⟨none, .alR 10 [(.int .i64 0), (.slice none 0 0)], none, 0⟩,
  ⟨none, .stR 10 0 2 (.t 85), none, 0⟩,
  ⟨none, .mv 11 (.t 86), none, 0⟩]
def c8r11 : List SI := [
  ⟨none, .ldR 88 10 0 (some 2), none, 0⟩,
  ⟨none, .call 89 22 [(.t 88)], none, 0⟩,
  ⟨none, .mv 87 (.t 89), none, 0⟩,
  ⟨none, .ext 90 (.t 87) 0, none, 0⟩,
  ⟨none, .ext 91 (.t 87) 1, none, 0⟩,
  ⟨none, .mv 12 (.t 90), none, 0⟩,
  ⟨none, .mv 13 (.t 91), none, 0⟩]
def c8r12 : List (Bool × SI) := [
  (true, ⟨none, .mv 92 (.t 11), none, 0⟩),
  (true, ⟨none, .mv 93 (.t 1), none, 0⟩),
  (true, ⟨none, .mv 94 (.t 9), none, 0⟩),
  (true, ⟨none, .bin 95 .sub (.t 93) (.t 94), none, 0⟩),
  (true, ⟨none, .bin 96 .eql (.t 92) (.t 95), none, 0⟩),
  (true, ⟨none, .mv 97 (.t 96), none, 0⟩),
  (true, ⟨some (97, true), .mv 98 (.t 13), none, 98⟩),
  (true, ⟨some (97, true), .nop, (some 10), 99999⟩),
  (true, ⟨some (97, true), .ldR 100 10 1 none, none, 100⟩),
  (true, ⟨some (97, true), .len 101 false (.t 100), none, 101⟩),
  (true, ⟨some (97, true), .bin 102 .eql (.t 98) (.t 101), none, 102⟩),
  (true, ⟨none, .pick 103 (.t 97) (.t 102) (.b false), none, 0⟩),
  (true, ⟨none, .mv 104 (.t 103), none, 0⟩),
  (true, ⟨some (104, true), .mv 105 (.t 13), none, 105⟩),
  (true, ⟨some (104, true), .mv 106 (.t 9), none, 106⟩),
  (true, ⟨some (104, true), .bin 107 .eql (.t 105) (.t 106), none, 107⟩),
  (true, ⟨none, .pick 108 (.t 104) (.t 107) (.b false), none, 0⟩),
  (true, ⟨none, .mv 109 (.t 108), none, 0⟩),
  (true, ⟨some (109, true), .mv 110 (.t 8), none, 110⟩),
  (true, ⟨some (109, true), .mv 111 (.t 12), none, 111⟩),
  (false, ⟨some (109, true), .call 112 23 [(.t 110), (.t 111)], none, 112⟩),
  (true, ⟨none, .pick 113 (.t 109) (.t 112) (.b false), none, 0⟩),
  (true, ⟨none, .mv 114 (.t 113), none, 0⟩),
  (true, ⟨some (114, true), .ldR 115 10 0 (some 2), none, 115⟩),
  (true, ⟨some (114, true), .ld 117 (.t 7) (some 2), none, 117⟩),
  (false, ⟨some (114, true), .call 116 24 [(.t 115)], none, 116⟩),
  (false, ⟨some (114, true), .call 118 24 [(.t 117)], none, 118⟩),
  (true, ⟨some (114, true), .bin 119 .eql (.t 116) (.t 118), none, 119⟩),
  (true, ⟨none, .pick 120 (.t 114) (.t 119) (.b false), none, 0⟩),
  (true, ⟨none, .mv 121 (.t 120), none, 0⟩),
  (true, ⟨some (121, true), .ld 122 (.t 7) (some 2), none, 122⟩),
  (true, ⟨some (121, true), .ldR 124 2 0 (some 2), none, 124⟩),
  (false, ⟨some (121, true), .call 123 24 [(.t 122)], none, 123⟩),
  (false, ⟨some (121, true), .call 125 24 [(.t 124)], none, 125⟩),
  (true, ⟨some (121, true), .bin 126 .leq (.t 123) (.t 125), none, 126⟩),
  (true, ⟨none, .pick 127 (.t 121) (.t 126) (.b false), none, 0⟩),
  (true, ⟨none, .mv 4 (.t 127), none, 0⟩)]
def c8 : SC :=
  (.seq (.reg false c8r0)
  (.seq (.seq (.reg false c8r1)
  (.cond (.t 15)
   (.seq (.reg false c8r2)
   .ret)
   .skip))
  (.seq (.seq (.reg false c8r3)
  (.cond (.t 29)
   (.seq (.reg false c8r4)
   .ret)
   .skip))
  (.seq (.reg false c8r5)
  (.seq (.rgZ c8r6)
  (.seq (.reg false c8r7)
  (.seq (.seq (.reg false c8r8)
  (.cond (.t 81)
   (.seq (.reg false c8r9)
   .ret)
   .skip))
  (.seq (.reg false c8r10)
  (.seq (.reg false c8r11)
  (.seq (.rgX c8r12)
  .ret))))))))))
def v8 : List Nat × List Nat := ([2, 10], [2, 10, 25, 35, 37, 99])
def o8 : List RS := [.t 4]
theorem q8 : slimR Try.prog Try.f8.ntmps v8.1 v8.2 Try.f8.results.toList = some o8 := by kernel_rfl
-- watermeet/watermeetlaw07.SegCuts N=84
def c9r0 : List SI := [
  ⟨none, .bxR 2 (.t 0), none, 0⟩,
  ⟨none, .mv 4 (.b false), none, 0⟩]
def c9r1 : List SI := [
  ⟨none, .call 12 12 [], none, 0⟩,
  ⟨none, .un 13 .not (.t 12), none, 0⟩]
def c9r2 : List SI := [
  ⟨none, .mv 4 (.b false), none, 0⟩]
def c9r3 : List SI := [
  ⟨none, .ldR 14 2 0 (some 2), none, 0⟩,
  ⟨none, .call 15 13 [(.t 14)], none, 0⟩,
  ⟨none, .un 16 .not (.t 15), none, 0⟩]
def c9r4 : List SI := [
  ⟨none, .mv 4 (.b true), none, 0⟩]
def c9r5 : List SI := [
  ⟨none, .ldR 18 2 0 (some 2), none, 0⟩,
  ⟨none, .call 19 22 [(.t 18)], none, 0⟩,
  ⟨none, .mv 17 (.t 19), none, 0⟩,
  ⟨none, .ext 20 (.t 17) 0, none, 0⟩,
  ⟨none, .ext 21 (.t 17) 1, none, 0⟩,
  ⟨none, .mv 5 (.t 20), none, 0⟩,
  ⟨none, .mv 6 (.t 21), none, 0⟩]
def c9r6 : List SI := [
  ⟨none, .ldR 22 2 0 (some 2), none, 0⟩,
  ⟨none, .mv 23 (.t 1), none, 0⟩,
  ⟨none, .call 24 31 [(.t 22), (.t 23)], none, 0⟩,
  ⟨none, .alR 7 [(.int .i64 0), (.slice none 0 0)], none, 0⟩,
  ⟨none, .stR 7 0 2 (.t 24), none, 0⟩]
def c9r7 : List SI := [
  ⟨none, .ldR 26 7 0 (some 2), none, 0⟩,
  ⟨none, .call 27 22 [(.t 26)], none, 0⟩,
  ⟨none, .mv 25 (.t 27), none, 0⟩,
  ⟨none, .ext 28 (.t 25) 0, none, 0⟩,
  ⟨none, .ext 29 (.t 25) 1, none, 0⟩,
  ⟨none, .mv 8 (.t 28), none, 0⟩,
  ⟨none, .mv 9 (.t 29), none, 0⟩]
def c9r8 : List SI := [
  ⟨none, .mv 30 (.t 9), none, 0⟩,
  ⟨none, .nop, (some 7), 0⟩,
  ⟨none, .ldR 32 7 1 none, none, 0⟩,
  ⟨none, .len 33 false (.t 32), none, 0⟩,
  ⟨none, .bin 34 .neq (.t 30) (.t 33), none, 0⟩,
  ⟨none, .mv 35 (.t 34), none, 0⟩,
  ⟨some (35, false), .mv 36 (.t 8), none, 36⟩,
  ⟨some (35, false), .len 37 false (.t 36), none, 37⟩,
  ⟨some (35, false), .mv 38 (.t 5), none, 38⟩,
  ⟨some (35, false), .len 39 false (.t 38), none, 39⟩,
  ⟨some (35, false), .bin 40 .gtr (.t 37) (.t 39), none, 40⟩,
  ⟨none, .pick 41 (.t 35) (.b true) (.t 40), none, 0⟩,
  ⟨none, .mv 42 (.t 41), none, 0⟩,
  ⟨some (42, false), .mv 43 (.t 8), none, 43⟩,
  ⟨some (42, false), .mv 44 (.t 5), none, 44⟩,
  ⟨some (42, false), .mv 45 (.t 8), none, 45⟩,
  ⟨some (42, false), .len 46 false (.t 45), none, 46⟩,
  ⟨some (42, false), .sl 47 (.t 44) none (some (.t 46)) none 10, none, 47⟩,
  ⟨some (42, false), .call 48 23 [(.t 43), (.t 47)], none, 48⟩,
  ⟨some (42, false), .un 49 .not (.t 48), none, 49⟩,
  ⟨none, .pick 50 (.t 42) (.b true) (.t 49), none, 0⟩,
  ⟨none, .mv 51 (.t 50), none, 0⟩,
  ⟨some (51, false), .nop, (some 7), 99999⟩,
  ⟨some (51, false), .ldR 53 7 0 none, none, 53⟩,
  ⟨some (51, false), .nop, (some 2), 99999⟩,
  ⟨some (51, false), .ldR 55 2 0 none, none, 55⟩,
  ⟨some (51, false), .bin 56 .neq (.t 53) (.t 55), none, 56⟩,
  ⟨none, .pick 57 (.t 51) (.b true) (.t 56), none, 0⟩]
def c9r9 : List SI := [
  ⟨none, .mv 4 (.b false), none, 0⟩]
def c9r10 : List SI := [
  ⟨none, .mv 58 (.t 8), none, 0⟩,
  ⟨none, .len 59 false (.t 58), none, 0⟩,
  ⟨none, .mv 60 (.i 0), none, 0⟩]
def c9r11 : List SI := [
  ⟨none, .bin 61 .lss (.t 60) (.t 59), none, 0⟩]
def c9r12 : List SI := [
  ⟨none, .ixA 62 (.t 58) (.t 60) 10, none, 0⟩,
  ⟨none, .ld 63 (.t 62) (some 10), none, 0⟩,
  ⟨none, .alR 11 [(.int .i64 0), (.int .i64 0), (.int .i64 0), (.int .i64 0), (.int .i64 0), (.int .i64 0), (.int .i64 0), (.bool false), (.int .i64 0), (.slice none 0 0)], none, 0⟩,
  ⟨none, .stR 11 0 10 (.t 63), none, 0⟩]
def c9r13 : List SI := [
  ⟨none, .nop, (some 11), 0⟩,
  ⟨none, .ldR 65 11 1 none, none, 0⟩,
  ⟨none, .mv 66 (.t 1), none, 0⟩,
  ⟨none, .bin 67 .geq (.t 65) (.t 66), none, 0⟩]
def c9r14 : List SI := [
  ⟨none, .mv 4 (.b false), none, 0⟩]
def c9r15 : List SI := [
  ⟨none, .bin 68 .add (.t 60) (.i 1), none, 0⟩,
  ⟨none, .mv 60 (.t 68), none, 0⟩]
def c9r16 : List SI := [
  ⟨none, .mv 69 (.t 8), none, 0⟩,
  ⟨none, .len 70 false (.t 69), none, 0⟩,
  ⟨none, .mv 71 (.t 5), none, 0⟩,
  ⟨none, .len 72 false (.t 71), none, 0⟩,
  ⟨none, .bin 73 .eql (.t 70) (.t 72), none, 0⟩,
  ⟨none, .mv 74 (.t 73), none, 0⟩,
  ⟨some (74, false), .mv 75 (.t 5), none, 75⟩,
  ⟨some (74, false), .mv 76 (.t 8), none, 76⟩,
  ⟨some (74, false), .len 77 false (.t 76), none, 77⟩,
  ⟨some (74, false), .ixA 78 (.t 75) (.t 77) 10, none, 78⟩,
  ⟨some (74, false), .flA 79 (.t 78) 1, none, 79⟩,
  ⟨some (74, false), .ld 80 (.t 79) none, none, 80⟩,
  ⟨some (74, false), .mv 81 (.t 1), none, 81⟩,
  ⟨some (74, false), .bin 82 .geq (.t 80) (.t 81), none, 82⟩,
  ⟨none, .pick 83 (.t 74) (.b true) (.t 82), none, 0⟩,
  ⟨none, .mv 4 (.t 83), none, 0⟩]
def c9 : SC :=
  (.seq (.reg false c9r0)
  (.seq (.seq (.reg false c9r1)
  (.cond (.t 13)
   (.seq (.reg false c9r2)
   .ret)
   .skip))
  (.seq (.seq (.reg false c9r3)
  (.cond (.t 16)
   (.seq (.reg false c9r4)
   .ret)
   .skip))
  (.seq (.reg false c9r5)
  (.seq (.reg false c9r6)
  (.seq (.reg false c9r7)
  (.seq (.seq (.reg false c9r8)
  (.cond (.t 57)
   (.seq (.reg false c9r9)
   .ret)
   .skip))
  (.seq (.seq (.reg false c9r10)
  (.blk 0 (.loop (.seq (.reg false c9r11)
    (.seq (.cond (.t 61)
     .skip
     (.exit 0))
    (.seq (.blk 1 (.seq (.reg false c9r12)
     (.seq (.reg false c9r13)
     (.cond (.t 67)
      (.seq (.reg false c9r14)
      .ret)
      .skip))))
    (.reg false c9r15)))))))
  (.seq (.reg false c9r16)
  .ret)))))))))
def v9 : List Nat × List Nat := ([2, 7, 11], [2, 7, 11, 31, 52, 54, 64])
def o9 : List RS := [.t 4]
theorem q9 : slimR Try.prog Try.f9.ntmps v9.1 v9.2 Try.f9.results.toList = some o9 := by kernel_rfl
-- watermeet/watermeetlaw07.SegParts N=88
def v10 : List Nat × List Nat := ([9, 11, 14, 15], [9, 11, 14, 15, 50, 74])
def o10 : List RS := [.t 8]
theorem q10 : slimR Try.prog Try.f10.ntmps v10.1 v10.2 Try.f10.results.toList = some o10 := by kernel_rfl
-- watermeet/watermeetlaw07.SegMakes N=80
def c11r0 : List SI := [
  ⟨none, .bxR 8 (.t 3), none, 0⟩,
  ⟨none, .mv 10 (.b false), none, 0⟩]
def c11r1 : List SI := [
  ⟨none, .call 19 12 [], none, 0⟩,
  ⟨none, .un 20 .not (.t 19), none, 0⟩]
def c11r2 : List SI := [
  ⟨none, .mv 10 (.b false), none, 0⟩]
def c11r3 : List SI := [
  ⟨none, .ldR 21 8 0 (some 2), none, 0⟩,
  ⟨none, .call 22 13 [(.t 21)], none, 0⟩,
  ⟨none, .un 23 .not (.t 22), none, 0⟩,
  ⟨none, .mv 24 (.t 23), none, 0⟩,
  ⟨some (24, false), .mv 25 (.t 1), none, 25⟩,
  ⟨some (24, false), .call 26 20 [(.t 25), (.i 30)], none, 26⟩,
  ⟨some (24, false), .un 27 .not (.t 26), none, 27⟩,
  ⟨none, .pick 28 (.t 24) (.b true) (.t 27), none, 0⟩]
def c11r4 : List SI := [
  ⟨none, .mv 10 (.b true), none, 0⟩]
def c11r5 : List SI := [
  ⟨none, .mv 30 (.t 0), none, 0⟩,
  ⟨none, .mv 31 (.t 1), none, 0⟩,
  ⟨none, .mv 32 (.t 2), none, 0⟩,
  ⟨none, .call 33 32 [(.t 30), (.t 31), (.t 32)], none, 0⟩,
  ⟨none, .mv 29 (.t 33), none, 0⟩,
  ⟨none, .ext 34 (.t 29) 0, none, 0⟩,
  ⟨none, .ext 35 (.t 29) 1, none, 0⟩,
  ⟨none, .alR 11 [(.int .i64 0), (.slice none 0 0)], none, 0⟩,
  ⟨none, .stR 11 0 2 (.t 34), none, 0⟩,
  ⟨none, .mv 12 (.t 35), none, 0⟩]
def c11r6 : List SI := [
  ⟨none, .mv 37 (.t 0), none, 0⟩,
  ⟨none, .mv 38 (.t 1), none, 0⟩,
  ⟨none, .mv 39 (.t 2), none, 0⟩,
  ⟨none, .call 40 33 [(.t 37), (.t 38), (.t 39)], none, 0⟩,
  ⟨none, .mv 36 (.t 40), none, 0⟩,
  ⟨none, .ext 41 (.t 36) 0, none, 0⟩,
  ⟨none, .ext 42 (.t 36) 1, none, 0⟩,
  ⟨none, .alR 13 [(.int .i64 0), (.slice none 0 0)], none, 0⟩,
  ⟨none, .stR 13 0 2 (.t 41), none, 0⟩,
  ⟨none, .mv 14 (.t 42), none, 0⟩]
def c11r7 : List SI := [
  ⟨none, .mv 44 (.t 0), none, 0⟩,
  ⟨none, .call 45 21 [(.t 44)], none, 0⟩,
  ⟨none, .mv 43 (.t 45), none, 0⟩,
  ⟨none, .ext 46 (.t 43) 0, none, 0⟩,
  ⟨none, .ext 47 (.t 43) 1, none, 0⟩,
  ⟨none, .alR 15 [(.int .i64 0), (.slice none 0 0)], none, 0⟩,
  ⟨none, .stR 15 0 2 (.t 46), none, 0⟩,
  ⟨none, .mv 16 (.t 47), none, 0⟩]
def c11r8 : List SI := [
  ⟨none, .mv 49 (.t 0), none, 0⟩,
  ⟨none, .call 50 34 [(.t 49)], none, 0⟩,
  ⟨none, .mv 48 (.t 50), none, 0⟩,
  ⟨none, .ext 51 (.t 48) 0, none, 0⟩,
  ⟨none, .ext 52 (.t 48) 1, none, 0⟩,
  ⟨none, .alR 17 [(.int .i64 0), (.slice none 0 0)], none, 0⟩,
  ⟨none, .stR 17 0 2 (.t 51), none, 0⟩,
  ⟨none, .mv 18 (.t 52), none, 0⟩]
def c11r9 : List (Bool × SI) := [
  (true, ⟨none, .ldR 53 11 0 (some 2), none, 0⟩),
  (true, ⟨none, .ldR 54 13 0 (some 2), none, 0⟩),
  (false, ⟨none, .call 55 18 [(.t 53), (.t 54)], none, 0⟩),
  (true, ⟨none, .mv 56 (.t 55), none, 0⟩),
  (true, ⟨some (56, true), .mv 57 (.t 12), none, 57⟩),
  (true, ⟨some (56, true), .mv 58 (.t 14), none, 58⟩),
  (true, ⟨some (56, true), .bin 59 .eql (.t 57) (.t 58), none, 59⟩),
  (true, ⟨none, .pick 60 (.t 56) (.t 59) (.b false), none, 0⟩),
  (true, ⟨none, .mv 61 (.t 60), none, 0⟩),
  (true, ⟨some (61, true), .ldR 62 15 0 (some 2), none, 62⟩),
  (true, ⟨some (61, true), .ldR 63 17 0 (some 2), none, 63⟩),
  (false, ⟨some (61, true), .call 64 18 [(.t 62), (.t 63)], none, 64⟩),
  (true, ⟨none, .pick 65 (.t 61) (.t 64) (.b false), none, 0⟩),
  (true, ⟨none, .mv 66 (.t 65), none, 0⟩),
  (true, ⟨some (66, true), .mv 67 (.t 16), none, 67⟩),
  (true, ⟨some (66, true), .mv 68 (.t 18), none, 68⟩),
  (true, ⟨some (66, true), .bin 69 .eql (.t 67) (.t 68), none, 69⟩),
  (true, ⟨none, .pick 70 (.t 66) (.t 69) (.b false), none, 0⟩),
  (true, ⟨none, .mv 71 (.t 70), none, 0⟩),
  (true, ⟨some (71, true), .ldR 72 8 0 (some 2), none, 72⟩),
  (true, ⟨some (71, true), .mv 73 (.t 4), none, 73⟩),
  (true, ⟨some (71, true), .ldR 75 8 0 (some 2), none, 75⟩),
  (true, ⟨some (71, true), .mv 76 (.t 4), none, 76⟩),
  (false, ⟨some (71, true), .call 74 31 [(.t 72), (.t 73)], none, 74⟩),
  (false, ⟨some (71, true), .call 77 35 [(.t 75), (.t 76)], none, 77⟩),
  (false, ⟨some (71, true), .call 78 18 [(.t 74), (.t 77)], none, 78⟩),
  (true, ⟨none, .pick 79 (.t 71) (.t 78) (.b false), none, 0⟩),
  (true, ⟨none, .mv 10 (.t 79), none, 0⟩)]
def c11 : SC :=
  (.seq (.reg false c11r0)
  (.seq (.seq (.reg false c11r1)
  (.cond (.t 20)
   (.seq (.reg false c11r2)
   .ret)
   .skip))
  (.seq (.seq (.reg false c11r3)
  (.cond (.t 28)
   (.seq (.reg false c11r4)
   .ret)
   .skip))
  (.seq (.reg false c11r5)
  (.seq (.reg false c11r6)
  (.seq (.reg false c11r7)
  (.seq (.reg false c11r8)
  (.seq (.rgX c11r9)
  .ret))))))))
def v11 : List Nat × List Nat := ([8, 11, 13, 15, 17], [8, 11, 13, 15, 17])
def o11 : List RS := [.t 10]
theorem s11 : slimC Try.prog Try.f11.ntmps v11.1 v11.2 ((Try.f11.body).getD .skip) = some c11 := by kernel_rfl
theorem q11 : slimR Try.prog Try.f11.ntmps v11.1 v11.2 Try.f11.results.toList = some o11 := by kernel_rfl
-- watermeet/watermeetlaw07.live N=50
def c12r0 : List SI := [
  ⟨none, .mv 0 (.b false), none, 0⟩]
def c12r1 : List SI := [
  ⟨none, .call 8 21 [(.i 5)], none, 0⟩,
  ⟨none, .mv 7 (.t 8), none, 0⟩,
  ⟨none, .ext 9 (.t 7) 0, none, 0⟩,
  ⟨none, .ext 10 (.t 7) 1, none, 0⟩,
  ⟨none, .alR 1 [(.int .i64 0), (.slice none 0 0)], none, 0⟩,
  ⟨none, .stR 1 0 2 (.t 9), none, 0⟩,
  ⟨none, .mv 2 (.t 10), none, 0⟩]
def c12r2 : List SI := [
  ⟨none, .ldR 12 1 0 (some 2), none, 0⟩,
  ⟨none, .bld 13 [(.int .i64 0), (.int .i64 0), (.int .i64 0), (.int .i64 0), (.int .i64 0), (.int .i64 0), (.int .i64 0), (.bool false), (.int .i64 0), (.slice none 0 0)] [(0, 1, (.i 6)), (1, 1, (.i 6)), (4, 1, (.i (-1)))], none, 0⟩,
  ⟨none, .call 14 16 [(.t 12), (.t 13), (.i 100)], none, 0⟩,
  ⟨none, .mv 11 (.t 14), none, 0⟩,
  ⟨none, .ext 15 (.t 11) 0, none, 0⟩,
  ⟨none, .ext 16 (.t 11) 1, none, 0⟩,
  ⟨none, .alR 3 [(.int .i64 0), (.slice none 0 0)], none, 0⟩,
  ⟨none, .stR 3 0 2 (.t 15), none, 0⟩,
  ⟨none, .mv 4 (.t 16), none, 0⟩]
def c12r3 : List SI := [
  ⟨none, .ldR 18 3 0 (some 2), none, 0⟩,
  ⟨none, .call 19 22 [(.t 18)], none, 0⟩,
  ⟨none, .mv 17 (.t 19), none, 0⟩,
  ⟨none, .ext 20 (.t 17) 0, none, 0⟩,
  ⟨none, .ext 21 (.t 17) 1, none, 0⟩,
  ⟨none, .mv 5 (.t 20), none, 0⟩,
  ⟨none, .mv 6 (.t 21), none, 0⟩]
def c12r4 : List SI := [
  ⟨none, .mv 22 (.t 2), none, 0⟩,
  ⟨none, .bin 23 .eql (.t 22) (.i 0), none, 0⟩,
  ⟨none, .mv 24 (.t 23), none, 0⟩,
  ⟨some (24, true), .mv 25 (.t 4), none, 25⟩,
  ⟨some (24, true), .bin 26 .eql (.t 25) (.i 0), none, 26⟩,
  ⟨none, .pick 27 (.t 24) (.t 26) (.b false), none, 0⟩,
  ⟨none, .mv 28 (.t 27), none, 0⟩,
  ⟨some (28, true), .ldR 29 1 0 (some 2), none, 29⟩,
  ⟨some (28, true), .call 30 24 [(.t 29)], none, 30⟩,
  ⟨some (28, true), .bin 31 .eql (.t 30) (.i 5), none, 31⟩,
  ⟨none, .pick 32 (.t 28) (.t 31) (.b false), none, 0⟩,
  ⟨none, .mv 33 (.t 32), none, 0⟩,
  ⟨some (33, true), .ldR 34 3 0 (some 2), none, 34⟩,
  ⟨some (33, true), .call 35 24 [(.t 34)], none, 35⟩,
  ⟨some (33, true), .bin 36 .eql (.t 35) (.i 7), none, 36⟩,
  ⟨none, .pick 37 (.t 33) (.t 36) (.b false), none, 0⟩,
  ⟨none, .mv 38 (.t 37), none, 0⟩,
  ⟨some (38, true), .mv 39 (.t 5), none, 39⟩,
  ⟨some (38, true), .len 40 false (.t 39), none, 40⟩,
  ⟨some (38, true), .bin 41 .eql (.t 40) (.i 1), none, 41⟩,
  ⟨none, .pick 42 (.t 38) (.t 41) (.b false), none, 0⟩,
  ⟨none, .mv 43 (.t 42), none, 0⟩,
  ⟨some (43, true), .mv 44 (.t 5), none, 44⟩,
  ⟨some (43, true), .ixA 45 (.t 44) (.i 0) 10, none, 45⟩,
  ⟨some (43, true), .flA 46 (.t 45) 0, none, 46⟩,
  ⟨some (43, true), .ld 47 (.t 46) none, none, 47⟩,
  ⟨some (43, true), .bin 48 .eql (.t 47) (.i 6), none, 48⟩,
  ⟨none, .pick 49 (.t 43) (.t 48) (.b false), none, 0⟩,
  ⟨none, .mv 0 (.t 49), none, 0⟩]
def c12 : SC :=
  (.seq (.reg false c12r0)
  (.seq (.reg false c12r1)
  (.seq (.reg false c12r2)
  (.seq (.reg false c12r3)
  (.seq (.reg false c12r4)
  .ret)))))
def v12 : List Nat × List Nat := ([1, 3], [1, 3])
def o12 : List RS := [.t 0]
theorem s12 : slimC Try.prog Try.f12.ntmps v12.1 v12.2 ((Try.f12.body).getD .skip) = some c12 := by kernel_rfl
theorem q12 : slimR Try.prog Try.f12.ntmps v12.1 v12.2 Try.f12.results.toList = some o12 := by kernel_rfl
-- watermeet/watermeetref07.Few N=7
def c13r0 : List SI := [
  ⟨none, .bxR 1 (.t 0), none, 0⟩,
  ⟨none, .mv 2 (.b false), none, 0⟩]
def c13r1 : List SI := [
  ⟨none, .nop, (some 1), 0⟩,
  ⟨none, .ldR 4 1 1 none, none, 0⟩,
  ⟨none, .len 5 false (.t 4), none, 0⟩,
  ⟨none, .bin 6 .leq (.t 5) (.i 9000), none, 0⟩,
  ⟨none, .mv 2 (.t 6), none, 0⟩]
def c13 : SC :=
  (.seq (.reg false c13r0)
  (.seq (.reg false c13r1)
  .ret))
def v13 : List Nat × List Nat := ([1], [1, 3])
def o13 : List RS := [.t 2]
theorem s13 : slimC Try.prog Try.f13.ntmps v13.1 v13.2 ((Try.f13.body).getD .skip) = some c13 := by kernel_rfl
theorem q13 : slimR Try.prog Try.f13.ntmps v13.1 v13.2 Try.f13.results.toList = some o13 := by kernel_rfl
-- watermeet/watermeetref04.Few N=29
def c14r0 : List SI := [
  ⟨none, .bxR 1 (.t 0), none, 0⟩,
  ⟨none, .mv 2 (.b false), none, 0⟩]
def c14r1 : List SI := [
  ⟨none, .mv 3 (.i 0), none, 0⟩]
def c14r2 : List SI := [
  ⟨none, .nop, (some 1), 0⟩,
  ⟨none, .ldR 7 1 9 none, none, 0⟩,
  ⟨none, .len 8 false (.t 7), none, 0⟩,
  ⟨none, .mv 9 (.i 0), none, 0⟩]
def c14r3 : List SI := [
  ⟨none, .bin 10 .lss (.t 9) (.t 8), none, 0⟩]
def c14r4 : List SI := [
  ⟨none, .ixA 11 (.t 7) (.t 9) 5, none, 0⟩,
  ⟨none, .ld 12 (.t 11) (some 5), none, 0⟩,
  ⟨none, .alR 5 [(.int .i64 0), (.string ⟨#[]⟩), (.string ⟨#[]⟩), (.bool false), (.int .i64 0)], none, 0⟩,
  ⟨none, .stR 5 0 5 (.t 12), none, 0⟩]
def c14r5 : List SI := [
  ⟨none, .mv 13 (.t 3), none, 0⟩,
  ⟨none, .nop, (some 5), 0⟩,
  ⟨none, .ldR 15 5 1 none, none, 0⟩,
  ⟨none, .len 16 true (.t 15), none, 0⟩,
  ⟨none, .nop, (some 5), 0⟩,
  ⟨none, .ldR 18 5 2 none, none, 0⟩,
  ⟨none, .len 19 true (.t 18), none, 0⟩,
  ⟨none, .bin 20 .add (.t 16) (.t 19), none, 0⟩,
  ⟨none, .bin 21 .add (.t 13) (.t 20), none, 0⟩,
  ⟨none, .mv 3 (.t 21), none, 0⟩]
def c14r6 : List SI := [
  ⟨none, .mv 22 (.t 3), none, 0⟩,
  ⟨none, .bin 23 .gtr (.t 22) (.i 20000), none, 0⟩]
def c14r7 : List SI := [
  ⟨none, .mv 2 (.b false), none, 0⟩]
def c14r8 : List SI := [
  ⟨none, .bin 24 .add (.t 9) (.i 1), none, 0⟩,
  ⟨none, .mv 9 (.t 24), none, 0⟩]
def c14r9 : List SI := [
  ⟨none, .nop, (some 1), 0⟩,
  ⟨none, .ldR 26 1 9 none, none, 0⟩,
  ⟨none, .len 27 false (.t 26), none, 0⟩,
  ⟨none, .bin 28 .leq (.t 27) (.i 100), none, 0⟩,
  ⟨none, .mv 2 (.t 28), none, 0⟩]
def c14 : SC :=
  (.seq (.reg false c14r0)
  (.seq (.reg false c14r1)
  (.seq (.seq (.reg false c14r2)
  (.blk 0 (.loop (.seq (.reg false c14r3)
    (.seq (.cond (.t 10)
     .skip
     (.exit 0))
    (.seq (.blk 1 (.seq (.reg false c14r4)
     (.seq (.reg false c14r5)
     (.seq (.reg false c14r6)
     (.cond (.t 23)
      (.seq (.reg false c14r7)
      .ret)
      .skip)))))
    (.reg false c14r8)))))))
  (.seq (.reg false c14r9)
  .ret))))
def v14 : List Nat × List Nat := ([1, 5], [1, 5, 6, 14, 17, 25])
def o14 : List RS := [.t 2]
theorem s14 : slimC Try.prog Try.f14.ntmps v14.1 v14.2 ((Try.f14.body).getD .skip) = some c14 := by kernel_rfl
theorem q14 : slimR Try.prog Try.f14.ntmps v14.1 v14.2 Try.f14.results.toList = some o14 := by kernel_rfl
-- watermeet/watermeetref01.Copy N=5
def c15r0 : List SI := [
  ⟨none, .mv 2 (.v (.slice none 0 0)), none, 0⟩]
def c15r1 : List SI := [
  ⟨none, .mv 3 (.t 0), none, 0⟩,
  ⟨none, .app 4 (.v (.slice none 0 0)) (.t 3) 5 1 1, none, 0⟩,
  ⟨none, .mv 2 (.t 4), none, 0⟩]
def c15 : SC :=
  (.seq (.reg false c15r0)
  (.seq (.reg false c15r1)
  .ret))
def v15 : List Nat × List Nat := ([], [])
def o15 : List RS := [.t 2]
theorem s15 : slimC Try.prog Try.f15.ntmps v15.1 v15.2 ((Try.f15.body).getD .skip) = some c15 := by kernel_rfl
theorem q15 : slimR Try.prog Try.f15.ntmps v15.1 v15.2 Try.f15.results.toList = some o15 := by kernel_rfl
-- watermeet/seg.Append N=69
def c16r0 : List SI := [
  ⟨none, .bxR 3 (.t 0), none, 0⟩,
  ⟨none, .bxR 4 (.t 1), none, 0⟩,
  ⟨none, .alR 6 [(.int .i64 0), (.slice none 0 0)], none, 0⟩,
  ⟨none, .mv 7 (.i 0), none, 0⟩]
def c16r1 : List SI := [
  ⟨none, .ldR 13 3 0 (some 2), none, 0⟩,
  ⟨none, .call 14 22 [(.t 13)], none, 0⟩,
  ⟨none, .mv 12 (.t 14), none, 0⟩,
  ⟨none, .ext 15 (.t 12) 0, none, 0⟩,
  ⟨none, .ext 16 (.t 12) 1, none, 0⟩,
  ⟨none, .mv 8 (.t 15), none, 0⟩,
  ⟨none, .mv 9 (.t 16), none, 0⟩]
def c16r2 : List SI := [
  ⟨none, .mv 17 (.t 9), none, 0⟩,
  ⟨none, .nop, (some 3), 0⟩,
  ⟨none, .ldR 19 3 1 none, none, 0⟩,
  ⟨none, .len 20 false (.t 19), none, 0⟩,
  ⟨none, .bin 21 .neq (.t 17) (.t 20), none, 0⟩,
  ⟨none, .mv 22 (.t 21), none, 0⟩,
  ⟨some (22, false), .nop, (some 3), 99999⟩,
  ⟨some (22, false), .ldR 24 3 0 none, none, 24⟩,
  ⟨some (22, false), .call 25 36 [(.t 24)], none, 25⟩,
  ⟨some (22, false), .un 26 .not (.t 25), none, 26⟩,
  ⟨none, .pick 27 (.t 22) (.b true) (.t 26), none, 0⟩,
  ⟨none, .mv 28 (.t 27), none, 0⟩,
  ⟨some (28, false), .mv 29 (.t 2), none, 29⟩,
  ⟨some (28, false), .call 30 37 [(.t 29)], none, 30⟩,
  ⟨some (28, false), .un 31 .not (.t 30), none, 31⟩,
  ⟨none, .pick 32 (.t 28) (.b true) (.t 31), none, 0⟩]
def c16r3 : List SI := [
  ⟨none, .bld 33 [(.int .i64 0), (.slice none 0 0)] [], none, 0⟩,
  ⟨none, .stR 6 0 2 (.t 33), none, 0⟩,
  ⟨none, .mv 7 (.i 1), none, 0⟩]
def c16r4 : List SI := [
  ⟨none, .ldR 35 4 0 (some 10), none, 0⟩,
  ⟨none, .call 36 38 [(.t 35)], none, 0⟩,
  ⟨none, .mv 34 (.t 36), none, 0⟩,
  ⟨none, .ext 37 (.t 34) 0, none, 0⟩,
  ⟨none, .ext 38 (.t 34) 1, none, 0⟩,
  ⟨none, .mv 10 (.t 37), none, 0⟩,
  ⟨none, .mv 11 (.t 38), none, 0⟩]
def c16r5 : List SI := [
  ⟨none, .mv 40 (.t 11), none, 0⟩,
  ⟨none, .bin 41 .neq (.t 40) (.i 0), none, 0⟩,
  ⟨none, .mv 39 (.t 41), none, 0⟩]
def c16r6 : List SI := [
  ⟨none, .bld 42 [(.int .i64 0), (.slice none 0 0)] [], none, 0⟩,
  ⟨none, .mv 43 (.t 11), none, 0⟩,
  ⟨none, .stR 6 0 2 (.t 42), none, 0⟩,
  ⟨none, .mv 7 (.t 43), none, 0⟩]
def c16r7 : List (Bool × SI) := [
  (true, ⟨none, .nop, (some 4), 0⟩),
  (true, ⟨none, .ldR 46 4 0 none, none, 0⟩),
  (true, ⟨none, .ldR 47 3 0 (some 2), none, 0⟩),
  (false, ⟨none, .call 48 24 [(.t 47)], none, 0⟩),
  (true, ⟨none, .bin 49 .lss (.t 46) (.t 48), none, 0⟩),
  (true, ⟨none, .mv 44 (.t 49), none, 0⟩)]
def c16r8 : List SI := [
  ⟨none, .bld 50 [(.int .i64 0), (.slice none 0 0)] [], none, 0⟩,
  ⟨none, .stR 6 0 2 (.t 50), none, 0⟩,
  ⟨none, .mv 7 (.i 71), none, 0⟩]
def c16r9 : List SI := [
  ⟨none, .nop, (some 3), 0⟩,
  ⟨none, .ldR 53 3 1 none, none, 0⟩,
  ⟨none, .len 54 false (.t 53), none, 0⟩,
  ⟨none, .mv 55 (.t 10), none, 0⟩,
  ⟨none, .len 56 false (.t 55), none, 0⟩,
  ⟨none, .bin 57 .add (.t 54) (.t 56), none, 0⟩,
  ⟨none, .mv 58 (.t 2), none, 0⟩,
  ⟨none, .bin 59 .gtr (.t 57) (.t 58), none, 0⟩,
  ⟨none, .mv 51 (.t 59), none, 0⟩]
def c16r10 : List SI := [
  ⟨none, .bld 60 [(.int .i64 0), (.slice none 0 0)] [], none, 0⟩,
  ⟨none, .stR 6 0 2 (.t 60), none, 0⟩,
  ⟨none, .mv 7 (.i 70), none, 0⟩]
def c16r11 : List (Bool × SI) := [
  (true, ⟨none, .nop, (some 3), 0⟩),
  (true, ⟨none, .ldR 62 3 0 none, none, 0⟩),
  (true, ⟨none, .nop, (some 3), 0⟩),
  (true, ⟨none, .ldR 64 3 1 none, none, 0⟩),
  (true, ⟨none, .mv 65 (.t 10), none, 0⟩),
  (false, ⟨none, .bls 66 22 2 1 [(.slice none 0 0), (.slice none 0 0)] [(0, 1, (.t 64)), (1, 1, (.t 65))], none, 0⟩),
  (false, ⟨none, .call 67 39 [(.t 66)], none, 0⟩),
  (true, ⟨none, .bld 68 [(.int .i64 0), (.slice none 0 0)] [(0, 1, (.t 62)), (1, 1, (.t 67))], none, 0⟩)]
def c16r12 : List SI := [
  ⟨none, .stR 6 0 2 (.t 68), none, 0⟩,
  ⟨none, .mv 7 (.i 0), none, 0⟩]
def c16 : SC :=
  (.seq (.reg false c16r0)
  (.seq (.seq (.reg false c16r1)
  (.seq (.reg false c16r2)
  (.cond (.t 32)
   (.seq (.reg false c16r3)
   .ret)
   .skip)))
  (.seq (.reg false c16r4)
  (.seq (.blk 0 (.seq (.reg false c16r5)
   (.cond (.t 39)
    (.seq (.reg false c16r6)
    .ret)
    (.seq (.rgX c16r7)
    (.cond (.t 44)
     (.seq (.reg false c16r8)
     .ret)
     (.seq (.reg false c16r9)
     (.cond (.t 51)
      (.seq (.reg false c16r10)
      .ret)
      .skip)))))))
  (.seq (.rgY c16r11 c16r12)
  .ret)))))
def v16 : List Nat × List Nat := ([3, 4, 6], [3, 4, 6, 18, 23, 45, 52, 61, 63])
def o16 : List RS := [.r 6 (some 2), .t 7]
theorem s16 : slimC Try.prog Try.f16.ntmps v16.1 v16.2 ((Try.f16.body).getD .skip) = some c16 := by kernel_rfl
theorem q16 : slimR Try.prog Try.f16.ntmps v16.1 v16.2 Try.f16.results.toList = some o16 := by kernel_rfl
-- watermeet/watermeetref07.Append N=54
def c17r0 : List SI := [
  ⟨none, .bxR 3 (.t 0), none, 0⟩,
  ⟨none, .bxR 4 (.t 1), none, 0⟩,
  ⟨none, .alR 6 [(.int .i64 0), (.slice none 0 0)], none, 0⟩,
  ⟨none, .mv 7 (.i 0), none, 0⟩]
def c17r1 : List SI := [
  ⟨none, .ldR 10 3 0 (some 2), none, 0⟩,
  ⟨none, .call 11 40 [(.t 10)], none, 0⟩,
  ⟨none, .un 12 .not (.t 11), none, 0⟩,
  ⟨none, .mv 13 (.t 12), none, 0⟩,
  ⟨some (13, false), .mv 14 (.t 2), none, 14⟩,
  ⟨some (13, false), .bin 15 .lss (.t 14) (.i 1), none, 15⟩,
  ⟨none, .pick 16 (.t 13) (.b true) (.t 15), none, 0⟩,
  ⟨none, .mv 17 (.t 16), none, 0⟩,
  ⟨some (17, false), .mv 18 (.t 2), none, 18⟩,
  ⟨some (17, false), .bin 19 .gtr (.t 18) (.i 4096), none, 19⟩,
  ⟨none, .pick 20 (.t 17) (.b true) (.t 19), none, 0⟩]
def c17r2 : List SI := [
  ⟨none, .bld 21 [(.int .i64 0), (.slice none 0 0)] [], none, 0⟩,
  ⟨none, .stR 6 0 2 (.t 21), none, 0⟩,
  ⟨none, .mv 7 (.i 1), none, 0⟩]
def c17r3 : List SI := [
  ⟨none, .ldR 23 4 0 (some 10), none, 0⟩,
  ⟨none, .call 24 41 [(.t 23)], none, 0⟩,
  ⟨none, .mv 22 (.t 24), none, 0⟩,
  ⟨none, .ext 25 (.t 22) 0, none, 0⟩,
  ⟨none, .ext 26 (.t 22) 1, none, 0⟩,
  ⟨none, .mv 8 (.t 25), none, 0⟩,
  ⟨none, .mv 9 (.t 26), none, 0⟩]
def c17r4 : List SI := [
  ⟨none, .mv 27 (.t 9), none, 0⟩,
  ⟨none, .bin 28 .neq (.t 27) (.i 0), none, 0⟩]
def c17r5 : List SI := [
  ⟨none, .bld 29 [(.int .i64 0), (.slice none 0 0)] [], none, 0⟩,
  ⟨none, .mv 30 (.t 9), none, 0⟩,
  ⟨none, .stR 6 0 2 (.t 29), none, 0⟩,
  ⟨none, .mv 7 (.t 30), none, 0⟩]
def c17r6 : List (Bool × SI) := [
  (true, ⟨none, .nop, (some 4), 0⟩),
  (true, ⟨none, .ldR 32 4 0 none, none, 0⟩),
  (true, ⟨none, .ldR 33 3 0 (some 2), none, 0⟩),
  (false, ⟨none, .call 34 30 [(.t 33)], none, 0⟩),
  (true, ⟨none, .bin 35 .lss (.t 32) (.t 34), none, 0⟩)]
def c17r7 : List SI := [
  ⟨none, .bld 36 [(.int .i64 0), (.slice none 0 0)] [], none, 0⟩,
  ⟨none, .stR 6 0 2 (.t 36), none, 0⟩,
  ⟨none, .mv 7 (.i 71), none, 0⟩]
def c17r8 : List SI := [
  ⟨none, .nop, (some 3), 0⟩,
  ⟨none, .ldR 38 3 1 none, none, 0⟩,
  ⟨none, .len 39 false (.t 38), none, 0⟩,
  ⟨none, .mv 40 (.t 8), none, 0⟩,
  ⟨none, .len 41 false (.t 40), none, 0⟩,
  ⟨none, .bin 42 .add (.t 39) (.t 41), none, 0⟩,
  ⟨none, .mv 43 (.t 2), none, 0⟩,
  ⟨none, .bin 44 .gtr (.t 42) (.t 43), none, 0⟩]
def c17r9 : List SI := [
  ⟨none, .bld 45 [(.int .i64 0), (.slice none 0 0)] [], none, 0⟩,
  ⟨none, .stR 6 0 2 (.t 45), none, 0⟩,
  ⟨none, .mv 7 (.i 70), none, 0⟩]
def c17r10 : List (Bool × SI) := [
  (true, ⟨none, .nop, (some 3), 0⟩),
  (true, ⟨none, .ldR 47 3 0 none, none, 0⟩),
  (true, ⟨none, .nop, (some 3), 0⟩),
  (true, ⟨none, .ldR 49 3 1 none, none, 0⟩),
  (true, ⟨none, .mv 51 (.t 8), none, 0⟩),
  (false, ⟨none, .call 50 15 [(.t 49)], none, 0⟩),
  (false, ⟨none, .app 52 (.t 50) (.t 51) 5 1 1, none, 0⟩),
  (true, ⟨none, .bld 53 [(.int .i64 0), (.slice none 0 0)] [(0, 1, (.t 47)), (1, 1, (.t 52))], none, 0⟩)]
def c17r11 : List SI := [
  ⟨none, .stR 6 0 2 (.t 53), none, 0⟩,
  ⟨none, .mv 7 (.i 0), none, 0⟩]
def c17 : SC :=
  (.seq (.reg false c17r0)
  (.seq (.seq (.reg false c17r1)
  (.cond (.t 20)
   (.seq (.reg false c17r2)
   .ret)
   .skip))
  (.seq (.reg false c17r3)
  (.seq (.seq (.reg false c17r4)
  (.cond (.t 28)
   (.seq (.reg false c17r5)
   .ret)
   .skip))
  (.seq (.seq (.rgX c17r6)
  (.cond (.t 35)
   (.seq (.reg false c17r7)
   .ret)
   .skip))
  (.seq (.seq (.reg false c17r8)
  (.cond (.t 44)
   (.seq (.reg false c17r9)
   .ret)
   .skip))
  (.seq (.rgY c17r10 c17r11)
  .ret)))))))
def v17 : List Nat × List Nat := ([3, 4, 6], [3, 4, 6, 31, 37, 46, 48])
def o17 : List RS := [.r 6 (some 2), .t 7]
theorem s17 : slimC Try.prog Try.f17.ntmps v17.1 v17.2 ((Try.f17.body).getD .skip) = some c17 := by kernel_rfl
theorem q17 : slimR Try.prog Try.f17.ntmps v17.1 v17.2 Try.f17.results.toList = some o17 := by kernel_rfl
-- watermeet/watermeetref07.Same N=17
def c18r0 : List SI := [
  ⟨none, .bxR 2 (.t 0), none, 0⟩,
  ⟨none, .bxR 3 (.t 1), none, 0⟩,
  ⟨none, .mv 4 (.b false), none, 0⟩]
def c18r1 : List SI := [
  ⟨none, .nop, (some 2), 0⟩,
  ⟨none, .ldR 6 2 0 none, none, 0⟩,
  ⟨none, .nop, (some 3), 0⟩,
  ⟨none, .ldR 8 3 0 none, none, 0⟩,
  ⟨none, .bin 9 .eql (.t 6) (.t 8), none, 0⟩,
  ⟨none, .mv 10 (.t 9), none, 0⟩,
  ⟨some (10, true), .nop, (some 2), 99999⟩,
  ⟨some (10, true), .ldR 12 2 1 none, none, 12⟩,
  ⟨some (10, true), .nop, (some 3), 99999⟩,
  ⟨some (10, true), .ldR 14 3 1 none, none, 14⟩,
  ⟨some (10, true), .call 15 19 [(.t 12), (.t 14)], none, 15⟩,
  ⟨none, .pick 16 (.t 10) (.t 15) (.b false), none, 0⟩,
  ⟨none, .mv 4 (.t 16), none, 0⟩]
def c18 : SC :=
  (.seq (.reg false c18r0)
  (.seq (.reg false c18r1)
  .ret))
def v18 : List Nat × List Nat := ([2, 3], [2, 3, 5, 7, 11, 13])
def o18 : List RS := [.t 4]
theorem s18 : slimC Try.prog Try.f18.ntmps v18.1 v18.2 ((Try.f18.body).getD .skip) = some c18 := by kernel_rfl
theorem q18 : slimR Try.prog Try.f18.ntmps v18.1 v18.2 Try.f18.results.toList = some o18 := by kernel_rfl
-- watermeet/watermeetref01.Same N=10
def c19r0 : List SI := [
  ⟨none, .mv 4 (.b false), none, 0⟩]
def c19r1 : List SI := [
  ⟨none, .mv 5 (.t 0), none, 0⟩,
  ⟨none, .cvS 6 (.t 5), none, 0⟩,
  ⟨none, .mv 7 (.t 1), none, 0⟩,
  ⟨none, .cvS 8 (.t 7), none, 0⟩,
  ⟨none, .bin 9 .eql (.t 6) (.t 8), none, 0⟩,
  ⟨none, .mv 4 (.t 9), none, 0⟩]
def c19 : SC :=
  (.seq (.reg false c19r0)
  (.seq (.reg false c19r1)
  .ret))
def v19 : List Nat × List Nat := ([], [])
def o19 : List RS := [.t 4]
theorem s19 : slimC Try.prog Try.f19.ntmps v19.1 v19.2 ((Try.f19.body).getD .skip) = some c19 := by kernel_rfl
theorem q19 : slimR Try.prog Try.f19.ntmps v19.1 v19.2 Try.f19.results.toList = some o19 := by kernel_rfl
-- watermeet/watermeetref04.FewAll N=21
def c20r0 : List SI := [
  ⟨none, .mv 4 (.b false), none, 0⟩]
def c20r1 : List SI := [
  ⟨none, .mv 7 (.t 0), none, 0⟩,
  ⟨none, .len 8 false (.t 7), none, 0⟩,
  ⟨none, .mv 9 (.i 0), none, 0⟩]
def c20r2 : List SI := [
  ⟨none, .bin 10 .lss (.t 9) (.t 8), none, 0⟩]
def c20r3 : List SI := [
  ⟨none, .ixA 11 (.t 7) (.t 9) 10, none, 0⟩,
  ⟨none, .ld 12 (.t 11) (some 10), none, 0⟩,
  ⟨none, .alR 6 [(.int .i64 0), (.int .i64 0), (.int .i64 0), (.int .i64 0), (.int .i64 0), (.int .i64 0), (.int .i64 0), (.bool false), (.int .i64 0), (.slice none 0 0)], none, 0⟩,
  ⟨none, .stR 6 0 10 (.t 12), none, 0⟩]
def c20r4 : List SI := [
  ⟨none, .ldR 13 6 0 (some 10), none, 0⟩,
  ⟨none, .call 14 14 [(.t 13)], none, 0⟩,
  ⟨none, .un 15 .not (.t 14), none, 0⟩]
def c20r5 : List SI := [
  ⟨none, .mv 4 (.b false), none, 0⟩]
def c20r6 : List SI := [
  ⟨none, .bin 16 .add (.t 9) (.i 1), none, 0⟩,
  ⟨none, .mv 9 (.t 16), none, 0⟩]
def c20r7 : List SI := [
  ⟨none, .mv 17 (.t 0), none, 0⟩,
  ⟨none, .len 18 false (.t 17), none, 0⟩,
  ⟨none, .mv 19 (.t 1), none, 0⟩,
  ⟨none, .bin 20 .leq (.t 18) (.t 19), none, 0⟩,
  ⟨none, .mv 4 (.t 20), none, 0⟩]
def c20 : SC :=
  (.seq (.reg false c20r0)
  (.seq (.seq (.reg false c20r1)
  (.blk 0 (.loop (.seq (.reg false c20r2)
    (.seq (.cond (.t 10)
     .skip
     (.exit 0))
    (.seq (.blk 1 (.seq (.reg false c20r3)
     (.seq (.reg false c20r4)
     (.cond (.t 15)
      (.seq (.reg false c20r5)
      .ret)
      .skip))))
    (.reg false c20r6)))))))
  (.seq (.reg false c20r7)
  .ret)))
def v20 : List Nat × List Nat := ([6], [6])
def o20 : List RS := [.t 4]
theorem s20 : slimC Try.prog Try.f20.ntmps v20.1 v20.2 ((Try.f20.body).getD .skip) = some c20 := by kernel_rfl
theorem q20 : slimR Try.prog Try.f20.ntmps v20.1 v20.2 Try.f20.results.toList = some o20 := by kernel_rfl
-- watermeet/seg.New N=10
def c21r0 : List SI := [
  ⟨none, .alR 2 [(.int .i64 0), (.slice none 0 0)], none, 0⟩,
  ⟨none, .mv 3 (.i 0), none, 0⟩]
def c21r1 : List SI := [
  ⟨none, .mv 4 (.t 0), none, 0⟩,
  ⟨none, .call 5 36 [(.t 4)], none, 0⟩,
  ⟨none, .un 6 .not (.t 5), none, 0⟩]
def c21r2 : List SI := [
  ⟨none, .bld 7 [(.int .i64 0), (.slice none 0 0)] [], none, 0⟩,
  ⟨none, .stR 2 0 2 (.t 7), none, 0⟩,
  ⟨none, .mv 3 (.i 1), none, 0⟩]
def c21r3 : List SI := [
  ⟨none, .mv 8 (.t 0), none, 0⟩,
  ⟨none, .bld 9 [(.int .i64 0), (.slice none 0 0)] [(0, 1, (.t 8))], none, 0⟩,
  ⟨none, .stR 2 0 2 (.t 9), none, 0⟩,
  ⟨none, .mv 3 (.i 0), none, 0⟩]
def c21 : SC :=
  (.seq (.reg false c21r0)
  (.seq (.seq (.reg false c21r1)
  (.cond (.t 6)
   (.seq (.reg false c21r2)
   .ret)
   .skip))
  (.seq (.reg false c21r3)
  .ret)))
def v21 : List Nat × List Nat := ([2], [2])
def o21 : List RS := [.r 2 (some 2), .t 3]
theorem s21 : slimC Try.prog Try.f21.ntmps v21.1 v21.2 ((Try.f21.body).getD .skip) = some c21 := by kernel_rfl
theorem q21 : slimR Try.prog Try.f21.ntmps v21.1 v21.2 Try.f21.results.toList = some o21 := by kernel_rfl
-- watermeet/seg.Scan N=17
def c22r0 : List SI := [
  ⟨none, .bx 1 (.t 0), none, 0⟩,
  ⟨none, .al 2 [(.slice none 0 0)], none, 0⟩,
  ⟨none, .al 3 [(.int .i64 0)], none, 0⟩]
def c22r1 : List SI := [
  ⟨none, .ld 6 (.t 1) (some 2), none, 0⟩,
  ⟨none, .call 7 42 [(.t 6)], none, 0⟩]
def c22r2 : List SI := [
  ⟨none, .alR 4 [(.int .i64 0), (.int .i64 0), (.int .i64 0), (.int .i64 0), (.int .i64 0), (.int .i64 0), (.int .i64 0), (.bool false), (.int .i64 0), (.slice none 0 0)], none, 0⟩,
  ⟨none, .stR 4 0 10 (.t 8), none, 0⟩]
def c22r3 : List SI := [
  ⟨none, .mv 5 (.t 9), none, 0⟩]
def c22r4 : List SI := [
  ⟨none, .ld 10 (.t 2) none, none, 0⟩,
  ⟨none, .ldR 11 4 0 (some 10), none, 0⟩,
  ⟨none, .bls 12 27 1 10 [(.int .i64 0), (.int .i64 0), (.int .i64 0), (.int .i64 0), (.int .i64 0), (.int .i64 0), (.int .i64 0), (.bool false), (.int .i64 0), (.slice none 0 0)] [(0, 10, (.t 11))], none, 0⟩,
  ⟨none, .app 13 (.t 10) (.t 12) 27 10 96, none, 0⟩,
  ⟨none, .mv 14 (.t 5), none, 0⟩,
  ⟨none, .st (.t 2) 1 (.t 13), none, 0⟩,
  ⟨none, .st (.t 3) 1 (.t 14), none, 0⟩]
def c22r5 : List WI := [
  (true, false, ⟨none, .ld 15 (.t 2) none, none, 0⟩),
  (true, false, ⟨none, .ld 16 (.t 3) none, none, 0⟩),
  (false, false, ⟨none, .st (.t 2) 1 (.t 15), none, 0⟩),
  (false, true, ⟨none, .st (.t 3) 1 (.t 16), none, 0⟩)]
def c22 : SC :=
  (.seq (.reg false c22r0)
  (.seq (.seq (.reg false c22r1)
  (.blk 0 (.rf (.t 7) [8, 9] (.seq (.reg false c22r2)
    (.reg false c22r3))
    (.blk 1 (.reg false c22r4)))))
  (.seq (.rgW c22r5)
  .ret)))
def v22 : List Nat × List Nat := ([4], [4])
def o22 : List RS := [.c 2 none, .c 3 none]
theorem s22 : slimC Try.prog Try.f22.ntmps v22.1 v22.2 ((Try.f22.body).getD .skip) = some c22 := by kernel_rfl
theorem q22 : slimR Try.prog Try.f22.ntmps v22.1 v22.2 Try.f22.results.toList = some o22 := by kernel_rfl
-- watermeet/watermeetref04.SameAll N=27
def c24r0 : List SI := [
  ⟨none, .bx 1 (.t 0), none, 0⟩,
  ⟨none, .mv 2 (.i 0), none, 0⟩]
def c24r1 : List SI := [
  ⟨none, .flA 5 (.t 1) 0, none, 0⟩,
  ⟨none, .ld 6 (.t 5) none, none, 0⟩,
  ⟨none, .al 3 [(.int .i64 0)], none, 0⟩,
  ⟨none, .st (.t 3) 1 (.t 6), none, 0⟩]
def c24r2 : List SI := [
  ⟨none, .ld 7 (.t 1) (some 2), none, 0⟩,
  ⟨none, .call 8 42 [(.t 7)], none, 0⟩]
def c24r3 : List SI := [
  ⟨none, .alR 4 [(.int .i64 0), (.int .i64 0), (.int .i64 0), (.int .i64 0), (.int .i64 0), (.int .i64 0), (.int .i64 0), (.bool false), (.int .i64 0), (.slice none 0 0)], none, 0⟩,
  ⟨none, .stR 4 0 10 (.t 9), none, 0⟩]
def c24r4 : List SI := [
  ⟨none, .nop, (some 4), 0⟩,
  ⟨none, .ldR 12 4 1 none, none, 0⟩,
  ⟨none, .bin 13 .add (.t 12) (.i 1), none, 0⟩,
  ⟨none, .st (.t 3) 1 (.t 13), none, 0⟩]
def c24r5 : List SI := [
  ⟨none, .ld 14 (.t 3) none, none, 0⟩,
  ⟨none, .mv 2 (.t 14), none, 0⟩]
def c24 : SC :=
  (.seq (.reg false c24r0)
  (.seq (.reg false c24r1)
  (.seq (.seq (.reg false c24r2)
  (.blk 0 (.rf (.t 8) [9, 10] (.reg false c24r3)
    (.blk 1 (.reg false c24r4)))))
  (.seq (.reg false c24r5)
  .ret))))
def v24 : List Nat × List Nat := ([4], [4, 11])
def o24 : List RS := [.t 2]
theorem s24 : slimC Try.prog Try.f24.ntmps v24.1 v24.2 ((Try.f24.body).getD .skip) = some c24 := by kernel_rfl
theorem q24 : slimR Try.prog Try.f24.ntmps v24.1 v24.2 Try.f24.results.toList = some o24 := by kernel_rfl
-- watermeet/batch.Size N=12
def c26r0 : List SI := [
  ⟨none, .bxR 1 (.t 0), none, 0⟩,
  ⟨none, .mv 2 (.i 0), none, 0⟩]
def c26r1 : List SI := [
  ⟨none, .ldR 6 1 0 (some 10), none, 0⟩,
  ⟨none, .call 7 38 [(.t 6)], none, 0⟩,
  ⟨none, .mv 5 (.t 7), none, 0⟩,
  ⟨none, .ext 8 (.t 5) 0, none, 0⟩,
  ⟨none, .ext 9 (.t 5) 1, none, 0⟩,
  ⟨none, .mv 3 (.t 8), none, 0⟩,
  ⟨none, .mv 4 (.t 9), none, 0⟩]
def c26r2 : List SI := [
  ⟨none, .mv 10 (.t 4), none, 0⟩,
  ⟨none, .mv 2 (.t 10), none, 0⟩]
def c26 : SC :=
  (.seq (.reg false c26r0)
  (.seq (.reg false c26r1)
  (.seq (.reg false c26r2)
  .ret)))
def v26 : List Nat × List Nat := ([1], [1])
def o26 : List RS := [.t 2]
theorem s26 : slimC Try.prog Try.f26.ntmps v26.1 v26.2 ((Try.f26.body).getD .skip) = some c26 := by kernel_rfl
theorem q26 : slimR Try.prog Try.f26.ntmps v26.1 v26.2 Try.f26.results.toList = some o26 := by kernel_rfl
-- watermeet/watermeetref07.Scan N=50
def c27r0 : List SI := [
  ⟨none, .bxR 1 (.t 0), none, 0⟩,
  ⟨none, .mv 2 (.v (.slice none 0 0)), none, 0⟩,
  ⟨none, .mv 3 (.i 0), none, 0⟩]
def c27r1 : List SI := [
  ⟨none, .mv 4 (.v (.slice none 0 0)), none, 0⟩]
def c27r2 : List SI := [
  ⟨none, .mv 5 (.i 0), none, 0⟩]
def c27r3 : List SI := [
  ⟨none, .nop, (some 1), 0⟩,
  ⟨none, .ldR 11 1 1 none, none, 0⟩,
  ⟨none, .mv 12 (.t 5), none, 0⟩,
  ⟨none, .call 13 44 [(.t 11), (.t 12)], none, 0⟩,
  ⟨none, .mv 9 (.t 13), none, 0⟩,
  ⟨none, .ext 14 (.t 9) 0, none, 0⟩,
  ⟨none, .ext 15 (.t 9) 1, none, 0⟩,
  ⟨none, .ext 16 (.t 9) 2, none, 0⟩,
  ⟨none, .alR 6 [(.int .i64 0), (.int .i64 0), (.int .i64 0), (.int .i64 0), (.int .i64 0), (.int .i64 0), (.int .i64 0), (.bool false), (.int .i64 0), (.slice none 0 0)], none, 0⟩,
  ⟨none, .stR 6 0 10 (.t 14), none, 0⟩,
  ⟨none, .mv 7 (.t 15), none, 0⟩,
  ⟨none, .mv 8 (.t 16), none, 0⟩]
def c27r4 : List SI := [
  ⟨none, .mv 17 (.t 8), none, 0⟩,
  ⟨none, .bin 18 .neq (.t 17) (.i 0), none, 0⟩,
  ⟨none, .mv 19 (.t 18), none, 0⟩,
  ⟨some (19, false), .nop, (some 6), 99999⟩,
  ⟨some (19, false), .ldR 21 6 0 none, none, 21⟩,
  ⟨some (19, false), .nop, (some 1), 99999⟩,
  ⟨some (19, false), .ldR 23 1 0 none, none, 23⟩,
  ⟨some (19, false), .bin 24 .lss (.t 21) (.t 23), none, 24⟩,
  ⟨none, .pick 25 (.t 19) (.b true) (.t 24), none, 0⟩,
  ⟨none, .mv 26 (.t 25), none, 0⟩,
  ⟨some (26, false), .mv 27 (.t 4), none, 27⟩,
  ⟨some (26, false), .len 28 false (.t 27), none, 28⟩,
  ⟨some (26, false), .bin 29 .gtr (.t 28) (.i 0), none, 29⟩,
  ⟨some (26, false), .mv 30 (.t 29), none, 30⟩,
  ⟨some (30, true), .nop, (some 6), 99999⟩,
  ⟨some (30, true), .ldR 32 6 0 none, none, 32⟩,
  ⟨some (30, true), .mv 33 (.t 4), none, 33⟩,
  ⟨some (30, true), .mv 34 (.t 4), none, 34⟩,
  ⟨some (30, true), .len 35 false (.t 34), none, 35⟩,
  ⟨some (30, true), .bin 36 .sub (.t 35) (.i 1), none, 36⟩,
  ⟨some (30, true), .ixA 37 (.t 33) (.t 36) 10, none, 37⟩,
  ⟨some (30, true), .flA 38 (.t 37) 1, none, 38⟩,
  ⟨some (30, true), .ld 39 (.t 38) none, none, 39⟩,
  ⟨some (30, true), .bin 40 .leq (.t 32) (.t 39), none, 40⟩,
  ⟨some (26, false), .pick 41 (.t 30) (.t 40) (.b false), none, 41⟩,
  ⟨none, .pick 42 (.t 26) (.b true) (.t 41), none, 0⟩]
def c27r5 : List SI := [
  ⟨none, .mv 43 (.t 4), none, 0⟩,
  ⟨none, .mv 44 (.t 5), none, 0⟩,
  ⟨none, .mv 2 (.t 43), none, 0⟩,
  ⟨none, .mv 3 (.t 44), none, 0⟩]
def c27r6 : List SI := [
  ⟨none, .mv 45 (.t 4), none, 0⟩,
  ⟨none, .ldR 46 6 0 (some 10), none, 0⟩,
  ⟨none, .bls 47 27 1 10 [(.int .i64 0), (.int .i64 0), (.int .i64 0), (.int .i64 0), (.int .i64 0), (.int .i64 0), (.int .i64 0), (.bool false), (.int .i64 0), (.slice none 0 0)] [(0, 10, (.t 46))], none, 0⟩,
  ⟨none, .app 48 (.t 45) (.t 47) 27 10 96, none, 0⟩,
  ⟨none, .mv 4 (.t 48), none, 0⟩]
def c27r7 : List SI := [
  ⟨none, .mv 49 (.t 7), none, 0⟩,
  ⟨none, .mv 5 (.t 49), none, 0⟩]
def c27 : SC :=
  (.seq (.reg false c27r0)
  (.seq (.reg false c27r1)
  (.seq (.reg false c27r2)
  (.blk 0 (.loop (.blk 1 (.seq (.reg false c27r3)
     (.seq (.seq (.reg true c27r4)
     (.cond (.t 42)
      (.seq (.reg false c27r5)
      .ret)
      .skip))
     (.seq (.reg false c27r6)
     (.reg false c27r7))))))))))
def v27 : List Nat × List Nat := ([1, 6], [1, 6, 10, 20, 22, 31])
def o27 : List RS := [.t 2, .t 3]
theorem s27 : slimC Try.prog Try.f27.ntmps v27.1 v27.2 ((Try.f27.body).getD .skip) = some c27 := by kernel_rfl
theorem q27 : slimR Try.prog Try.f27.ntmps v27.1 v27.2 Try.f27.results.toList = some o27 := by kernel_rfl
-- watermeet/seg.Fix N=19
def c30r0 : List SI := [
  ⟨none, .bxR 1 (.t 0), none, 0⟩,
  ⟨none, .mv 2 (.i 0), none, 0⟩]
def c30r1 : List SI := [
  ⟨none, .ldR 6 1 0 (some 2), none, 0⟩,
  ⟨none, .call 7 27 [(.t 6)], none, 0⟩,
  ⟨none, .mv 5 (.t 7), none, 0⟩,
  ⟨none, .ext 8 (.t 5) 0, none, 0⟩,
  ⟨none, .ext 9 (.t 5) 1, none, 0⟩,
  ⟨none, .mv 3 (.t 8), none, 0⟩,
  ⟨none, .mv 4 (.t 9), none, 0⟩]
def c30r2 : List SI := [
  ⟨none, .mv 10 (.t 3), none, 0⟩,
  ⟨none, .len 11 false (.t 10), none, 0⟩,
  ⟨none, .bin 12 .eql (.t 11) (.i 0), none, 0⟩]
def c30r3 : List SI := [
  ⟨none, .nop, (some 1), 0⟩,
  ⟨none, .ldR 14 1 0 none, none, 0⟩,
  ⟨none, .mv 2 (.t 14), none, 0⟩]
def c30r4 : List SI := [
  ⟨none, .mv 15 (.t 3), none, 0⟩,
  ⟨none, .mv 16 (.t 3), none, 0⟩,
  ⟨none, .len 17 false (.t 16), none, 0⟩,
  ⟨none, .bin 18 .sub (.t 17) (.i 1), none, 0⟩,
  ⟨none, .ixA 19 (.t 15) (.t 18) 10, none, 0⟩,
  ⟨none, .flA 20 (.t 19) 1, none, 0⟩,
  ⟨none, .ld 21 (.t 20) none, none, 0⟩,
  ⟨none, .bin 22 .add (.t 21) (.i 1), none, 0⟩,
  ⟨none, .mv 2 (.t 22), none, 0⟩]
def c30 : SC :=
  (.seq (.reg false c30r0)
  (.seq (.reg false c30r1)
  (.seq (.seq (.reg false c30r2)
  (.cond (.t 12)
   (.seq (.reg false c30r3)
   .ret)
   .skip))
  (.seq (.reg false c30r4)
  .ret))))
def v30 : List Nat × List Nat := ([1], [1, 13])
def o30 : List RS := [.t 2]
theorem s30 : slimC Try.prog Try.f30.ntmps v30.1 v30.2 ((Try.f30.body).getD .skip) = some c30 := by kernel_rfl
theorem q30 : slimR Try.prog Try.f30.ntmps v30.1 v30.2 Try.f30.results.toList = some o30 := by kernel_rfl
-- watermeet/seg.Cut N=20
def c31r0 : List SI := [
  ⟨none, .bx 2 (.t 0), none, 0⟩,
  ⟨none, .bx 3 (.t 1), none, 0⟩,
  ⟨none, .al 4 [(.int .i64 0), (.slice none 0 0)], none, 0⟩]
def c31r1 : List SI := [
  ⟨none, .al 5 [(.int .i64 0)], none, 0⟩,
  ⟨none, .st (.t 5) 1 (.i 0), none, 0⟩]
def c31r2 : List SI := [
  ⟨none, .ld 8 (.t 2) (some 2), none, 0⟩,
  ⟨none, .call 9 42 [(.t 8)], none, 0⟩]
def c31r3 : List SI := [
  ⟨none, .alR 6 [(.int .i64 0), (.int .i64 0), (.int .i64 0), (.int .i64 0), (.int .i64 0), (.int .i64 0), (.int .i64 0), (.bool false), (.int .i64 0), (.slice none 0 0)], none, 0⟩,
  ⟨none, .stR 6 0 10 (.t 10), none, 0⟩]
def c31r4 : List SI := [
  ⟨none, .mv 7 (.t 11), none, 0⟩]
def c31r5 : List SI := [
  ⟨none, .nop, (some 6), 0⟩,
  ⟨none, .ldR 13 6 1 none, none, 0⟩,
  ⟨none, .ld 14 (.t 3) none, none, 0⟩,
  ⟨none, .bin 15 .geq (.t 13) (.t 14), none, 0⟩]
def c31r6 : List SI := [
  ⟨none, .mv 16 (.t 7), none, 0⟩,
  ⟨none, .st (.t 5) 1 (.t 16), none, 0⟩]
def c31r7 : List SI := [
  ⟨none, .ld 17 (.t 2) (some 2), none, 0⟩,
  ⟨none, .ld 18 (.t 5) none, none, 0⟩,
  ⟨none, .call 19 45 [(.t 17), (.t 18)], none, 0⟩,
  ⟨none, .st (.t 4) 2 (.t 19), none, 0⟩]
def c31 : SC :=
  (.seq (.reg false c31r0)
  (.seq (.reg false c31r1)
  (.seq (.seq (.reg false c31r2)
  (.blk 0 (.rf (.t 9) [10, 11] (.seq (.reg false c31r3)
    (.reg false c31r4))
    (.blk 1 (.seq (.seq (.reg false c31r5)
     (.cond (.t 15)
      (.exit 0)
      .skip))
     (.reg false c31r6))))))
  (.seq (.reg false c31r7)
  .ret))))
def v31 : List Nat × List Nat := ([6], [6, 12])
def o31 : List RS := [.c 4 (some 2)]
theorem s31 : slimC Try.prog Try.f31.ntmps v31.1 v31.2 ((Try.f31.body).getD .skip) = some c31 := by kernel_rfl
theorem q31 : slimR Try.prog Try.f31.ntmps v31.1 v31.2 Try.f31.results.toList = some o31 := by kernel_rfl
-- watermeet/seg.Of N=44
def c32r0 : List SI := [
  ⟨none, .alR 6 [(.int .i64 0), (.slice none 0 0)], none, 0⟩,
  ⟨none, .mv 7 (.i 0), none, 0⟩]
def c32r1 : List SI := [
  ⟨none, .mv 13 (.t 0), none, 0⟩,
  ⟨none, .call 14 21 [(.t 13)], none, 0⟩,
  ⟨none, .mv 12 (.t 14), none, 0⟩,
  ⟨none, .ext 15 (.t 12) 0, none, 0⟩,
  ⟨none, .ext 16 (.t 12) 1, none, 0⟩,
  ⟨none, .alR 8 [(.int .i64 0), (.slice none 0 0)], none, 0⟩,
  ⟨none, .stR 8 0 2 (.t 15), none, 0⟩,
  ⟨none, .mv 9 (.t 16), none, 0⟩]
def c32r2 : List SI := [
  ⟨none, .mv 17 (.t 9), none, 0⟩,
  ⟨none, .bin 18 .neq (.t 17) (.i 0), none, 0⟩,
  ⟨none, .mv 19 (.t 18), none, 0⟩,
  ⟨some (19, false), .mv 20 (.t 2), none, 20⟩,
  ⟨some (19, false), .call 21 37 [(.t 20)], none, 21⟩,
  ⟨some (19, false), .un 22 .not (.t 21), none, 22⟩,
  ⟨none, .pick 23 (.t 19) (.b true) (.t 22), none, 0⟩]
def c32r3 : List SI := [
  ⟨none, .bld 24 [(.int .i64 0), (.slice none 0 0)] [], none, 0⟩,
  ⟨none, .stR 6 0 2 (.t 24), none, 0⟩,
  ⟨none, .mv 7 (.i 1), none, 0⟩]
def c32r4 : List SI := [
  ⟨none, .mv 25 (.t 1), none, 0⟩,
  ⟨none, .len 26 false (.t 25), none, 0⟩,
  ⟨none, .mv 27 (.i 0), none, 0⟩]
def c32r5 : List SI := [
  ⟨none, .bin 28 .lss (.t 27) (.t 26), none, 0⟩]
def c32r6 : List SI := [
  ⟨none, .ixA 29 (.t 25) (.t 27) 10, none, 0⟩,
  ⟨none, .ld 30 (.t 29) (some 10), none, 0⟩,
  ⟨none, .alR 11 [(.int .i64 0), (.int .i64 0), (.int .i64 0), (.int .i64 0), (.int .i64 0), (.int .i64 0), (.int .i64 0), (.bool false), (.int .i64 0), (.slice none 0 0)], none, 0⟩,
  ⟨none, .stR 11 0 10 (.t 30), none, 0⟩]
def c32r7 : List SI := [
  ⟨none, .ldR 32 8 0 (some 2), none, 0⟩,
  ⟨none, .ldR 33 11 0 (some 10), none, 0⟩,
  ⟨none, .mv 34 (.t 2), none, 0⟩,
  ⟨none, .call 35 16 [(.t 32), (.t 33), (.t 34)], none, 0⟩,
  ⟨none, .mv 31 (.t 35), none, 0⟩,
  ⟨none, .ext 36 (.t 31) 0, none, 0⟩,
  ⟨none, .ext 37 (.t 31) 1, none, 0⟩,
  ⟨none, .stR 8 0 2 (.t 36), none, 0⟩,
  ⟨none, .mv 9 (.t 37), none, 0⟩]
def c32r8 : List SI := [
  ⟨none, .mv 38 (.t 9), none, 0⟩,
  ⟨none, .bin 39 .neq (.t 38) (.i 0), none, 0⟩]
def c32r9 : List SI := [
  ⟨none, .bld 40 [(.int .i64 0), (.slice none 0 0)] [], none, 0⟩,
  ⟨none, .mv 41 (.t 9), none, 0⟩,
  ⟨none, .stR 6 0 2 (.t 40), none, 0⟩,
  ⟨none, .mv 7 (.t 41), none, 0⟩]
def c32r10 : List SI := [
  ⟨none, .bin 42 .add (.t 27) (.i 1), none, 0⟩,
  ⟨none, .mv 27 (.t 42), none, 0⟩]
def c32r11 : List SI := [
  ⟨none, .ldR 43 8 0 (some 2), none, 0⟩,
  ⟨none, .stR 6 0 2 (.t 43), none, 0⟩,
  ⟨none, .mv 7 (.i 0), none, 0⟩]
def c32 : SC :=
  (.seq (.reg false c32r0)
  (.seq (.reg false c32r1)
  (.seq (.seq (.reg false c32r2)
  (.cond (.t 23)
   (.seq (.reg false c32r3)
   .ret)
   .skip))
  (.seq (.seq (.reg false c32r4)
  (.blk 0 (.loop (.seq (.reg false c32r5)
    (.seq (.cond (.t 28)
     .skip
     (.exit 0))
    (.seq (.blk 1 (.seq (.reg false c32r6)
     (.seq (.reg false c32r7)
     (.seq (.reg false c32r8)
     (.cond (.t 39)
      (.seq (.reg false c32r9)
      .ret)
      .skip)))))
    (.reg false c32r10)))))))
  (.seq (.reg false c32r11)
  .ret)))))
def v32 : List Nat × List Nat := ([6, 8, 11], [6, 8, 11])
def o32 : List RS := [.r 6 (some 2), .t 7]
theorem s32 : slimC Try.prog Try.f32.ntmps v32.1 v32.2 ((Try.f32.body).getD .skip) = some c32 := by kernel_rfl
theorem q32 : slimR Try.prog Try.f32.ntmps v32.1 v32.2 Try.f32.results.toList = some o32 := by kernel_rfl
-- watermeet/watermeetref07.Of N=47
def c33r0 : List SI := [
  ⟨none, .alR 6 [(.int .i64 0), (.slice none 0 0)], none, 0⟩,
  ⟨none, .mv 7 (.i 0), none, 0⟩]
def c33r1 : List SI := [
  ⟨none, .mv 13 (.t 0), none, 0⟩,
  ⟨none, .call 14 34 [(.t 13)], none, 0⟩,
  ⟨none, .mv 12 (.t 14), none, 0⟩,
  ⟨none, .ext 15 (.t 12) 0, none, 0⟩,
  ⟨none, .ext 16 (.t 12) 1, none, 0⟩,
  ⟨none, .alR 8 [(.int .i64 0), (.slice none 0 0)], none, 0⟩,
  ⟨none, .stR 8 0 2 (.t 15), none, 0⟩,
  ⟨none, .mv 9 (.t 16), none, 0⟩]
def c33r2 : List SI := [
  ⟨none, .mv 17 (.t 9), none, 0⟩,
  ⟨none, .bin 18 .neq (.t 17) (.i 0), none, 0⟩,
  ⟨none, .mv 19 (.t 18), none, 0⟩,
  ⟨some (19, false), .mv 20 (.t 2), none, 20⟩,
  ⟨some (19, false), .bin 21 .lss (.t 20) (.i 1), none, 21⟩,
  ⟨none, .pick 22 (.t 19) (.b true) (.t 21), none, 0⟩,
  ⟨none, .mv 23 (.t 22), none, 0⟩,
  ⟨some (23, false), .mv 24 (.t 2), none, 24⟩,
  ⟨some (23, false), .bin 25 .gtr (.t 24) (.i 4096), none, 25⟩,
  ⟨none, .pick 26 (.t 23) (.b true) (.t 25), none, 0⟩]
def c33r3 : List SI := [
  ⟨none, .bld 27 [(.int .i64 0), (.slice none 0 0)] [], none, 0⟩,
  ⟨none, .stR 6 0 2 (.t 27), none, 0⟩,
  ⟨none, .mv 7 (.i 1), none, 0⟩]
def c33r4 : List SI := [
  ⟨none, .mv 28 (.t 1), none, 0⟩,
  ⟨none, .len 29 false (.t 28), none, 0⟩,
  ⟨none, .mv 30 (.i 0), none, 0⟩]
def c33r5 : List SI := [
  ⟨none, .bin 31 .lss (.t 30) (.t 29), none, 0⟩]
def c33r6 : List SI := [
  ⟨none, .ixA 32 (.t 28) (.t 30) 10, none, 0⟩,
  ⟨none, .ld 33 (.t 32) (some 10), none, 0⟩,
  ⟨none, .alR 11 [(.int .i64 0), (.int .i64 0), (.int .i64 0), (.int .i64 0), (.int .i64 0), (.int .i64 0), (.int .i64 0), (.bool false), (.int .i64 0), (.slice none 0 0)], none, 0⟩,
  ⟨none, .stR 11 0 10 (.t 33), none, 0⟩]
def c33r7 : List SI := [
  ⟨none, .ldR 35 8 0 (some 2), none, 0⟩,
  ⟨none, .ldR 36 11 0 (some 10), none, 0⟩,
  ⟨none, .mv 37 (.t 2), none, 0⟩,
  ⟨none, .call 38 17 [(.t 35), (.t 36), (.t 37)], none, 0⟩,
  ⟨none, .mv 34 (.t 38), none, 0⟩,
  ⟨none, .ext 39 (.t 34) 0, none, 0⟩,
  ⟨none, .ext 40 (.t 34) 1, none, 0⟩,
  ⟨none, .stR 8 0 2 (.t 39), none, 0⟩,
  ⟨none, .mv 9 (.t 40), none, 0⟩]
def c33r8 : List SI := [
  ⟨none, .mv 41 (.t 9), none, 0⟩,
  ⟨none, .bin 42 .neq (.t 41) (.i 0), none, 0⟩]
def c33r9 : List SI := [
  ⟨none, .bld 43 [(.int .i64 0), (.slice none 0 0)] [], none, 0⟩,
  ⟨none, .mv 44 (.t 9), none, 0⟩,
  ⟨none, .stR 6 0 2 (.t 43), none, 0⟩,
  ⟨none, .mv 7 (.t 44), none, 0⟩]
def c33r10 : List SI := [
  ⟨none, .bin 45 .add (.t 30) (.i 1), none, 0⟩,
  ⟨none, .mv 30 (.t 45), none, 0⟩]
def c33r11 : List SI := [
  ⟨none, .ldR 46 8 0 (some 2), none, 0⟩,
  ⟨none, .stR 6 0 2 (.t 46), none, 0⟩,
  ⟨none, .mv 7 (.i 0), none, 0⟩]
def c33 : SC :=
  (.seq (.reg false c33r0)
  (.seq (.reg false c33r1)
  (.seq (.seq (.reg false c33r2)
  (.cond (.t 26)
   (.seq (.reg false c33r3)
   .ret)
   .skip))
  (.seq (.seq (.reg false c33r4)
  (.blk 0 (.loop (.seq (.reg false c33r5)
    (.seq (.cond (.t 31)
     .skip
     (.exit 0))
    (.seq (.blk 1 (.seq (.reg false c33r6)
     (.seq (.reg false c33r7)
     (.seq (.reg false c33r8)
     (.cond (.t 42)
      (.seq (.reg false c33r9)
      .ret)
      .skip)))))
    (.reg false c33r10)))))))
  (.seq (.reg false c33r11)
  .ret)))))
def v33 : List Nat × List Nat := ([6, 8, 11], [6, 8, 11])
def o33 : List RS := [.r 6 (some 2), .t 7]
theorem s33 : slimC Try.prog Try.f33.ntmps v33.1 v33.2 ((Try.f33.body).getD .skip) = some c33 := by kernel_rfl
theorem q33 : slimR Try.prog Try.f33.ntmps v33.1 v33.2 Try.f33.results.toList = some o33 := by kernel_rfl
-- watermeet/watermeetref07.New N=13
def c34r0 : List SI := [
  ⟨none, .alR 2 [(.int .i64 0), (.slice none 0 0)], none, 0⟩,
  ⟨none, .mv 3 (.i 0), none, 0⟩]
def c34r1 : List SI := [
  ⟨none, .mv 4 (.t 0), none, 0⟩,
  ⟨none, .bin 5 .lss (.t 4) (.i 0), none, 0⟩,
  ⟨none, .mv 6 (.t 5), none, 0⟩,
  ⟨some (6, false), .mv 7 (.t 0), none, 7⟩,
  ⟨some (6, false), .bin 8 .gtr (.t 7) (.i 1099511627776), none, 8⟩,
  ⟨none, .pick 9 (.t 6) (.b true) (.t 8), none, 0⟩]
def c34r2 : List SI := [
  ⟨none, .bld 10 [(.int .i64 0), (.slice none 0 0)] [], none, 0⟩,
  ⟨none, .stR 2 0 2 (.t 10), none, 0⟩,
  ⟨none, .mv 3 (.i 1), none, 0⟩]
def c34r3 : List SI := [
  ⟨none, .mv 11 (.t 0), none, 0⟩,
  ⟨none, .bld 12 [(.int .i64 0), (.slice none 0 0)] [(0, 1, (.t 11))], none, 0⟩,
  ⟨none, .stR 2 0 2 (.t 12), none, 0⟩,
  ⟨none, .mv 3 (.i 0), none, 0⟩]
def c34 : SC :=
  (.seq (.reg false c34r0)
  (.seq (.seq (.reg false c34r1)
  (.cond (.t 9)
   (.seq (.reg false c34r2)
   .ret)
   .skip))
  (.seq (.reg false c34r3)
  .ret)))
def v34 : List Nat × List Nat := ([2], [2])
def o34 : List RS := [.r 2 (some 2), .t 3]
theorem s34 : slimC Try.prog Try.f34.ntmps v34.1 v34.2 ((Try.f34.body).getD .skip) = some c34 := by kernel_rfl
theorem q34 : slimR Try.prog Try.f34.ntmps v34.1 v34.2 Try.f34.results.toList = some o34 := by kernel_rfl
-- watermeet/watermeetref07.Cut N=38
def c35r0 : List SI := [
  ⟨none, .bxR 2 (.t 0), none, 0⟩,
  ⟨none, .alR 4 [(.int .i64 0), (.slice none 0 0)], none, 0⟩]
def c35r1 : List SI := [
  ⟨none, .ldR 11 2 0 (some 2), none, 0⟩,
  ⟨none, .call 12 27 [(.t 11)], none, 0⟩,
  ⟨none, .mv 10 (.t 12), none, 0⟩,
  ⟨none, .ext 13 (.t 10) 0, none, 0⟩,
  ⟨none, .ext 14 (.t 10) 1, none, 0⟩,
  ⟨none, .mv 5 (.t 13), none, 0⟩,
  ⟨none, .mv 6 (.t 14), none, 0⟩]
def c35r2 : List SI := [
  ⟨none, .mv 7 (.i 0), none, 0⟩]
def c35r3 : List SI := [
  ⟨none, .mv 15 (.t 5), none, 0⟩,
  ⟨none, .len 16 false (.t 15), none, 0⟩,
  ⟨none, .mv 17 (.i 0), none, 0⟩]
def c35r4 : List SI := [
  ⟨none, .bin 18 .lss (.t 17) (.t 16), none, 0⟩]
def c35r5 : List SI := [
  ⟨none, .ixA 19 (.t 15) (.t 17) 10, none, 0⟩,
  ⟨none, .ld 20 (.t 19) (some 10), none, 0⟩,
  ⟨none, .alR 9 [(.int .i64 0), (.int .i64 0), (.int .i64 0), (.int .i64 0), (.int .i64 0), (.int .i64 0), (.int .i64 0), (.bool false), (.int .i64 0), (.slice none 0 0)], none, 0⟩,
  ⟨none, .stR 9 0 10 (.t 20), none, 0⟩]
def c35r6 : List SI := [
  ⟨none, .nop, (some 9), 0⟩,
  ⟨none, .ldR 22 9 1 none, none, 0⟩,
  ⟨none, .mv 23 (.t 1), none, 0⟩,
  ⟨none, .bin 24 .geq (.t 22) (.t 23), none, 0⟩]
def c35r7 : List SI := [
  ⟨none, .mv 25 (.t 7), none, 0⟩,
  ⟨none, .ldR 26 9 0 (some 10), none, 0⟩,
  ⟨none, .call 27 46 [(.t 26)], none, 0⟩,
  ⟨none, .bin 28 .add (.t 25) (.t 27), none, 0⟩,
  ⟨none, .mv 7 (.t 28), none, 0⟩]
def c35r8 : List SI := [
  ⟨none, .bin 29 .add (.t 17) (.i 1), none, 0⟩,
  ⟨none, .mv 17 (.t 29), none, 0⟩]
def c35r9 : List (Bool × SI) := [
  (true, ⟨none, .nop, (some 2), 0⟩),
  (true, ⟨none, .ldR 31 2 0 none, none, 0⟩),
  (true, ⟨none, .nop, (some 2), 0⟩),
  (true, ⟨none, .ldR 33 2 1 none, none, 0⟩),
  (true, ⟨none, .mv 34 (.t 7), none, 0⟩),
  (true, ⟨none, .sl 35 (.t 33) none (some (.t 34)) none 1, none, 0⟩),
  (false, ⟨none, .call 36 15 [(.t 35)], none, 0⟩),
  (true, ⟨none, .bld 37 [(.int .i64 0), (.slice none 0 0)] [(0, 1, (.t 31)), (1, 1, (.t 36))], none, 0⟩)]
def c35r10 : List SI := [
  ⟨none, .stR 4 0 2 (.t 37), none, 0⟩]
def c35 : SC :=
  (.seq (.reg false c35r0)
  (.seq (.reg false c35r1)
  (.seq (.reg false c35r2)
  (.seq (.seq (.reg false c35r3)
  (.blk 0 (.loop (.seq (.reg false c35r4)
    (.seq (.cond (.t 18)
     .skip
     (.exit 0))
    (.seq (.blk 1 (.seq (.reg false c35r5)
     (.seq (.seq (.reg false c35r6)
     (.cond (.t 24)
      (.exit 0)
      .skip))
     (.reg false c35r7))))
    (.reg false c35r8)))))))
  (.seq (.rgY c35r9 c35r10)
  .ret)))))
def v35 : List Nat × List Nat := ([2, 4, 9], [2, 4, 9, 21, 30, 32])
def o35 : List RS := [.r 4 (some 2)]
theorem s35 : slimC Try.prog Try.f35.ntmps v35.1 v35.2 ((Try.f35.body).getD .skip) = some c35 := by kernel_rfl
theorem q35 : slimR Try.prog Try.f35.ntmps v35.1 v35.2 Try.f35.results.toList = some o35 := by kernel_rfl
-- watermeet/seg.based N=9
def c36r0 : List SI := [
  ⟨none, .mv 2 (.b false), none, 0⟩]
def c36r1 : List SI := [
  ⟨none, .mv 3 (.t 0), none, 0⟩,
  ⟨none, .bin 4 .geq (.t 3) (.i 0), none, 0⟩,
  ⟨none, .mv 5 (.t 4), none, 0⟩,
  ⟨some (5, true), .mv 6 (.t 0), none, 6⟩,
  ⟨some (5, true), .bin 7 .leq (.t 6) (.i 1099511627776), none, 7⟩,
  ⟨none, .pick 8 (.t 5) (.t 7) (.b false), none, 0⟩,
  ⟨none, .mv 2 (.t 8), none, 0⟩]
def c36 : SC :=
  (.seq (.reg false c36r0)
  (.seq (.reg false c36r1)
  .ret))
def v36 : List Nat × List Nat := ([], [])
def o36 : List RS := [.t 2]
theorem s36 : slimC Try.prog Try.f36.ntmps v36.1 v36.2 ((Try.f36.body).getD .skip) = some c36 := by kernel_rfl
theorem q36 : slimR Try.prog Try.f36.ntmps v36.1 v36.2 Try.f36.results.toList = some o36 := by kernel_rfl
-- watermeet/seg.limited N=9
def c37r0 : List SI := [
  ⟨none, .mv 2 (.b false), none, 0⟩]
def c37r1 : List SI := [
  ⟨none, .mv 3 (.t 0), none, 0⟩,
  ⟨none, .bin 4 .geq (.t 3) (.i 1), none, 0⟩,
  ⟨none, .mv 5 (.t 4), none, 0⟩,
  ⟨some (5, true), .mv 6 (.t 0), none, 6⟩,
  ⟨some (5, true), .bin 7 .leq (.t 6) (.i 4096), none, 7⟩,
  ⟨none, .pick 8 (.t 5) (.t 7) (.b false), none, 0⟩,
  ⟨none, .mv 2 (.t 8), none, 0⟩]
def c37 : SC :=
  (.seq (.reg false c37r0)
  (.seq (.reg false c37r1)
  .ret))
def v37 : List Nat × List Nat := ([], [])
def o37 : List RS := [.t 2]
theorem s37 : slimC Try.prog Try.f37.ntmps v37.1 v37.2 ((Try.f37.body).getD .skip) = some c37 := by kernel_rfl
theorem q37 : slimR Try.prog Try.f37.ntmps v37.1 v37.2 Try.f37.results.toList = some o37 := by kernel_rfl
-- watermeet/batch.Put N=14
def c38r0 : List SI := [
  ⟨none, .bxR 1 (.t 0), none, 0⟩,
  ⟨none, .mv 2 (.v (.slice none 0 0)), none, 0⟩,
  ⟨none, .mv 3 (.i 0), none, 0⟩]
def c38r1 : List SI := [
  ⟨none, .ldR 5 1 0 (some 10), none, 0⟩,
  ⟨none, .call 6 47 [(.t 5)], none, 0⟩,
  ⟨none, .un 7 .not (.t 6), none, 0⟩]
def c38r2 : List SI := [
  ⟨none, .mv 2 (.v (.slice none 0 0)), none, 0⟩,
  ⟨none, .mv 3 (.i 1), none, 0⟩]
def c38r3 : List SI := [
  ⟨none, .ldR 8 1 0 (some 10), none, 0⟩,
  ⟨none, .call 9 48 [(.t 8)], none, 0⟩,
  ⟨none, .mv 4 (.t 9), none, 0⟩]
def c38r4 : List SI := [
  ⟨none, .mv 10 (.t 4), none, 0⟩,
  ⟨none, .len 11 false (.t 10), none, 0⟩,
  ⟨none, .bin 12 .gtr (.t 11) (.i 2048), none, 0⟩]
def c38r5 : List SI := [
  ⟨none, .mv 2 (.v (.slice none 0 0)), none, 0⟩,
  ⟨none, .mv 3 (.i 2), none, 0⟩]
def c38r6 : List SI := [
  ⟨none, .mv 13 (.t 4), none, 0⟩,
  ⟨none, .mv 2 (.t 13), none, 0⟩,
  ⟨none, .mv 3 (.i 0), none, 0⟩]
def c38 : SC :=
  (.seq (.reg false c38r0)
  (.seq (.seq (.reg false c38r1)
  (.cond (.t 7)
   (.seq (.reg false c38r2)
   .ret)
   .skip))
  (.seq (.reg false c38r3)
  (.seq (.seq (.reg false c38r4)
  (.cond (.t 12)
   (.seq (.reg false c38r5)
   .ret)
   .skip))
  (.seq (.reg false c38r6)
  .ret)))))
def v38 : List Nat × List Nat := ([1], [1])
def o38 : List RS := [.t 2, .t 3]
theorem s38 : slimC Try.prog Try.f38.ntmps v38.1 v38.2 ((Try.f38.body).getD .skip) = some c38 := by kernel_rfl
theorem q38 : slimR Try.prog Try.f38.ntmps v38.1 v38.2 Try.f38.results.toList = some o38 := by kernel_rfl
-- slices.Concat[[]byte,byte] N=36
def c39r0 : List SI := [
  ⟨none, .mv 2 (.v (.slice none 0 0)), none, 0⟩]
def c39r1 : List SI := [
  ⟨none, .mv 3 (.i 0), none, 0⟩]
def c39r2 : List SI := [
  ⟨none, .mv 9 (.t 0), none, 0⟩,
  ⟨none, .len 10 false (.t 9), none, 0⟩,
  ⟨none, .mv 11 (.i 0), none, 0⟩]
def c39r3 : List SI := [
  ⟨none, .bin 12 .lss (.t 11) (.t 10), none, 0⟩]
def c39r4 : List SI := [
  ⟨none, .ixA 13 (.t 9) (.t 11) 1, none, 0⟩,
  ⟨none, .ld 14 (.t 13) none, none, 0⟩,
  ⟨none, .mv 5 (.t 14), none, 0⟩]
def c39r5 : List SI := [
  ⟨none, .mv 15 (.t 3), none, 0⟩,
  ⟨none, .mv 16 (.t 5), none, 0⟩,
  ⟨none, .len 17 false (.t 16), none, 0⟩,
  ⟨none, .bin 18 .add (.t 15) (.t 17), none, 0⟩,
  ⟨none, .mv 3 (.t 18), none, 0⟩]
def c39r6 : List SI := [
  ⟨none, .mv 19 (.t 3), none, 0⟩,
  ⟨none, .bin 20 .lss (.t 19) (.i 0), none, 0⟩]
def c39r7 : List SI := [
  ⟨none, .bin 22 .add (.t 11) (.i 1), none, 0⟩,
  ⟨none, .mv 11 (.t 22), none, 0⟩]
def c39r8 : List SI := [
  ⟨none, .mv 23 (.t 3), none, 0⟩,
  ⟨none, .call 24 49 [(.v (.slice none 0 0)), (.t 23)], none, 0⟩,
  ⟨none, .mv 6 (.t 24), none, 0⟩]
def c39r9 : List SI := [
  ⟨none, .mv 25 (.t 0), none, 0⟩,
  ⟨none, .len 26 false (.t 25), none, 0⟩,
  ⟨none, .mv 27 (.i 0), none, 0⟩]
def c39r10 : List SI := [
  ⟨none, .bin 28 .lss (.t 27) (.t 26), none, 0⟩]
def c39r11 : List SI := [
  ⟨none, .ixA 29 (.t 25) (.t 27) 1, none, 0⟩,
  ⟨none, .ld 30 (.t 29) none, none, 0⟩,
  ⟨none, .mv 8 (.t 30), none, 0⟩]
def c39r12 : List SI := [
  ⟨none, .mv 31 (.t 6), none, 0⟩,
  ⟨none, .mv 32 (.t 8), none, 0⟩,
  ⟨none, .app 33 (.t 31) (.t 32) 5 1 1, none, 0⟩,
  ⟨none, .mv 6 (.t 33), none, 0⟩]
def c39r13 : List SI := [
  ⟨none, .bin 34 .add (.t 27) (.i 1), none, 0⟩,
  ⟨none, .mv 27 (.t 34), none, 0⟩]
def c39r14 : List SI := [
  ⟨none, .mv 35 (.t 6), none, 0⟩,
  ⟨none, .mv 2 (.t 35), none, 0⟩]
def c39 : SC :=
  (.seq (.reg false c39r0)
  (.seq (.reg false c39r1)
  (.seq (.seq (.reg false c39r2)
  (.blk 0 (.loop (.seq (.reg false c39r3)
    (.seq (.cond (.t 12)
     .skip
     (.exit 0))
    (.seq (.blk 1 (.seq (.reg false c39r4)
     (.seq (.reg false c39r5)
     (.seq (.reg false c39r6)
     (.cond (.t 20)
      .dead
      .skip)))))
    (.reg false c39r7)))))))
  (.seq (.reg false c39r8)
  (.seq (.seq (.reg false c39r9)
  (.blk 2 (.loop (.seq (.reg false c39r10)
    (.seq (.cond (.t 28)
     .skip
     (.exit 2))
    (.seq (.blk 3 (.seq (.reg false c39r11)
     (.reg false c39r12)))
    (.reg false c39r13)))))))
  (.seq (.reg false c39r14)
  .ret))))))
def v39 : List Nat × List Nat := ([], [])
def o39 : List RS := [.t 2]
theorem s39 : slimC Try.prog Try.f39.ntmps v39.1 v39.2 ((Try.f39.body).getD .skip) = some c39 := by kernel_rfl
theorem q39 : slimR Try.prog Try.f39.ntmps v39.1 v39.2 Try.f39.results.toList = some o39 := by kernel_rfl
-- watermeet/watermeetref07.Whole N=25
def c40r0 : List SI := [
  ⟨none, .bxR 1 (.t 0), none, 0⟩,
  ⟨none, .mv 2 (.b false), none, 0⟩]
def c40r1 : List SI := [
  ⟨none, .ldR 6 1 0 (some 2), none, 0⟩,
  ⟨none, .call 7 27 [(.t 6)], none, 0⟩,
  ⟨none, .mv 5 (.t 7), none, 0⟩,
  ⟨none, .ext 8 (.t 5) 0, none, 0⟩,
  ⟨none, .ext 9 (.t 5) 1, none, 0⟩,
  ⟨none, .mv 3 (.t 8), none, 0⟩,
  ⟨none, .mv 4 (.t 9), none, 0⟩]
def c40r2 : List SI := [
  ⟨none, .nop, (some 1), 0⟩,
  ⟨none, .ldR 11 1 0 none, none, 0⟩,
  ⟨none, .bin 12 .geq (.t 11) (.i 0), none, 0⟩,
  ⟨none, .mv 13 (.t 12), none, 0⟩,
  ⟨some (13, true), .nop, (some 1), 99999⟩,
  ⟨some (13, true), .ldR 15 1 0 none, none, 15⟩,
  ⟨some (13, true), .bin 16 .leq (.t 15) (.i 1099511627776), none, 16⟩,
  ⟨none, .pick 17 (.t 13) (.t 16) (.b false), none, 0⟩,
  ⟨none, .mv 18 (.t 17), none, 0⟩,
  ⟨some (18, true), .mv 19 (.t 4), none, 19⟩,
  ⟨some (18, true), .nop, (some 1), 99999⟩,
  ⟨some (18, true), .ldR 21 1 1 none, none, 21⟩,
  ⟨some (18, true), .len 22 false (.t 21), none, 22⟩,
  ⟨some (18, true), .bin 23 .eql (.t 19) (.t 22), none, 23⟩,
  ⟨none, .pick 24 (.t 18) (.t 23) (.b false), none, 0⟩,
  ⟨none, .mv 2 (.t 24), none, 0⟩]
def c40 : SC :=
  (.seq (.reg false c40r0)
  (.seq (.reg false c40r1)
  (.seq (.reg false c40r2)
  .ret)))
def v40 : List Nat × List Nat := ([1], [1, 10, 14, 20])
def o40 : List RS := [.t 2]
theorem s40 : slimC Try.prog Try.f40.ntmps v40.1 v40.2 ((Try.f40.body).getD .skip) = some c40 := by kernel_rfl
theorem q40 : slimR Try.prog Try.f40.ntmps v40.1 v40.2 Try.f40.results.toList = some o40 := by kernel_rfl
-- watermeet/watermeetref04.Put N=12
def c41r0 : List SI := [
  ⟨none, .bxR 1 (.t 0), none, 0⟩,
  ⟨none, .mv 2 (.v (.slice none 0 0)), none, 0⟩,
  ⟨none, .mv 3 (.i 0), none, 0⟩]
def c41r1 : List SI := [
  ⟨none, .ldR 5 1 0 (some 10), none, 0⟩,
  ⟨none, .call 6 50 [(.t 5)], none, 0⟩,
  ⟨none, .mv 4 (.t 6), none, 0⟩]
def c41r2 : List SI := [
  ⟨none, .mv 7 (.t 4), none, 0⟩,
  ⟨none, .bin 8 .neq (.t 7) (.i 0), none, 0⟩]
def c41r3 : List SI := [
  ⟨none, .mv 9 (.t 4), none, 0⟩,
  ⟨none, .mv 2 (.v (.slice none 0 0)), none, 0⟩,
  ⟨none, .mv 3 (.t 9), none, 0⟩]
def c41r4 : List SI := [
  ⟨none, .ldR 10 1 0 (some 10), none, 0⟩,
  ⟨none, .call 11 51 [(.t 10)], none, 0⟩,
  ⟨none, .mv 2 (.t 11), none, 0⟩,
  ⟨none, .mv 3 (.i 0), none, 0⟩]
def c41 : SC :=
  (.seq (.reg false c41r0)
  (.seq (.seq (.reg false c41r1)
  (.seq (.reg false c41r2)
  (.cond (.t 8)
   (.seq (.reg false c41r3)
   .ret)
   .skip)))
  (.seq (.reg false c41r4)
  .ret)))
def v41 : List Nat × List Nat := ([1], [1])
def o41 : List RS := [.t 2, .t 3]
theorem s41 : slimC Try.prog Try.f41.ntmps v41.1 v41.2 ((Try.f41.body).getD .skip) = some c41 := by kernel_rfl
theorem q41 : slimR Try.prog Try.f41.ntmps v41.1 v41.2 Try.f41.results.toList = some o41 := by kernel_rfl
-- watermeet/seg.each N=4
def c42r0 : List SI := [
  ⟨none, .bx 1 (.t 0), none, 0⟩,
  ⟨none, .mv 2 (.v .nilFunc), none, 0⟩]
def c42r1 : List SI := [
  ⟨none, .mkf 3 (.func 52) [(.t 1)], none, 0⟩,
  ⟨none, .mv 2 (.t 3), none, 0⟩]
def c42 : SC :=
  (.seq (.reg false c42r0)
  (.seq (.reg false c42r1)
  .ret))
def v42 : List Nat × List Nat := ([], [])
def o42 : List RS := [.t 2]
theorem s42 : slimC Try.prog Try.f42.ntmps v42.1 v42.2 ((Try.f42.body).getD .skip) = some c42 := by kernel_rfl
theorem q42 : slimR Try.prog Try.f42.ntmps v42.1 v42.2 Try.f42.results.toList = some o42 := by kernel_rfl
-- watermeet/watermeetref04.Same N=73
def c44r0 : List SI := [
  ⟨none, .alR 4 [(.int .i64 0), (.int .i64 0), (.int .i64 0), (.int .i64 0), (.int .i64 0), (.int .i64 0), (.int .i64 0), (.bool false), (.int .i64 0), (.slice none 0 0)], none, 0⟩,
  ⟨none, .mv 5 (.i 0), none, 0⟩,
  ⟨none, .mv 6 (.i 0), none, 0⟩]
def c44r1 : List SI := [
  ⟨none, .mv 14 (.t 0), none, 0⟩,
  ⟨none, .mv 15 (.t 1), none, 0⟩,
  ⟨none, .call 16 55 [(.t 14), (.t 15), (.i 4)], none, 0⟩,
  ⟨none, .mv 13 (.t 16), none, 0⟩,
  ⟨none, .ext 17 (.t 13) 0, none, 0⟩,
  ⟨none, .ext 18 (.t 13) 1, none, 0⟩,
  ⟨none, .mv 7 (.t 17), none, 0⟩,
  ⟨none, .mv 8 (.t 18), none, 0⟩]
def c44r2 : List SI := [
  ⟨none, .mv 19 (.t 8), none, 0⟩,
  ⟨none, .bin 20 .neq (.t 19) (.i 0), none, 0⟩]
def c44r3 : List SI := [
  ⟨none, .bld 21 [(.int .i64 0), (.int .i64 0), (.int .i64 0), (.int .i64 0), (.int .i64 0), (.int .i64 0), (.int .i64 0), (.bool false), (.int .i64 0), (.slice none 0 0)] [], none, 0⟩,
  ⟨none, .mv 22 (.t 8), none, 0⟩,
  ⟨none, .stR 4 0 10 (.t 21), none, 0⟩,
  ⟨none, .mv 5 (.i 0), none, 0⟩,
  ⟨none, .mv 6 (.t 22), none, 0⟩]
def c44r4 : List SI := [
  ⟨none, .mv 23 (.t 7), none, 0⟩,
  ⟨none, .bin 24 .lss (.t 23) (.v (.int .u64 5)), none, 0⟩,
  ⟨none, .mv 25 (.t 24), none, 0⟩,
  ⟨some (25, false), .mv 26 (.t 7), none, 26⟩,
  ⟨some (25, false), .bin 27 .gtr (.t 26) (.v (.int .u64 2044)), none, 27⟩,
  ⟨none, .pick 28 (.t 25) (.b true) (.t 27), none, 0⟩]
def c44r5 : List SI := [
  ⟨none, .bld 29 [(.int .i64 0), (.int .i64 0), (.int .i64 0), (.int .i64 0), (.int .i64 0), (.int .i64 0), (.int .i64 0), (.bool false), (.int .i64 0), (.slice none 0 0)] [], none, 0⟩,
  ⟨none, .stR 4 0 10 (.t 29), none, 0⟩,
  ⟨none, .mv 5 (.i 0), none, 0⟩,
  ⟨none, .mv 6 (.i 11), none, 0⟩]
def c44r6 : List SI := [
  ⟨none, .mv 30 (.t 1), none, 0⟩,
  ⟨none, .bin 31 .add (.t 30) (.i 4), none, 0⟩,
  ⟨none, .mv 32 (.t 7), none, 0⟩,
  ⟨none, .cvI 33 .i64 (.t 32), none, 0⟩,
  ⟨none, .bin 34 .add (.t 31) (.t 33), none, 0⟩,
  ⟨none, .mv 9 (.t 34), none, 0⟩]
def c44r7 : List SI := [
  ⟨none, .mv 35 (.t 9), none, 0⟩,
  ⟨none, .mv 36 (.t 0), none, 0⟩,
  ⟨none, .len 37 false (.t 36), none, 0⟩,
  ⟨none, .bin 38 .gtr (.t 35) (.t 37), none, 0⟩]
def c44r8 : List SI := [
  ⟨none, .bld 39 [(.int .i64 0), (.int .i64 0), (.int .i64 0), (.int .i64 0), (.int .i64 0), (.int .i64 0), (.int .i64 0), (.bool false), (.int .i64 0), (.slice none 0 0)] [], none, 0⟩,
  ⟨none, .stR 4 0 10 (.t 39), none, 0⟩,
  ⟨none, .mv 5 (.i 0), none, 0⟩,
  ⟨none, .mv 6 (.i 10), none, 0⟩]
def c44r9 : List SI := [
  ⟨none, .mv 41 (.t 0), none, 0⟩,
  ⟨none, .mv 42 (.t 1), none, 0⟩,
  ⟨none, .bin 43 .add (.t 42) (.i 4), none, 0⟩,
  ⟨none, .mv 44 (.t 9), none, 0⟩,
  ⟨none, .sl 45 (.t 41) (some (.t 43)) (some (.t 44)) none 1, none, 0⟩,
  ⟨none, .call 46 56 [(.t 45)], none, 0⟩,
  ⟨none, .mv 40 (.t 46), none, 0⟩,
  ⟨none, .ext 47 (.t 40) 0, none, 0⟩,
  ⟨none, .ext 48 (.t 40) 1, none, 0⟩,
  ⟨none, .mv 10 (.t 47), none, 0⟩,
  ⟨none, .mv 8 (.t 48), none, 0⟩]
def c44r10 : List SI := [
  ⟨none, .mv 49 (.t 8), none, 0⟩,
  ⟨none, .bin 50 .neq (.t 49) (.i 0), none, 0⟩]
def c44r11 : List SI := [
  ⟨none, .bld 51 [(.int .i64 0), (.int .i64 0), (.int .i64 0), (.int .i64 0), (.int .i64 0), (.int .i64 0), (.int .i64 0), (.bool false), (.int .i64 0), (.slice none 0 0)] [], none, 0⟩,
  ⟨none, .mv 52 (.t 8), none, 0⟩,
  ⟨none, .stR 4 0 10 (.t 51), none, 0⟩,
  ⟨none, .mv 5 (.i 0), none, 0⟩,
  ⟨none, .mv 6 (.t 52), none, 0⟩]
def c44r12 : List SI := [
  ⟨none, .mv 54 (.t 10), none, 0⟩,
  ⟨none, .call 55 57 [(.t 54)], none, 0⟩,
  ⟨none, .mv 53 (.t 55), none, 0⟩,
  ⟨none, .ext 56 (.t 53) 0, none, 0⟩,
  ⟨none, .ext 57 (.t 53) 1, none, 0⟩,
  ⟨none, .alR 11 [(.int .i64 0), (.int .i64 0), (.int .i64 0), (.int .i64 0), (.int .i64 0), (.int .i64 0), (.int .i64 0), (.bool false), (.int .i64 0), (.slice none 0 0)], none, 0⟩,
  ⟨none, .stR 11 0 10 (.t 56), none, 0⟩,
  ⟨none, .mv 12 (.t 57), none, 0⟩]
def c44r13 : List SI := [
  ⟨none, .mv 58 (.t 12), none, 0⟩,
  ⟨none, .un 59 .not (.t 58), none, 0⟩,
  ⟨none, .mv 60 (.t 59), none, 0⟩,
  ⟨some (60, false), .ldR 61 11 0 (some 10), none, 61⟩,
  ⟨some (60, false), .call 62 50 [(.t 61)], none, 62⟩,
  ⟨some (60, false), .bin 63 .neq (.t 62) (.i 0), none, 63⟩,
  ⟨none, .pick 64 (.t 60) (.b true) (.t 63), none, 0⟩]
def c44r14 : List SI := [
  ⟨none, .bld 65 [(.int .i64 0), (.int .i64 0), (.int .i64 0), (.int .i64 0), (.int .i64 0), (.int .i64 0), (.int .i64 0), (.bool false), (.int .i64 0), (.slice none 0 0)] [], none, 0⟩,
  ⟨none, .stR 4 0 10 (.t 65), none, 0⟩,
  ⟨none, .mv 5 (.i 0), none, 0⟩,
  ⟨none, .mv 6 (.i 11), none, 0⟩]
def c44r15 : List SI := [
  ⟨none, .ldR 66 11 0 (some 10), none, 0⟩,
  ⟨none, .mv 67 (.t 9), none, 0⟩,
  ⟨none, .stR 4 0 10 (.t 66), none, 0⟩,
  ⟨none, .mv 5 (.t 67), none, 0⟩,
  ⟨none, .mv 6 (.i 0), none, 0⟩]
def c44 : SC :=
  (.seq (.reg false c44r0)
  (.seq (.reg false c44r1)
  (.seq (.seq (.reg false c44r2)
  (.cond (.t 20)
   (.seq (.reg false c44r3)
   .ret)
   .skip))
  (.seq (.seq (.reg false c44r4)
  (.cond (.t 28)
   (.seq (.reg false c44r5)
   .ret)
   .skip))
  (.seq (.reg false c44r6)
  (.seq (.seq (.reg false c44r7)
  (.cond (.t 38)
   (.seq (.reg false c44r8)
   .ret)
   .skip))
  (.seq (.reg false c44r9)
  (.seq (.seq (.reg false c44r10)
  (.cond (.t 50)
   (.seq (.reg false c44r11)
   .ret)
   .skip))
  (.seq (.reg false c44r12)
  (.seq (.seq (.reg false c44r13)
  (.cond (.t 64)
   (.seq (.reg false c44r14)
   .ret)
   .skip))
  (.seq (.reg false c44r15)
  .ret)))))))))))
def v44 : List Nat × List Nat := ([4, 11], [4, 11])
def o44 : List RS := [.r 4 (some 10), .t 5, .t 6]
theorem s44 : slimC Try.prog Try.f44.ntmps v44.1 v44.2 ((Try.f44.body).getD .skip) = some c44 := by kernel_rfl
theorem q44 : slimR Try.prog Try.f44.ntmps v44.1 v44.2 Try.f44.results.toList = some o44 := by kernel_rfl
-- watermeet/seg.ahead N=13
def c45r0 : List SI := [
  ⟨none, .bxR 2 (.t 0), none, 0⟩,
  ⟨none, .alR 4 [(.int .i64 0), (.slice none 0 0)], none, 0⟩]
def c45r1 : List (Bool × SI) := [
  (true, ⟨none, .nop, (some 2), 0⟩),
  (true, ⟨none, .ldR 6 2 0 none, none, 0⟩),
  (true, ⟨none, .nop, (some 2), 0⟩),
  (true, ⟨none, .ldR 8 2 1 none, none, 0⟩),
  (true, ⟨none, .mv 9 (.t 1), none, 0⟩),
  (true, ⟨none, .sl 10 (.t 8) none (some (.t 9)) none 1, none, 0⟩),
  (false, ⟨none, .call 11 58 [(.t 10)], none, 0⟩),
  (true, ⟨none, .bld 12 [(.int .i64 0), (.slice none 0 0)] [(0, 1, (.t 6)), (1, 1, (.t 11))], none, 0⟩)]
def c45r2 : List SI := [
  ⟨none, .stR 4 0 2 (.t 12), none, 0⟩]
def c45 : SC :=
  (.seq (.reg false c45r0)
  (.seq (.rgY c45r1 c45r2)
  .ret))
def v45 : List Nat × List Nat := ([2, 4], [2, 4, 5, 7])
def o45 : List RS := [.r 4 (some 2)]
theorem s45 : slimC Try.prog Try.f45.ntmps v45.1 v45.2 ((Try.f45.body).getD .skip) = some c45 := by kernel_rfl
theorem q45 : slimR Try.prog Try.f45.ntmps v45.1 v45.2 Try.f45.results.toList = some o45 := by kernel_rfl
-- watermeet/watermeetref04.Size N=9
def c46r0 : List SI := [
  ⟨none, .bxR 1 (.t 0), none, 0⟩,
  ⟨none, .mv 2 (.i 0), none, 0⟩]
def c46r1 : List SI := [
  ⟨none, .ldR 3 1 0 (some 10), none, 0⟩,
  ⟨none, .call 4 50 [(.t 3)], none, 0⟩,
  ⟨none, .bin 5 .neq (.t 4) (.i 0), none, 0⟩]
def c46r2 : List SI := [
  ⟨none, .mv 2 (.i 0), none, 0⟩]
def c46r3 : List SI := [
  ⟨none, .ldR 6 1 0 (some 10), none, 0⟩,
  ⟨none, .call 7 51 [(.t 6)], none, 0⟩,
  ⟨none, .len 8 false (.t 7), none, 0⟩,
  ⟨none, .mv 2 (.t 8), none, 0⟩]
def c46 : SC :=
  (.seq (.reg false c46r0)
  (.seq (.seq (.reg false c46r1)
  (.cond (.t 5)
   (.seq (.reg false c46r2)
   .ret)
   .skip))
  (.seq (.reg false c46r3)
  .ret)))
def v46 : List Nat × List Nat := ([1], [1])
def o46 : List RS := [.t 2]
theorem s46 : slimC Try.prog Try.f46.ntmps v46.1 v46.2 ((Try.f46.body).getD .skip) = some c46 := by kernel_rfl
theorem q46 : slimR Try.prog Try.f46.ntmps v46.1 v46.2 Try.f46.results.toList = some o46 := by kernel_rfl
-- watermeet/batch.formed N=131
def c47r0 : List SI := [
  ⟨none, .bxR 1 (.t 0), none, 0⟩,
  ⟨none, .mv 2 (.b false), none, 0⟩]
def c47r1 : List SI := [
  ⟨none, .nop, (some 1), 0⟩,
  ⟨none, .ldR 8 1 0 none, none, 0⟩,
  ⟨none, .nop, (some 1), 0⟩,
  ⟨none, .ldR 10 1 1 none, none, 0⟩,
  ⟨none, .nop, (some 1), 0⟩,
  ⟨none, .ldR 12 1 2 none, none, 0⟩,
  ⟨none, .bls 13 3 3 1 [(.int .i64 0), (.int .i64 0), (.int .i64 0)] [(0, 1, (.t 8)), (1, 1, (.t 10)), (2, 1, (.t 12))], none, 0⟩,
  ⟨none, .call 14 59 [(.i 1099511627776), (.t 13)], none, 0⟩,
  ⟨none, .un 15 .not (.t 14), none, 0⟩,
  ⟨none, .mv 16 (.t 15), none, 0⟩,
  ⟨some (16, false), .nop, (some 1), 99999⟩,
  ⟨some (16, false), .ldR 18 1 3 none, none, 18⟩,
  ⟨some (16, false), .nop, (some 1), 99999⟩,
  ⟨some (16, false), .ldR 20 1 5 none, none, 20⟩,
  ⟨some (16, false), .nop, (some 1), 99999⟩,
  ⟨some (16, false), .ldR 22 1 6 none, none, 22⟩,
  ⟨some (16, false), .bls 23 3 3 1 [(.int .i64 0), (.int .i64 0), (.int .i64 0)] [(0, 1, (.t 18)), (1, 1, (.t 20)), (2, 1, (.t 22))], none, 23⟩,
  ⟨some (16, false), .call 24 59 [(.i 1048576), (.t 23)], none, 24⟩,
  ⟨some (16, false), .un 25 .not (.t 24), none, 25⟩,
  ⟨none, .pick 26 (.t 16) (.b true) (.t 25), none, 0⟩]
def c47r2 : List SI := [
  ⟨none, .mv 2 (.b false), none, 0⟩]
def c47r3 : List SI := [
  ⟨none, .nop, (some 1), 0⟩,
  ⟨none, .ldR 28 1 1 none, none, 0⟩,
  ⟨none, .nop, (some 1), 0⟩,
  ⟨none, .ldR 30 1 0 none, none, 0⟩,
  ⟨none, .bin 31 .sub (.t 28) (.t 30), none, 0⟩,
  ⟨none, .mv 3 (.t 31), none, 0⟩]
def c47r4 : List SI := [
  ⟨none, .mv 33 (.t 3), none, 0⟩,
  ⟨none, .bin 34 .lss (.t 33) (.i 0), none, 0⟩,
  ⟨none, .mv 35 (.t 34), none, 0⟩,
  ⟨some (35, false), .mv 36 (.t 3), none, 36⟩,
  ⟨some (35, false), .bin 37 .geq (.t 36) (.i 16), none, 37⟩,
  ⟨none, .pick 38 (.t 35) (.b true) (.t 37), none, 0⟩,
  ⟨none, .mv 39 (.t 38), none, 0⟩,
  ⟨some (39, false), .nop, (some 1), 99999⟩,
  ⟨some (39, false), .ldR 41 1 2 none, none, 41⟩,
  ⟨some (39, false), .mv 42 (.t 3), none, 42⟩,
  ⟨some (39, false), .bin 43 .add (.t 41) (.t 42), none, 43⟩,
  ⟨some (39, false), .bin 44 .gtr (.t 43) (.i 1099511627776), none, 44⟩,
  ⟨none, .pick 45 (.t 39) (.b true) (.t 44), none, 0⟩,
  ⟨none, .mv 46 (.t 45), none, 0⟩,
  ⟨some (46, false), .nop, (some 1), 99999⟩,
  ⟨some (46, false), .ldR 48 1 6 none, none, 48⟩,
  ⟨some (46, false), .mv 49 (.t 3), none, 49⟩,
  ⟨some (46, false), .bin 50 .add (.t 48) (.t 49), none, 50⟩,
  ⟨some (46, false), .bin 51 .gtr (.t 50) (.i 1048576), none, 51⟩,
  ⟨none, .pick 52 (.t 46) (.b true) (.t 51), none, 0⟩,
  ⟨none, .mv 32 (.t 52), none, 0⟩]
def c47r5 : List SI := [
  ⟨none, .mv 2 (.b false), none, 0⟩]
def c47r6 : List SI := [
  ⟨none, .nop, (some 1), 0⟩,
  ⟨none, .ldR 55 1 4 none, none, 0⟩,
  ⟨none, .bin 56 .lss (.t 55) (.i (-1)), none, 0⟩,
  ⟨none, .mv 57 (.t 56), none, 0⟩,
  ⟨some (57, false), .nop, (some 1), 99999⟩,
  ⟨some (57, false), .ldR 59 1 4 none, none, 59⟩,
  ⟨some (57, false), .bin 60 .gtr (.t 59) (.i 1099511627776), none, 60⟩,
  ⟨none, .pick 61 (.t 57) (.b true) (.t 60), none, 0⟩,
  ⟨none, .mv 53 (.t 61), none, 0⟩]
def c47r7 : List SI := [
  ⟨none, .mv 2 (.b false), none, 0⟩]
def c47r8 : List SI := [
  ⟨none, .nop, (some 1), 0⟩,
  ⟨none, .ldR 64 1 4 none, none, 0⟩,
  ⟨none, .bin 65 .eql (.t 64) (.i (-1)), none, 0⟩,
  ⟨none, .mv 66 (.t 65), none, 0⟩,
  ⟨some (66, true), .nop, (some 1), 99999⟩,
  ⟨some (66, true), .ldR 68 1 5 none, none, 68⟩,
  ⟨some (66, true), .nop, (some 1), 99999⟩,
  ⟨some (66, true), .ldR 70 1 6 none, none, 70⟩,
  ⟨some (66, true), .bin 71 .add (.t 68) (.t 70), none, 71⟩,
  ⟨some (66, true), .bin 72 .neq (.t 71) (.i 0), none, 72⟩,
  ⟨some (66, true), .mv 73 (.t 72), none, 73⟩,
  ⟨some (73, false), .nop, (some 1), 99999⟩,
  ⟨some (73, false), .ldR 75 1 7 none, none, 75⟩,
  ⟨some (66, true), .pick 76 (.t 73) (.b true) (.t 75), none, 76⟩,
  ⟨some (66, true), .mv 77 (.t 76), none, 77⟩,
  ⟨some (77, false), .nop, (some 1), 99999⟩,
  ⟨some (77, false), .ldR 79 1 8 none, none, 79⟩,
  ⟨some (77, false), .bin 80 .neq (.t 79) (.i 0), none, 80⟩,
  ⟨some (66, true), .pick 81 (.t 77) (.b true) (.t 80), none, 81⟩,
  ⟨none, .pick 82 (.t 66) (.t 81) (.b false), none, 0⟩,
  ⟨none, .mv 62 (.t 82), none, 0⟩]
def c47r9 : List SI := [
  ⟨none, .mv 2 (.b false), none, 0⟩]
def c47r10 : List SI := [
  ⟨none, .nop, (some 1), 0⟩,
  ⟨none, .ldR 84 1 8 none, none, 0⟩]
def c47r11 : List SI := [
  ⟨none, .bin 86 .eql (.t 84) (.i 0), none, 0⟩,
  ⟨none, .mv 85 (.t 86), none, 0⟩]
def c47r12 : List SI := [
  ⟨none, .nop, (some 1), 0⟩,
  ⟨none, .ldR 88 1 0 none, none, 0⟩,
  ⟨none, .mv 4 (.t 88), none, 0⟩]
def c47r13 : List SI := [
  ⟨none, .nop, (some 1), 0⟩,
  ⟨none, .ldR 90 1 9 none, none, 0⟩,
  ⟨none, .len 91 false (.t 90), none, 0⟩,
  ⟨none, .mv 92 (.i 0), none, 0⟩]
def c47r14 : List SI := [
  ⟨none, .bin 93 .lss (.t 92) (.t 91), none, 0⟩]
def c47r15 : List SI := [
  ⟨none, .ixA 94 (.t 90) (.t 92) 5, none, 0⟩,
  ⟨none, .ld 95 (.t 94) (some 5), none, 0⟩,
  ⟨none, .alR 6 [(.int .i64 0), (.string ⟨#[]⟩), (.string ⟨#[]⟩), (.bool false), (.int .i64 0)], none, 0⟩,
  ⟨none, .stR 6 0 5 (.t 95), none, 0⟩]
def c47r16 : List SI := [
  ⟨none, .ldR 96 6 0 (some 5), none, 0⟩,
  ⟨none, .call 97 60 [(.t 96)], none, 0⟩,
  ⟨none, .bin 98 .neq (.t 97) (.i 0), none, 0⟩,
  ⟨none, .mv 99 (.t 98), none, 0⟩,
  ⟨some (99, false), .nop, (some 6), 99999⟩,
  ⟨some (99, false), .ldR 101 6 0 none, none, 101⟩,
  ⟨some (99, false), .mv 102 (.t 4), none, 102⟩,
  ⟨some (99, false), .bin 103 .lss (.t 101) (.t 102), none, 103⟩,
  ⟨none, .pick 104 (.t 99) (.b true) (.t 103), none, 0⟩,
  ⟨none, .mv 105 (.t 104), none, 0⟩,
  ⟨some (105, false), .nop, (some 6), 99999⟩,
  ⟨some (105, false), .ldR 107 6 0 none, none, 107⟩,
  ⟨some (105, false), .nop, (some 1), 99999⟩,
  ⟨some (105, false), .ldR 109 1 1 none, none, 109⟩,
  ⟨some (105, false), .bin 110 .gtr (.t 107) (.t 109), none, 110⟩,
  ⟨none, .pick 111 (.t 105) (.b true) (.t 110), none, 0⟩]
def c47r17 : List SI := [
  ⟨none, .mv 2 (.b false), none, 0⟩]
def c47r18 : List SI := [
  ⟨none, .nop, (some 6), 0⟩,
  ⟨none, .ldR 113 6 0 none, none, 0⟩,
  ⟨none, .bin 114 .add (.t 113) (.i 1), none, 0⟩,
  ⟨none, .mv 4 (.t 114), none, 0⟩]
def c47r19 : List SI := [
  ⟨none, .bin 115 .add (.t 92) (.i 1), none, 0⟩,
  ⟨none, .mv 92 (.t 115), none, 0⟩]
def c47r20 : List SI := [
  ⟨none, .mv 2 (.b true), none, 0⟩]
def c47r21 : List SI := [
  ⟨none, .bin 117 .eql (.t 84) (.i 1), none, 0⟩,
  ⟨none, .mv 116 (.t 117), none, 0⟩]
def c47r22 : List SI := [
  ⟨none, .bin 118 .eql (.t 84) (.i 2), none, 0⟩,
  ⟨none, .mv 116 (.t 118), none, 0⟩]
def c47r23 : List SI := [
  ⟨none, .mv 119 (.t 3), none, 0⟩,
  ⟨none, .bin 120 .eql (.t 119) (.i 0), none, 0⟩,
  ⟨none, .mv 121 (.t 120), none, 0⟩,
  ⟨some (121, true), .nop, (some 1), 99999⟩,
  ⟨some (121, true), .ldR 123 1 9 none, none, 123⟩,
  ⟨some (121, true), .len 124 false (.t 123), none, 124⟩,
  ⟨some (121, true), .bin 125 .eql (.t 124) (.i 0), none, 125⟩,
  ⟨none, .pick 126 (.t 121) (.t 125) (.b false), none, 0⟩,
  ⟨none, .mv 127 (.t 126), none, 0⟩,
  ⟨some (127, true), .nop, (some 1), 99999⟩,
  ⟨some (127, true), .ldR 129 1 7 none, none, 129⟩,
  ⟨none, .pick 130 (.t 127) (.t 129) (.b false), none, 0⟩,
  ⟨none, .mv 2 (.t 130), none, 0⟩]
def c47r24 : List SI := [
  ⟨none, .mv 2 (.b false), none, 0⟩]
def c47 : SC :=
  (.seq (.reg false c47r0)
  (.seq (.seq (.reg false c47r1)
  (.cond (.t 26)
   (.seq (.reg false c47r2)
   .ret)
   .skip))
  (.seq (.reg false c47r3)
  (.seq (.blk 0 (.seq (.reg false c47r4)
   (.cond (.t 32)
    (.seq (.reg false c47r5)
    .ret)
    (.seq (.reg false c47r6)
    (.cond (.t 53)
     (.seq (.reg false c47r7)
     .ret)
     (.seq (.reg false c47r8)
     (.cond (.t 62)
      (.seq (.reg false c47r9)
      .ret)
      .skip)))))))
  (.seq (.seq (.reg false c47r10)
  (.blk 1 (.seq (.reg false c47r11)
   (.cond (.t 85)
    (.seq (.reg false c47r12)
    (.seq (.seq (.reg false c47r13)
    (.blk 2 (.loop (.seq (.reg false c47r14)
      (.seq (.cond (.t 93)
       .skip
       (.exit 2))
      (.seq (.blk 3 (.seq (.reg false c47r15)
       (.seq (.seq (.reg false c47r16)
       (.cond (.t 111)
        (.seq (.reg false c47r17)
        .ret)
        .skip))
       (.reg false c47r18))))
      (.reg false c47r19)))))))
    (.seq (.reg false c47r20)
    .ret)))
    (.seq (.seq (.reg false c47r21)
    (.cond (.t 116)
     .skip
     (.reg false c47r22)))
    (.cond (.t 116)
     (.seq (.reg false c47r23)
     .ret)
     .skip))))))
  (.seq (.reg false c47r24)
  .ret))))))
def v47 : List Nat × List Nat := ([1, 6], [1, 6, 7, 9, 11, 17, 19, 21, 27, 29, 40, 47, 54, 58, 63, 67, 69, 74, 78, 83, 87, 89, 100, 106, 108, 112, 122, 128])
def o47 : List RS := [.t 2]
theorem s47 : slimC Try.prog Try.f47.ntmps v47.1 v47.2 ((Try.f47.body).getD .skip) = some c47 := by kernel_rfl
theorem q47 : slimR Try.prog Try.f47.ntmps v47.1 v47.2 Try.f47.results.toList = some o47 := by kernel_rfl
-- watermeet/batch.write N=91
def c48r0 : List SI := [
  ⟨none, .bxR 1 (.t 0), none, 0⟩,
  ⟨none, .mv 2 (.v (.slice none 0 0)), none, 0⟩]
def c48r1 : List SI := [
  ⟨none, .mv 3 (.v (.slice none 0 0)), none, 0⟩]
def c48r2 : List SI := [
  ⟨none, .nop, (some 1), 0⟩,
  ⟨none, .ldR 13 1 0 none, none, 0⟩,
  ⟨none, .nop, (some 1), 0⟩,
  ⟨none, .ldR 15 1 1 none, none, 0⟩,
  ⟨none, .nop, (some 1), 0⟩,
  ⟨none, .ldR 17 1 0 none, none, 0⟩,
  ⟨none, .bin 18 .sub (.t 15) (.t 17), none, 0⟩,
  ⟨none, .nop, (some 1), 0⟩,
  ⟨none, .ldR 20 1 2 none, none, 0⟩,
  ⟨none, .nop, (some 1), 0⟩,
  ⟨none, .ldR 22 1 3 none, none, 0⟩,
  ⟨none, .nop, (some 1), 0⟩,
  ⟨none, .ldR 24 1 4 none, none, 0⟩,
  ⟨none, .nop, (some 1), 0⟩,
  ⟨none, .ldR 26 1 5 none, none, 0⟩,
  ⟨none, .nop, (some 1), 0⟩,
  ⟨none, .ldR 28 1 6 none, none, 0⟩,
  ⟨none, .bld 29 [(.int .i64 0), (.int .i64 0), (.int .i64 0), (.int .i64 0), (.int .i64 0), (.int .i64 0), (.int .i64 0)] [(0, 1, (.t 13)), (1, 1, (.t 18)), (2, 1, (.t 20)), (3, 1, (.t 22)), (4, 1, (.t 24)), (5, 1, (.t 26)), (6, 1, (.t 28))], none, 0⟩,
  ⟨none, .mv 30 (.i 0), none, 0⟩]
def c48r3 : List SI := [
  ⟨none, .bin 31 .lss (.t 30) (.i 7), none, 0⟩]
def c48r4 : List SI := [
  ⟨none, .ixV 32 (.t 29) (.t 30) 7 1 none, none, 0⟩,
  ⟨none, .mv 5 (.t 32), none, 0⟩]
def c48r5 : List SI := [
  ⟨none, .mv 33 (.t 3), none, 0⟩,
  ⟨none, .mv 34 (.t 5), none, 0⟩,
  ⟨none, .call 35 61 [(.t 33), (.t 34)], none, 0⟩,
  ⟨none, .mv 3 (.t 35), none, 0⟩]
def c48r6 : List SI := [
  ⟨none, .bin 36 .add (.t 30) (.i 1), none, 0⟩,
  ⟨none, .mv 30 (.t 36), none, 0⟩]
def c48r7 : List SI := [
  ⟨none, .nop, (some 1), 0⟩,
  ⟨none, .ldR 38 1 8 none, none, 0⟩,
  ⟨none, .cvI 39 .u8 (.t 38), none, 0⟩,
  ⟨none, .mv 6 (.t 39), none, 0⟩]
def c48r8 : List SI := [
  ⟨none, .nop, (some 1), 0⟩,
  ⟨none, .ldR 41 1 7 none, none, 0⟩]
def c48r9 : List SI := [
  ⟨none, .mv 42 (.t 6), none, 0⟩,
  ⟨none, .bin 43 .or (.t 42) (.v (.int .u8 4)), none, 0⟩,
  ⟨none, .mv 6 (.t 43), none, 0⟩]
def c48r10 : List (Bool × SI) := [
  (true, ⟨none, .mv 44 (.t 3), none, 0⟩),
  (true, ⟨none, .mv 45 (.t 6), none, 0⟩),
  (true, ⟨none, .nop, (some 1), 0⟩),
  (true, ⟨none, .ldR 49 1 9 none, none, 0⟩),
  (true, ⟨none, .len 50 false (.t 49), none, 0⟩),
  (false, ⟨none, .bls 46 5 1 1 [(.int .u8 0)] [(0, 1, (.t 45))], none, 0⟩),
  (false, ⟨none, .app 47 (.t 44) (.t 46) 5 1 1, none, 0⟩),
  (false, ⟨none, .call 51 61 [(.t 47), (.t 50)], none, 0⟩),
  (true, ⟨none, .mv 3 (.t 51), none, 0⟩)]
def c48r11 : List SI := [
  ⟨none, .nop, (some 1), 0⟩,
  ⟨none, .ldR 53 1 9 none, none, 0⟩,
  ⟨none, .len 54 false (.t 53), none, 0⟩,
  ⟨none, .bin 55 .gtr (.t 54) (.i 0), none, 0⟩]
def c48r12 : List SI := [
  ⟨none, .nop, (some 1), 0⟩,
  ⟨none, .ldR 57 1 9 none, none, 0⟩,
  ⟨none, .ixA 58 (.t 57) (.i 0) 5, none, 0⟩,
  ⟨none, .flA 59 (.t 58) 4, none, 0⟩,
  ⟨none, .ld 60 (.t 59) none, none, 0⟩,
  ⟨none, .mv 7 (.t 60), none, 0⟩]
def c48r13 : List SI := [
  ⟨none, .mv 61 (.t 3), none, 0⟩,
  ⟨none, .mv 62 (.t 7), none, 0⟩,
  ⟨none, .call 63 61 [(.t 61), (.t 62)], none, 0⟩,
  ⟨none, .mv 3 (.t 63), none, 0⟩]
def c48r14 : List SI := [
  ⟨none, .nop, (some 1), 0⟩,
  ⟨none, .ldR 65 1 9 none, none, 0⟩,
  ⟨none, .len 66 false (.t 65), none, 0⟩,
  ⟨none, .mv 67 (.i 0), none, 0⟩]
def c48r15 : List SI := [
  ⟨none, .bin 68 .lss (.t 67) (.t 66), none, 0⟩]
def c48r16 : List SI := [
  ⟨none, .ixA 69 (.t 65) (.t 67) 5, none, 0⟩,
  ⟨none, .ld 70 (.t 69) (some 5), none, 0⟩,
  ⟨none, .alR 9 [(.int .i64 0), (.string ⟨#[]⟩), (.string ⟨#[]⟩), (.bool false), (.int .i64 0)], none, 0⟩,
  ⟨none, .stR 9 0 5 (.t 70), none, 0⟩]
def c48r17 : List SI := [
  ⟨none, .ldR 72 9 0 (some 5), none, 0⟩,
  ⟨none, .nop, (some 1), 0⟩,
  ⟨none, .ldR 74 1 0 none, none, 0⟩,
  ⟨none, .mv 75 (.t 7), none, 0⟩,
  ⟨none, .call 76 62 [(.t 72), (.t 74), (.t 75)], none, 0⟩,
  ⟨none, .mv 71 (.t 76), none, 0⟩,
  ⟨none, .ext 77 (.t 71) 0, none, 0⟩,
  ⟨none, .ext 78 (.t 71) 1, none, 0⟩,
  ⟨none, .mv 10 (.t 77), none, 0⟩,
  ⟨none, .mv 11 (.t 78), none, 0⟩]
def c48r18 : List SI := [
  ⟨none, .mv 79 (.t 3), none, 0⟩,
  ⟨none, .mv 80 (.t 10), none, 0⟩,
  ⟨none, .app 81 (.t 79) (.t 80) 5 1 1, none, 0⟩,
  ⟨none, .mv 3 (.t 81), none, 0⟩]
def c48r19 : List SI := [
  ⟨none, .bin 82 .add (.t 67) (.i 1), none, 0⟩,
  ⟨none, .mv 67 (.t 82), none, 0⟩]
def c48r20 : List SI := [
  ⟨none, .mv 83 (.t 3), none, 0⟩,
  ⟨none, .call 84 63 [(.t 83)], none, 0⟩,
  ⟨none, .mv 3 (.t 84), none, 0⟩]
def c48r21 : List SI := [
  ⟨none, .mv 85 (.t 3), none, 0⟩,
  ⟨none, .len 86 false (.t 85), none, 0⟩,
  ⟨none, .cvI 87 .u64 (.t 86), none, 0⟩,
  ⟨none, .call 88 64 [(.v (.slice none 0 0)), (.t 87), (.i 4)], none, 0⟩,
  ⟨none, .mv 89 (.t 3), none, 0⟩,
  ⟨none, .app 90 (.t 88) (.t 89) 5 1 1, none, 0⟩,
  ⟨none, .mv 2 (.t 90), none, 0⟩]
def c48 : SC :=
  (.seq (.reg false c48r0)
  (.seq (.reg false c48r1)
  (.seq (.seq (.reg false c48r2)
  (.blk 0 (.loop (.seq (.reg false c48r3)
    (.seq (.cond (.t 31)
     .skip
     (.exit 0))
    (.seq (.blk 1 (.seq (.reg false c48r4)
     (.reg false c48r5)))
    (.reg false c48r6)))))))
  (.seq (.reg false c48r7)
  (.seq (.seq (.reg false c48r8)
  (.cond (.t 41)
   (.reg false c48r9)
   .skip))
  (.seq (.rgX c48r10)
  (.seq (.seq (.reg false c48r11)
  (.cond (.t 55)
   (.seq (.reg false c48r12)
   (.seq (.reg false c48r13)
   (.seq (.reg false c48r14)
   (.blk 2 (.loop (.seq (.reg false c48r15)
     (.seq (.cond (.t 68)
      .skip
      (.exit 2))
     (.seq (.blk 3 (.seq (.reg false c48r16)
      (.seq (.reg false c48r17)
      (.reg false c48r18))))
     (.reg false c48r19)))))))))
   .skip))
  (.seq (.reg false c48r20)
  (.seq (.reg false c48r21)
  .ret)))))))))
def v48 : List Nat × List Nat := ([1, 9], [1, 9, 12, 14, 16, 19, 21, 23, 25, 27, 37, 40, 48, 52, 56, 64, 73])
def o48 : List RS := [.t 2]
theorem s48 : slimC Try.prog Try.f48.ntmps v48.1 v48.2 ((Try.f48.body).getD .skip) = some c48 := by kernel_rfl
theorem q48 : slimR Try.prog Try.f48.ntmps v48.1 v48.2 Try.f48.results.toList = some o48 := by kernel_rfl
-- slices.Grow[[]byte,byte] N=27
def c49r0 : List SI := [
  ⟨none, .mv 4 (.v (.slice none 0 0)), none, 0⟩]
def c49r1 : List SI := [
  ⟨none, .mv 5 (.t 1), none, 0⟩,
  ⟨none, .bin 6 .lss (.t 5) (.i 0), none, 0⟩]
def c49r2 : List SI := [
  ⟨none, .mv 8 (.t 1), none, 0⟩,
  ⟨none, .mv 9 (.t 0), none, 0⟩,
  ⟨none, .cpc 10 (.t 9), none, 0⟩,
  ⟨none, .mv 11 (.t 0), none, 0⟩,
  ⟨none, .len 12 false (.t 11), none, 0⟩,
  ⟨none, .bin 13 .sub (.t 10) (.t 12), none, 0⟩,
  ⟨none, .bin 14 .sub (.t 8) (.t 13), none, 0⟩,
  ⟨none, .mv 1 (.t 14), none, 0⟩]
def c49r3 : List SI := [
  ⟨none, .mv 15 (.t 1), none, 0⟩,
  ⟨none, .bin 16 .gtr (.t 15) (.i 0), none, 0⟩]
def c49r4 : List SI := [
  ⟨none, .mv 17 (.t 0), none, 0⟩,
  ⟨none, .mv 18 (.t 0), none, 0⟩,
  ⟨none, .cpc 19 (.t 18), none, 0⟩,
  ⟨none, .sl 20 (.t 17) none (some (.t 19)) none 1, none, 0⟩,
  ⟨none, .mv 21 (.t 1), none, 0⟩,
  ⟨none, .apz 22 5 1 1 (.t 20) (.t 21), none, 0⟩,
  ⟨none, .mv 23 (.t 0), none, 0⟩,
  ⟨none, .len 24 false (.t 23), none, 0⟩,
  ⟨none, .sl 25 (.t 22) none (some (.t 24)) none 1, none, 0⟩,
  ⟨none, .mv 0 (.t 25), none, 0⟩]
def c49r5 : List SI := [
  ⟨none, .mv 26 (.t 0), none, 0⟩,
  ⟨none, .mv 4 (.t 26), none, 0⟩]
def c49 : SC :=
  (.seq (.reg false c49r0)
  (.seq (.seq (.reg false c49r1)
  (.cond (.t 6)
   .dead
   .skip))
  (.seq (.seq (.reg false c49r2)
  (.seq (.reg false c49r3)
  (.cond (.t 16)
   (.reg false c49r4)
   .skip)))
  (.seq (.reg false c49r5)
  .ret))))
def v49 : List Nat × List Nat := ([], [])
def o49 : List RS := [.t 4]
theorem s49 : slimC Try.prog Try.f49.ntmps v49.1 v49.2 ((Try.f49.body).getD .skip) = some c49 := by kernel_rfl
theorem q49 : slimR Try.prog Try.f49.ntmps v49.1 v49.2 Try.f49.results.toList = some o49 := by kernel_rfl
-- watermeet/watermeetref04.Check N=10
def c50r0 : List SI := [
  ⟨none, .bxR 1 (.t 0), none, 0⟩,
  ⟨none, .mv 2 (.i 0), none, 0⟩]
def c50r1 : List SI := [
  ⟨none, .ldR 3 1 0 (some 10), none, 0⟩,
  ⟨none, .call 4 65 [(.t 3)], none, 0⟩,
  ⟨none, .un 5 .not (.t 4), none, 0⟩]
def c50r2 : List SI := [
  ⟨none, .mv 2 (.i 1), none, 0⟩]
def c50r3 : List SI := [
  ⟨none, .ldR 6 1 0 (some 10), none, 0⟩,
  ⟨none, .call 7 51 [(.t 6)], none, 0⟩,
  ⟨none, .len 8 false (.t 7), none, 0⟩,
  ⟨none, .bin 9 .gtr (.t 8) (.i 2048), none, 0⟩]
def c50r4 : List SI := [
  ⟨none, .mv 2 (.i 2), none, 0⟩]
def c50r5 : List SI := [
  ⟨none, .mv 2 (.i 0), none, 0⟩]
def c50 : SC :=
  (.seq (.reg false c50r0)
  (.seq (.seq (.reg false c50r1)
  (.cond (.t 5)
   (.seq (.reg false c50r2)
   .ret)
   .skip))
  (.seq (.seq (.reg false c50r3)
  (.cond (.t 9)
   (.seq (.reg false c50r4)
   .ret)
   .skip))
  (.seq (.reg false c50r5)
  .ret))))
def v50 : List Nat × List Nat := ([1], [1])
def o50 : List RS := [.t 2]
theorem s50 : slimC Try.prog Try.f50.ntmps v50.1 v50.2 ((Try.f50.body).getD .skip) = some c50 := by kernel_rfl
theorem q50 : slimR Try.prog Try.f50.ntmps v50.1 v50.2 Try.f50.results.toList = some o50 := by kernel_rfl
-- watermeet/watermeetref04.bytes N=91
def c51r0 : List SI := [
  ⟨none, .bxR 1 (.t 0), none, 0⟩,
  ⟨none, .mv 2 (.v (.slice none 0 0)), none, 0⟩]
def c51r1 : List SI := [
  ⟨none, .mv 3 (.v (.slice none 0 0)), none, 0⟩]
def c51r2 : List SI := [
  ⟨none, .nop, (some 1), 0⟩,
  ⟨none, .ldR 12 1 0 none, none, 0⟩,
  ⟨none, .nop, (some 1), 0⟩,
  ⟨none, .ldR 14 1 1 none, none, 0⟩,
  ⟨none, .nop, (some 1), 0⟩,
  ⟨none, .ldR 16 1 0 none, none, 0⟩,
  ⟨none, .bin 17 .sub (.t 14) (.t 16), none, 0⟩,
  ⟨none, .nop, (some 1), 0⟩,
  ⟨none, .ldR 19 1 2 none, none, 0⟩,
  ⟨none, .nop, (some 1), 0⟩,
  ⟨none, .ldR 21 1 3 none, none, 0⟩,
  ⟨none, .nop, (some 1), 0⟩,
  ⟨none, .ldR 23 1 4 none, none, 0⟩,
  ⟨none, .nop, (some 1), 0⟩,
  ⟨none, .ldR 25 1 5 none, none, 0⟩,
  ⟨none, .nop, (some 1), 0⟩,
  ⟨none, .ldR 27 1 6 none, none, 0⟩,
  ⟨none, .bls 28 3 7 1 [(.int .i64 0), (.int .i64 0), (.int .i64 0), (.int .i64 0), (.int .i64 0), (.int .i64 0), (.int .i64 0)] [(0, 1, (.t 12)), (1, 1, (.t 17)), (2, 1, (.t 19)), (3, 1, (.t 21)), (4, 1, (.t 23)), (5, 1, (.t 25)), (6, 1, (.t 27))], none, 0⟩,
  ⟨none, .len 29 false (.t 28), none, 0⟩,
  ⟨none, .mv 30 (.i 0), none, 0⟩]
def c51r3 : List SI := [
  ⟨none, .bin 31 .lss (.t 30) (.t 29), none, 0⟩]
def c51r4 : List SI := [
  ⟨none, .ixA 32 (.t 28) (.t 30) 1, none, 0⟩,
  ⟨none, .ld 33 (.t 32) none, none, 0⟩,
  ⟨none, .mv 5 (.t 33), none, 0⟩]
def c51r5 : List SI := [
  ⟨none, .mv 34 (.t 3), none, 0⟩,
  ⟨none, .mv 35 (.t 5), none, 0⟩,
  ⟨none, .call 36 66 [(.t 34), (.t 35)], none, 0⟩,
  ⟨none, .mv 3 (.t 36), none, 0⟩]
def c51r6 : List SI := [
  ⟨none, .bin 37 .add (.t 30) (.i 1), none, 0⟩,
  ⟨none, .mv 30 (.t 37), none, 0⟩]
def c51r7 : List SI := [
  ⟨none, .nop, (some 1), 0⟩,
  ⟨none, .ldR 39 1 8 none, none, 0⟩,
  ⟨none, .mv 6 (.t 39), none, 0⟩]
def c51r8 : List SI := [
  ⟨none, .nop, (some 1), 0⟩,
  ⟨none, .ldR 41 1 7 none, none, 0⟩]
def c51r9 : List SI := [
  ⟨none, .mv 42 (.t 6), none, 0⟩,
  ⟨none, .bin 43 .add (.t 42) (.i 4), none, 0⟩,
  ⟨none, .mv 6 (.t 43), none, 0⟩]
def c51r10 : List (Bool × SI) := [
  (true, ⟨none, .mv 44 (.t 3), none, 0⟩),
  (true, ⟨none, .mv 45 (.t 6), none, 0⟩),
  (true, ⟨none, .cvI 46 .u8 (.t 45), none, 0⟩),
  (true, ⟨none, .nop, (some 1), 0⟩),
  (true, ⟨none, .ldR 50 1 9 none, none, 0⟩),
  (true, ⟨none, .len 51 false (.t 50), none, 0⟩),
  (false, ⟨none, .bls 47 5 1 1 [(.int .u8 0)] [(0, 1, (.t 46))], none, 0⟩),
  (false, ⟨none, .app 48 (.t 44) (.t 47) 5 1 1, none, 0⟩),
  (false, ⟨none, .call 52 66 [(.t 48), (.t 51)], none, 0⟩),
  (true, ⟨none, .mv 3 (.t 52), none, 0⟩)]
def c51r11 : List SI := [
  ⟨none, .nop, (some 1), 0⟩,
  ⟨none, .ldR 54 1 9 none, none, 0⟩,
  ⟨none, .len 55 false (.t 54), none, 0⟩,
  ⟨none, .mv 56 (.i 0), none, 0⟩]
def c51r12 : List SI := [
  ⟨none, .bin 57 .lss (.t 56) (.t 55), none, 0⟩]
def c51r13 : List SI := [
  ⟨none, .mv 58 (.t 56), none, 0⟩,
  ⟨none, .ixA 59 (.t 54) (.t 56) 5, none, 0⟩,
  ⟨none, .ld 60 (.t 59) (some 5), none, 0⟩,
  ⟨none, .alR 8 [(.int .i64 0), (.string ⟨#[]⟩), (.string ⟨#[]⟩), (.bool false), (.int .i64 0)], none, 0⟩,
  ⟨none, .mv 7 (.t 58), none, 0⟩,
  ⟨none, .stR 8 0 5 (.t 60), none, 0⟩]
def c51r14 : List SI := [
  ⟨none, .mv 61 (.t 7), none, 0⟩,
  ⟨none, .bin 62 .eql (.t 61) (.i 0), none, 0⟩]
def c51r15 : List SI := [
  ⟨none, .mv 63 (.t 3), none, 0⟩,
  ⟨none, .nop, (some 8), 0⟩,
  ⟨none, .ldR 65 8 4 none, none, 0⟩,
  ⟨none, .call 66 66 [(.t 63), (.t 65)], none, 0⟩,
  ⟨none, .mv 3 (.t 66), none, 0⟩]
def c51r16 : List (Bool × SI) := [
  (true, ⟨none, .ldR 68 8 0 (some 5), none, 0⟩),
  (true, ⟨none, .nop, (some 1), 0⟩),
  (true, ⟨none, .ldR 70 1 0 none, none, 0⟩),
  (true, ⟨none, .nop, (some 1), 0⟩),
  (true, ⟨none, .ldR 72 1 9 none, none, 0⟩),
  (true, ⟨none, .ixA 73 (.t 72) (.i 0) 5, none, 0⟩),
  (true, ⟨none, .flA 74 (.t 73) 4, none, 0⟩),
  (true, ⟨none, .ld 75 (.t 74) none, none, 0⟩),
  (false, ⟨none, .call 76 67 [(.t 68), (.t 70), (.t 75)], none, 0⟩),
  (true, ⟨none, .mv 67 (.t 76), none, 0⟩),
  (true, ⟨none, .ext 77 (.t 67) 0, none, 0⟩),
  (true, ⟨none, .ext 78 (.t 67) 1, none, 0⟩),
  (true, ⟨none, .mv 9 (.t 77), none, 0⟩),
  (true, ⟨none, .mv 10 (.t 78), none, 0⟩)]
def c51r17 : List SI := [
  ⟨none, .mv 79 (.t 3), none, 0⟩,
  ⟨none, .mv 80 (.t 9), none, 0⟩,
  ⟨none, .app 81 (.t 79) (.t 80) 5 1 1, none, 0⟩,
  ⟨none, .mv 3 (.t 81), none, 0⟩]
def c51r18 : List SI := [
  ⟨none, .bin 82 .add (.t 56) (.i 1), none, 0⟩,
  ⟨none, .mv 56 (.t 82), none, 0⟩]
def c51r19 : List SI := [
  ⟨none, .mv 83 (.t 3), none, 0⟩,
  ⟨none, .call 84 68 [(.t 83)], none, 0⟩,
  ⟨none, .mv 3 (.t 84), none, 0⟩]
def c51r20 : List SI := [
  ⟨none, .mv 85 (.t 3), none, 0⟩,
  ⟨none, .len 86 false (.t 85), none, 0⟩,
  ⟨none, .cvI 87 .u64 (.t 86), none, 0⟩,
  ⟨none, .call 88 69 [(.v (.slice none 0 0)), (.t 87), (.i 4)], none, 0⟩,
  ⟨none, .mv 89 (.t 3), none, 0⟩,
  ⟨none, .app 90 (.t 88) (.t 89) 5 1 1, none, 0⟩,
  ⟨none, .mv 2 (.t 90), none, 0⟩]
def c51 : SC :=
  (.seq (.reg false c51r0)
  (.seq (.reg false c51r1)
  (.seq (.seq (.reg false c51r2)
  (.blk 0 (.loop (.seq (.reg false c51r3)
    (.seq (.cond (.t 31)
     .skip
     (.exit 0))
    (.seq (.blk 1 (.seq (.reg false c51r4)
     (.reg false c51r5)))
    (.reg false c51r6)))))))
  (.seq (.reg false c51r7)
  (.seq (.seq (.reg false c51r8)
  (.cond (.t 41)
   (.reg false c51r9)
   .skip))
  (.seq (.rgX c51r10)
  (.seq (.seq (.reg false c51r11)
  (.blk 2 (.loop (.seq (.reg false c51r12)
    (.seq (.cond (.t 57)
     .skip
     (.exit 2))
    (.seq (.blk 3 (.seq (.reg false c51r13)
     (.seq (.seq (.reg false c51r14)
     (.cond (.t 62)
      (.reg false c51r15)
      .skip))
     (.seq (.rgX c51r16)
     (.reg false c51r17)))))
    (.reg false c51r18)))))))
  (.seq (.reg false c51r19)
  (.seq (.reg false c51r20)
  .ret)))))))))
def v51 : List Nat × List Nat := ([1, 8], [1, 8, 11, 13, 15, 18, 20, 22, 24, 26, 38, 40, 49, 53, 64, 69, 71])
def o51 : List RS := [.t 2]
theorem s51 : slimC Try.prog Try.f51.ntmps v51.1 v51.2 ((Try.f51.body).getD .skip) = some c51 := by kernel_rfl
theorem q51 : slimR Try.prog Try.f51.ntmps v51.1 v51.2 Try.f51.results.toList = some o51 := by kernel_rfl
-- watermeet/seg.each$1 N=37
def c52r0 : List SI := [
  ⟨none, .flA 8 (.t 1) 0, none, 0⟩,
  ⟨none, .ld 9 (.t 8) none, none, 0⟩,
  ⟨none, .mv 3 (.i 0), none, 0⟩,
  ⟨none, .mv 4 (.t 9), none, 0⟩]
def c52r1 : List SI := [
  ⟨none, .flA 11 (.t 1) 1, none, 0⟩,
  ⟨none, .ld 12 (.t 11) none, none, 0⟩,
  ⟨none, .mv 13 (.t 3), none, 0⟩,
  ⟨none, .call 14 53 [(.t 12), (.t 13)], none, 0⟩,
  ⟨none, .mv 10 (.t 14), none, 0⟩,
  ⟨none, .ext 15 (.t 10) 0, none, 0⟩,
  ⟨none, .ext 16 (.t 10) 1, none, 0⟩,
  ⟨none, .ext 17 (.t 10) 2, none, 0⟩,
  ⟨none, .alR 5 [(.int .i64 0), (.int .i64 0), (.int .i64 0), (.int .i64 0), (.int .i64 0), (.int .i64 0), (.int .i64 0), (.bool false), (.int .i64 0), (.slice none 0 0)], none, 0⟩,
  ⟨none, .stR 5 0 10 (.t 15), none, 0⟩,
  ⟨none, .mv 6 (.t 16), none, 0⟩,
  ⟨none, .mv 7 (.t 17), none, 0⟩]
def c52r2 : List SI := [
  ⟨none, .mv 18 (.t 7), none, 0⟩,
  ⟨none, .bin 19 .neq (.t 18) (.i 0), none, 0⟩,
  ⟨none, .mv 20 (.t 19), none, 0⟩,
  ⟨some (20, false), .nop, (some 5), 99999⟩,
  ⟨some (20, false), .ldR 22 5 0 none, none, 22⟩,
  ⟨some (20, false), .mv 23 (.t 4), none, 23⟩,
  ⟨some (20, false), .bin 24 .lss (.t 22) (.t 23), none, 24⟩,
  ⟨none, .pick 25 (.t 20) (.b true) (.t 24), none, 0⟩,
  ⟨none, .mv 26 (.t 25), none, 0⟩,
  ⟨some (26, false), .mv 27 (.t 0), none, 27⟩,
  ⟨some (26, false), .ldR 28 5 0 (some 10), none, 28⟩,
  ⟨some (26, false), .mv 29 (.t 6), none, 29⟩,
  ⟨some (26, false), .cav 30 (.t 27) [(.t 28), (.t 29)], none, 30⟩,
  ⟨some (26, false), .un 31 .not (.t 30), none, 31⟩,
  ⟨none, .pick 32 (.t 26) (.b true) (.t 31), none, 0⟩]
def c52r3 : List SI := [
  ⟨none, .mv 33 (.t 6), none, 0⟩,
  ⟨none, .nop, (some 5), 0⟩,
  ⟨none, .ldR 35 5 1 none, none, 0⟩,
  ⟨none, .bin 36 .add (.t 35) (.i 1), none, 0⟩,
  ⟨none, .mv 3 (.t 33), none, 0⟩,
  ⟨none, .mv 4 (.t 36), none, 0⟩]
def c52 : SC :=
  (.seq (.reg true c52r0)
  (.blk 0 (.loop (.blk 1 (.seq (.reg false c52r1)
     (.seq (.seq (.reg false c52r2)
     (.cond (.t 32)
      .ret
      .skip))
     (.reg true c52r3)))))))
def v52 : List Nat × List Nat := ([5], [5, 21, 34])
def o52 : List RS := []
theorem s52 : slimC Try.prog Try.f52.ntmps v52.1 v52.2 ((Try.f52.body).getD .skip) = some c52 := by kernel_rfl
theorem q52 : slimR Try.prog Try.f52.ntmps v52.1 v52.2 Try.f52.results.toList = some o52 := by kernel_rfl
-- watermeet/batch.Get N=68
def c53r0 : List SI := [
  ⟨none, .alR 4 [(.int .i64 0), (.int .i64 0), (.int .i64 0), (.int .i64 0), (.int .i64 0), (.int .i64 0), (.int .i64 0), (.bool false), (.int .i64 0), (.slice none 0 0)], none, 0⟩,
  ⟨none, .mv 5 (.i 0), none, 0⟩,
  ⟨none, .mv 6 (.i 0), none, 0⟩]
def c53r1 : List SI := [
  ⟨none, .mv 12 (.t 0), none, 0⟩,
  ⟨none, .mv 13 (.t 1), none, 0⟩,
  ⟨none, .call 14 70 [(.t 12), (.t 13), (.i 4)], none, 0⟩,
  ⟨none, .mv 11 (.t 14), none, 0⟩,
  ⟨none, .ext 15 (.t 11) 0, none, 0⟩,
  ⟨none, .ext 16 (.t 11) 1, none, 0⟩,
  ⟨none, .mv 7 (.t 15), none, 0⟩,
  ⟨none, .mv 6 (.t 16), none, 0⟩]
def c53r2 : List SI := [
  ⟨none, .mv 17 (.t 6), none, 0⟩,
  ⟨none, .bin 18 .neq (.t 17) (.i 0), none, 0⟩]
def c53r3 : List SI := [
  ⟨none, .bld 19 [(.int .i64 0), (.int .i64 0), (.int .i64 0), (.int .i64 0), (.int .i64 0), (.int .i64 0), (.int .i64 0), (.bool false), (.int .i64 0), (.slice none 0 0)] [], none, 0⟩,
  ⟨none, .mv 20 (.t 6), none, 0⟩,
  ⟨none, .stR 4 0 10 (.t 19), none, 0⟩,
  ⟨none, .mv 5 (.i 0), none, 0⟩,
  ⟨none, .mv 6 (.t 20), none, 0⟩]
def c53r4 : List SI := [
  ⟨none, .mv 21 (.t 7), none, 0⟩,
  ⟨none, .bin 22 .lss (.t 21) (.v (.int .u64 5)), none, 0⟩,
  ⟨none, .mv 23 (.t 22), none, 0⟩,
  ⟨some (23, false), .mv 24 (.t 7), none, 24⟩,
  ⟨some (23, false), .bin 25 .gtr (.t 24) (.v (.int .u64 2044)), none, 25⟩,
  ⟨none, .pick 26 (.t 23) (.b true) (.t 25), none, 0⟩]
def c53r5 : List SI := [
  ⟨none, .bld 27 [(.int .i64 0), (.int .i64 0), (.int .i64 0), (.int .i64 0), (.int .i64 0), (.int .i64 0), (.int .i64 0), (.bool false), (.int .i64 0), (.slice none 0 0)] [], none, 0⟩,
  ⟨none, .stR 4 0 10 (.t 27), none, 0⟩,
  ⟨none, .mv 5 (.i 0), none, 0⟩,
  ⟨none, .mv 6 (.i 11), none, 0⟩]
def c53r6 : List SI := [
  ⟨none, .mv 28 (.t 0), none, 0⟩,
  ⟨none, .mv 29 (.t 1), none, 0⟩,
  ⟨none, .bin 30 .add (.t 29) (.i 4), none, 0⟩,
  ⟨none, .sl 31 (.t 28) (some (.t 30)) none none 1, none, 0⟩,
  ⟨none, .mv 8 (.t 31), none, 0⟩]
def c53r7 : List SI := [
  ⟨none, .mv 32 (.t 8), none, 0⟩,
  ⟨none, .len 33 false (.t 32), none, 0⟩,
  ⟨none, .cvI 34 .u64 (.t 33), none, 0⟩,
  ⟨none, .mv 35 (.t 7), none, 0⟩,
  ⟨none, .bin 36 .lss (.t 34) (.t 35), none, 0⟩]
def c53r8 : List SI := [
  ⟨none, .bld 37 [(.int .i64 0), (.int .i64 0), (.int .i64 0), (.int .i64 0), (.int .i64 0), (.int .i64 0), (.int .i64 0), (.bool false), (.int .i64 0), (.slice none 0 0)] [], none, 0⟩,
  ⟨none, .stR 4 0 10 (.t 37), none, 0⟩,
  ⟨none, .mv 5 (.i 0), none, 0⟩,
  ⟨none, .mv 6 (.i 10), none, 0⟩]
def c53r9 : List SI := [
  ⟨none, .mv 39 (.t 8), none, 0⟩,
  ⟨none, .mv 40 (.t 7), none, 0⟩,
  ⟨none, .sl 41 (.t 39) none (some (.t 40)) none 1, none, 0⟩,
  ⟨none, .call 42 71 [(.t 41)], none, 0⟩,
  ⟨none, .mv 38 (.t 42), none, 0⟩,
  ⟨none, .ext 43 (.t 38) 0, none, 0⟩,
  ⟨none, .ext 44 (.t 38) 1, none, 0⟩,
  ⟨none, .mv 9 (.t 43), none, 0⟩,
  ⟨none, .mv 6 (.t 44), none, 0⟩]
def c53r10 : List SI := [
  ⟨none, .mv 45 (.t 6), none, 0⟩,
  ⟨none, .bin 46 .neq (.t 45) (.i 0), none, 0⟩]
def c53r11 : List SI := [
  ⟨none, .bld 47 [(.int .i64 0), (.int .i64 0), (.int .i64 0), (.int .i64 0), (.int .i64 0), (.int .i64 0), (.int .i64 0), (.bool false), (.int .i64 0), (.slice none 0 0)] [], none, 0⟩,
  ⟨none, .mv 48 (.t 6), none, 0⟩,
  ⟨none, .stR 4 0 10 (.t 47), none, 0⟩,
  ⟨none, .mv 5 (.i 0), none, 0⟩,
  ⟨none, .mv 6 (.t 48), none, 0⟩]
def c53r12 : List SI := [
  ⟨none, .mv 50 (.t 9), none, 0⟩,
  ⟨none, .call 51 72 [(.t 50)], none, 0⟩,
  ⟨none, .mv 49 (.t 51), none, 0⟩,
  ⟨none, .ext 52 (.t 49) 0, none, 0⟩,
  ⟨none, .ext 53 (.t 49) 1, none, 0⟩,
  ⟨none, .stR 4 0 10 (.t 52), none, 0⟩,
  ⟨none, .mv 10 (.t 53), none, 0⟩]
def c53r13 : List SI := [
  ⟨none, .mv 54 (.t 10), none, 0⟩,
  ⟨none, .un 55 .not (.t 54), none, 0⟩,
  ⟨none, .mv 56 (.t 55), none, 0⟩,
  ⟨some (56, false), .ldR 57 4 0 (some 10), none, 57⟩,
  ⟨some (56, false), .call 58 26 [(.t 57)], none, 58⟩,
  ⟨some (56, false), .bin 59 .neq (.t 58) (.i 0), none, 59⟩,
  ⟨none, .pick 60 (.t 56) (.b true) (.t 59), none, 0⟩]
def c53r14 : List SI := [
  ⟨none, .bld 61 [(.int .i64 0), (.int .i64 0), (.int .i64 0), (.int .i64 0), (.int .i64 0), (.int .i64 0), (.int .i64 0), (.bool false), (.int .i64 0), (.slice none 0 0)] [], none, 0⟩,
  ⟨none, .stR 4 0 10 (.t 61), none, 0⟩,
  ⟨none, .mv 5 (.i 0), none, 0⟩,
  ⟨none, .mv 6 (.i 11), none, 0⟩]
def c53r15 : List SI := [
  ⟨none, .ldR 62 4 0 (some 10), none, 0⟩,
  ⟨none, .mv 63 (.t 1), none, 0⟩,
  ⟨none, .bin 64 .add (.t 63) (.i 4), none, 0⟩,
  ⟨none, .mv 65 (.t 7), none, 0⟩,
  ⟨none, .cvI 66 .i64 (.t 65), none, 0⟩,
  ⟨none, .bin 67 .add (.t 64) (.t 66), none, 0⟩,
  ⟨none, .stR 4 0 10 (.t 62), none, 0⟩,
  ⟨none, .mv 5 (.t 67), none, 0⟩,
  ⟨none, .mv 6 (.i 0), none, 0⟩]
def c53 : SC :=
  (.seq (.reg false c53r0)
  (.seq (.reg false c53r1)
  (.seq (.seq (.reg false c53r2)
  (.cond (.t 18)
   (.seq (.reg false c53r3)
   .ret)
   .skip))
  (.seq (.seq (.reg false c53r4)
  (.cond (.t 26)
   (.seq (.reg false c53r5)
   .ret)
   .skip))
  (.seq (.reg false c53r6)
  (.seq (.seq (.reg false c53r7)
  (.cond (.t 36)
   (.seq (.reg false c53r8)
   .ret)
   .skip))
  (.seq (.reg false c53r9)
  (.seq (.seq (.reg false c53r10)
  (.cond (.t 46)
   (.seq (.reg false c53r11)
   .ret)
   .skip))
  (.seq (.reg false c53r12)
  (.seq (.seq (.reg false c53r13)
  (.cond (.t 60)
   (.seq (.reg false c53r14)
   .ret)
   .skip))
  (.seq (.reg false c53r15)
  .ret)))))))))))
def v53 : List Nat × List Nat := ([4], [4])
def o53 : List RS := [.r 4 (some 10), .t 5, .t 6]
theorem s53 : slimC Try.prog Try.f53.ntmps v53.1 v53.2 ((Try.f53.body).getD .skip) = some c53 := by kernel_rfl
theorem q53 : slimR Try.prog Try.f53.ntmps v53.1 v53.2 Try.f53.results.toList = some o53 := by kernel_rfl
-- watermeet/watermeetref04.SameRecs N=26
def c55r0 : List SI := [
  ⟨none, .mv 6 (.v (.int .u64 0)), none, 0⟩,
  ⟨none, .mv 7 (.i 0), none, 0⟩]
def c55r1 : List SI := [
  ⟨none, .mv 10 (.t 2), none, 0⟩,
  ⟨none, .bin 11 .lss (.t 10) (.i 1), none, 0⟩,
  ⟨none, .mv 12 (.t 11), none, 0⟩,
  ⟨some (12, false), .mv 13 (.t 2), none, 13⟩,
  ⟨some (12, false), .bin 14 .gtr (.t 13) (.i 8), none, 14⟩,
  ⟨none, .pick 15 (.t 12) (.b true) (.t 14), none, 0⟩,
  ⟨none, .mv 16 (.t 15), none, 0⟩,
  ⟨some (16, false), .mv 17 (.t 1), none, 17⟩,
  ⟨some (16, false), .bin 18 .lss (.t 17) (.i 0), none, 18⟩,
  ⟨none, .pick 19 (.t 16) (.b true) (.t 18), none, 0⟩]
def c55r2 : List SI := [
  ⟨none, .mv 6 (.v (.int .u64 0)), none, 0⟩,
  ⟨none, .mv 7 (.i 1), none, 0⟩]
def c55r3 : List SI := [
  ⟨none, .mv 20 (.t 1), none, 0⟩,
  ⟨none, .mv 21 (.t 0), none, 0⟩,
  ⟨none, .len 22 false (.t 21), none, 0⟩,
  ⟨none, .bin 23 .gtr (.t 20) (.t 22), none, 0⟩,
  ⟨none, .mv 24 (.t 23), none, 0⟩,
  ⟨some (24, false), .mv 25 (.t 0), none, 25⟩,
  ⟨some (24, false), .len 26 false (.t 25), none, 26⟩,
  ⟨some (24, false), .mv 27 (.t 1), none, 27⟩,
  ⟨some (24, false), .bin 28 .sub (.t 26) (.t 27), none, 28⟩,
  ⟨some (24, false), .mv 29 (.t 2), none, 29⟩,
  ⟨some (24, false), .bin 30 .lss (.t 28) (.t 29), none, 30⟩,
  ⟨none, .pick 31 (.t 24) (.b true) (.t 30), none, 0⟩]
def c55r4 : List SI := [
  ⟨none, .mv 6 (.v (.int .u64 0)), none, 0⟩,
  ⟨none, .mv 7 (.i 10), none, 0⟩]
def c55r5 : List SI := [
  ⟨none, .mv 8 (.v (.int .u64 0)), none, 0⟩]
def c55r6 : List SI := [
  ⟨none, .mv 32 (.t 2), none, 0⟩,
  ⟨none, .mv 33 (.i 0), none, 0⟩]
def c55r7 : List SI := [
  ⟨none, .bin 34 .lss (.t 33) (.t 32), none, 0⟩]
def c55r8 : List SI := [
  ⟨none, .mv 35 (.t 33), none, 0⟩,
  ⟨none, .mv 9 (.t 35), none, 0⟩]
def c55r9 : List SI := [
  ⟨none, .mv 36 (.t 8), none, 0⟩,
  ⟨none, .bin 37 .mul (.t 36) (.v (.int .u64 256)), none, 0⟩,
  ⟨none, .mv 38 (.t 0), none, 0⟩,
  ⟨none, .mv 39 (.t 1), none, 0⟩,
  ⟨none, .mv 40 (.t 9), none, 0⟩,
  ⟨none, .bin 41 .add (.t 39) (.t 40), none, 0⟩,
  ⟨none, .ixA 42 (.t 38) (.t 41) 1, none, 0⟩,
  ⟨none, .ld 43 (.t 42) none, none, 0⟩,
  ⟨none, .cvI 44 .u64 (.t 43), none, 0⟩,
  ⟨none, .bin 45 .add (.t 37) (.t 44), none, 0⟩,
  ⟨none, .mv 8 (.t 45), none, 0⟩]
def c55r10 : List SI := [
  ⟨none, .bin 46 .add (.t 33) (.i 1), none, 0⟩,
  ⟨none, .mv 33 (.t 46), none, 0⟩]
def c55r11 : List SI := [
  ⟨none, .mv 47 (.t 8), none, 0⟩,
  ⟨none, .mv 6 (.t 47), none, 0⟩,
  ⟨none, .mv 7 (.i 0), none, 0⟩]
def c55 : SC :=
  (.seq (.reg false c55r0)
  (.seq (.seq (.reg false c55r1)
  (.cond (.t 19)
   (.seq (.reg false c55r2)
   .ret)
   .skip))
  (.seq (.seq (.reg false c55r3)
  (.cond (.t 31)
   (.seq (.reg false c55r4)
   .ret)
   .skip))
  (.seq (.reg false c55r5)
  (.seq (.seq (.reg false c55r6)
  (.blk 0 (.loop (.seq (.reg false c55r7)
    (.seq (.cond (.t 34)
     .skip
     (.exit 0))
    (.seq (.blk 1 (.seq (.reg false c55r8)
     (.reg false c55r9)))
    (.reg false c55r10)))))))
  (.seq (.reg false c55r11)
  .ret))))))
def v55 : List Nat × List Nat := ([], [])
def o55 : List RS := [.t 6, .t 7]
theorem s55 : slimC Try.prog Try.f55.ntmps v55.1 v55.2 ((Try.f55.body).getD .skip) = some c55 := by kernel_rfl
theorem q55 : slimR Try.prog Try.f55.ntmps v55.1 v55.2 Try.f55.results.toList = some o55 := by kernel_rfl
-- watermeet/watermeetref02.Open N=37
def c56r0 : List SI := [
  ⟨none, .mv 2 (.v (.slice none 0 0)), none, 0⟩,
  ⟨none, .mv 3 (.i 0), none, 0⟩]
def c56r1 : List SI := [
  ⟨none, .mv 7 (.t 0), none, 0⟩,
  ⟨none, .len 8 false (.t 7), none, 0⟩,
  ⟨none, .bin 9 .sub (.t 8) (.i 4), none, 0⟩,
  ⟨none, .mv 4 (.t 9), none, 0⟩]
def c56r2 : List SI := [
  ⟨none, .mv 10 (.t 4), none, 0⟩,
  ⟨none, .bin 11 .lss (.t 10) (.i 0), none, 0⟩]
def c56r3 : List SI := [
  ⟨none, .mv 2 (.v (.slice none 0 0)), none, 0⟩,
  ⟨none, .mv 3 (.i 10), none, 0⟩]
def c56r4 : List SI := [
  ⟨none, .mv 12 (.t 0), none, 0⟩,
  ⟨none, .mv 13 (.t 4), none, 0⟩,
  ⟨none, .sl 14 (.t 12) none (some (.t 13)) none 1, none, 0⟩,
  ⟨none, .call 15 74 [(.t 14)], none, 0⟩,
  ⟨none, .call 16 73 [(.t 15)], none, 0⟩,
  ⟨none, .mv 5 (.t 16), none, 0⟩]
def c56r5 : List SI := [
  ⟨none, .mv 6 (.i 0), none, 0⟩]
def c56r6 : List SI := [
  ⟨none, .mv 17 (.t 6), none, 0⟩,
  ⟨none, .bin 18 .lss (.t 17) (.i 4), none, 0⟩]
def c56r7 : List SI := [
  ⟨none, .mv 21 (.t 0), none, 0⟩,
  ⟨none, .mv 22 (.t 4), none, 0⟩,
  ⟨none, .mv 23 (.t 6), none, 0⟩,
  ⟨none, .bin 24 .add (.t 22) (.t 23), none, 0⟩,
  ⟨none, .ixA 25 (.t 21) (.t 24) 1, none, 0⟩,
  ⟨none, .ld 26 (.t 25) none, none, 0⟩,
  ⟨none, .mv 27 (.t 5), none, 0⟩,
  ⟨none, .mv 28 (.t 6), none, 0⟩,
  ⟨none, .ixA 29 (.t 27) (.t 28) 1, none, 0⟩,
  ⟨none, .ld 30 (.t 29) none, none, 0⟩,
  ⟨none, .bin 31 .neq (.t 26) (.t 30), none, 0⟩]
def c56r8 : List SI := [
  ⟨none, .mv 2 (.v (.slice none 0 0)), none, 0⟩,
  ⟨none, .mv 3 (.i 20), none, 0⟩]
def c56r9 : List SI := [
  ⟨none, .mv 19 (.t 6), none, 0⟩,
  ⟨none, .bin 20 .add (.t 19) (.i 1), none, 0⟩,
  ⟨none, .mv 6 (.t 20), none, 0⟩]
def c56r10 : List SI := [
  ⟨none, .bl0 32, none, 0⟩,
  ⟨none, .mv 33 (.t 0), none, 0⟩,
  ⟨none, .mv 34 (.t 4), none, 0⟩,
  ⟨none, .sl 35 (.t 33) none (some (.t 34)) none 1, none, 0⟩,
  ⟨none, .app 36 (.t 32) (.t 35) 5 1 1, none, 0⟩,
  ⟨none, .mv 2 (.t 36), none, 0⟩,
  ⟨none, .mv 3 (.i 0), none, 0⟩]
def c56 : SC :=
  (.seq (.reg false c56r0)
  (.seq (.reg false c56r1)
  (.seq (.seq (.reg false c56r2)
  (.cond (.t 11)
   (.seq (.reg false c56r3)
   .ret)
   .skip))
  (.seq (.reg false c56r4)
  (.seq (.seq (.reg false c56r5)
  (.blk 0 (.loop (.seq (.seq (.reg false c56r6)
    (.cond (.t 18)
     .skip
     (.exit 0)))
    (.seq (.blk 1 (.seq (.reg true c56r7)
     (.cond (.t 31)
      (.seq (.reg false c56r8)
      .ret)
      .skip)))
    (.reg false c56r9))))))
  (.seq (.reg false c56r10)
  .ret))))))
def v56 : List Nat × List Nat := ([], [])
def o56 : List RS := [.t 2, .t 3]
theorem s56 : slimC Try.prog Try.f56.ntmps v56.1 v56.2 ((Try.f56.body).getD .skip) = some c56 := by kernel_rfl
theorem q56 : slimR Try.prog Try.f56.ntmps v56.1 v56.2 Try.f56.results.toList = some o56 := by kernel_rfl
-- watermeet/watermeetref04.body N=171
def c57r0 : List SI := [
  ⟨none, .alR 2 [(.int .i64 0), (.int .i64 0), (.int .i64 0), (.int .i64 0), (.int .i64 0), (.int .i64 0), (.int .i64 0), (.bool false), (.int .i64 0), (.slice none 0 0)], none, 0⟩,
  ⟨none, .mv 3 (.b false), none, 0⟩]
def c57r1 : List SI := [
  ⟨none, .alR 4 [(.int .i64 0), (.int .i64 0), (.int .i64 0), (.int .i64 0), (.int .i64 0), (.int .i64 0), (.int .i64 0), (.bool false), (.int .i64 0), (.slice none 0 0)], none, 0⟩]
def c57r2 : List SI := [
  ⟨none, .mv 5 (.i 0), none, 0⟩]
def c57r3 : List SI := [
  ⟨none, .bld 21 [(.int .i64 0), (.int .i64 0), (.int .i64 0), (.int .i64 0), (.int .i64 0), (.int .i64 0), (.int .i64 0)] [], none, 0⟩,
  ⟨none, .al 6 [(.int .i64 0), (.int .i64 0), (.int .i64 0), (.int .i64 0), (.int .i64 0), (.int .i64 0), (.int .i64 0)], none, 0⟩,
  ⟨none, .st (.t 6) 7 (.t 21), none, 0⟩]
def c57r4 : List SI := [
  ⟨none, .mv 22 (.i 0), none, 0⟩]
def c57r5 : List SI := [
  ⟨none, .bin 23 .lss (.t 22) (.i 7), none, 0⟩]
def c57r6 : List SI := [
  ⟨none, .mv 24 (.t 22), none, 0⟩,
  ⟨none, .mv 7 (.t 24), none, 0⟩]
def c57r7 : List SI := [
  ⟨none, .mv 26 (.t 0), none, 0⟩,
  ⟨none, .mv 27 (.t 5), none, 0⟩,
  ⟨none, .call 28 75 [(.t 26), (.t 27)], none, 0⟩,
  ⟨none, .mv 25 (.t 28), none, 0⟩,
  ⟨none, .ext 29 (.t 25) 0, none, 0⟩,
  ⟨none, .ext 30 (.t 25) 1, none, 0⟩,
  ⟨none, .ext 31 (.t 25) 2, none, 0⟩,
  ⟨none, .mv 8 (.t 29), none, 0⟩,
  ⟨none, .mv 9 (.t 30), none, 0⟩,
  ⟨none, .mv 10 (.t 31), none, 0⟩]
def c57r8 : List SI := [
  ⟨none, .mv 32 (.t 10), none, 0⟩,
  ⟨none, .bin 33 .neq (.t 32) (.i 0), none, 0⟩]
def c57r9 : List SI := [
  ⟨none, .ldR 34 4 0 (some 10), none, 0⟩,
  ⟨none, .stR 2 0 10 (.t 34), none, 0⟩,
  ⟨none, .mv 3 (.b false), none, 0⟩]
def c57r10 : List SI := [
  ⟨none, .mv 35 (.t 7), none, 0⟩,
  ⟨none, .mv 36 (.t 8), none, 0⟩,
  ⟨none, .ixP 37 (.t 6) (.t 35) 7 1, none, 0⟩,
  ⟨none, .st (.t 37) 1 (.t 36), none, 0⟩]
def c57r11 : List SI := [
  ⟨none, .mv 38 (.t 9), none, 0⟩,
  ⟨none, .mv 5 (.t 38), none, 0⟩]
def c57r12 : List SI := [
  ⟨none, .bin 39 .add (.t 22) (.i 1), none, 0⟩,
  ⟨none, .mv 22 (.t 39), none, 0⟩]
def c57r13 : List SI := [
  ⟨none, .mv 41 (.t 0), none, 0⟩,
  ⟨none, .mv 42 (.t 5), none, 0⟩,
  ⟨none, .call 43 55 [(.t 41), (.t 42), (.i 1)], none, 0⟩,
  ⟨none, .mv 40 (.t 43), none, 0⟩,
  ⟨none, .ext 44 (.t 40) 0, none, 0⟩,
  ⟨none, .ext 45 (.t 40) 1, none, 0⟩,
  ⟨none, .mv 11 (.t 44), none, 0⟩,
  ⟨none, .mv 12 (.t 45), none, 0⟩]
def c57r14 : List SI := [
  ⟨none, .mv 46 (.t 12), none, 0⟩,
  ⟨none, .bin 47 .neq (.t 46) (.i 0), none, 0⟩,
  ⟨none, .mv 48 (.t 47), none, 0⟩,
  ⟨some (48, false), .mv 49 (.t 11), none, 49⟩,
  ⟨some (48, false), .bin 50 .gtr (.t 49) (.v (.int .u64 7)), none, 50⟩,
  ⟨none, .pick 51 (.t 48) (.b true) (.t 50), none, 0⟩]
def c57r15 : List SI := [
  ⟨none, .ldR 52 4 0 (some 10), none, 0⟩,
  ⟨none, .stR 2 0 10 (.t 52), none, 0⟩,
  ⟨none, .mv 3 (.b false), none, 0⟩]
def c57r16 : List SI := [
  ⟨none, .mv 54 (.t 0), none, 0⟩,
  ⟨none, .mv 55 (.t 5), none, 0⟩,
  ⟨none, .bin 56 .add (.t 55) (.i 1), none, 0⟩,
  ⟨none, .call 57 75 [(.t 54), (.t 56)], none, 0⟩,
  ⟨none, .mv 53 (.t 57), none, 0⟩,
  ⟨none, .ext 58 (.t 53) 0, none, 0⟩,
  ⟨none, .ext 59 (.t 53) 1, none, 0⟩,
  ⟨none, .ext 60 (.t 53) 2, none, 0⟩,
  ⟨none, .mv 13 (.t 58), none, 0⟩,
  ⟨none, .mv 5 (.t 59), none, 0⟩,
  ⟨none, .mv 12 (.t 60), none, 0⟩]
def c57r17 : List SI := [
  ⟨none, .mv 61 (.t 12), none, 0⟩,
  ⟨none, .bin 62 .neq (.t 61) (.i 0), none, 0⟩,
  ⟨none, .mv 63 (.t 62), none, 0⟩,
  ⟨some (63, false), .mv 64 (.t 13), none, 64⟩,
  ⟨some (63, false), .bin 65 .lss (.t 64) (.i 0), none, 65⟩,
  ⟨none, .pick 66 (.t 63) (.b true) (.t 65), none, 0⟩,
  ⟨none, .mv 67 (.t 66), none, 0⟩,
  ⟨some (67, false), .mv 68 (.t 13), none, 68⟩,
  ⟨some (67, false), .bin 69 .gtr (.t 68) (.i 16), none, 69⟩,
  ⟨none, .pick 70 (.t 67) (.b true) (.t 69), none, 0⟩,
  ⟨none, .mv 71 (.t 70), none, 0⟩,
  ⟨some (71, false), .ixP 72 (.t 6) (.i 1) 7 1, none, 72⟩,
  ⟨some (71, false), .ld 73 (.t 72) none, none, 73⟩,
  ⟨some (71, false), .bin 74 .lss (.t 73) (.i 0), none, 74⟩,
  ⟨none, .pick 75 (.t 71) (.b true) (.t 74), none, 0⟩,
  ⟨none, .mv 76 (.t 75), none, 0⟩,
  ⟨some (76, false), .ixP 77 (.t 6) (.i 1) 7 1, none, 77⟩,
  ⟨some (76, false), .ld 78 (.t 77) none, none, 78⟩,
  ⟨some (76, false), .bin 79 .gtr (.t 78) (.i 16), none, 79⟩,
  ⟨none, .pick 80 (.t 76) (.b true) (.t 79), none, 0⟩,
  ⟨none, .mv 81 (.t 80), none, 0⟩,
  ⟨some (81, false), .ixP 82 (.t 6) (.i 0) 7 1, none, 82⟩,
  ⟨some (81, false), .ld 83 (.t 82) none, none, 83⟩,
  ⟨some (81, false), .bin 84 .lss (.t 83) (.i 0), none, 84⟩,
  ⟨none, .pick 85 (.t 81) (.b true) (.t 84), none, 0⟩,
  ⟨none, .mv 86 (.t 85), none, 0⟩,
  ⟨some (86, false), .ixP 87 (.t 6) (.i 0) 7 1, none, 87⟩,
  ⟨some (86, false), .ld 88 (.t 87) none, none, 88⟩,
  ⟨some (86, false), .bin 89 .gtr (.t 88) (.i 1099511627776), none, 89⟩,
  ⟨none, .pick 90 (.t 86) (.b true) (.t 89), none, 0⟩]
def c57r18 : List SI := [
  ⟨none, .ldR 91 4 0 (some 10), none, 0⟩,
  ⟨none, .stR 2 0 10 (.t 91), none, 0⟩,
  ⟨none, .mv 3 (.b false), none, 0⟩]
def c57r19 : List SI := [
  ⟨none, .ixP 92 (.t 6) (.i 0) 7 1, none, 0⟩,
  ⟨none, .ld 93 (.t 92) none, none, 0⟩,
  ⟨none, .ixP 94 (.t 6) (.i 0) 7 1, none, 0⟩,
  ⟨none, .ld 95 (.t 94) none, none, 0⟩,
  ⟨none, .ixP 96 (.t 6) (.i 1) 7 1, none, 0⟩,
  ⟨none, .ld 97 (.t 96) none, none, 0⟩,
  ⟨none, .bin 98 .add (.t 95) (.t 97), none, 0⟩,
  ⟨none, .ixP 99 (.t 6) (.i 2) 7 1, none, 0⟩,
  ⟨none, .ld 100 (.t 99) none, none, 0⟩,
  ⟨none, .ixP 101 (.t 6) (.i 3) 7 1, none, 0⟩,
  ⟨none, .ld 102 (.t 101) none, none, 0⟩,
  ⟨none, .ixP 103 (.t 6) (.i 4) 7 1, none, 0⟩,
  ⟨none, .ld 104 (.t 103) none, none, 0⟩,
  ⟨none, .ixP 105 (.t 6) (.i 5) 7 1, none, 0⟩,
  ⟨none, .ld 106 (.t 105) none, none, 0⟩,
  ⟨none, .ixP 107 (.t 6) (.i 6) 7 1, none, 0⟩,
  ⟨none, .ld 108 (.t 107) none, none, 0⟩,
  ⟨none, .mv 109 (.t 11), none, 0⟩,
  ⟨none, .bin 110 .geq (.t 109) (.v (.int .u64 4)), none, 0⟩,
  ⟨none, .mv 111 (.t 11), none, 0⟩,
  ⟨none, .bin 112 .rem (.t 111) (.v (.int .u64 4)), none, 0⟩,
  ⟨none, .cvI 113 .i64 (.t 112), none, 0⟩,
  ⟨none, .bld 114 [(.int .i64 0), (.int .i64 0), (.int .i64 0), (.int .i64 0), (.int .i64 0), (.int .i64 0), (.int .i64 0), (.bool false), (.int .i64 0), (.slice none 0 0)] [(0, 1, (.t 93)), (1, 1, (.t 98)), (2, 1, (.t 100)), (3, 1, (.t 102)), (4, 1, (.t 104)), (5, 1, (.t 106)), (6, 1, (.t 108)), (7, 1, (.t 110)), (8, 1, (.t 113))], none, 0⟩,
  ⟨none, .stR 4 0 10 (.t 114), none, 0⟩]
def c57r20 : List SI := [
  ⟨none, .mv 14 (.i 0), none, 0⟩]
def c57r21 : List SI := [
  ⟨none, .mv 115 (.t 13), none, 0⟩,
  ⟨none, .bin 116 .gtr (.t 115) (.i 0), none, 0⟩]
def c57r22 : List SI := [
  ⟨none, .mv 118 (.t 0), none, 0⟩,
  ⟨none, .mv 119 (.t 5), none, 0⟩,
  ⟨none, .call 120 75 [(.t 118), (.t 119)], none, 0⟩,
  ⟨none, .mv 117 (.t 120), none, 0⟩,
  ⟨none, .ext 121 (.t 117) 0, none, 0⟩,
  ⟨none, .ext 122 (.t 117) 1, none, 0⟩,
  ⟨none, .ext 123 (.t 117) 2, none, 0⟩,
  ⟨none, .mv 15 (.t 121), none, 0⟩,
  ⟨none, .mv 16 (.t 122), none, 0⟩,
  ⟨none, .mv 17 (.t 123), none, 0⟩]
def c57r23 : List SI := [
  ⟨none, .mv 124 (.t 17), none, 0⟩,
  ⟨none, .bin 125 .neq (.t 124) (.i 0), none, 0⟩]
def c57r24 : List SI := [
  ⟨none, .ldR 126 4 0 (some 10), none, 0⟩,
  ⟨none, .stR 2 0 10 (.t 126), none, 0⟩,
  ⟨none, .mv 3 (.b false), none, 0⟩]
def c57r25 : List SI := [
  ⟨none, .mv 127 (.t 15), none, 0⟩,
  ⟨none, .mv 14 (.t 127), none, 0⟩]
def c57r26 : List SI := [
  ⟨none, .mv 128 (.t 16), none, 0⟩,
  ⟨none, .mv 5 (.t 128), none, 0⟩]
def c57r27 : List SI := [
  ⟨none, .mv 129 (.t 13), none, 0⟩,
  ⟨none, .mv 130 (.i 0), none, 0⟩]
def c57r28 : List SI := [
  ⟨none, .bin 131 .lss (.t 130) (.t 129), none, 0⟩]
def c57r29 : List SI := [
  ⟨none, .mv 133 (.t 0), none, 0⟩,
  ⟨none, .mv 134 (.t 5), none, 0⟩,
  ⟨none, .nop, (some 4), 0⟩,
  ⟨none, .ldR 136 4 0 none, none, 0⟩,
  ⟨none, .mv 137 (.t 14), none, 0⟩,
  ⟨none, .call 138 76 [(.t 133), (.t 134), (.t 136), (.t 137)], none, 0⟩,
  ⟨none, .mv 132 (.t 138), none, 0⟩,
  ⟨none, .ext 139 (.t 132) 0, none, 0⟩,
  ⟨none, .ext 140 (.t 132) 1, none, 0⟩,
  ⟨none, .ext 141 (.t 132) 2, none, 0⟩,
  ⟨none, .alR 18 [(.int .i64 0), (.string ⟨#[]⟩), (.string ⟨#[]⟩), (.bool false), (.int .i64 0)], none, 0⟩,
  ⟨none, .stR 18 0 5 (.t 139), none, 0⟩,
  ⟨none, .mv 19 (.t 140), none, 0⟩,
  ⟨none, .mv 20 (.t 141), none, 0⟩]
def c57r30 : List SI := [
  ⟨none, .mv 142 (.t 20), none, 0⟩,
  ⟨none, .bin 143 .neq (.t 142) (.i 0), none, 0⟩]
def c57r31 : List SI := [
  ⟨none, .ldR 144 4 0 (some 10), none, 0⟩,
  ⟨none, .stR 2 0 10 (.t 144), none, 0⟩,
  ⟨none, .mv 3 (.b false), none, 0⟩]
def c57r32 : List SI := [
  ⟨none, .nop, (some 4), 0⟩,
  ⟨none, .ldR 146 4 9 none, none, 0⟩,
  ⟨none, .ldR 147 18 0 (some 5), none, 0⟩,
  ⟨none, .bls 148 57 1 5 [(.int .i64 0), (.string ⟨#[]⟩), (.string ⟨#[]⟩), (.bool false), (.int .i64 0)] [(0, 5, (.t 147))], none, 0⟩,
  ⟨none, .app 149 (.t 146) (.t 148) 57 5 56, none, 0⟩,
  ⟨none, .nop, (some 4), 0⟩,
  ⟨none, .stR 4 9 1 (.t 149), none, 0⟩]
def c57r33 : List SI := [
  ⟨none, .mv 151 (.t 19), none, 0⟩,
  ⟨none, .mv 5 (.t 151), none, 0⟩]
def c57r34 : List SI := [
  ⟨none, .bin 152 .add (.t 130) (.i 1), none, 0⟩,
  ⟨none, .mv 130 (.t 152), none, 0⟩]
def c57r35 : List WI := [
  (true, false, ⟨none, .ldR 153 4 0 (some 10), none, 0⟩),
  (true, false, ⟨none, .mv 154 (.t 5), none, 0⟩),
  (true, false, ⟨none, .mv 155 (.t 0), none, 0⟩),
  (true, false, ⟨none, .len 156 false (.t 155), none, 0⟩),
  (true, false, ⟨none, .bin 157 .eql (.t 154) (.t 156), none, 0⟩),
  (true, false, ⟨none, .mv 158 (.t 157), none, 0⟩),
  (true, false, ⟨some (158, true), .mv 159 (.t 13), none, 159⟩),
  (true, false, ⟨some (158, true), .bin 160 .eql (.t 159) (.i 0), none, 160⟩),
  (true, false, ⟨some (158, true), .mv 161 (.t 160), none, 161⟩),
  (true, false, ⟨some (161, false), .nop, (some 4), 99999⟩),
  (true, false, ⟨some (161, false), .ldR 163 4 9 none, none, 163⟩),
  (true, false, ⟨some (161, false), .ixA 164 (.t 163) (.i 0) 5, none, 164⟩),
  (true, false, ⟨some (161, false), .flA 165 (.t 164) 4, none, 165⟩),
  (true, false, ⟨some (161, false), .ld 166 (.t 165) none, none, 166⟩),
  (true, false, ⟨some (161, false), .mv 167 (.t 14), none, 167⟩),
  (true, false, ⟨some (161, false), .bin 168 .eql (.t 166) (.t 167), none, 168⟩),
  (true, false, ⟨some (158, true), .pick 169 (.t 161) (.b true) (.t 168), none, 169⟩),
  (true, false, ⟨none, .pick 170 (.t 158) (.t 169) (.b false), none, 0⟩),
  (false, false, ⟨none, .stR 2 0 10 (.t 153), none, 0⟩),
  (true, false, ⟨none, .mv 3 (.t 170), none, 0⟩)]
def c57 : SC :=
  (.seq (.reg false c57r0)
  (.seq (.reg false c57r1)
  (.seq (.reg false c57r2)
  (.seq (.reg false c57r3)
  (.seq (.seq (.reg false c57r4)
  (.blk 0 (.loop (.seq (.reg false c57r5)
    (.seq (.cond (.t 23)
     .skip
     (.exit 0))
    (.seq (.blk 1 (.seq (.reg false c57r6)
     (.seq (.reg false c57r7)
     (.seq (.seq (.reg false c57r8)
     (.cond (.t 33)
      (.seq (.reg false c57r9)
      .ret)
      .skip))
     (.seq (.reg false c57r10)
     (.reg false c57r11))))))
    (.reg false c57r12)))))))
  (.seq (.reg false c57r13)
  (.seq (.seq (.reg false c57r14)
  (.cond (.t 51)
   (.seq (.reg false c57r15)
   .ret)
   .skip))
  (.seq (.reg false c57r16)
  (.seq (.seq (.reg false c57r17)
  (.cond (.t 90)
   (.seq (.reg false c57r18)
   .ret)
   .skip))
  (.seq (.reg false c57r19)
  (.seq (.reg false c57r20)
  (.seq (.seq (.reg false c57r21)
  (.cond (.t 116)
   (.seq (.reg false c57r22)
   (.seq (.seq (.reg false c57r23)
   (.cond (.t 125)
    (.seq (.reg false c57r24)
    .ret)
    .skip))
   (.seq (.reg false c57r25)
   (.reg false c57r26))))
   .skip))
  (.seq (.seq (.reg false c57r27)
  (.blk 2 (.loop (.seq (.reg false c57r28)
    (.seq (.cond (.t 131)
     .skip
     (.exit 2))
    (.seq (.blk 3 (.seq (.reg false c57r29)
     (.seq (.seq (.reg false c57r30)
     (.cond (.t 143)
      (.seq (.reg false c57r31)
      .ret)
      .skip))
     (.seq (.reg false c57r32)
     (.reg false c57r33)))))
    (.reg false c57r34)))))))
  (.seq (.rgW c57r35)
  .ret))))))))))))))
def v57 : List Nat × List Nat := ([2, 4, 18], [2, 4, 18, 135, 145, 150, 162])
def o57 : List RS := [.r 2 (some 10), .t 3]
theorem s57 : slimC Try.prog Try.f57.ntmps v57.1 v57.2 ((Try.f57.body).getD .skip) = some c57 := by kernel_rfl
theorem q57 : slimR Try.prog Try.f57.ntmps v57.1 v57.2 Try.f57.results.toList = some o57 := by kernel_rfl
-- slices.Clone[[]byte,byte] N=8
def c58r0 : List SI := [
  ⟨none, .mv 2 (.v (.slice none 0 0)), none, 0⟩]
def c58r1 : List SI := [
  ⟨none, .mv 3 (.t 0), none, 0⟩,
  ⟨none, .isn 4 false (.t 3), none, 0⟩]
def c58r2 : List SI := [
  ⟨none, .mv 2 (.v (.slice none 0 0)), none, 0⟩]
def c58r3 : List SI := [
  ⟨none, .bl0 5, none, 0⟩,
  ⟨none, .mv 6 (.t 0), none, 0⟩,
  ⟨none, .app 7 (.t 5) (.t 6) 5 1 1, none, 0⟩,
  ⟨none, .mv 2 (.t 7), none, 0⟩]
def c58 : SC :=
  (.seq (.reg false c58r0)
  (.seq (.seq (.reg false c58r1)
  (.cond (.t 4)
   (.seq (.reg false c58r2)
   .ret)
   .skip))
  (.seq (.reg false c58r3)
  .ret)))
def v58 : List Nat × List Nat := ([], [])
def o58 : List RS := [.t 2]
theorem s58 : slimC Try.prog Try.f58.ntmps v58.1 v58.2 ((Try.f58.body).getD .skip) = some c58 := by kernel_rfl
theorem q58 : slimR Try.prog Try.f58.ntmps v58.1 v58.2 Try.f58.results.toList = some o58 := by kernel_rfl
-- watermeet/batch.within N=14
def c59r0 : List SI := [
  ⟨none, .mv 4 (.b false), none, 0⟩]
def c59r1 : List SI := [
  ⟨none, .mv 5 (.t 1), none, 0⟩,
  ⟨none, .call 6 77 [(.t 5)], none, 0⟩,
  ⟨none, .bin 7 .geq (.t 6) (.i 0), none, 0⟩,
  ⟨none, .mv 8 (.t 7), none, 0⟩,
  ⟨some (8, true), .mv 9 (.t 1), none, 9⟩,
  ⟨some (8, true), .call 10 78 [(.t 9)], none, 10⟩,
  ⟨some (8, true), .mv 11 (.t 0), none, 11⟩,
  ⟨some (8, true), .bin 12 .leq (.t 10) (.t 11), none, 12⟩,
  ⟨none, .pick 13 (.t 8) (.t 12) (.b false), none, 0⟩,
  ⟨none, .mv 4 (.t 13), none, 0⟩]
def c59 : SC :=
  (.seq (.reg false c59r0)
  (.seq (.reg false c59r1)
  .ret))
def v59 : List Nat × List Nat := ([], [])
def o59 : List RS := [.t 4]
theorem s59 : slimC Try.prog Try.f59.ntmps v59.1 v59.2 ((Try.f59.body).getD .skip) = some c59 := by kernel_rfl
theorem q59 : slimR Try.prog Try.f59.ntmps v59.1 v59.2 Try.f59.results.toList = some o59 := by kernel_rfl
-- watermeet/rec.Check N=33
def c60r0 : List SI := [
  ⟨none, .bxR 1 (.t 0), none, 0⟩,
  ⟨none, .mv 2 (.i 0), none, 0⟩]
def c60r1 : List SI := [
  ⟨none, .nop, (some 1), 0⟩,
  ⟨none, .ldR 5 1 0 none, none, 0⟩,
  ⟨none, .call 6 79 [(.t 5)], none, 0⟩,
  ⟨none, .un 7 .not (.t 6), none, 0⟩,
  ⟨none, .mv 3 (.t 7), none, 0⟩]
def c60r2 : List SI := [
  ⟨none, .nop, (some 1), 0⟩,
  ⟨none, .ldR 9 1 4 none, none, 0⟩,
  ⟨none, .call 10 79 [(.t 9)], none, 0⟩,
  ⟨none, .un 11 .not (.t 10), none, 0⟩,
  ⟨none, .mv 3 (.t 11), none, 0⟩]
def c60r3 : List SI := [
  ⟨none, .nop, (some 1), 0⟩,
  ⟨none, .ldR 13 1 1 none, none, 0⟩,
  ⟨none, .len 14 true (.t 13), none, 0⟩,
  ⟨none, .nop, (some 1), 0⟩,
  ⟨none, .ldR 16 1 2 none, none, 0⟩,
  ⟨none, .len 17 true (.t 16), none, 0⟩,
  ⟨none, .mm 18 true (.t 14) (.t 17), none, 0⟩,
  ⟨none, .bin 19 .gtr (.t 18) (.i 64), none, 0⟩,
  ⟨none, .mv 3 (.t 19), none, 0⟩]
def c60r4 : List SI := [
  ⟨none, .mv 2 (.i 1), none, 0⟩]
def c60r5 : List SI := [
  ⟨none, .nop, (some 1), 0⟩,
  ⟨none, .ldR 22 1 3 none, none, 0⟩,
  ⟨none, .mv 23 (.t 22), none, 0⟩,
  ⟨some (23, true), .nop, (some 1), 99999⟩,
  ⟨some (23, true), .ldR 25 1 1 none, none, 25⟩,
  ⟨some (23, true), .bin 26 .eql (.t 25) (.v (.string ⟨#[]⟩)), none, 26⟩,
  ⟨some (23, true), .mv 27 (.t 26), none, 27⟩,
  ⟨some (27, false), .nop, (some 1), 99999⟩,
  ⟨some (27, false), .ldR 29 1 2 none, none, 29⟩,
  ⟨some (27, false), .bin 30 .neq (.t 29) (.v (.string ⟨#[]⟩)), none, 30⟩,
  ⟨some (23, true), .pick 31 (.t 27) (.b true) (.t 30), none, 31⟩,
  ⟨none, .pick 32 (.t 23) (.t 31) (.b false), none, 0⟩,
  ⟨none, .mv 20 (.t 32), none, 0⟩]
def c60r6 : List SI := [
  ⟨none, .mv 2 (.i 1), none, 0⟩]
def c60r7 : List SI := [
  ⟨none, .mv 2 (.i 0), none, 0⟩]
def c60 : SC :=
  (.seq (.reg false c60r0)
  (.seq (.blk 0 (.seq (.seq (.reg false c60r1)
   (.cond (.t 3)
    .skip
    (.seq (.reg false c60r2)
    (.cond (.t 3)
     .skip
     (.reg false c60r3)))))
   (.cond (.t 3)
    (.seq (.reg false c60r4)
    .ret)
    (.seq (.reg false c60r5)
    (.cond (.t 20)
     (.seq (.reg false c60r6)
     .ret)
     .skip)))))
  (.seq (.reg false c60r7)
  .ret)))
def v60 : List Nat × List Nat := ([1], [1, 4, 8, 12, 15, 21, 24, 28])
def o60 : List RS := [.t 2]
theorem s60 : slimC Try.prog Try.f60.ntmps v60.1 v60.2 ((Try.f60.body).getD .skip) = some c60 := by kernel_rfl
theorem q60 : slimR Try.prog Try.f60.ntmps v60.1 v60.2 Try.f60.results.toList = some o60 := by kernel_rfl
-- watermeet/octet.PutVar N=31
def c61r0 : List SI := [
  ⟨none, .mv 4 (.v (.slice none 0 0)), none, 0⟩]
def c61r1 : List SI := [
  ⟨none, .mv 7 (.t 1), none, 0⟩,
  ⟨none, .cvI 8 .u64 (.t 7), none, 0⟩,
  ⟨none, .bin 9 .shl (.t 8) (.v (.int .u64 1)), none, 0⟩,
  ⟨none, .mv 10 (.t 1), none, 0⟩,
  ⟨none, .bin 11 .shr (.t 10) (.v (.int .u64 63)), none, 0⟩,
  ⟨none, .cvI 12 .u64 (.t 11), none, 0⟩,
  ⟨none, .bin 13 .xor (.t 9) (.t 12), none, 0⟩,
  ⟨none, .mv 5 (.t 13), none, 0⟩]
def c61r2 : List SI := [
  ⟨none, .mv 14 (.t 0), none, 0⟩,
  ⟨none, .call 15 58 [(.t 14)], none, 0⟩,
  ⟨none, .mv 6 (.t 15), none, 0⟩]
def c61r3 : List SI := [
  ⟨none, .mv 16 (.t 5), none, 0⟩,
  ⟨none, .bin 17 .geq (.t 16) (.v (.int .u64 128)), none, 0⟩]
def c61r4 : List SI := [
  ⟨none, .mv 20 (.t 6), none, 0⟩,
  ⟨none, .mv 21 (.t 5), none, 0⟩,
  ⟨none, .cvI 22 .u8 (.t 21), none, 0⟩,
  ⟨none, .bin 23 .or (.t 22) (.v (.int .u8 128)), none, 0⟩,
  ⟨none, .bls 24 5 1 1 [(.int .u8 0)] [(0, 1, (.t 23))], none, 0⟩,
  ⟨none, .app 25 (.t 20) (.t 24) 5 1 1, none, 0⟩,
  ⟨none, .mv 6 (.t 25), none, 0⟩]
def c61r5 : List SI := [
  ⟨none, .mv 18 (.t 5), none, 0⟩,
  ⟨none, .bin 19 .shr (.t 18) (.v (.int .u64 7)), none, 0⟩,
  ⟨none, .mv 5 (.t 19), none, 0⟩]
def c61r6 : List SI := [
  ⟨none, .mv 26 (.t 6), none, 0⟩,
  ⟨none, .mv 27 (.t 5), none, 0⟩,
  ⟨none, .cvI 28 .u8 (.t 27), none, 0⟩,
  ⟨none, .bls 29 5 1 1 [(.int .u8 0)] [(0, 1, (.t 28))], none, 0⟩,
  ⟨none, .app 30 (.t 26) (.t 29) 5 1 1, none, 0⟩,
  ⟨none, .mv 4 (.t 30), none, 0⟩]
def c61 : SC :=
  (.seq (.reg false c61r0)
  (.seq (.reg false c61r1)
  (.seq (.reg false c61r2)
  (.seq (.blk 0 (.loop (.seq (.seq (.reg false c61r3)
    (.cond (.t 17)
     .skip
     (.exit 0)))
    (.seq (.blk 1 (.reg false c61r4))
    (.reg false c61r5)))))
  (.seq (.reg false c61r6)
  .ret)))))
def v61 : List Nat × List Nat := ([], [])
def o61 : List RS := [.t 4]
theorem s61 : slimC Try.prog Try.f61.ntmps v61.1 v61.2 ((Try.f61.body).getD .skip) = some c61 := by kernel_rfl
theorem q61 : slimR Try.prog Try.f61.ntmps v61.1 v61.2 Try.f61.results.toList = some o61 := by kernel_rfl
-- watermeet/rec.Put N=46
def c62r0 : List SI := [
  ⟨none, .bxR 3 (.t 0), none, 0⟩,
  ⟨none, .mv 6 (.v (.slice none 0 0)), none, 0⟩,
  ⟨none, .mv 7 (.i 0), none, 0⟩]
def c62r1 : List SI := [
  ⟨none, .ldR 11 3 0 (some 5), none, 0⟩,
  ⟨none, .call 12 60 [(.t 11)], none, 0⟩,
  ⟨none, .mv 8 (.t 12), none, 0⟩]
def c62r2 : List SI := [
  ⟨none, .mv 13 (.t 8), none, 0⟩,
  ⟨none, .bin 14 .neq (.t 13) (.i 0), none, 0⟩]
def c62r3 : List SI := [
  ⟨none, .mv 15 (.t 8), none, 0⟩,
  ⟨none, .mv 6 (.v (.slice none 0 0)), none, 0⟩,
  ⟨none, .mv 7 (.t 15), none, 0⟩]
def c62r4 : List SI := [
  ⟨none, .mv 16 (.t 1), none, 0⟩,
  ⟨none, .call 17 79 [(.t 16)], none, 0⟩,
  ⟨none, .un 18 .not (.t 17), none, 0⟩,
  ⟨none, .mv 19 (.t 18), none, 0⟩,
  ⟨some (19, false), .mv 20 (.t 2), none, 20⟩,
  ⟨some (19, false), .call 21 79 [(.t 20)], none, 21⟩,
  ⟨some (19, false), .un 22 .not (.t 21), none, 22⟩,
  ⟨none, .pick 23 (.t 19) (.b true) (.t 22), none, 0⟩]
def c62r5 : List SI := [
  ⟨none, .mv 6 (.v (.slice none 0 0)), none, 0⟩,
  ⟨none, .mv 7 (.i 1), none, 0⟩]
def c62r6 : List SI := [
  ⟨none, .mv 9 (.v (.int .u8 0)), none, 0⟩]
def c62r7 : List SI := [
  ⟨none, .nop, (some 3), 0⟩,
  ⟨none, .ldR 25 3 3 none, none, 0⟩]
def c62r8 : List SI := [
  ⟨none, .mv 9 (.v (.int .u8 1)), none, 0⟩]
def c62r9 : List (Bool × SI) := [
  (true, ⟨none, .nop, (some 3), 0⟩),
  (true, ⟨none, .ldR 27 3 0 none, none, 0⟩),
  (true, ⟨none, .mv 28 (.t 1), none, 0⟩),
  (true, ⟨none, .bin 29 .sub (.t 27) (.t 28), none, 0⟩),
  (true, ⟨none, .nop, (some 3), 0⟩),
  (true, ⟨none, .ldR 32 3 4 none, none, 0⟩),
  (true, ⟨none, .mv 33 (.t 2), none, 0⟩),
  (true, ⟨none, .bin 34 .sub (.t 32) (.t 33), none, 0⟩),
  (false, ⟨none, .call 30 61 [(.v (.slice none 0 0)), (.t 29)], none, 0⟩),
  (false, ⟨none, .call 35 61 [(.t 30), (.t 34)], none, 0⟩),
  (true, ⟨none, .mv 10 (.t 35), none, 0⟩)]
def c62r10 : List (Bool × SI) := [
  (true, ⟨none, .mv 36 (.t 10), none, 0⟩),
  (true, ⟨none, .mv 37 (.t 9), none, 0⟩),
  (true, ⟨none, .nop, (some 3), 0⟩),
  (true, ⟨none, .ldR 41 3 1 none, none, 0⟩),
  (true, ⟨none, .nop, (some 3), 0⟩),
  (true, ⟨none, .ldR 44 3 2 none, none, 0⟩),
  (false, ⟨none, .bls 38 5 1 1 [(.int .u8 0)] [(0, 1, (.t 37))], none, 0⟩),
  (false, ⟨none, .app 39 (.t 36) (.t 38) 5 1 1, none, 0⟩),
  (false, ⟨none, .call 42 80 [(.t 39), (.t 41)], none, 0⟩),
  (false, ⟨none, .call 45 80 [(.t 42), (.t 44)], none, 0⟩),
  (true, ⟨none, .mv 6 (.t 45), none, 0⟩),
  (true, ⟨none, .mv 7 (.i 0), none, 0⟩)]
def c62 : SC :=
  (.seq (.reg false c62r0)
  (.seq (.seq (.reg false c62r1)
  (.seq (.reg false c62r2)
  (.cond (.t 14)
   (.seq (.reg false c62r3)
   .ret)
   .skip)))
  (.seq (.seq (.reg false c62r4)
  (.cond (.t 23)
   (.seq (.reg false c62r5)
   .ret)
   .skip))
  (.seq (.reg false c62r6)
  (.seq (.seq (.reg false c62r7)
  (.cond (.t 25)
   (.reg false c62r8)
   .skip))
  (.seq (.rgX c62r9)
  (.seq (.rgX c62r10)
  .ret)))))))
def v62 : List Nat × List Nat := ([3], [3, 24, 26, 31, 40, 43])
def o62 : List RS := [.t 6, .t 7]
theorem s62 : slimC Try.prog Try.f62.ntmps v62.1 v62.2 ((Try.f62.body).getD .skip) = some c62 := by kernel_rfl
theorem q62 : slimR Try.prog Try.f62.ntmps v62.1 v62.2 Try.f62.results.toList = some o62 := by kernel_rfl
-- watermeet/crc.Seal N=9
def c63r0 : List SI := [
  ⟨none, .mv 2 (.v (.slice none 0 0)), none, 0⟩]
def c63r1 : List SI := [
  ⟨none, .mv 3 (.t 0), none, 0⟩,
  ⟨none, .app 4 (.v (.slice none 0 0)) (.t 3) 5 1 1, none, 0⟩,
  ⟨none, .mv 5 (.t 0), none, 0⟩,
  ⟨none, .call 6 81 [(.t 5)], none, 0⟩,
  ⟨none, .cvI 7 .u64 (.t 6), none, 0⟩,
  ⟨none, .call 8 64 [(.t 4), (.t 7), (.i 4)], none, 0⟩,
  ⟨none, .mv 2 (.t 8), none, 0⟩]
def c63 : SC :=
  (.seq (.reg false c63r0)
  (.seq (.reg false c63r1)
  .ret))
def v63 : List Nat × List Nat := ([], [])
def o63 : List RS := [.t 2]
theorem s63 : slimC Try.prog Try.f63.ntmps v63.1 v63.2 ((Try.f63.body).getD .skip) = some c63 := by kernel_rfl
theorem q63 : slimR Try.prog Try.f63.ntmps v63.1 v63.2 Try.f63.results.toList = some o63 := by kernel_rfl
-- watermeet/octet.Put N=33
def c64r0 : List SI := [
  ⟨none, .mv 6 (.v (.slice none 0 0)), none, 0⟩]
def c64r1 : List SI := [
  ⟨none, .mv 9 (.t 0), none, 0⟩,
  ⟨none, .call 10 58 [(.t 9)], none, 0⟩,
  ⟨none, .mv 7 (.t 10), none, 0⟩]
def c64r2 : List SI := [
  ⟨none, .mv 11 (.t 2), none, 0⟩,
  ⟨none, .bin 12 .lss (.t 11) (.i 1), none, 0⟩,
  ⟨none, .mv 13 (.t 12), none, 0⟩,
  ⟨some (13, false), .mv 14 (.t 2), none, 14⟩,
  ⟨some (13, false), .bin 15 .gtr (.t 14) (.i 8), none, 15⟩,
  ⟨none, .pick 16 (.t 13) (.b true) (.t 15), none, 0⟩]
def c64r3 : List SI := [
  ⟨none, .mv 17 (.t 7), none, 0⟩,
  ⟨none, .mv 6 (.t 17), none, 0⟩]
def c64r4 : List SI := [
  ⟨none, .mv 18 (.t 2), none, 0⟩,
  ⟨none, .bin 19 .sub (.t 18) (.i 1), none, 0⟩,
  ⟨none, .bin 20 .mul (.i 8) (.t 19), none, 0⟩,
  ⟨none, .mv 8 (.t 20), none, 0⟩]
def c64r5 : List SI := [
  ⟨none, .mv 21 (.t 8), none, 0⟩,
  ⟨none, .bin 22 .geq (.t 21) (.i 0), none, 0⟩]
def c64r6 : List SI := [
  ⟨none, .mv 25 (.t 7), none, 0⟩,
  ⟨none, .mv 26 (.t 1), none, 0⟩,
  ⟨none, .mv 27 (.t 8), none, 0⟩,
  ⟨none, .bin 28 .shr (.t 26) (.t 27), none, 0⟩,
  ⟨none, .cvI 29 .u8 (.t 28), none, 0⟩,
  ⟨none, .bls 30 5 1 1 [(.int .u8 0)] [(0, 1, (.t 29))], none, 0⟩,
  ⟨none, .app 31 (.t 25) (.t 30) 5 1 1, none, 0⟩,
  ⟨none, .mv 7 (.t 31), none, 0⟩]
def c64r7 : List SI := [
  ⟨none, .mv 23 (.t 8), none, 0⟩,
  ⟨none, .bin 24 .sub (.t 23) (.i 8), none, 0⟩,
  ⟨none, .mv 8 (.t 24), none, 0⟩]
def c64r8 : List SI := [
  ⟨none, .mv 32 (.t 7), none, 0⟩,
  ⟨none, .mv 6 (.t 32), none, 0⟩]
def c64 : SC :=
  (.seq (.reg false c64r0)
  (.seq (.reg false c64r1)
  (.seq (.seq (.reg false c64r2)
  (.cond (.t 16)
   (.seq (.reg false c64r3)
   .ret)
   .skip))
  (.seq (.seq (.reg false c64r4)
  (.blk 0 (.loop (.seq (.seq (.reg false c64r5)
    (.cond (.t 22)
     .skip
     (.exit 0)))
    (.seq (.blk 1 (.reg false c64r6))
    (.reg false c64r7))))))
  (.seq (.reg false c64r8)
  .ret)))))
def v64 : List Nat × List Nat := ([], [])
def o64 : List RS := [.t 6]
theorem s64 : slimC Try.prog Try.f64.ntmps v64.1 v64.2 ((Try.f64.body).getD .skip) = some c64 := by kernel_rfl
theorem q64 : slimR Try.prog Try.f64.ntmps v64.1 v64.2 Try.f64.results.toList = some o64 := by kernel_rfl
-- watermeet/watermeetref04.form N=165
def c65r0 : List SI := [
  ⟨none, .bxR 1 (.t 0), none, 0⟩,
  ⟨none, .mv 2 (.b false), none, 0⟩]
def c65r1 : List SI := [
  ⟨none, .nop, (some 1), 0⟩,
  ⟨none, .ldR 8 1 0 none, none, 0⟩,
  ⟨none, .call 9 82 [(.t 8), (.i 1099511627776)], none, 0⟩,
  ⟨none, .un 10 .not (.t 9), none, 0⟩,
  ⟨none, .mv 11 (.t 10), none, 0⟩,
  ⟨some (11, false), .nop, (some 1), 99999⟩,
  ⟨some (11, false), .ldR 13 1 1 none, none, 13⟩,
  ⟨some (11, false), .call 14 82 [(.t 13), (.i 1099511627776)], none, 14⟩,
  ⟨some (11, false), .un 15 .not (.t 14), none, 15⟩,
  ⟨none, .pick 16 (.t 11) (.b true) (.t 15), none, 0⟩,
  ⟨none, .mv 17 (.t 16), none, 0⟩,
  ⟨some (17, false), .nop, (some 1), 99999⟩,
  ⟨some (17, false), .ldR 19 1 2 none, none, 19⟩,
  ⟨some (17, false), .call 20 82 [(.t 19), (.i 1099511627776)], none, 20⟩,
  ⟨some (17, false), .un 21 .not (.t 20), none, 21⟩,
  ⟨none, .pick 22 (.t 17) (.b true) (.t 21), none, 0⟩,
  ⟨none, .mv 23 (.t 22), none, 0⟩,
  ⟨some (23, false), .nop, (some 1), 99999⟩,
  ⟨some (23, false), .ldR 25 1 0 none, none, 25⟩,
  ⟨some (23, false), .nop, (some 1), 99999⟩,
  ⟨some (23, false), .ldR 27 1 1 none, none, 27⟩,
  ⟨some (23, false), .bin 28 .gtr (.t 25) (.t 27), none, 28⟩,
  ⟨none, .pick 29 (.t 23) (.b true) (.t 28), none, 0⟩,
  ⟨none, .mv 30 (.t 29), none, 0⟩,
  ⟨some (30, false), .nop, (some 1), 99999⟩,
  ⟨some (30, false), .ldR 32 1 1 none, none, 32⟩,
  ⟨some (30, false), .nop, (some 1), 99999⟩,
  ⟨some (30, false), .ldR 34 1 0 none, none, 34⟩,
  ⟨some (30, false), .bin 35 .sub (.t 32) (.t 34), none, 35⟩,
  ⟨some (30, false), .bin 36 .geq (.t 35) (.i 16), none, 36⟩,
  ⟨none, .pick 37 (.t 30) (.b true) (.t 36), none, 0⟩]
def c65r2 : List SI := [
  ⟨none, .mv 2 (.b false), none, 0⟩]
def c65r3 : List SI := [
  ⟨none, .nop, (some 1), 0⟩,
  ⟨none, .ldR 39 1 1 none, none, 0⟩,
  ⟨none, .nop, (some 1), 0⟩,
  ⟨none, .ldR 41 1 0 none, none, 0⟩,
  ⟨none, .bin 42 .sub (.t 39) (.t 41), none, 0⟩,
  ⟨none, .mv 3 (.t 42), none, 0⟩]
def c65r4 : List SI := [
  ⟨none, .nop, (some 1), 0⟩,
  ⟨none, .ldR 44 1 2 none, none, 0⟩,
  ⟨none, .mv 45 (.t 3), none, 0⟩,
  ⟨none, .bin 46 .add (.t 44) (.t 45), none, 0⟩,
  ⟨none, .bin 47 .gtr (.t 46) (.i 1099511627776), none, 0⟩,
  ⟨none, .mv 48 (.t 47), none, 0⟩,
  ⟨some (48, false), .nop, (some 1), 99999⟩,
  ⟨some (48, false), .ldR 50 1 3 none, none, 50⟩,
  ⟨some (48, false), .call 51 82 [(.t 50), (.i 1048576)], none, 51⟩,
  ⟨some (48, false), .un 52 .not (.t 51), none, 52⟩,
  ⟨none, .pick 53 (.t 48) (.b true) (.t 52), none, 0⟩,
  ⟨none, .mv 54 (.t 53), none, 0⟩,
  ⟨some (54, false), .nop, (some 1), 99999⟩,
  ⟨some (54, false), .ldR 56 1 5 none, none, 56⟩,
  ⟨some (54, false), .call 57 82 [(.t 56), (.i 1048576)], none, 57⟩,
  ⟨some (54, false), .un 58 .not (.t 57), none, 58⟩,
  ⟨none, .pick 59 (.t 54) (.b true) (.t 58), none, 0⟩,
  ⟨none, .mv 60 (.t 59), none, 0⟩,
  ⟨some (60, false), .nop, (some 1), 99999⟩,
  ⟨some (60, false), .ldR 62 1 6 none, none, 62⟩,
  ⟨some (60, false), .call 63 82 [(.t 62), (.i 1048576)], none, 63⟩,
  ⟨some (60, false), .un 64 .not (.t 63), none, 64⟩,
  ⟨none, .pick 65 (.t 60) (.b true) (.t 64), none, 0⟩,
  ⟨none, .mv 66 (.t 65), none, 0⟩,
  ⟨some (66, false), .nop, (some 1), 99999⟩,
  ⟨some (66, false), .ldR 68 1 6 none, none, 68⟩,
  ⟨some (66, false), .mv 69 (.t 3), none, 69⟩,
  ⟨some (66, false), .bin 70 .add (.t 68) (.t 69), none, 70⟩,
  ⟨some (66, false), .bin 71 .gtr (.t 70) (.i 1048576), none, 71⟩,
  ⟨none, .pick 72 (.t 66) (.b true) (.t 71), none, 0⟩]
def c65r5 : List SI := [
  ⟨none, .mv 2 (.b false), none, 0⟩]
def c65r6 : List SI := [
  ⟨none, .nop, (some 1), 0⟩,
  ⟨none, .ldR 74 1 4 none, none, 0⟩,
  ⟨none, .bin 75 .eql (.t 74) (.i (-1)), none, 0⟩,
  ⟨none, .mv 76 (.t 75), none, 0⟩,
  ⟨some (76, true), .nop, (some 1), 99999⟩,
  ⟨some (76, true), .ldR 78 1 5 none, none, 78⟩,
  ⟨some (76, true), .bin 79 .neq (.t 78) (.i 0), none, 79⟩,
  ⟨some (76, true), .mv 80 (.t 79), none, 80⟩,
  ⟨some (80, false), .nop, (some 1), 99999⟩,
  ⟨some (80, false), .ldR 82 1 6 none, none, 82⟩,
  ⟨some (80, false), .bin 83 .neq (.t 82) (.i 0), none, 83⟩,
  ⟨some (76, true), .pick 84 (.t 80) (.b true) (.t 83), none, 84⟩,
  ⟨some (76, true), .mv 85 (.t 84), none, 85⟩,
  ⟨some (85, false), .nop, (some 1), 99999⟩,
  ⟨some (85, false), .ldR 87 1 7 none, none, 87⟩,
  ⟨some (76, true), .pick 88 (.t 85) (.b true) (.t 87), none, 88⟩,
  ⟨some (76, true), .mv 89 (.t 88), none, 89⟩,
  ⟨some (89, false), .nop, (some 1), 99999⟩,
  ⟨some (89, false), .ldR 91 1 8 none, none, 91⟩,
  ⟨some (89, false), .bin 92 .neq (.t 91) (.i 0), none, 92⟩,
  ⟨some (76, true), .pick 93 (.t 89) (.b true) (.t 92), none, 93⟩,
  ⟨none, .pick 94 (.t 76) (.t 93) (.b false), none, 0⟩,
  ⟨none, .mv 95 (.t 94), none, 0⟩,
  ⟨some (95, false), .nop, (some 1), 99999⟩,
  ⟨some (95, false), .ldR 97 1 4 none, none, 97⟩,
  ⟨some (95, false), .bin 98 .neq (.t 97) (.i (-1)), none, 98⟩,
  ⟨some (95, false), .mv 99 (.t 98), none, 99⟩,
  ⟨some (99, true), .nop, (some 1), 99999⟩,
  ⟨some (99, true), .ldR 101 1 4 none, none, 101⟩,
  ⟨some (99, true), .call 102 82 [(.t 101), (.i 1099511627776)], none, 102⟩,
  ⟨some (99, true), .un 103 .not (.t 102), none, 103⟩,
  ⟨some (95, false), .pick 104 (.t 99) (.t 103) (.b false), none, 104⟩,
  ⟨none, .pick 105 (.t 95) (.b true) (.t 104), none, 0⟩]
def c65r7 : List SI := [
  ⟨none, .mv 2 (.b false), none, 0⟩]
def c65r8 : List SI := [
  ⟨none, .nop, (some 1), 0⟩,
  ⟨none, .ldR 107 1 8 none, none, 0⟩,
  ⟨none, .bin 108 .neq (.t 107) (.i 0), none, 0⟩]
def c65r9 : List SI := [
  ⟨none, .nop, (some 1), 0⟩,
  ⟨none, .ldR 110 1 8 none, none, 0⟩,
  ⟨none, .bin 111 .eql (.t 110) (.i 1), none, 0⟩,
  ⟨none, .mv 112 (.t 111), none, 0⟩,
  ⟨some (112, false), .nop, (some 1), 99999⟩,
  ⟨some (112, false), .ldR 114 1 8 none, none, 114⟩,
  ⟨some (112, false), .bin 115 .eql (.t 114) (.i 2), none, 115⟩,
  ⟨none, .pick 116 (.t 112) (.b true) (.t 115), none, 0⟩,
  ⟨none, .mv 117 (.t 116), none, 0⟩,
  ⟨some (117, true), .mv 118 (.t 3), none, 118⟩,
  ⟨some (117, true), .bin 119 .eql (.t 118) (.i 0), none, 119⟩,
  ⟨none, .pick 120 (.t 117) (.t 119) (.b false), none, 0⟩,
  ⟨none, .mv 121 (.t 120), none, 0⟩,
  ⟨some (121, true), .nop, (some 1), 99999⟩,
  ⟨some (121, true), .ldR 123 1 9 none, none, 123⟩,
  ⟨some (121, true), .len 124 false (.t 123), none, 124⟩,
  ⟨some (121, true), .bin 125 .eql (.t 124) (.i 0), none, 125⟩,
  ⟨none, .pick 126 (.t 121) (.t 125) (.b false), none, 0⟩,
  ⟨none, .mv 127 (.t 126), none, 0⟩,
  ⟨some (127, true), .nop, (some 1), 99999⟩,
  ⟨some (127, true), .ldR 129 1 7 none, none, 129⟩,
  ⟨none, .pick 130 (.t 127) (.t 129) (.b false), none, 0⟩,
  ⟨none, .mv 131 (.t 130), none, 0⟩,
  ⟨some (131, true), .nop, (some 1), 99999⟩,
  ⟨some (131, true), .ldR 133 1 4 none, none, 133⟩,
  ⟨some (131, true), .bin 134 .geq (.t 133) (.i 0), none, 134⟩,
  ⟨none, .pick 135 (.t 131) (.t 134) (.b false), none, 0⟩,
  ⟨none, .mv 2 (.t 135), none, 0⟩]
def c65r10 : List SI := [
  ⟨none, .nop, (some 1), 0⟩,
  ⟨none, .ldR 137 1 0 none, none, 0⟩,
  ⟨none, .bin 138 .sub (.t 137) (.i 1), none, 0⟩,
  ⟨none, .mv 4 (.t 138), none, 0⟩]
def c65r11 : List SI := [
  ⟨none, .nop, (some 1), 0⟩,
  ⟨none, .ldR 140 1 9 none, none, 0⟩,
  ⟨none, .len 141 false (.t 140), none, 0⟩,
  ⟨none, .mv 142 (.i 0), none, 0⟩]
def c65r12 : List SI := [
  ⟨none, .bin 143 .lss (.t 142) (.t 141), none, 0⟩]
def c65r13 : List SI := [
  ⟨none, .ixA 144 (.t 140) (.t 142) 5, none, 0⟩,
  ⟨none, .ld 145 (.t 144) (some 5), none, 0⟩,
  ⟨none, .alR 6 [(.int .i64 0), (.string ⟨#[]⟩), (.string ⟨#[]⟩), (.bool false), (.int .i64 0)], none, 0⟩,
  ⟨none, .stR 6 0 5 (.t 145), none, 0⟩]
def c65r14 : List SI := [
  ⟨none, .ldR 146 6 0 (some 5), none, 0⟩,
  ⟨none, .call 147 83 [(.t 146)], none, 0⟩,
  ⟨none, .bin 148 .neq (.t 147) (.i 0), none, 0⟩,
  ⟨none, .mv 149 (.t 148), none, 0⟩,
  ⟨some (149, false), .nop, (some 6), 99999⟩,
  ⟨some (149, false), .ldR 151 6 0 none, none, 151⟩,
  ⟨some (149, false), .mv 152 (.t 4), none, 152⟩,
  ⟨some (149, false), .bin 153 .leq (.t 151) (.t 152), none, 153⟩,
  ⟨none, .pick 154 (.t 149) (.b true) (.t 153), none, 0⟩,
  ⟨none, .mv 155 (.t 154), none, 0⟩,
  ⟨some (155, false), .nop, (some 6), 99999⟩,
  ⟨some (155, false), .ldR 157 6 0 none, none, 157⟩,
  ⟨some (155, false), .nop, (some 1), 99999⟩,
  ⟨some (155, false), .ldR 159 1 1 none, none, 159⟩,
  ⟨some (155, false), .bin 160 .gtr (.t 157) (.t 159), none, 160⟩,
  ⟨none, .pick 161 (.t 155) (.b true) (.t 160), none, 0⟩]
def c65r15 : List SI := [
  ⟨none, .mv 2 (.b false), none, 0⟩]
def c65r16 : List SI := [
  ⟨none, .nop, (some 6), 0⟩,
  ⟨none, .ldR 163 6 0 none, none, 0⟩,
  ⟨none, .mv 4 (.t 163), none, 0⟩]
def c65r17 : List SI := [
  ⟨none, .bin 164 .add (.t 142) (.i 1), none, 0⟩,
  ⟨none, .mv 142 (.t 164), none, 0⟩]
def c65r18 : List SI := [
  ⟨none, .mv 2 (.b true), none, 0⟩]
def c65 : SC :=
  (.seq (.reg false c65r0)
  (.seq (.seq (.reg false c65r1)
  (.cond (.t 37)
   (.seq (.reg false c65r2)
   .ret)
   .skip))
  (.seq (.reg false c65r3)
  (.seq (.seq (.reg false c65r4)
  (.cond (.t 72)
   (.seq (.reg false c65r5)
   .ret)
   .skip))
  (.seq (.seq (.reg false c65r6)
  (.cond (.t 105)
   (.seq (.reg false c65r7)
   .ret)
   .skip))
  (.seq (.seq (.reg false c65r8)
  (.cond (.t 108)
   (.seq (.reg false c65r9)
   .ret)
   .skip))
  (.seq (.reg false c65r10)
  (.seq (.seq (.reg false c65r11)
  (.blk 0 (.loop (.seq (.reg false c65r12)
    (.seq (.cond (.t 143)
     .skip
     (.exit 0))
    (.seq (.blk 1 (.seq (.reg false c65r13)
     (.seq (.seq (.reg false c65r14)
     (.cond (.t 161)
      (.seq (.reg false c65r15)
      .ret)
      .skip))
     (.reg false c65r16))))
    (.reg false c65r17)))))))
  (.seq (.reg false c65r18)
  .ret)))))))))
def v65 : List Nat × List Nat := ([1, 6], [1, 6, 7, 12, 18, 24, 26, 31, 33, 38, 40, 43, 49, 55, 61, 67, 73, 77, 81, 86, 90, 96, 100, 106, 109, 113, 122, 128, 132, 136, 139, 150, 156, 158, 162])
def o65 : List RS := [.t 2]
theorem s65 : slimC Try.prog Try.f65.ntmps v65.1 v65.2 ((Try.f65.body).getD .skip) = some c65 := by kernel_rfl
theorem q65 : slimR Try.prog Try.f65.ntmps v65.1 v65.2 Try.f65.results.toList = some o65 := by kernel_rfl
end Go.Proofs.Ytfhheomeebejnaa

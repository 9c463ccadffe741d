/- Parts of a proof, 10 texts in one file. No condition. -/
import Derived.Test.YtfhheomeebejnaaRows
import Derived.Test.YtfhheomeebejnaaM1
import Derived.Test.YtfhheomeebejnaaM2

/- The code of the functions, types resolved, as a program of the prover reads it off the translation; each is held by the kernel. No condition. -/
namespace Go.Proofs.Ytfhheomeebejnaa
open Go Go.Kx
-- watermeet/watermeetlaw07.SegAppends N=70
def c3r0 : List SI := [
  ⟨none, .bxR 3 (.t 0), none, 0⟩,
  ⟨none, .bxR 4 (.t 1), none, 0⟩,
  ⟨none, .mv 6 (.b false), none, 0⟩]
def c3r1 : List SI := [
  ⟨none, .call 14 12 [], none, 0⟩,
  ⟨none, .un 15 .not (.t 14), none, 0⟩]
def c3r2 : List SI := [
  ⟨none, .mv 6 (.b false), none, 0⟩]
def c3r3 : List SI := [
  ⟨none, .ldR 16 3 0 (some 2), none, 0⟩,
  ⟨none, .call 17 13 [(.t 16)], none, 0⟩,
  ⟨none, .un 18 .not (.t 17), none, 0⟩,
  ⟨none, .mv 19 (.t 18), none, 0⟩,
  ⟨some (19, false), .ldR 20 4 0 (some 10), none, 20⟩,
  ⟨some (19, false), .call 21 14 [(.t 20)], none, 21⟩,
  ⟨some (19, false), .un 22 .not (.t 21), none, 22⟩,
  ⟨none, .pick 23 (.t 19) (.b true) (.t 22), none, 0⟩]
def c3r4 : List SI := [
  ⟨none, .mv 6 (.b true), none, 0⟩]
def c3r5 : List SI := [
  ⟨none, .nop, (some 3), 0⟩,
  ⟨none, .ldR 25 3 1 none, none, 0⟩,
  ⟨none, .call 26 15 [(.t 25)], none, 0⟩,
  ⟨none, .mv 7 (.t 26), none, 0⟩]
def c3r6 : List SI := [
  ⟨none, .ldR 28 3 0 (some 2), none, 0⟩,
  ⟨none, .ldR 29 4 0 (some 10), none, 0⟩,
  ⟨none, .mv 30 (.t 2), none, 0⟩,
  ⟨none, .call 31 16 [(.t 28), (.t 29), (.t 30)], none, 0⟩,
  ⟨none, .mv 27 (.t 31), none, 0⟩,
  ⟨none, .ext 32 (.t 27) 0, none, 0⟩,
  ⟨none, .ext 33 (.t 27) 1, none, 0⟩,
  ⟨none, .alR 8 [(.int .i64 0), (.slice none 0 0)], none, 0⟩,
  ⟨none, .stR 8 0 2 (.t 32), none, 0⟩,
  ⟨none, .mv 9 (.t 33), none, 0⟩]
def c3r7 : List SI := [
  ⟨none, .ldR 35 3 0 (some 2), none, 0⟩,
  ⟨none, .ldR 36 4 0 (some 10), none, 0⟩,
  ⟨none, .mv 37 (.t 2), none, 0⟩,
  ⟨none, .call 38 17 [(.t 35), (.t 36), (.t 37)], none, 0⟩,
  ⟨none, .mv 34 (.t 38), none, 0⟩,
  ⟨none, .ext 39 (.t 34) 0, none, 0⟩,
  ⟨none, .ext 40 (.t 34) 1, none, 0⟩,
  ⟨none, .alR 10 [(.int .i64 0), (.slice none 0 0)], none, 0⟩,
  ⟨none, .stR 10 0 2 (.t 39), none, 0⟩,
  ⟨none, .mv 11 (.t 40), none, 0⟩]
def c3r8 : List SI := [
  ⟨none, .ldR 41 8 0 (some 2), none, 0⟩,
  ⟨none, .ldR 42 10 0 (some 2), none, 0⟩,
  ⟨none, .call 43 18 [(.t 41), (.t 42)], none, 0⟩,
  ⟨none, .mv 44 (.t 43), none, 0⟩,
  ⟨some (44, true), .mv 45 (.t 9), none, 45⟩,
  ⟨some (44, true), .mv 46 (.t 11), none, 46⟩,
  ⟨some (44, true), .bin 47 .eql (.t 45) (.t 46), none, 47⟩,
  ⟨none, .pick 48 (.t 44) (.t 47) (.b false), none, 0⟩,
  ⟨none, .mv 12 (.t 48), none, 0⟩]
def c3r9 : List SI := [
  ⟨none, .nop, (some 8), 0⟩,
  ⟨none, .ldR 50 8 1 none, none, 0⟩,
  ⟨none, .len 51 false (.t 50), none, 0⟩,
  ⟨none, .mv 52 (.i 0), none, 0⟩]
def c3r10 : List SI := [
  ⟨none, .bin 53 .lss (.t 52) (.t 51), none, 0⟩]
def c3r11 : List SI := [
  ⟨none, .mv 54 (.t 52), none, 0⟩,
  ⟨none, .mv 13 (.t 54), none, 0⟩]
def c3r12 : List SI := [
  ⟨none, .nop, (some 8), 0⟩,
  ⟨none, .ldR 56 8 1 none, none, 0⟩,
  ⟨none, .mv 57 (.t 13), none, 0⟩,
  ⟨none, .ixA 58 (.t 56) (.t 57) 1, none, 0⟩,
  ⟨none, .ld 59 (.t 58) none, none, 0⟩,
  ⟨none, .bin 60 .add (.t 59) (.v (.int .u8 1)), none, 0⟩,
  ⟨none, .ixA 61 (.t 56) (.t 57) 1, none, 0⟩,
  ⟨none, .st (.t 61) 1 (.t 60), none, 0⟩]
def c3r13 : List SI := [
  ⟨none, .bin 62 .add (.t 52) (.i 1), none, 0⟩,
  ⟨none, .mv 52 (.t 62), none, 0⟩]
def c3r14 : List SI := [
  ⟨none, .mv 63 (.t 12), none, 0⟩,
  ⟨none, .mv 64 (.t 63), none, 0⟩,
  ⟨some (64, true), .nop, (some 3), 99999⟩,
  ⟨some (64, true), .ldR 66 3 1 none, none, 66⟩,
  ⟨some (64, true), .mv 67 (.t 7), none, 67⟩,
  ⟨some (64, true), .call 68 19 [(.t 66), (.t 67)], none, 68⟩,
  ⟨none, .pick 69 (.t 64) (.t 68) (.b false), none, 0⟩,
  ⟨none, .mv 6 (.t 69), none, 0⟩]
def c3 : SC :=
  (.seq (.reg false c3r0)
  (.seq (.seq (.reg false c3r1)
  (.cond (.t 15)
   (.seq (.reg false c3r2)
   .ret)
   .skip))
  (.seq (.seq (.reg false c3r3)
  (.cond (.t 23)
   (.seq (.reg false c3r4)
   .ret)
   .skip))
  (.seq (.reg false c3r5)
  (.seq (.reg false c3r6)
  (.seq (.reg false c3r7)
  (.seq (.reg false c3r8)
  (.seq (.seq (.reg false c3r9)
  (.blk 0 (.loop (.seq (.reg false c3r10)
    (.seq (.cond (.t 53)
     .skip
     (.exit 0))
    (.seq (.blk 1 (.seq (.reg false c3r11)
     (.reg false c3r12)))
    (.reg false c3r13)))))))
  (.seq (.reg false c3r14)
  .ret)))))))))
def v3 : List Nat × List Nat := ([3, 4, 8, 10], [3, 4, 8, 10, 24, 49, 55, 65])
def o3 : List RS := [.t 6]
theorem s3 : slimC Try.prog Try.f3.ntmps v3.1 v3.2 ((Try.f3.body).getD .skip) = some c3 := by kernel_rfl
theorem q3 : slimR Try.prog Try.f3.ntmps v3.1 v3.2 Try.f3.results.toList = some o3 := by kernel_rfl
-- watermeet/watermeetlaw07.SegBack N=110
def c4r0 : List SI := [
  ⟨none, .mv 6 (.b false), none, 0⟩]
def c4r1 : List SI := [
  ⟨none, .call 17 12 [], none, 0⟩,
  ⟨none, .un 18 .not (.t 17), none, 0⟩]
def c4r2 : List SI := [
  ⟨none, .mv 6 (.b false), none, 0⟩]
def c4r3 : List SI := [
  ⟨none, .mv 19 (.t 1), none, 0⟩,
  ⟨none, .call 20 20 [(.t 19), (.i 30)], none, 0⟩,
  ⟨none, .un 21 .not (.t 20), none, 0⟩]
def c4r4 : List SI := [
  ⟨none, .mv 6 (.b true), none, 0⟩]
def c4r5 : List SI := [
  ⟨none, .mv 23 (.t 0), none, 0⟩,
  ⟨none, .call 24 21 [(.t 23)], none, 0⟩,
  ⟨none, .mv 22 (.t 24), none, 0⟩,
  ⟨none, .ext 25 (.t 22) 0, none, 0⟩,
  ⟨none, .ext 26 (.t 22) 1, none, 0⟩,
  ⟨none, .alR 7 [(.int .i64 0), (.slice none 0 0)], none, 0⟩,
  ⟨none, .stR 7 0 2 (.t 25), none, 0⟩,
  ⟨none, .mv 8 (.t 26), none, 0⟩]
def c4r6 : List SI := [
  ⟨none, .mv 27 (.t 8), none, 0⟩,
  ⟨none, .bin 28 .neq (.t 27) (.i 0), none, 0⟩]
def c4r7 : List SI := [
  ⟨none, .nop, (some 7), 0⟩,
  ⟨none, .ldR 30 7 1 none, none, 0⟩,
  ⟨none, .len 31 false (.t 30), none, 0⟩,
  ⟨none, .bin 32 .eql (.t 31) (.i 0), none, 0⟩,
  ⟨none, .mv 33 (.t 32), none, 0⟩,
  ⟨some (33, true), .nop, (some 7), 99999⟩,
  ⟨some (33, true), .ldR 35 7 0 none, none, 35⟩,
  ⟨some (33, true), .bin 36 .eql (.t 35) (.i 0), none, 36⟩,
  ⟨none, .pick 37 (.t 33) (.t 36) (.b false), none, 0⟩,
  ⟨none, .mv 6 (.t 37), none, 0⟩]
def c4r8 : List SI := [
  ⟨none, .mv 9 (.v (.slice none 0 0)), none, 0⟩]
def c4r9 : List SI := [
  ⟨none, .mv 38 (.t 1), none, 0⟩,
  ⟨none, .len 39 false (.t 38), none, 0⟩,
  ⟨none, .mv 40 (.i 0), none, 0⟩]
def c4r10 : List SI := [
  ⟨none, .bin 41 .lss (.t 40) (.t 39), none, 0⟩]
def c4r11 : List SI := [
  ⟨none, .ixA 42 (.t 38) (.t 40) 10, none, 0⟩,
  ⟨none, .ld 43 (.t 42) (some 10), none, 0⟩,
  ⟨none, .alR 11 [(.int .i64 0), (.int .i64 0), (.int .i64 0), (.int .i64 0), (.int .i64 0), (.int .i64 0), (.int .i64 0), (.bool false), (.int .i64 0), (.slice none 0 0)], none, 0⟩,
  ⟨none, .stR 11 0 10 (.t 43), none, 0⟩]
def c4r12 : List SI := [
  ⟨none, .ldR 45 7 0 (some 2), none, 0⟩,
  ⟨none, .ldR 46 11 0 (some 10), none, 0⟩,
  ⟨none, .mv 47 (.t 2), none, 0⟩,
  ⟨none, .call 48 16 [(.t 45), (.t 46), (.t 47)], none, 0⟩,
  ⟨none, .mv 44 (.t 48), none, 0⟩,
  ⟨none, .ext 49 (.t 44) 0, none, 0⟩,
  ⟨none, .ext 50 (.t 44) 1, none, 0⟩,
  ⟨none, .alR 12 [(.int .i64 0), (.slice none 0 0)], none, 0⟩,
  ⟨none, .stR 12 0 2 (.t 49), none, 0⟩,
  ⟨none, .mv 13 (.t 50), none, 0⟩]
def c4r13 : List SI := [
  ⟨none, .mv 51 (.t 13), none, 0⟩,
  ⟨none, .bin 52 .eql (.t 51) (.i 0), none, 0⟩]
def c4r14 : List SI := [
  ⟨none, .ldR 53 12 0 (some 2), none, 0⟩,
  ⟨none, .stR 7 0 2 (.t 53), none, 0⟩]
def c4r15 : List SI := [
  ⟨none, .mv 54 (.t 9), none, 0⟩,
  ⟨none, .ldR 55 11 0 (some 10), none, 0⟩,
  ⟨none, .bls 56 27 1 10 [(.int .i64 0), (.int .i64 0), (.int .i64 0), (.int .i64 0), (.int .i64 0), (.int .i64 0), (.int .i64 0), (.bool false), (.int .i64 0), (.slice none 0 0)] [(0, 10, (.t 55))], none, 0⟩,
  ⟨none, .app 57 (.t 54) (.t 56) 27 10 96, none, 0⟩,
  ⟨none, .mv 9 (.t 57), none, 0⟩]
def c4r16 : List SI := [
  ⟨none, .bin 58 .add (.t 40) (.i 1), none, 0⟩,
  ⟨none, .mv 40 (.t 58), none, 0⟩]
def c4r17 : List SI := [
  ⟨none, .ldR 60 7 0 (some 2), none, 0⟩,
  ⟨none, .call 61 22 [(.t 60)], none, 0⟩,
  ⟨none, .mv 59 (.t 61), none, 0⟩,
  ⟨none, .ext 62 (.t 59) 0, none, 0⟩,
  ⟨none, .ext 63 (.t 59) 1, none, 0⟩,
  ⟨none, .mv 14 (.t 62), none, 0⟩,
  ⟨none, .mv 15 (.t 63), none, 0⟩]
def c4r18 : List SI := [
  ⟨none, .mv 64 (.t 0), none, 0⟩,
  ⟨none, .mv 16 (.t 64), none, 0⟩]
def c4r19 : List SI := [
  ⟨none, .mv 65 (.t 9), none, 0⟩,
  ⟨none, .len 66 false (.t 65), none, 0⟩,
  ⟨none, .bin 67 .gtr (.t 66) (.i 0), none, 0⟩]
def c4r20 : List SI := [
  ⟨none, .mv 68 (.t 9), none, 0⟩,
  ⟨none, .mv 69 (.t 9), none, 0⟩,
  ⟨none, .len 70 false (.t 69), none, 0⟩,
  ⟨none, .bin 71 .sub (.t 70) (.i 1), none, 0⟩,
  ⟨none, .ixA 72 (.t 68) (.t 71) 10, none, 0⟩,
  ⟨none, .flA 73 (.t 72) 1, none, 0⟩,
  ⟨none, .ld 74 (.t 73) none, none, 0⟩,
  ⟨none, .bin 75 .add (.t 74) (.i 1), none, 0⟩,
  ⟨none, .mv 16 (.t 75), none, 0⟩]
def c4r21 : List SI := [
  ⟨none, .mv 76 (.t 14), none, 0⟩,
  ⟨none, .mv 77 (.t 9), none, 0⟩,
  ⟨none, .call 78 23 [(.t 76), (.t 77)], none, 0⟩,
  ⟨none, .mv 79 (.t 78), none, 0⟩,
  ⟨some (79, true), .mv 80 (.t 15), none, 80⟩,
  ⟨some (79, true), .nop, (some 7), 99999⟩,
  ⟨some (79, true), .ldR 82 7 1 none, none, 82⟩,
  ⟨some (79, true), .len 83 false (.t 82), none, 83⟩,
  ⟨some (79, true), .bin 84 .eql (.t 80) (.t 83), none, 84⟩,
  ⟨none, .pick 85 (.t 79) (.t 84) (.b false), none, 0⟩,
  ⟨none, .mv 86 (.t 85), none, 0⟩,
  ⟨some (86, true), .ldR 87 7 0 (some 2), none, 87⟩,
  ⟨some (86, true), .call 88 24 [(.t 87)], none, 88⟩,
  ⟨some (86, true), .mv 89 (.t 16), none, 89⟩,
  ⟨some (86, true), .bin 90 .eql (.t 88) (.t 89), none, 90⟩,
  ⟨none, .pick 91 (.t 86) (.t 90) (.b false), none, 0⟩,
  ⟨none, .mv 92 (.t 91), none, 0⟩,
  ⟨some (92, true), .mv 93 (.t 9), none, 93⟩,
  ⟨some (92, true), .len 94 false (.t 93), none, 94⟩,
  ⟨some (92, true), .bin 95 .eql (.t 94) (.i 0), none, 95⟩,
  ⟨some (92, true), .mv 96 (.t 95), none, 96⟩,
  ⟨some (96, false), .nop, (some 7), 99999⟩,
  ⟨some (96, false), .ldR 98 7 1 none, none, 98⟩,
  ⟨some (96, false), .len 99 false (.t 98), none, 99⟩,
  ⟨some (96, false), .mv 100 (.t 2), none, 100⟩,
  ⟨some (96, false), .bin 101 .leq (.t 99) (.t 100), none, 101⟩,
  ⟨some (92, true), .pick 102 (.t 96) (.b true) (.t 101), none, 102⟩,
  ⟨none, .pick 103 (.t 92) (.t 102) (.b false), none, 0⟩,
  ⟨none, .mv 104 (.t 103), none, 0⟩,
  ⟨some (104, true), .nop, (some 7), 99999⟩,
  ⟨some (104, true), .ldR 106 7 0 none, none, 106⟩,
  ⟨some (104, true), .mv 107 (.t 0), none, 107⟩,
  ⟨some (104, true), .bin 108 .eql (.t 106) (.t 107), none, 108⟩,
  ⟨none, .pick 109 (.t 104) (.t 108) (.b false), none, 0⟩,
  ⟨none, .mv 6 (.t 109), none, 0⟩]
def c4 : SC :=
  (.seq (.reg false c4r0)
  (.seq (.seq (.reg false c4r1)
  (.cond (.t 18)
   (.seq (.reg false c4r2)
   .ret)
   .skip))
  (.seq (.seq (.reg false c4r3)
  (.cond (.t 21)
   (.seq (.reg false c4r4)
   .ret)
   .skip))
  (.seq (.reg false c4r5)
  (.seq (.seq (.reg false c4r6)
  (.cond (.t 28)
   (.seq (.reg false c4r7)
   .ret)
   .skip))
  (.seq (.reg false c4r8)
  (.seq (.seq (.reg false c4r9)
  (.blk 0 (.loop (.seq (.reg false c4r10)
    (.seq (.cond (.t 41)
     .skip
     (.exit 0))
    (.seq (.blk 1 (.seq (.reg false c4r11)
     (.seq (.reg false c4r12)
     (.seq (.reg false c4r13)
     (.cond (.t 52)
      (.seq (.reg false c4r14)
      (.reg false c4r15))
      .skip)))))
    (.reg false c4r16)))))))
  (.seq (.reg false c4r17)
  (.seq (.reg false c4r18)
  (.seq (.seq (.reg false c4r19)
  (.cond (.t 67)
   (.reg false c4r20)
   .skip))
  (.seq (.reg false c4r21)
  .ret)))))))))))
def v4 : List Nat × List Nat := ([7, 11, 12], [7, 11, 12, 29, 34, 81, 97, 105])
def o4 : List RS := [.t 6]
theorem s4 : slimC Try.prog Try.f4.ntmps v4.1 v4.2 ((Try.f4.body).getD .skip) = some c4 := by kernel_rfl
theorem q4 : slimR Try.prog Try.f4.ntmps v4.1 v4.2 Try.f4.results.toList = some o4 := by kernel_rfl
-- watermeet/watermeetlaw07.SegSpoilt N=121
def c5r0 : List SI := [
  ⟨none, .bxR 3 (.t 0), none, 0⟩,
  ⟨none, .mv 6 (.b false), none, 0⟩]
def c5r1 : List SI := [
  ⟨none, .call 14 12 [], none, 0⟩,
  ⟨none, .un 15 .not (.t 14), none, 0⟩]
def c5r2 : List SI := [
  ⟨none, .mv 6 (.b false), none, 0⟩]
def c5r3 : List SI := [
  ⟨none, .ldR 16 3 0 (some 2), none, 0⟩,
  ⟨none, .call 17 13 [(.t 16)], none, 0⟩,
  ⟨none, .un 18 .not (.t 17), none, 0⟩,
  ⟨none, .mv 19 (.t 18), none, 0⟩,
  ⟨some (19, false), .mv 20 (.t 1), none, 20⟩,
  ⟨some (19, false), .bin 21 .lss (.t 20) (.i 0), none, 21⟩,
  ⟨none, .pick 22 (.t 19) (.b true) (.t 21), none, 0⟩,
  ⟨none, .mv 23 (.t 22), none, 0⟩,
  ⟨some (23, false), .mv 24 (.t 1), none, 24⟩,
  ⟨some (23, false), .nop, (some 3), 99999⟩,
  ⟨some (23, false), .ldR 26 3 1 none, none, 26⟩,
  ⟨some (23, false), .len 27 false (.t 26), none, 27⟩,
  ⟨some (23, false), .bin 28 .geq (.t 24) (.t 27), none, 28⟩,
  ⟨none, .pick 29 (.t 23) (.b true) (.t 28), none, 0⟩,
  ⟨none, .mv 30 (.t 29), none, 0⟩,
  ⟨some (30, false), .nop, (some 3), 99999⟩,
  ⟨some (30, false), .ldR 32 3 1 none, none, 32⟩,
  ⟨some (30, false), .mv 33 (.t 1), none, 33⟩,
  ⟨some (30, false), .ixA 34 (.t 32) (.t 33) 1, none, 34⟩,
  ⟨some (30, false), .ld 35 (.t 34) none, none, 35⟩,
  ⟨some (30, false), .mv 36 (.t 2), none, 36⟩,
  ⟨some (30, false), .bin 37 .eql (.t 35) (.t 36), none, 37⟩,
  ⟨none, .pick 38 (.t 30) (.b true) (.t 37), none, 0⟩]
def c5r4 : List SI := [
  ⟨none, .mv 6 (.b true), none, 0⟩]
def c5r5 : List SI := [
  ⟨none, .ldR 40 3 0 (some 2), none, 0⟩,
  ⟨none, .call 41 22 [(.t 40)], none, 0⟩,
  ⟨none, .mv 39 (.t 41), none, 0⟩,
  ⟨none, .ext 42 (.t 39) 0, none, 0⟩,
  ⟨none, .ext 43 (.t 39) 1, none, 0⟩,
  ⟨none, .mv 7 (.t 42), none, 0⟩,
  ⟨none, .mv 8 (.t 43), none, 0⟩]
def c5r6 : RX := .br [(true, ⟨none, .nop, (some 3), 0⟩),
  (true, ⟨none, .ldR 45 3 0 none, none, 0⟩),
  (true, ⟨none, .nop, (some 3), 0⟩),
  (true, ⟨none, .ldR 47 3 1 none, none, 0⟩)]
  ⟨none, .call 48 15 [(.t 47)], none, 0⟩
  (.leaf [(true, ⟨none, .bld 49 [(.int .i64 0), (.slice none 0 0)] [(0, 1, (.t 45)), (1, 1, (.t 48))], none, 0⟩),
  (false, ⟨none, .al 9 [(.int .i64 0), (.slice none 0 0)], none, 0⟩),
  (false, ⟨none, .st (.t 9) 2 (.t 49), none, 0⟩)])
  ⟨none, .al 9 [(.int .i64 0), (.slice none 0 0)], none, 0⟩
  (.leaf [(false, ⟨none, .call 48 15 [(.t 47)], none, 0⟩),
  (true, ⟨none, .bld 49 [(.int .i64 0), (.slice none 0 0)] [(0, 1, (.t 45)), (1, 1, (.t 48))], none, 0⟩),
  (false, ⟨none, .st (.t 9) 2 (.t 49), none, 0⟩)])
def c5r7 : List SI := [
  ⟨none, .flA 50 (.t 9) 1, none, 0⟩,
  ⟨none, .ld 51 (.t 50) none, none, 0⟩,
  ⟨none, .mv 52 (.t 1), none, 0⟩,
  ⟨none, .mv 53 (.t 2), none, 0⟩,
  ⟨none, .ixA 54 (.t 51) (.t 52) 1, none, 0⟩,
  ⟨none, .st (.t 54) 1 (.t 53), none, 0⟩]
def c5r8 : List SI := [
  ⟨none, .ld 56 (.t 9) (some 2), none, 0⟩,
  ⟨none, .call 57 22 [(.t 56)], none, 0⟩,
  ⟨none, .mv 55 (.t 57), none, 0⟩,
  ⟨none, .ext 58 (.t 55) 0, none, 0⟩,
  ⟨none, .ext 59 (.t 55) 1, none, 0⟩,
  ⟨none, .mv 10 (.t 58), none, 0⟩,
  ⟨none, .mv 11 (.t 59), none, 0⟩]
def c5r9 : List SI := [
  ⟨none, .mv 60 (.t 1), none, 0⟩,
  ⟨none, .mv 61 (.t 8), none, 0⟩,
  ⟨none, .bin 62 .geq (.t 60) (.t 61), none, 0⟩]
def c5r10 : List SI := [
  ⟨none, .mv 63 (.t 10), none, 0⟩,
  ⟨none, .len 64 false (.t 63), none, 0⟩,
  ⟨none, .mv 65 (.t 7), none, 0⟩,
  ⟨none, .len 66 false (.t 65), none, 0⟩,
  ⟨none, .bin 67 .geq (.t 64) (.t 66), none, 0⟩,
  ⟨none, .mv 68 (.t 67), none, 0⟩,
  ⟨some (68, true), .mv 69 (.t 10), none, 69⟩,
  ⟨some (68, true), .mv 70 (.t 7), none, 70⟩,
  ⟨some (68, true), .len 71 false (.t 70), none, 71⟩,
  ⟨some (68, true), .sl 72 (.t 69) none (some (.t 71)) none 10, none, 72⟩,
  ⟨some (68, true), .mv 73 (.t 7), none, 73⟩,
  ⟨some (68, true), .call 74 23 [(.t 72), (.t 73)], none, 74⟩,
  ⟨none, .pick 75 (.t 68) (.t 74) (.b false), none, 0⟩,
  ⟨none, .mv 76 (.t 75), none, 0⟩,
  ⟨some (76, true), .mv 77 (.t 11), none, 77⟩,
  ⟨some (76, true), .mv 78 (.t 8), none, 78⟩,
  ⟨some (76, true), .bin 79 .geq (.t 77) (.t 78), none, 79⟩,
  ⟨none, .pick 80 (.t 76) (.t 79) (.b false), none, 0⟩,
  ⟨none, .mv 6 (.t 80), none, 0⟩]
def c5r11 : List SI := [
  ⟨none, .mv 12 (.i 0), none, 0⟩,
  ⟨none, .mv 13 (.i 0), none, 0⟩]
def c5r12 : List SI := [
  ⟨none, .mv 81 (.t 12), none, 0⟩,
  ⟨none, .mv 82 (.t 7), none, 0⟩,
  ⟨none, .len 83 false (.t 82), none, 0⟩,
  ⟨none, .bin 84 .lss (.t 81) (.t 83), none, 0⟩,
  ⟨none, .mv 85 (.t 84), none, 0⟩,
  ⟨some (85, true), .mv 86 (.t 13), none, 86⟩,
  ⟨some (85, true), .mv 87 (.t 7), none, 87⟩,
  ⟨some (85, true), .mv 88 (.t 12), none, 88⟩,
  ⟨some (85, true), .ixA 89 (.t 87) (.t 88) 10, none, 89⟩,
  ⟨some (85, true), .ld 90 (.t 89) (some 10), none, 90⟩,
  ⟨some (85, true), .call 91 25 [(.t 90)], none, 91⟩,
  ⟨some (85, true), .bin 92 .add (.t 86) (.t 91), none, 92⟩,
  ⟨some (85, true), .mv 93 (.t 1), none, 93⟩,
  ⟨some (85, true), .bin 94 .leq (.t 92) (.t 93), none, 94⟩,
  ⟨none, .pick 95 (.t 85) (.t 94) (.b false), none, 0⟩]
def c5r13 : List SI := [
  ⟨none, .mv 96 (.t 13), none, 0⟩,
  ⟨none, .mv 97 (.t 7), none, 0⟩,
  ⟨none, .mv 98 (.t 12), none, 0⟩,
  ⟨none, .ixA 99 (.t 97) (.t 98) 10, none, 0⟩,
  ⟨none, .ld 100 (.t 99) (some 10), none, 0⟩,
  ⟨none, .call 101 25 [(.t 100)], none, 0⟩,
  ⟨none, .bin 102 .add (.t 96) (.t 101), none, 0⟩,
  ⟨none, .mv 13 (.t 102), none, 0⟩]
def c5r14 : List SI := [
  ⟨none, .mv 103 (.t 12), none, 0⟩,
  ⟨none, .bin 104 .add (.t 103) (.i 1), none, 0⟩,
  ⟨none, .mv 12 (.t 104), none, 0⟩]
def c5r15 : List SI := [
  ⟨none, .mv 105 (.t 10), none, 0⟩,
  ⟨none, .len 106 false (.t 105), none, 0⟩,
  ⟨none, .mv 107 (.t 12), none, 0⟩,
  ⟨none, .bin 108 .eql (.t 106) (.t 107), none, 0⟩,
  ⟨none, .mv 109 (.t 108), none, 0⟩,
  ⟨some (109, true), .mv 110 (.t 11), none, 110⟩,
  ⟨some (109, true), .mv 111 (.t 13), none, 111⟩,
  ⟨some (109, true), .bin 112 .eql (.t 110) (.t 111), none, 112⟩,
  ⟨none, .pick 113 (.t 109) (.t 112) (.b false), none, 0⟩,
  ⟨none, .mv 114 (.t 113), none, 0⟩,
  ⟨some (114, true), .mv 115 (.t 10), none, 115⟩,
  ⟨some (114, true), .mv 116 (.t 7), none, 116⟩,
  ⟨some (114, true), .mv 117 (.t 12), none, 117⟩,
  ⟨some (114, true), .sl 118 (.t 116) none (some (.t 117)) none 10, none, 118⟩,
  ⟨some (114, true), .call 119 23 [(.t 115), (.t 118)], none, 119⟩,
  ⟨none, .pick 120 (.t 114) (.t 119) (.b false), none, 0⟩,
  ⟨none, .mv 6 (.t 120), none, 0⟩]
def c5 : SC :=
  (.seq (.reg false c5r0)
  (.seq (.seq (.reg false c5r1)
  (.cond (.t 15)
   (.seq (.reg false c5r2)
   .ret)
   .skip))
  (.seq (.seq (.reg false c5r3)
  (.cond (.t 38)
   (.seq (.reg false c5r4)
   .ret)
   .skip))
  (.seq (.reg false c5r5)
  (.seq (.rgZ c5r6)
  (.seq (.reg false c5r7)
  (.seq (.reg false c5r8)
  (.seq (.seq (.reg false c5r9)
  (.cond (.t 62)
   (.seq (.reg false c5r10)
   .ret)
   .skip))
  (.seq (.reg false c5r11)
  (.seq (.blk 0 (.loop (.seq (.seq (.reg false c5r12)
    (.cond (.t 95)
     .skip
     (.exit 0)))
    (.blk 1 (.seq (.reg false c5r13)
     (.reg false c5r14))))))
  (.seq (.reg false c5r15)
  .ret)))))))))))
def v5 : List Nat × List Nat := ([3], [3, 25, 31, 44, 46])
def o5 : List RS := [.t 6]
theorem s5 : slimC Try.prog Try.f5.ntmps v5.1 v5.2 ((Try.f5.body).getD .skip) = some c5 := by kernel_rfl
theorem q5 : slimR Try.prog Try.f5.ntmps v5.1 v5.2 Try.f5.results.toList = some o5 := by kernel_rfl
-- watermeet/watermeetlaw07.SegOrder N=67
def c6r0 : List SI := [
  ⟨none, .bxR 1 (.t 0), none, 0⟩,
  ⟨none, .mv 2 (.b false), none, 0⟩]
def c6r1 : List SI := [
  ⟨none, .call 9 12 [], none, 0⟩,
  ⟨none, .un 10 .not (.t 9), none, 0⟩]
def c6r2 : List SI := [
  ⟨none, .mv 2 (.b false), none, 0⟩]
def c6r3 : List SI := [
  ⟨none, .ldR 11 1 0 (some 2), none, 0⟩,
  ⟨none, .call 12 13 [(.t 11)], none, 0⟩,
  ⟨none, .un 13 .not (.t 12), none, 0⟩]
def c6r4 : List SI := [
  ⟨none, .mv 2 (.b true), none, 0⟩]
def c6r5 : List SI := [
  ⟨none, .ldR 15 1 0 (some 2), none, 0⟩,
  ⟨none, .call 16 22 [(.t 15)], none, 0⟩,
  ⟨none, .mv 14 (.t 16), none, 0⟩,
  ⟨none, .ext 17 (.t 14) 0, none, 0⟩,
  ⟨none, .ext 18 (.t 14) 1, none, 0⟩,
  ⟨none, .mv 3 (.t 17), none, 0⟩,
  ⟨none, .mv 4 (.t 18), none, 0⟩]
def c6r6 : List SI := [
  ⟨none, .nop, (some 1), 0⟩,
  ⟨none, .ldR 20 1 0 none, none, 0⟩,
  ⟨none, .mv 5 (.t 20), none, 0⟩,
  ⟨none, .mv 6 (.i 0), none, 0⟩]
def c6r7 : List SI := [
  ⟨none, .mv 21 (.t 3), none, 0⟩,
  ⟨none, .len 22 false (.t 21), none, 0⟩,
  ⟨none, .mv 23 (.i 0), none, 0⟩]
def c6r8 : List SI := [
  ⟨none, .bin 24 .lss (.t 23) (.t 22), none, 0⟩]
def c6r9 : List SI := [
  ⟨none, .ixA 25 (.t 21) (.t 23) 10, none, 0⟩,
  ⟨none, .ld 26 (.t 25) (some 10), none, 0⟩,
  ⟨none, .alR 8 [(.int .i64 0), (.int .i64 0), (.int .i64 0), (.int .i64 0), (.int .i64 0), (.int .i64 0), (.int .i64 0), (.bool false), (.int .i64 0), (.slice none 0 0)], none, 0⟩,
  ⟨none, .stR 8 0 10 (.t 26), none, 0⟩]
def c6r10 : List SI := [
  ⟨none, .nop, (some 8), 0⟩,
  ⟨none, .ldR 28 8 0 none, none, 0⟩,
  ⟨none, .mv 29 (.t 5), none, 0⟩,
  ⟨none, .bin 30 .lss (.t 28) (.t 29), none, 0⟩,
  ⟨none, .mv 31 (.t 30), none, 0⟩,
  ⟨some (31, false), .nop, (some 8), 99999⟩,
  ⟨some (31, false), .ldR 33 8 1 none, none, 33⟩,
  ⟨some (31, false), .nop, (some 8), 99999⟩,
  ⟨some (31, false), .ldR 35 8 0 none, none, 35⟩,
  ⟨some (31, false), .bin 36 .lss (.t 33) (.t 35), none, 36⟩,
  ⟨none, .pick 37 (.t 31) (.b true) (.t 36), none, 0⟩,
  ⟨none, .mv 38 (.t 37), none, 0⟩,
  ⟨some (38, false), .ldR 39 8 0 (some 10), none, 39⟩,
  ⟨some (38, false), .call 40 26 [(.t 39)], none, 40⟩,
  ⟨some (38, false), .bin 41 .neq (.t 40) (.i 0), none, 41⟩,
  ⟨none, .pick 42 (.t 38) (.b true) (.t 41), none, 0⟩]
def c6r11 : List SI := [
  ⟨none, .mv 2 (.b false), none, 0⟩]
def c6r12 : List SI := [
  ⟨none, .nop, (some 8), 0⟩,
  ⟨none, .ldR 44 8 1 none, none, 0⟩,
  ⟨none, .bin 45 .add (.t 44) (.i 1), none, 0⟩,
  ⟨none, .mv 5 (.t 45), none, 0⟩]
def c6r13 : List SI := [
  ⟨none, .mv 46 (.t 6), none, 0⟩,
  ⟨none, .ldR 47 8 0 (some 10), none, 0⟩,
  ⟨none, .call 48 25 [(.t 47)], none, 0⟩,
  ⟨none, .bin 49 .add (.t 46) (.t 48), none, 0⟩,
  ⟨none, .mv 6 (.t 49), none, 0⟩]
def c6r14 : List SI := [
  ⟨none, .bin 50 .add (.t 23) (.i 1), none, 0⟩,
  ⟨none, .mv 23 (.t 50), none, 0⟩]
def c6r15 : List SI := [
  ⟨none, .mv 51 (.t 6), none, 0⟩,
  ⟨none, .mv 52 (.t 4), none, 0⟩,
  ⟨none, .bin 53 .eql (.t 51) (.t 52), none, 0⟩,
  ⟨none, .mv 54 (.t 53), none, 0⟩,
  ⟨some (54, true), .mv 55 (.t 4), none, 55⟩,
  ⟨some (54, true), .nop, (some 1), 99999⟩,
  ⟨some (54, true), .ldR 57 1 1 none, none, 57⟩,
  ⟨some (54, true), .len 58 false (.t 57), none, 58⟩,
  ⟨some (54, true), .bin 59 .leq (.t 55) (.t 58), none, 59⟩,
  ⟨none, .pick 60 (.t 54) (.t 59) (.b false), none, 0⟩,
  ⟨none, .mv 61 (.t 60), none, 0⟩,
  ⟨some (61, true), .ldR 62 1 0 (some 2), none, 62⟩,
  ⟨some (61, true), .call 63 24 [(.t 62)], none, 63⟩,
  ⟨some (61, true), .mv 64 (.t 5), none, 64⟩,
  ⟨some (61, true), .bin 65 .eql (.t 63) (.t 64), none, 65⟩,
  ⟨none, .pick 66 (.t 61) (.t 65) (.b false), none, 0⟩,
  ⟨none, .mv 2 (.t 66), none, 0⟩]
def c6 : SC :=
  (.seq (.reg false c6r0)
  (.seq (.seq (.reg false c6r1)
  (.cond (.t 10)
   (.seq (.reg false c6r2)
   .ret)
   .skip))
  (.seq (.seq (.reg false c6r3)
  (.cond (.t 13)
   (.seq (.reg false c6r4)
   .ret)
   .skip))
  (.seq (.reg false c6r5)
  (.seq (.reg false c6r6)
  (.seq (.seq (.reg false c6r7)
  (.blk 0 (.loop (.seq (.reg false c6r8)
    (.seq (.cond (.t 24)
     .skip
     (.exit 0))
    (.seq (.blk 1 (.seq (.reg false c6r9)
     (.seq (.seq (.reg false c6r10)
     (.cond (.t 42)
      (.seq (.reg false c6r11)
      .ret)
      .skip))
     (.seq (.reg false c6r12)
     (.reg false c6r13)))))
    (.reg false c6r14)))))))
  (.seq (.reg false c6r15)
  .ret)))))))
def v6 : List Nat × List Nat := ([1, 8], [1, 8, 19, 27, 32, 34, 43, 56])
def o6 : List RS := [.t 2]
theorem q6 : slimR Try.prog Try.f6.ntmps v6.1 v6.2 Try.f6.results.toList = some o6 := by kernel_rfl
-- watermeet/watermeetlaw07.SegScans N=88
def c7r0 : List SI := [
  ⟨none, .bxR 1 (.t 0), none, 0⟩,
  ⟨none, .mv 2 (.b false), none, 0⟩]
def c7r1 : List SI := [
  ⟨none, .call 14 12 [], none, 0⟩,
  ⟨none, .un 15 .not (.t 14), none, 0⟩]
def c7r2 : List SI := [
  ⟨none, .mv 2 (.b false), none, 0⟩]
def c7r3 : List SI := [
  ⟨none, .ldR 16 1 0 (some 2), none, 0⟩,
  ⟨none, .call 17 13 [(.t 16)], none, 0⟩,
  ⟨none, .un 18 .not (.t 17), none, 0⟩]
def c7r4 : List SI := [
  ⟨none, .mv 2 (.b true), none, 0⟩]
def c7r5 : List SI := [
  ⟨none, .nop, (some 1), 0⟩,
  ⟨none, .ldR 20 1 1 none, none, 0⟩,
  ⟨none, .call 21 15 [(.t 20)], none, 0⟩,
  ⟨none, .mv 3 (.t 21), none, 0⟩]
def c7r6 : List SI := [
  ⟨none, .ldR 23 1 0 (some 2), none, 0⟩,
  ⟨none, .call 24 22 [(.t 23)], none, 0⟩,
  ⟨none, .mv 22 (.t 24), none, 0⟩,
  ⟨none, .ext 25 (.t 22) 0, none, 0⟩,
  ⟨none, .ext 26 (.t 22) 1, none, 0⟩,
  ⟨none, .mv 4 (.t 25), none, 0⟩,
  ⟨none, .mv 5 (.t 26), none, 0⟩]
def c7r7 : List SI := [
  ⟨none, .ldR 28 1 0 (some 2), none, 0⟩,
  ⟨none, .call 29 27 [(.t 28)], none, 0⟩,
  ⟨none, .mv 27 (.t 29), none, 0⟩,
  ⟨none, .ext 30 (.t 27) 0, none, 0⟩,
  ⟨none, .ext 31 (.t 27) 1, none, 0⟩,
  ⟨none, .mv 6 (.t 30), none, 0⟩,
  ⟨none, .mv 7 (.t 31), none, 0⟩]
def c7r8 : List SI := [
  ⟨none, .ldR 33 1 0 (some 2), none, 0⟩,
  ⟨none, .call 34 28 [(.t 33)], none, 0⟩,
  ⟨none, .mv 32 (.t 34), none, 0⟩,
  ⟨none, .ext 35 (.t 32) 0, none, 0⟩,
  ⟨none, .ext 36 (.t 32) 1, none, 0⟩,
  ⟨none, .alR 8 [(.int .i64 0), (.slice none 0 0)], none, 0⟩,
  ⟨none, .stR 8 0 2 (.t 35), none, 0⟩,
  ⟨none, .mv 9 (.t 36), none, 0⟩]
def c7r9 : List SI := [
  ⟨none, .ldR 38 1 0 (some 2), none, 0⟩,
  ⟨none, .call 39 29 [(.t 38)], none, 0⟩,
  ⟨none, .mv 37 (.t 39), none, 0⟩,
  ⟨none, .ext 40 (.t 37) 0, none, 0⟩,
  ⟨none, .ext 41 (.t 37) 1, none, 0⟩,
  ⟨none, .alR 10 [(.int .i64 0), (.slice none 0 0)], none, 0⟩,
  ⟨none, .stR 10 0 2 (.t 40), none, 0⟩,
  ⟨none, .mv 11 (.t 41), none, 0⟩]
def c7r10 : List (Bool × SI) := [
  (true, ⟨none, .mv 42 (.t 4), none, 0⟩),
  (true, ⟨none, .mv 43 (.t 6), none, 0⟩),
  (false, ⟨none, .call 44 23 [(.t 42), (.t 43)], none, 0⟩),
  (true, ⟨none, .mv 45 (.t 44), none, 0⟩),
  (true, ⟨some (45, true), .mv 46 (.t 5), none, 46⟩),
  (true, ⟨some (45, true), .mv 47 (.t 7), none, 47⟩),
  (true, ⟨some (45, true), .bin 48 .eql (.t 46) (.t 47), none, 48⟩),
  (true, ⟨none, .pick 49 (.t 45) (.t 48) (.b false), none, 0⟩),
  (true, ⟨none, .mv 50 (.t 49), none, 0⟩),
  (true, ⟨some (50, true), .ldR 51 1 0 (some 2), none, 51⟩),
  (true, ⟨some (50, true), .ldR 53 1 0 (some 2), none, 53⟩),
  (false, ⟨some (50, true), .call 52 24 [(.t 51)], none, 52⟩),
  (false, ⟨some (50, true), .call 54 30 [(.t 53)], none, 54⟩),
  (true, ⟨some (50, true), .bin 55 .eql (.t 52) (.t 54), none, 55⟩),
  (true, ⟨none, .pick 56 (.t 50) (.t 55) (.b false), none, 0⟩),
  (true, ⟨none, .mv 57 (.t 56), none, 0⟩),
  (true, ⟨some (57, true), .ldR 58 8 0 (some 2), none, 58⟩),
  (true, ⟨some (57, true), .ldR 59 10 0 (some 2), none, 59⟩),
  (false, ⟨some (57, true), .call 60 18 [(.t 58), (.t 59)], none, 60⟩),
  (true, ⟨none, .pick 61 (.t 57) (.t 60) (.b false), none, 0⟩),
  (true, ⟨none, .mv 62 (.t 61), none, 0⟩),
  (true, ⟨some (62, true), .mv 63 (.t 9), none, 63⟩),
  (true, ⟨some (62, true), .mv 64 (.t 11), none, 64⟩),
  (true, ⟨some (62, true), .bin 65 .eql (.t 63) (.t 64), none, 65⟩),
  (true, ⟨none, .pick 66 (.t 62) (.t 65) (.b false), none, 0⟩),
  (true, ⟨none, .mv 12 (.t 66), none, 0⟩)]
def c7r11 : List SI := [
  ⟨none, .nop, (some 8), 0⟩,
  ⟨none, .ldR 68 8 1 none, none, 0⟩,
  ⟨none, .len 69 false (.t 68), none, 0⟩,
  ⟨none, .mv 70 (.i 0), none, 0⟩]
def c7r12 : List SI := [
  ⟨none, .bin 71 .lss (.t 70) (.t 69), none, 0⟩]
def c7r13 : List SI := [
  ⟨none, .mv 72 (.t 70), none, 0⟩,
  ⟨none, .mv 13 (.t 72), none, 0⟩]
def c7r14 : List SI := [
  ⟨none, .nop, (some 8), 0⟩,
  ⟨none, .ldR 74 8 1 none, none, 0⟩,
  ⟨none, .mv 75 (.t 13), none, 0⟩,
  ⟨none, .ixA 76 (.t 74) (.t 75) 1, none, 0⟩,
  ⟨none, .ld 77 (.t 76) none, none, 0⟩,
  ⟨none, .bin 78 .add (.t 77) (.v (.int .u8 1)), none, 0⟩,
  ⟨none, .ixA 79 (.t 74) (.t 75) 1, none, 0⟩,
  ⟨none, .st (.t 79) 1 (.t 78), none, 0⟩]
def c7r15 : List SI := [
  ⟨none, .bin 80 .add (.t 70) (.i 1), none, 0⟩,
  ⟨none, .mv 70 (.t 80), none, 0⟩]
def c7r16 : List SI := [
  ⟨none, .mv 81 (.t 12), none, 0⟩,
  ⟨none, .mv 82 (.t 81), none, 0⟩,
  ⟨some (82, true), .nop, (some 1), 99999⟩,
  ⟨some (82, true), .ldR 84 1 1 none, none, 84⟩,
  ⟨some (82, true), .mv 85 (.t 3), none, 85⟩,
  ⟨some (82, true), .call 86 19 [(.t 84), (.t 85)], none, 86⟩,
  ⟨none, .pick 87 (.t 82) (.t 86) (.b false), none, 0⟩,
  ⟨none, .mv 2 (.t 87), none, 0⟩]
def c7 : SC :=
  (.seq (.reg false c7r0)
  (.seq (.seq (.reg false c7r1)
  (.cond (.t 15)
   (.seq (.reg false c7r2)
   .ret)
   .skip))
  (.seq (.seq (.reg false c7r3)
  (.cond (.t 18)
   (.seq (.reg false c7r4)
   .ret)
   .skip))
  (.seq (.reg false c7r5)
  (.seq (.reg false c7r6)
  (.seq (.reg false c7r7)
  (.seq (.reg false c7r8)
  (.seq (.reg false c7r9)
  (.seq (.rgX c7r10)
  (.seq (.seq (.reg false c7r11)
  (.blk 0 (.loop (.seq (.reg false c7r12)
    (.seq (.cond (.t 71)
     .skip
     (.exit 0))
    (.seq (.blk 1 (.seq (.reg false c7r13)
     (.reg false c7r14)))
    (.reg false c7r15)))))))
  (.seq (.reg false c7r16)
  .ret)))))))))))
def v7 : List Nat × List Nat := ([1, 8, 10], [1, 8, 10, 19, 67, 73, 83])
def o7 : List RS := [.t 2]
theorem q7 : slimR Try.prog Try.f7.ntmps v7.1 v7.2 Try.f7.results.toList = some o7 := by kernel_rfl
-- watermeet/watermeetlaw07.SegTorn N=128
def v8 : List Nat × List Nat := ([2, 10], [2, 10, 25, 35, 37, 99])
def o8 : List RS := [.t 4]
theorem q8 : slimR Try.prog Try.f8.ntmps v8.1 v8.2 Try.f8.results.toList = some o8 := by kernel_rfl
-- watermeet/watermeetlaw07.SegCuts N=84
def v9 : List Nat × List Nat := ([2, 7, 11], [2, 7, 11, 31, 52, 54, 64])
def o9 : List RS := [.t 4]
theorem q9 : slimR Try.prog Try.f9.ntmps v9.1 v9.2 Try.f9.results.toList = some o9 := by kernel_rfl
-- watermeet/watermeetlaw07.SegParts N=88
def v10 : List Nat × List Nat := ([9, 11, 14, 15], [9, 11, 14, 15, 50, 74])
def o10 : List RS := [.t 8]
theorem q10 : slimR Try.prog Try.f10.ntmps v10.1 v10.2 Try.f10.results.toList = some o10 := by kernel_rfl
-- watermeet/watermeetlaw07.SegMakes N=80
def c12r0 : List SI := [
  ⟨none, .mv 0 (.b false), none, 0⟩]
def c12r1 : List SI := [
  ⟨none, .call 8 21 [(.i 5)], none, 0⟩,
  ⟨none, .mv 7 (.t 8), none, 0⟩,
  ⟨none, .ext 9 (.t 7) 0, none, 0⟩,
  ⟨none, .ext 10 (.t 7) 1, none, 0⟩,
  ⟨none, .alR 1 [(.int .i64 0), (.slice none 0 0)], none, 0⟩,
  ⟨none, .stR 1 0 2 (.t 9), none, 0⟩,
  ⟨none, .mv 2 (.t 10), none, 0⟩]
def c12r2 : List SI := [
  ⟨none, .ldR 12 1 0 (some 2), none, 0⟩,
  ⟨none, .bld 13 [(.int .i64 0), (.int .i64 0), (.int .i64 0), (.int .i64 0), (.int .i64 0), (.int .i64 0), (.int .i64 0), (.bool false), (.int .i64 0), (.slice none 0 0)] [(0, 1, (.i 6)), (1, 1, (.i 6)), (4, 1, (.i (-1)))], none, 0⟩,
  ⟨none, .call 14 16 [(.t 12), (.t 13), (.i 100)], none, 0⟩,
  ⟨none, .mv 11 (.t 14), none, 0⟩,
  ⟨none, .ext 15 (.t 11) 0, none, 0⟩,
  ⟨none, .ext 16 (.t 11) 1, none, 0⟩,
  ⟨none, .alR 3 [(.int .i64 0), (.slice none 0 0)], none, 0⟩,
  ⟨none, .stR 3 0 2 (.t 15), none, 0⟩,
  ⟨none, .mv 4 (.t 16), none, 0⟩]
def c12r3 : List SI := [
  ⟨none, .ldR 18 3 0 (some 2), none, 0⟩,
  ⟨none, .call 19 22 [(.t 18)], none, 0⟩,
  ⟨none, .mv 17 (.t 19), none, 0⟩,
  ⟨none, .ext 20 (.t 17) 0, none, 0⟩,
  ⟨none, .ext 21 (.t 17) 1, none, 0⟩,
  ⟨none, .mv 5 (.t 20), none, 0⟩,
  ⟨none, .mv 6 (.t 21), none, 0⟩]
def c12r4 : List SI := [
  ⟨none, .mv 22 (.t 2), none, 0⟩,
  ⟨none, .bin 23 .eql (.t 22) (.i 0), none, 0⟩,
  ⟨none, .mv 24 (.t 23), none, 0⟩,
  ⟨some (24, true), .mv 25 (.t 4), none, 25⟩,
  ⟨some (24, true), .bin 26 .eql (.t 25) (.i 0), none, 26⟩,
  ⟨none, .pick 27 (.t 24) (.t 26) (.b false), none, 0⟩,
  ⟨none, .mv 28 (.t 27), none, 0⟩,
  ⟨some (28, true), .ldR 29 1 0 (some 2), none, 29⟩,
  ⟨some (28, true), .call 30 24 [(.t 29)], none, 30⟩,
  ⟨some (28, true), .bin 31 .eql (.t 30) (.i 5), none, 31⟩,
  ⟨none, .pick 32 (.t 28) (.t 31) (.b false), none, 0⟩,
  ⟨none, .mv 33 (.t 32), none, 0⟩,
  ⟨some (33, true), .ldR 34 3 0 (some 2), none, 34⟩,
  ⟨some (33, true), .call 35 24 [(.t 34)], none, 35⟩,
  ⟨some (33, true), .bin 36 .eql (.t 35) (.i 7), none, 36⟩,
  ⟨none, .pick 37 (.t 33) (.t 36) (.b false), none, 0⟩,
  ⟨none, .mv 38 (.t 37), none, 0⟩,
  ⟨some (38, true), .mv 39 (.t 5), none, 39⟩,
  ⟨some (38, true), .len 40 false (.t 39), none, 40⟩,
  ⟨some (38, true), .bin 41 .eql (.t 40) (.i 1), none, 41⟩,
  ⟨none, .pick 42 (.t 38) (.t 41) (.b false), none, 0⟩,
  ⟨none, .mv 43 (.t 42), none, 0⟩,
  ⟨some (43, true), .mv 44 (.t 5), none, 44⟩,
  ⟨some (43, true), .ixA 45 (.t 44) (.i 0) 10, none, 45⟩,
  ⟨some (43, true), .flA 46 (.t 45) 0, none, 46⟩,
  ⟨some (43, true), .ld 47 (.t 46) none, none, 47⟩,
  ⟨some (43, true), .bin 48 .eql (.t 47) (.i 6), none, 48⟩,
  ⟨none, .pick 49 (.t 43) (.t 48) (.b false), none, 0⟩,
  ⟨none, .mv 0 (.t 49), none, 0⟩]
def c12 : SC :=
  (.seq (.reg false c12r0)
  (.seq (.reg false c12r1)
  (.seq (.reg false c12r2)
  (.seq (.reg false c12r3)
  (.seq (.reg false c12r4)
  .ret)))))
def v12 : List Nat × List Nat := ([1, 3], [1, 3])
def o12 : List RS := [.t 0]
theorem s12 : slimC Try.prog Try.f12.ntmps v12.1 v12.2 ((Try.f12.body).getD .skip) = some c12 := by kernel_rfl
theorem q12 : slimR Try.prog Try.f12.ntmps v12.1 v12.2 Try.f12.results.toList = some o12 := by kernel_rfl
-- watermeet/watermeetref07.Few N=7
def c13r0 : List SI := [
  ⟨none, .bxR 1 (.t 0), none, 0⟩,
  ⟨none, .mv 2 (.b false), none, 0⟩]
def c13r1 : List SI := [
  ⟨none, .nop, (some 1), 0⟩,
  ⟨none, .ldR 4 1 1 none, none, 0⟩,
  ⟨none, .len 5 false (.t 4), none, 0⟩,
  ⟨none, .bin 6 .leq (.t 5) (.i 9000), none, 0⟩,
  ⟨none, .mv 2 (.t 6), none, 0⟩]
def c13 : SC :=
  (.seq (.reg false c13r0)
  (.seq (.reg false c13r1)
  .ret))
def v13 : List Nat × List Nat := ([1], [1, 3])
def o13 : List RS := [.t 2]
theorem s13 : slimC Try.prog Try.f13.ntmps v13.1 v13.2 ((Try.f13.body).getD .skip) = some c13 := by kernel_rfl
theorem q13 : slimR Try.prog Try.f13.ntmps v13.1 v13.2 Try.f13.results.toList = some o13 := by kernel_rfl
-- watermeet/watermeetref04.Few N=29
def c15r0 : List SI := [
  ⟨none, .mv 2 (.v (.slice none 0 0)), none, 0⟩]
def c15r1 : List SI := [
  ⟨none, .mv 3 (.t 0), none, 0⟩,
  ⟨none, .app 4 (.v (.slice none 0 0)) (.t 3) 5 1 1, none, 0⟩,
  ⟨none, .mv 2 (.t 4), none, 0⟩]
def c15 : SC :=
  (.seq (.reg false c15r0)
  (.seq (.reg false c15r1)
  .ret))
def v15 : List Nat × List Nat := ([], [])
def o15 : List RS := [.t 2]
theorem s15 : slimC Try.prog Try.f15.ntmps v15.1 v15.2 ((Try.f15.body).getD .skip) = some c15 := by kernel_rfl
theorem q15 : slimR Try.prog Try.f15.ntmps v15.1 v15.2 Try.f15.results.toList = some o15 := by kernel_rfl
-- watermeet/seg.Append N=69
def c16r0 : List SI := [
  ⟨none, .bxR 3 (.t 0), none, 0⟩,
  ⟨none, .bxR 4 (.t 1), none, 0⟩,
  ⟨none, .alR 6 [(.int .i64 0), (.slice none 0 0)], none, 0⟩,
  ⟨none, .mv 7 (.i 0), none, 0⟩]
def c16r1 : List SI := [
  ⟨none, .ldR 13 3 0 (some 2), none, 0⟩,
  ⟨none, .call 14 22 [(.t 13)], none, 0⟩,
  ⟨none, .mv 12 (.t 14), none, 0⟩,
  ⟨none, .ext 15 (.t 12) 0, none, 0⟩,
  ⟨none, .ext 16 (.t 12) 1, none, 0⟩,
  ⟨none, .mv 8 (.t 15), none, 0⟩,
  ⟨none, .mv 9 (.t 16), none, 0⟩]
def c16r2 : List SI := [
  ⟨none, .mv 17 (.t 9), none, 0⟩,
  ⟨none, .nop, (some 3), 0⟩,
  ⟨none, .ldR 19 3 1 none, none, 0⟩,
  ⟨none, .len 20 false (.t 19), none, 0⟩,
  ⟨none, .bin 21 .neq (.t 17) (.t 20), none, 0⟩,
  ⟨none, .mv 22 (.t 21), none, 0⟩,
  ⟨some (22, false), .nop, (some 3), 99999⟩,
  ⟨some (22, false), .ldR 24 3 0 none, none, 24⟩,
  ⟨some (22, false), .call 25 36 [(.t 24)], none, 25⟩,
  ⟨some (22, false), .un 26 .not (.t 25), none, 26⟩,
  ⟨none, .pick 27 (.t 22) (.b true) (.t 26), none, 0⟩,
  ⟨none, .mv 28 (.t 27), none, 0⟩,
  ⟨some (28, false), .mv 29 (.t 2), none, 29⟩,
  ⟨some (28, false), .call 30 37 [(.t 29)], none, 30⟩,
  ⟨some (28, false), .un 31 .not (.t 30), none, 31⟩,
  ⟨none, .pick 32 (.t 28) (.b true) (.t 31), none, 0⟩]
def c16r3 : List SI := [
  ⟨none, .bld 33 [(.int .i64 0), (.slice none 0 0)] [], none, 0⟩,
  ⟨none, .stR 6 0 2 (.t 33), none, 0⟩,
  ⟨none, .mv 7 (.i 1), none, 0⟩]
def c16r4 : List SI := [
  ⟨none, .ldR 35 4 0 (some 10), none, 0⟩,
  ⟨none, .call 36 38 [(.t 35)], none, 0⟩,
  ⟨none, .mv 34 (.t 36), none, 0⟩,
  ⟨none, .ext 37 (.t 34) 0, none, 0⟩,
  ⟨none, .ext 38 (.t 34) 1, none, 0⟩,
  ⟨none, .mv 10 (.t 37), none, 0⟩,
  ⟨none, .mv 11 (.t 38), none, 0⟩]
def c16r5 : List SI := [
  ⟨none, .mv 40 (.t 11), none, 0⟩,
  ⟨none, .bin 41 .neq (.t 40) (.i 0), none, 0⟩,
  ⟨none, .mv 39 (.t 41), none, 0⟩]
def c16r6 : List SI := [
  ⟨none, .bld 42 [(.int .i64 0), (.slice none 0 0)] [], none, 0⟩,
  ⟨none, .mv 43 (.t 11), none, 0⟩,
  ⟨none, .stR 6 0 2 (.t 42), none, 0⟩,
  ⟨none, .mv 7 (.t 43), none, 0⟩]
def c16r7 : List (Bool × SI) := [
  (true, ⟨none, .nop, (some 4), 0⟩),
  (true, ⟨none, .ldR 46 4 0 none, none, 0⟩),
  (true, ⟨none, .ldR 47 3 0 (some 2), none, 0⟩),
  (false, ⟨none, .call 48 24 [(.t 47)], none, 0⟩),
  (true, ⟨none, .bin 49 .lss (.t 46) (.t 48), none, 0⟩),
  (true, ⟨none, .mv 44 (.t 49), none, 0⟩)]
def c16r8 : List SI := [
  ⟨none, .bld 50 [(.int .i64 0), (.slice none 0 0)] [], none, 0⟩,
  ⟨none, .stR 6 0 2 (.t 50), none, 0⟩,
  ⟨none, .mv 7 (.i 71), none, 0⟩]
def c16r9 : List SI := [
  ⟨none, .nop, (some 3), 0⟩,
  ⟨none, .ldR 53 3 1 none, none, 0⟩,
  ⟨none, .len 54 false (.t 53), none, 0⟩,
  ⟨none, .mv 55 (.t 10), none, 0⟩,
  ⟨none, .len 56 false (.t 55), none, 0⟩,
  ⟨none, .bin 57 .add (.t 54) (.t 56), none, 0⟩,
  ⟨none, .mv 58 (.t 2), none, 0⟩,
  ⟨none, .bin 59 .gtr (.t 57) (.t 58), none, 0⟩,
  ⟨none, .mv 51 (.t 59), none, 0⟩]
def c16r10 : List SI := [
  ⟨none, .bld 60 [(.int .i64 0), (.slice none 0 0)] [], none, 0⟩,
  ⟨none, .stR 6 0 2 (.t 60), none, 0⟩,
  ⟨none, .mv 7 (.i 70), none, 0⟩]
def c16r11 : List (Bool × SI) := [
  (true, ⟨none, .nop, (some 3), 0⟩),
  (true, ⟨none, .ldR 62 3 0 none, none, 0⟩),
  (true, ⟨none, .nop, (some 3), 0⟩),
  (true, ⟨none, .ldR 64 3 1 none, none, 0⟩),
  (true, ⟨none, .mv 65 (.t 10), none, 0⟩),
  (false, ⟨none, .bls 66 22 2 1 [(.slice none 0 0), (.slice none 0 0)] [(0, 1, (.t 64)), (1, 1, (.t 65))], none, 0⟩),
  (false, ⟨none, .call 67 39 [(.t 66)], none, 0⟩),
  (true, ⟨none, .bld 68 [(.int .i64 0), (.slice none 0 0)] [(0, 1, (.t 62)), (1, 1, (.t 67))], none, 0⟩)]
def c16r12 : List SI := [
  ⟨none, .stR 6 0 2 (.t 68), none, 0⟩,
  ⟨none, .mv 7 (.i 0), none, 0⟩]
def c16 : SC :=
  (.seq (.reg false c16r0)
  (.seq (.seq (.reg false c16r1)
  (.seq (.reg false c16r2)
  (.cond (.t 32)
   (.seq (.reg false c16r3)
   .ret)
   .skip)))
  (.seq (.reg false c16r4)
  (.seq (.blk 0 (.seq (.reg false c16r5)
   (.cond (.t 39)
    (.seq (.reg false c16r6)
    .ret)
    (.seq (.rgX c16r7)
    (.cond (.t 44)
     (.seq (.reg false c16r8)
     .ret)
     (.seq (.reg false c16r9)
     (.cond (.t 51)
      (.seq (.reg false c16r10)
      .ret)
      .skip)))))))
  (.seq (.rgY c16r11 c16r12)
  .ret)))))
def v16 : List Nat × List Nat := ([3, 4, 6], [3, 4, 6, 18, 23, 45, 52, 61, 63])
def o16 : List RS := [.r 6 (some 2), .t 7]
theorem s16 : slimC Try.prog Try.f16.ntmps v16.1 v16.2 ((Try.f16.body).getD .skip) = some c16 := by kernel_rfl
theorem q16 : slimR Try.prog Try.f16.ntmps v16.1 v16.2 Try.f16.results.toList = some o16 := by kernel_rfl
-- watermeet/watermeetref07.Append N=54
def c21r0 : List SI := [
  ⟨none, .alR 2 [(.int .i64 0), (.slice none 0 0)], none, 0⟩,
  ⟨none, .mv 3 (.i 0), none, 0⟩]
def c21r1 : List SI := [
  ⟨none, .mv 4 (.t 0), none, 0⟩,
  ⟨none, .call 5 36 [(.t 4)], none, 0⟩,
  ⟨none, .un 6 .not (.t 5), none, 0⟩]
def c21r2 : List SI := [
  ⟨none, .bld 7 [(.int .i64 0), (.slice none 0 0)] [], none, 0⟩,
  ⟨none, .stR 2 0 2 (.t 7), none, 0⟩,
  ⟨none, .mv 3 (.i 1), none, 0⟩]
def c21r3 : List SI := [
  ⟨none, .mv 8 (.t 0), none, 0⟩,
  ⟨none, .bld 9 [(.int .i64 0), (.slice none 0 0)] [(0, 1, (.t 8))], none, 0⟩,
  ⟨none, .stR 2 0 2 (.t 9), none, 0⟩,
  ⟨none, .mv 3 (.i 0), none, 0⟩]
def c21 : SC :=
  (.seq (.reg false c21r0)
  (.seq (.seq (.reg false c21r1)
  (.cond (.t 6)
   (.seq (.reg false c21r2)
   .ret)
   .skip))
  (.seq (.reg false c21r3)
  .ret)))
def v21 : List Nat × List Nat := ([2], [2])
def o21 : List RS := [.r 2 (some 2), .t 3]
theorem s21 : slimC Try.prog Try.f21.ntmps v21.1 v21.2 ((Try.f21.body).getD .skip) = some c21 := by kernel_rfl
theorem q21 : slimR Try.prog Try.f21.ntmps v21.1 v21.2 Try.f21.results.toList = some o21 := by kernel_rfl
-- watermeet/seg.Scan N=17
def c22r0 : List SI := [
  ⟨none, .bx 1 (.t 0), none, 0⟩,
  ⟨none, .al 2 [(.slice none 0 0)], none, 0⟩,
  ⟨none, .al 3 [(.int .i64 0)], none, 0⟩]
def c22r1 : List SI := [
  ⟨none, .ld 6 (.t 1) (some 2), none, 0⟩,
  ⟨none, .call 7 42 [(.t 6)], none, 0⟩]
def c22r2 : List SI := [
  ⟨none, .alR 4 [(.int .i64 0), (.int .i64 0), (.int .i64 0), (.int .i64 0), (.int .i64 0), (.int .i64 0), (.int .i64 0), (.bool false), (.int .i64 0), (.slice none 0 0)], none, 0⟩,
  ⟨none, .stR 4 0 10 (.t 8), none, 0⟩]
def c22r3 : List SI := [
  ⟨none, .mv 5 (.t 9), none, 0⟩]
def c22r4 : List SI := [
  ⟨none, .ld 10 (.t 2) none, none, 0⟩,
  ⟨none, .ldR 11 4 0 (some 10), none, 0⟩,
  ⟨none, .bls 12 27 1 10 [(.int .i64 0), (.int .i64 0), (.int .i64 0), (.int .i64 0), (.int .i64 0), (.int .i64 0), (.int .i64 0), (.bool false), (.int .i64 0), (.slice none 0 0)] [(0, 10, (.t 11))], none, 0⟩,
  ⟨none, .app 13 (.t 10) (.t 12) 27 10 96, none, 0⟩,
  ⟨none, .mv 14 (.t 5), none, 0⟩,
  ⟨none, .st (.t 2) 1 (.t 13), none, 0⟩,
  ⟨none, .st (.t 3) 1 (.t 14), none, 0⟩]
def c22r5 : List WI := [
  (true, false, ⟨none, .ld 15 (.t 2) none, none, 0⟩),
  (true, false, ⟨none, .ld 16 (.t 3) none, none, 0⟩),
  (false, false, ⟨none, .st (.t 2) 1 (.t 15), none, 0⟩),
  (false, true, ⟨none, .st (.t 3) 1 (.t 16), none, 0⟩)]
def c22 : SC :=
  (.seq (.reg false c22r0)
  (.seq (.seq (.reg false c22r1)
  (.blk 0 (.rf (.t 7) [8, 9] (.seq (.reg false c22r2)
    (.reg false c22r3))
    (.blk 1 (.reg false c22r4)))))
  (.seq (.rgW c22r5)
  .ret)))
def v22 : List Nat × List Nat := ([4], [4])
def o22 : List RS := [.c 2 none, .c 3 none]
theorem s22 : slimC Try.prog Try.f22.ntmps v22.1 v22.2 ((Try.f22.body).getD .skip) = some c22 := by kernel_rfl
theorem q22 : slimR Try.prog Try.f22.ntmps v22.1 v22.2 Try.f22.results.toList = some o22 := by kernel_rfl
-- watermeet/watermeetref04.SameAll N=27
def c23r0 : List SI := [
  ⟨none, .mv 4 (.b false), none, 0⟩]
def c23r1 : List SI := [
  ⟨none, .mv 6 (.t 0), none, 0⟩,
  ⟨none, .len 7 false (.t 6), none, 0⟩,
  ⟨none, .mv 8 (.t 1), none, 0⟩,
  ⟨none, .len 9 false (.t 8), none, 0⟩,
  ⟨none, .bin 10 .neq (.t 7) (.t 9), none, 0⟩]
def c23r2 : List SI := [
  ⟨none, .mv 4 (.b false), none, 0⟩]
def c23r3 : List SI := [
  ⟨none, .mv 11 (.t 0), none, 0⟩,
  ⟨none, .len 12 false (.t 11), none, 0⟩,
  ⟨none, .mv 13 (.i 0), none, 0⟩]
def c23r4 : List SI := [
  ⟨none, .bin 14 .lss (.t 13) (.t 12), none, 0⟩]
def c23r5 : List SI := [
  ⟨none, .mv 15 (.t 13), none, 0⟩,
  ⟨none, .mv 5 (.t 15), none, 0⟩]
def c23r6 : List (Bool × SI) := [
  (true, ⟨none, .mv 16 (.t 0), none, 0⟩),
  (true, ⟨none, .mv 17 (.t 5), none, 0⟩),
  (true, ⟨none, .ixA 18 (.t 16) (.t 17) 10, none, 0⟩),
  (true, ⟨none, .ld 19 (.t 18) (some 10), none, 0⟩),
  (true, ⟨none, .mv 20 (.t 1), none, 0⟩),
  (true, ⟨none, .mv 21 (.t 5), none, 0⟩),
  (true, ⟨none, .ixA 22 (.t 20) (.t 21) 10, none, 0⟩),
  (true, ⟨none, .ld 23 (.t 22) (some 10), none, 0⟩),
  (false, ⟨none, .call 24 43 [(.t 19), (.t 23)], none, 0⟩),
  (true, ⟨none, .un 25 .not (.t 24), none, 0⟩)]
def c23r7 : List SI := [
  ⟨none, .mv 4 (.b false), none, 0⟩]
def c23r8 : List SI := [
  ⟨none, .bin 26 .add (.t 13) (.i 1), none, 0⟩,
  ⟨none, .mv 13 (.t 26), none, 0⟩]
def c23r9 : List SI := [
  ⟨none, .mv 4 (.b true), none, 0⟩]
def c23 : SC :=
  (.seq (.reg false c23r0)
  (.seq (.seq (.reg false c23r1)
  (.cond (.t 10)
   (.seq (.reg false c23r2)
   .ret)
   .skip))
  (.seq (.seq (.reg false c23r3)
  (.blk 0 (.loop (.seq (.reg false c23r4)
    (.seq (.cond (.t 14)
     .skip
     (.exit 0))
    (.seq (.blk 1 (.seq (.reg false c23r5)
     (.seq (.rgX c23r6)
     (.cond (.t 25)
      (.seq (.reg false c23r7)
      .ret)
      .skip))))
    (.reg false c23r8)))))))
  (.seq (.reg false c23r9)
  .ret))))
def v23 : List Nat × List Nat := ([], [])
def o23 : List RS := [.t 4]
theorem s23 : slimC Try.prog Try.f23.ntmps v23.1 v23.2 ((Try.f23.body).getD .skip) = some c23 := by kernel_rfl
theorem q23 : slimR Try.prog Try.f23.ntmps v23.1 v23.2 Try.f23.results.toList = some o23 := by kernel_rfl
-- watermeet/seg.End N=15
def c24r0 : List SI := [
  ⟨none, .bx 1 (.t 0), none, 0⟩,
  ⟨none, .mv 2 (.i 0), none, 0⟩]
def c24r1 : List SI := [
  ⟨none, .flA 5 (.t 1) 0, none, 0⟩,
  ⟨none, .ld 6 (.t 5) none, none, 0⟩,
  ⟨none, .al 3 [(.int .i64 0)], none, 0⟩,
  ⟨none, .st (.t 3) 1 (.t 6), none, 0⟩]
def c24r2 : List SI := [
  ⟨none, .ld 7 (.t 1) (some 2), none, 0⟩,
  ⟨none, .call 8 42 [(.t 7)], none, 0⟩]
def c24r3 : List SI := [
  ⟨none, .alR 4 [(.int .i64 0), (.int .i64 0), (.int .i64 0), (.int .i64 0), (.int .i64 0), (.int .i64 0), (.int .i64 0), (.bool false), (.int .i64 0), (.slice none 0 0)], none, 0⟩,
  ⟨none, .stR 4 0 10 (.t 9), none, 0⟩]
def c24r4 : List SI := [
  ⟨none, .nop, (some 4), 0⟩,
  ⟨none, .ldR 12 4 1 none, none, 0⟩,
  ⟨none, .bin 13 .add (.t 12) (.i 1), none, 0⟩,
  ⟨none, .st (.t 3) 1 (.t 13), none, 0⟩]
def c24r5 : List SI := [
  ⟨none, .ld 14 (.t 3) none, none, 0⟩,
  ⟨none, .mv 2 (.t 14), none, 0⟩]
def c24 : SC :=
  (.seq (.reg false c24r0)
  (.seq (.reg false c24r1)
  (.seq (.seq (.reg false c24r2)
  (.blk 0 (.rf (.t 8) [9, 10] (.reg false c24r3)
    (.blk 1 (.reg false c24r4)))))
  (.seq (.reg false c24r5)
  .ret))))
def v24 : List Nat × List Nat := ([4], [4, 11])
def o24 : List RS := [.t 2]
theorem s24 : slimC Try.prog Try.f24.ntmps v24.1 v24.2 ((Try.f24.body).getD .skip) = some c24 := by kernel_rfl
theorem q24 : slimR Try.prog Try.f24.ntmps v24.1 v24.2 Try.f24.results.toList = some o24 := by kernel_rfl
-- watermeet/batch.Size N=12
def c25r0 : List SI := [
  ⟨none, .bxR 1 (.t 0), none, 0⟩,
  ⟨none, .mv 2 (.i 0), none, 0⟩]
def c25r1 : List SI := [
  ⟨none, .ldR 6 1 0 (some 10), none, 0⟩,
  ⟨none, .call 7 38 [(.t 6)], none, 0⟩,
  ⟨none, .mv 5 (.t 7), none, 0⟩,
  ⟨none, .ext 8 (.t 5) 0, none, 0⟩,
  ⟨none, .ext 9 (.t 5) 1, none, 0⟩,
  ⟨none, .mv 3 (.t 8), none, 0⟩,
  ⟨none, .mv 4 (.t 9), none, 0⟩]
def c25r2 : List SI := [
  ⟨none, .mv 10 (.t 3), none, 0⟩,
  ⟨none, .len 11 false (.t 10), none, 0⟩,
  ⟨none, .mv 2 (.t 11), none, 0⟩]
def c25 : SC :=
  (.seq (.reg false c25r0)
  (.seq (.reg false c25r1)
  (.seq (.reg false c25r2)
  .ret)))
def v25 : List Nat × List Nat := ([1], [1])
def o25 : List RS := [.t 2]
theorem s25 : slimC Try.prog Try.f25.ntmps v25.1 v25.2 ((Try.f25.body).getD .skip) = some c25 := by kernel_rfl
theorem q25 : slimR Try.prog Try.f25.ntmps v25.1 v25.2 Try.f25.results.toList = some o25 := by kernel_rfl
-- watermeet/batch.Check N=11
def c26r0 : List SI := [
  ⟨none, .bxR 1 (.t 0), none, 0⟩,
  ⟨none, .mv 2 (.i 0), none, 0⟩]
def c26r1 : List SI := [
  ⟨none, .ldR 6 1 0 (some 10), none, 0⟩,
  ⟨none, .call 7 38 [(.t 6)], none, 0⟩,
  ⟨none, .mv 5 (.t 7), none, 0⟩,
  ⟨none, .ext 8 (.t 5) 0, none, 0⟩,
  ⟨none, .ext 9 (.t 5) 1, none, 0⟩,
  ⟨none, .mv 3 (.t 8), none, 0⟩,
  ⟨none, .mv 4 (.t 9), none, 0⟩]
def c26r2 : List SI := [
  ⟨none, .mv 10 (.t 4), none, 0⟩,
  ⟨none, .mv 2 (.t 10), none, 0⟩]
def c26 : SC :=
  (.seq (.reg false c26r0)
  (.seq (.reg false c26r1)
  (.seq (.reg false c26r2)
  .ret)))
def v26 : List Nat × List Nat := ([1], [1])
def o26 : List RS := [.t 2]
theorem s26 : slimC Try.prog Try.f26.ntmps v26.1 v26.2 ((Try.f26.body).getD .skip) = some c26 := by kernel_rfl
theorem q26 : slimR Try.prog Try.f26.ntmps v26.1 v26.2 Try.f26.results.toList = some o26 := by kernel_rfl
-- watermeet/watermeetref07.Scan N=50
def c36r0 : List SI := [
  ⟨none, .mv 2 (.b false), none, 0⟩]
def c36r1 : List SI := [
  ⟨none, .mv 3 (.t 0), none, 0⟩,
  ⟨none, .bin 4 .geq (.t 3) (.i 0), none, 0⟩,
  ⟨none, .mv 5 (.t 4), none, 0⟩,
  ⟨some (5, true), .mv 6 (.t 0), none, 6⟩,
  ⟨some (5, true), .bin 7 .leq (.t 6) (.i 1099511627776), none, 7⟩,
  ⟨none, .pick 8 (.t 5) (.t 7) (.b false), none, 0⟩,
  ⟨none, .mv 2 (.t 8), none, 0⟩]
def c36 : SC :=
  (.seq (.reg false c36r0)
  (.seq (.reg false c36r1)
  .ret))
def v36 : List Nat × List Nat := ([], [])
def o36 : List RS := [.t 2]
theorem s36 : slimC Try.prog Try.f36.ntmps v36.1 v36.2 ((Try.f36.body).getD .skip) = some c36 := by kernel_rfl
theorem q36 : slimR Try.prog Try.f36.ntmps v36.1 v36.2 Try.f36.results.toList = some o36 := by kernel_rfl
-- watermeet/seg.limited N=9
def c37r0 : List SI := [
  ⟨none, .mv 2 (.b false), none, 0⟩]
def c37r1 : List SI := [
  ⟨none, .mv 3 (.t 0), none, 0⟩,
  ⟨none, .bin 4 .geq (.t 3) (.i 1), none, 0⟩,
  ⟨none, .mv 5 (.t 4), none, 0⟩,
  ⟨some (5, true), .mv 6 (.t 0), none, 6⟩,
  ⟨some (5, true), .bin 7 .leq (.t 6) (.i 4096), none, 7⟩,
  ⟨none, .pick 8 (.t 5) (.t 7) (.b false), none, 0⟩,
  ⟨none, .mv 2 (.t 8), none, 0⟩]
def c37 : SC :=
  (.seq (.reg false c37r0)
  (.seq (.reg false c37r1)
  .ret))
def v37 : List Nat × List Nat := ([], [])
def o37 : List RS := [.t 2]
theorem s37 : slimC Try.prog Try.f37.ntmps v37.1 v37.2 ((Try.f37.body).getD .skip) = some c37 := by kernel_rfl
theorem q37 : slimR Try.prog Try.f37.ntmps v37.1 v37.2 Try.f37.results.toList = some o37 := by kernel_rfl
-- watermeet/batch.Put N=14
def c38r0 : List SI := [
  ⟨none, .bxR 1 (.t 0), none, 0⟩,
  ⟨none, .mv 2 (.v (.slice none 0 0)), none, 0⟩,
  ⟨none, .mv 3 (.i 0), none, 0⟩]
def c38r1 : List SI := [
  ⟨none, .ldR 5 1 0 (some 10), none, 0⟩,
  ⟨none, .call 6 47 [(.t 5)], none, 0⟩,
  ⟨none, .un 7 .not (.t 6), none, 0⟩]
def c38r2 : List SI := [
  ⟨none, .mv 2 (.v (.slice none 0 0)), none, 0⟩,
  ⟨none, .mv 3 (.i 1), none, 0⟩]
def c38r3 : List SI := [
  ⟨none, .ldR 8 1 0 (some 10), none, 0⟩,
  ⟨none, .call 9 48 [(.t 8)], none, 0⟩,
  ⟨none, .mv 4 (.t 9), none, 0⟩]
def c38r4 : List SI := [
  ⟨none, .mv 10 (.t 4), none, 0⟩,
  ⟨none, .len 11 false (.t 10), none, 0⟩,
  ⟨none, .bin 12 .gtr (.t 11) (.i 2048), none, 0⟩]
def c38r5 : List SI := [
  ⟨none, .mv 2 (.v (.slice none 0 0)), none, 0⟩,
  ⟨none, .mv 3 (.i 2), none, 0⟩]
def c38r6 : List SI := [
  ⟨none, .mv 13 (.t 4), none, 0⟩,
  ⟨none, .mv 2 (.t 13), none, 0⟩,
  ⟨none, .mv 3 (.i 0), none, 0⟩]
def c38 : SC :=
  (.seq (.reg false c38r0)
  (.seq (.seq (.reg false c38r1)
  (.cond (.t 7)
   (.seq (.reg false c38r2)
   .ret)
   .skip))
  (.seq (.reg false c38r3)
  (.seq (.seq (.reg false c38r4)
  (.cond (.t 12)
   (.seq (.reg false c38r5)
   .ret)
   .skip))
  (.seq (.reg false c38r6)
  .ret)))))
def v38 : List Nat × List Nat := ([1], [1])
def o38 : List RS := [.t 2, .t 3]
theorem s38 : slimC Try.prog Try.f38.ntmps v38.1 v38.2 ((Try.f38.body).getD .skip) = some c38 := by kernel_rfl
theorem q38 : slimR Try.prog Try.f38.ntmps v38.1 v38.2 Try.f38.results.toList = some o38 := by kernel_rfl
-- slices.Concat[[]byte,byte] N=36
def c39r0 : List SI := [
  ⟨none, .mv 2 (.v (.slice none 0 0)), none, 0⟩]
def c39r1 : List SI := [
  ⟨none, .mv 3 (.i 0), none, 0⟩]
def c39r2 : List SI := [
  ⟨none, .mv 9 (.t 0), none, 0⟩,
  ⟨none, .len 10 false (.t 9), none, 0⟩,
  ⟨none, .mv 11 (.i 0), none, 0⟩]
def c39r3 : List SI := [
  ⟨none, .bin 12 .lss (.t 11) (.t 10), none, 0⟩]
def c39r4 : List SI := [
  ⟨none, .ixA 13 (.t 9) (.t 11) 1, none, 0⟩,
  ⟨none, .ld 14 (.t 13) none, none, 0⟩,
  ⟨none, .mv 5 (.t 14), none, 0⟩]
def c39r5 : List SI := [
  ⟨none, .mv 15 (.t 3), none, 0⟩,
  ⟨none, .mv 16 (.t 5), none, 0⟩,
  ⟨none, .len 17 false (.t 16), none, 0⟩,
  ⟨none, .bin 18 .add (.t 15) (.t 17), none, 0⟩,
  ⟨none, .mv 3 (.t 18), none, 0⟩]
def c39r6 : List SI := [
  ⟨none, .mv 19 (.t 3), none, 0⟩,
  ⟨none, .bin 20 .lss (.t 19) (.i 0), none, 0⟩]
def c39r7 : List SI := [
  ⟨none, .bin 22 .add (.t 11) (.i 1), none, 0⟩,
  ⟨none, .mv 11 (.t 22), none, 0⟩]
def c39r8 : List SI := [
  ⟨none, .mv 23 (.t 3), none, 0⟩,
  ⟨none, .call 24 49 [(.v (.slice none 0 0)), (.t 23)], none, 0⟩,
  ⟨none, .mv 6 (.t 24), none, 0⟩]
def c39r9 : List SI := [
  ⟨none, .mv 25 (.t 0), none, 0⟩,
  ⟨none, .len 26 false (.t 25), none, 0⟩,
  ⟨none, .mv 27 (.i 0), none, 0⟩]
def c39r10 : List SI := [
  ⟨none, .bin 28 .lss (.t 27) (.t 26), none, 0⟩]
def c39r11 : List SI := [
  ⟨none, .ixA 29 (.t 25) (.t 27) 1, none, 0⟩,
  ⟨none, .ld 30 (.t 29) none, none, 0⟩,
  ⟨none, .mv 8 (.t 30), none, 0⟩]
def c39r12 : List SI := [
  ⟨none, .mv 31 (.t 6), none, 0⟩,
  ⟨none, .mv 32 (.t 8), none, 0⟩,
  ⟨none, .app 33 (.t 31) (.t 32) 5 1 1, none, 0⟩,
  ⟨none, .mv 6 (.t 33), none, 0⟩]
def c39r13 : List SI := [
  ⟨none, .bin 34 .add (.t 27) (.i 1), none, 0⟩,
  ⟨none, .mv 27 (.t 34), none, 0⟩]
def c39r14 : List SI := [
  ⟨none, .mv 35 (.t 6), none, 0⟩,
  ⟨none, .mv 2 (.t 35), none, 0⟩]
def c39 : SC :=
  (.seq (.reg false c39r0)
  (.seq (.reg false c39r1)
  (.seq (.seq (.reg false c39r2)
  (.blk 0 (.loop (.seq (.reg false c39r3)
    (.seq (.cond (.t 12)
     .skip
     (.exit 0))
    (.seq (.blk 1 (.seq (.reg false c39r4)
     (.seq (.reg false c39r5)
     (.seq (.reg false c39r6)
     (.cond (.t 20)
      .dead
      .skip)))))
    (.reg false c39r7)))))))
  (.seq (.reg false c39r8)
  (.seq (.seq (.reg false c39r9)
  (.blk 2 (.loop (.seq (.reg false c39r10)
    (.seq (.cond (.t 28)
     .skip
     (.exit 2))
    (.seq (.blk 3 (.seq (.reg false c39r11)
     (.reg false c39r12)))
    (.reg false c39r13)))))))
  (.seq (.reg false c39r14)
  .ret))))))
def v39 : List Nat × List Nat := ([], [])
def o39 : List RS := [.t 2]
theorem s39 : slimC Try.prog Try.f39.ntmps v39.1 v39.2 ((Try.f39.body).getD .skip) = some c39 := by kernel_rfl
theorem q39 : slimR Try.prog Try.f39.ntmps v39.1 v39.2 Try.f39.results.toList = some o39 := by kernel_rfl
-- watermeet/watermeetref07.Whole N=25
def c42r0 : List SI := [
  ⟨none, .bx 1 (.t 0), none, 0⟩,
  ⟨none, .mv 2 (.v .nilFunc), none, 0⟩]
def c42r1 : List SI := [
  ⟨none, .mkf 3 (.func 52) [(.t 1)], none, 0⟩,
  ⟨none, .mv 2 (.t 3), none, 0⟩]
def c42 : SC :=
  (.seq (.reg false c42r0)
  (.seq (.reg false c42r1)
  .ret))
def v42 : List Nat × List Nat := ([], [])
def o42 : List RS := [.t 2]
theorem s42 : slimC Try.prog Try.f42.ntmps v42.1 v42.2 ((Try.f42.body).getD .skip) = some c42 := by kernel_rfl
theorem q42 : slimR Try.prog Try.f42.ntmps v42.1 v42.2 Try.f42.results.toList = some o42 := by kernel_rfl
-- watermeet/watermeetref04.Same N=73
def c43r0 : List SI := [
  ⟨none, .bxR 2 (.t 0), none, 0⟩,
  ⟨none, .bxR 3 (.t 1), none, 0⟩,
  ⟨none, .mv 4 (.b false), none, 0⟩]
def c43r1 : List SI := [
  ⟨none, .nop, (some 2), 0⟩,
  ⟨none, .ldR 6 2 0 none, none, 0⟩,
  ⟨none, .nop, (some 3), 0⟩,
  ⟨none, .ldR 8 3 0 none, none, 0⟩,
  ⟨none, .bin 9 .eql (.t 6) (.t 8), none, 0⟩,
  ⟨none, .mv 10 (.t 9), none, 0⟩,
  ⟨some (10, true), .nop, (some 2), 99999⟩,
  ⟨some (10, true), .ldR 12 2 1 none, none, 12⟩,
  ⟨some (10, true), .nop, (some 3), 99999⟩,
  ⟨some (10, true), .ldR 14 3 1 none, none, 14⟩,
  ⟨some (10, true), .bin 15 .eql (.t 12) (.t 14), none, 15⟩,
  ⟨none, .pick 16 (.t 10) (.t 15) (.b false), none, 0⟩,
  ⟨none, .mv 17 (.t 16), none, 0⟩,
  ⟨some (17, true), .nop, (some 2), 99999⟩,
  ⟨some (17, true), .ldR 19 2 2 none, none, 19⟩,
  ⟨some (17, true), .nop, (some 3), 99999⟩,
  ⟨some (17, true), .ldR 21 3 2 none, none, 21⟩,
  ⟨some (17, true), .bin 22 .eql (.t 19) (.t 21), none, 22⟩,
  ⟨none, .pick 23 (.t 17) (.t 22) (.b false), none, 0⟩,
  ⟨none, .mv 24 (.t 23), none, 0⟩,
  ⟨some (24, true), .nop, (some 2), 99999⟩,
  ⟨some (24, true), .ldR 26 2 3 none, none, 26⟩,
  ⟨some (24, true), .nop, (some 3), 99999⟩,
  ⟨some (24, true), .ldR 28 3 3 none, none, 28⟩,
  ⟨some (24, true), .bin 29 .eql (.t 26) (.t 28), none, 29⟩,
  ⟨none, .pick 30 (.t 24) (.t 29) (.b false), none, 0⟩,
  ⟨none, .mv 31 (.t 30), none, 0⟩,
  ⟨some (31, true), .nop, (some 2), 99999⟩,
  ⟨some (31, true), .ldR 33 2 4 none, none, 33⟩,
  ⟨some (31, true), .nop, (some 3), 99999⟩,
  ⟨some (31, true), .ldR 35 3 4 none, none, 35⟩,
  ⟨some (31, true), .bin 36 .eql (.t 33) (.t 35), none, 36⟩,
  ⟨none, .pick 37 (.t 31) (.t 36) (.b false), none, 0⟩,
  ⟨none, .mv 38 (.t 37), none, 0⟩,
  ⟨some (38, true), .nop, (some 2), 99999⟩,
  ⟨some (38, true), .ldR 40 2 5 none, none, 40⟩,
  ⟨some (38, true), .nop, (some 3), 99999⟩,
  ⟨some (38, true), .ldR 42 3 5 none, none, 42⟩,
  ⟨some (38, true), .bin 43 .eql (.t 40) (.t 42), none, 43⟩,
  ⟨none, .pick 44 (.t 38) (.t 43) (.b false), none, 0⟩,
  ⟨none, .mv 45 (.t 44), none, 0⟩,
  ⟨some (45, true), .nop, (some 2), 99999⟩,
  ⟨some (45, true), .ldR 47 2 6 none, none, 47⟩,
  ⟨some (45, true), .nop, (some 3), 99999⟩,
  ⟨some (45, true), .ldR 49 3 6 none, none, 49⟩,
  ⟨some (45, true), .bin 50 .eql (.t 47) (.t 49), none, 50⟩,
  ⟨none, .pick 51 (.t 45) (.t 50) (.b false), none, 0⟩,
  ⟨none, .mv 52 (.t 51), none, 0⟩,
  ⟨some (52, true), .nop, (some 2), 99999⟩,
  ⟨some (52, true), .ldR 54 2 7 none, none, 54⟩,
  ⟨some (52, true), .nop, (some 3), 99999⟩,
  ⟨some (52, true), .ldR 56 3 7 none, none, 56⟩,
  ⟨some (52, true), .eqb 57 false (.t 54) (.t 56), none, 57⟩,
  ⟨none, .pick 58 (.t 52) (.t 57) (.b false), none, 0⟩,
  ⟨none, .mv 59 (.t 58), none, 0⟩,
  ⟨some (59, true), .nop, (some 2), 99999⟩,
  ⟨some (59, true), .ldR 61 2 8 none, none, 61⟩,
  ⟨some (59, true), .nop, (some 3), 99999⟩,
  ⟨some (59, true), .ldR 63 3 8 none, none, 63⟩,
  ⟨some (59, true), .bin 64 .eql (.t 61) (.t 63), none, 64⟩,
  ⟨none, .pick 65 (.t 59) (.t 64) (.b false), none, 0⟩,
  ⟨none, .mv 66 (.t 65), none, 0⟩,
  ⟨some (66, true), .nop, (some 2), 99999⟩,
  ⟨some (66, true), .ldR 68 2 9 none, none, 68⟩,
  ⟨some (66, true), .nop, (some 3), 99999⟩,
  ⟨some (66, true), .ldR 70 3 9 none, none, 70⟩,
  ⟨some (66, true), .call 71 54 [(.t 68), (.t 70)], none, 71⟩,
  ⟨none, .pick 72 (.t 66) (.t 71) (.b false), none, 0⟩,
  ⟨none, .mv 4 (.t 72), none, 0⟩]
def c43 : SC :=
  (.seq (.reg false c43r0)
  (.seq (.reg false c43r1)
  .ret))
def v43 : List Nat × List Nat := ([2, 3], [2, 3, 5, 7, 11, 13, 18, 20, 25, 27, 32, 34, 39, 41, 46, 48, 53, 55, 60, 62, 67, 69])
def o43 : List RS := [.t 4]
theorem s43 : slimC Try.prog Try.f43.ntmps v43.1 v43.2 ((Try.f43.body).getD .skip) = some c43 := by kernel_rfl
theorem q43 : slimR Try.prog Try.f43.ntmps v43.1 v43.2 Try.f43.results.toList = some o43 := by kernel_rfl
-- watermeet/watermeetref04.Get N=68
def c47r0 : List SI := [
  ⟨none, .bxR 1 (.t 0), none, 0⟩,
  ⟨none, .mv 2 (.b false), none, 0⟩]
def c47r1 : List SI := [
  ⟨none, .nop, (some 1), 0⟩,
  ⟨none, .ldR 8 1 0 none, none, 0⟩,
  ⟨none, .nop, (some 1), 0⟩,
  ⟨none, .ldR 10 1 1 none, none, 0⟩,
  ⟨none, .nop, (some 1), 0⟩,
  ⟨none, .ldR 12 1 2 none, none, 0⟩,
  ⟨none, .bls 13 3 3 1 [(.int .i64 0), (.int .i64 0), (.int .i64 0)] [(0, 1, (.t 8)), (1, 1, (.t 10)), (2, 1, (.t 12))], none, 0⟩,
  ⟨none, .call 14 59 [(.i 1099511627776), (.t 13)], none, 0⟩,
  ⟨none, .un 15 .not (.t 14), none, 0⟩,
  ⟨none, .mv 16 (.t 15), none, 0⟩,
  ⟨some (16, false), .nop, (some 1), 99999⟩,
  ⟨some (16, false), .ldR 18 1 3 none, none, 18⟩,
  ⟨some (16, false), .nop, (some 1), 99999⟩,
  ⟨some (16, false), .ldR 20 1 5 none, none, 20⟩,
  ⟨some (16, false), .nop, (some 1), 99999⟩,
  ⟨some (16, false), .ldR 22 1 6 none, none, 22⟩,
  ⟨some (16, false), .bls 23 3 3 1 [(.int .i64 0), (.int .i64 0), (.int .i64 0)] [(0, 1, (.t 18)), (1, 1, (.t 20)), (2, 1, (.t 22))], none, 23⟩,
  ⟨some (16, false), .call 24 59 [(.i 1048576), (.t 23)], none, 24⟩,
  ⟨some (16, false), .un 25 .not (.t 24), none, 25⟩,
  ⟨none, .pick 26 (.t 16) (.b true) (.t 25), none, 0⟩]
def c47r2 : List SI := [
  ⟨none, .mv 2 (.b false), none, 0⟩]
def c47r3 : List SI := [
  ⟨none, .nop, (some 1), 0⟩,
  ⟨none, .ldR 28 1 1 none, none, 0⟩,
  ⟨none, .nop, (some 1), 0⟩,
  ⟨none, .ldR 30 1 0 none, none, 0⟩,
  ⟨none, .bin 31 .sub (.t 28) (.t 30), none, 0⟩,
  ⟨none, .mv 3 (.t 31), none, 0⟩]
def c47r4 : List SI := [
  ⟨none, .mv 33 (.t 3), none, 0⟩,
  ⟨none, .bin 34 .lss (.t 33) (.i 0), none, 0⟩,
  ⟨none, .mv 35 (.t 34), none, 0⟩,
  ⟨some (35, false), .mv 36 (.t 3), none, 36⟩,
  ⟨some (35, false), .bin 37 .geq (.t 36) (.i 16), none, 37⟩,
  ⟨none, .pick 38 (.t 35) (.b true) (.t 37), none, 0⟩,
  ⟨none, .mv 39 (.t 38), none, 0⟩,
  ⟨some (39, false), .nop, (some 1), 99999⟩,
  ⟨some (39, false), .ldR 41 1 2 none, none, 41⟩,
  ⟨some (39, false), .mv 42 (.t 3), none, 42⟩,
  ⟨some (39, false), .bin 43 .add (.t 41) (.t 42), none, 43⟩,
  ⟨some (39, false), .bin 44 .gtr (.t 43) (.i 1099511627776), none, 44⟩,
  ⟨none, .pick 45 (.t 39) (.b true) (.t 44), none, 0⟩,
  ⟨none, .mv 46 (.t 45), none, 0⟩,
  ⟨some (46, false), .nop, (some 1), 99999⟩,
  ⟨some (46, false), .ldR 48 1 6 none, none, 48⟩,
  ⟨some (46, false), .mv 49 (.t 3), none, 49⟩,
  ⟨some (46, false), .bin 50 .add (.t 48) (.t 49), none, 50⟩,
  ⟨some (46, false), .bin 51 .gtr (.t 50) (.i 1048576), none, 51⟩,
  ⟨none, .pick 52 (.t 46) (.b true) (.t 51), none, 0⟩,
  ⟨none, .mv 32 (.t 52), none, 0⟩]
def c47r5 : List SI := [
  ⟨none, .mv 2 (.b false), none, 0⟩]
def c47r6 : List SI := [
  ⟨none, .nop, (some 1), 0⟩,
  ⟨none, .ldR 55 1 4 none, none, 0⟩,
  ⟨none, .bin 56 .lss (.t 55) (.i (-1)), none, 0⟩,
  ⟨none, .mv 57 (.t 56), none, 0⟩,
  ⟨some (57, false), .nop, (some 1), 99999⟩,
  ⟨some (57, false), .ldR 59 1 4 none, none, 59⟩,
  ⟨some (57, false), .bin 60 .gtr (.t 59) (.i 1099511627776), none, 60⟩,
  ⟨none, .pick 61 (.t 57) (.b true) (.t 60), none, 0⟩,
  ⟨none, .mv 53 (.t 61), none, 0⟩]
def c47r7 : List SI := [
  ⟨none, .mv 2 (.b false), none, 0⟩]
def c47r8 : List SI := [
  ⟨none, .nop, (some 1), 0⟩,
  ⟨none, .ldR 64 1 4 none, none, 0⟩,
  ⟨none, .bin 65 .eql (.t 64) (.i (-1)), none, 0⟩,
  ⟨none, .mv 66 (.t 65), none, 0⟩,
  ⟨some (66, true), .nop, (some 1), 99999⟩,
  ⟨some (66, true), .ldR 68 1 5 none, none, 68⟩,
  ⟨some (66, true), .nop, (some 1), 99999⟩,
  ⟨some (66, true), .ldR 70 1 6 none, none, 70⟩,
  ⟨some (66, true), .bin 71 .add (.t 68) (.t 70), none, 71⟩,
  ⟨some (66, true), .bin 72 .neq (.t 71) (.i 0), none, 72⟩,
  ⟨some (66, true), .mv 73 (.t 72), none, 73⟩,
  ⟨some (73, false), .nop, (some 1), 99999⟩,
  ⟨some (73, false), .ldR 75 1 7 none, none, 75⟩,
  ⟨some (66, true), .pick 76 (.t 73) (.b true) (.t 75), none, 76⟩,
  ⟨some (66, true), .mv 77 (.t 76), none, 77⟩,
  ⟨some (77, false), .nop, (some 1), 99999⟩,
  ⟨some (77, false), .ldR 79 1 8 none, none, 79⟩,
  ⟨some (77, false), .bin 80 .neq (.t 79) (.i 0), none, 80⟩,
  ⟨some (66, true), .pick 81 (.t 77) (.b true) (.t 80), none, 81⟩,
  ⟨none, .pick 82 (.t 66) (.t 81) (.b false), none, 0⟩,
  ⟨none, .mv 62 (.t 82), none, 0⟩]
def c47r9 : List SI := [
  ⟨none, .mv 2 (.b false), none, 0⟩]
def c47r10 : List SI := [
  ⟨none, .nop, (some 1), 0⟩,
  ⟨none, .ldR 84 1 8 none, none, 0⟩]
def c47r11 : List SI := [
  ⟨none, .bin 86 .eql (.t 84) (.i 0), none, 0⟩,
  ⟨none, .mv 85 (.t 86), none, 0⟩]
def c47r12 : List SI := [
  ⟨none, .nop, (some 1), 0⟩,
  ⟨none, .ldR 88 1 0 none, none, 0⟩,
  ⟨none, .mv 4 (.t 88), none, 0⟩]
def c47r13 : List SI := [
  ⟨none, .nop, (some 1), 0⟩,
  ⟨none, .ldR 90 1 9 none, none, 0⟩,
  ⟨none, .len 91 false (.t 90), none, 0⟩,
  ⟨none, .mv 92 (.i 0), none, 0⟩]
def c47r14 : List SI := [
  ⟨none, .bin 93 .lss (.t 92) (.t 91), none, 0⟩]
def c47r15 : List SI := [
  ⟨none, .ixA 94 (.t 90) (.t 92) 5, none, 0⟩,
  ⟨none, .ld 95 (.t 94) (some 5), none, 0⟩,
  ⟨none, .alR 6 [(.int .i64 0), (.string ⟨#[]⟩), (.string ⟨#[]⟩), (.bool false), (.int .i64 0)], none, 0⟩,
  ⟨none, .stR 6 0 5 (.t 95), none, 0⟩]
def c47r16 : List SI := [
  ⟨none, .ldR 96 6 0 (some 5), none, 0⟩,
  ⟨none, .call 97 60 [(.t 96)], none, 0⟩,
  ⟨none, .bin 98 .neq (.t 97) (.i 0), none, 0⟩,
  ⟨none, .mv 99 (.t 98), none, 0⟩,
  ⟨some (99, false), .nop, (some 6), 99999⟩,
  ⟨some (99, false), .ldR 101 6 0 none, none, 101⟩,
  ⟨some (99, false), .mv 102 (.t 4), none, 102⟩,
  ⟨some (99, false), .bin 103 .lss (.t 101) (.t 102), none, 103⟩,
  ⟨none, .pick 104 (.t 99) (.b true) (.t 103), none, 0⟩,
  ⟨none, .mv 105 (.t 104), none, 0⟩,
  ⟨some (105, false), .nop, (some 6), 99999⟩,
  ⟨some (105, false), .ldR 107 6 0 none, none, 107⟩,
  ⟨some (105, false), .nop, (some 1), 99999⟩,
  ⟨some (105, false), .ldR 109 1 1 none, none, 109⟩,
  ⟨some (105, false), .bin 110 .gtr (.t 107) (.t 109), none, 110⟩,
  ⟨none, .pick 111 (.t 105) (.b true) (.t 110), none, 0⟩]
def c47r17 : List SI := [
  ⟨none, .mv 2 (.b false), none, 0⟩]
def c47r18 : List SI := [
  ⟨none, .nop, (some 6), 0⟩,
  ⟨none, .ldR 113 6 0 none, none, 0⟩,
  ⟨none, .bin 114 .add (.t 113) (.i 1), none, 0⟩,
  ⟨none, .mv 4 (.t 114), none, 0⟩]
def c47r19 : List SI := [
  ⟨none, .bin 115 .add (.t 92) (.i 1), none, 0⟩,
  ⟨none, .mv 92 (.t 115), none, 0⟩]
def c47r20 : List SI := [
  ⟨none, .mv 2 (.b true), none, 0⟩]
def c47r21 : List SI := [
  ⟨none, .bin 117 .eql (.t 84) (.i 1), none, 0⟩,
  ⟨none, .mv 116 (.t 117), none, 0⟩]
def c47r22 : List SI := [
  ⟨none, .bin 118 .eql (.t 84) (.i 2), none, 0⟩,
  ⟨none, .mv 116 (.t 118), none, 0⟩]
def c47r23 : List SI := [
  ⟨none, .mv 119 (.t 3), none, 0⟩,
  ⟨none, .bin 120 .eql (.t 119) (.i 0), none, 0⟩,
  ⟨none, .mv 121 (.t 120), none, 0⟩,
  ⟨some (121, true), .nop, (some 1), 99999⟩,
  ⟨some (121, true), .ldR 123 1 9 none, none, 123⟩,
  ⟨some (121, true), .len 124 false (.t 123), none, 124⟩,
  ⟨some (121, true), .bin 125 .eql (.t 124) (.i 0), none, 125⟩,
  ⟨none, .pick 126 (.t 121) (.t 125) (.b false), none, 0⟩,
  ⟨none, .mv 127 (.t 126), none, 0⟩,
  ⟨some (127, true), .nop, (some 1), 99999⟩,
  ⟨some (127, true), .ldR 129 1 7 none, none, 129⟩,
  ⟨none, .pick 130 (.t 127) (.t 129) (.b false), none, 0⟩,
  ⟨none, .mv 2 (.t 130), none, 0⟩]
def c47r24 : List SI := [
  ⟨none, .mv 2 (.b false), none, 0⟩]
def c47 : SC :=
  (.seq (.reg false c47r0)
  (.seq (.seq (.reg false c47r1)
  (.cond (.t 26)
   (.seq (.reg false c47r2)
   .ret)
   .skip))
  (.seq (.reg false c47r3)
  (.seq (.blk 0 (.seq (.reg false c47r4)
   (.cond (.t 32)
    (.seq (.reg false c47r5)
    .ret)
    (.seq (.reg false c47r6)
    (.cond (.t 53)
     (.seq (.reg false c47r7)
     .ret)
     (.seq (.reg false c47r8)
     (.cond (.t 62)
      (.seq (.reg false c47r9)
      .ret)
      .skip)))))))
  (.seq (.seq (.reg false c47r10)
  (.blk 1 (.seq (.reg false c47r11)
   (.cond (.t 85)
    (.seq (.reg false c47r12)
    (.seq (.seq (.reg false c47r13)
    (.blk 2 (.loop (.seq (.reg false c47r14)
      (.seq (.cond (.t 93)
       .skip
       (.exit 2))
      (.seq (.blk 3 (.seq (.reg false c47r15)
       (.seq (.seq (.reg false c47r16)
       (.cond (.t 111)
        (.seq (.reg false c47r17)
        .ret)
        .skip))
       (.reg false c47r18))))
      (.reg false c47r19)))))))
    (.seq (.reg false c47r20)
    .ret)))
    (.seq (.seq (.reg false c47r21)
    (.cond (.t 116)
     .skip
     (.reg false c47r22)))
    (.cond (.t 116)
     (.seq (.reg false c47r23)
     .ret)
     .skip))))))
  (.seq (.reg false c47r24)
  .ret))))))
def v47 : List Nat × List Nat := ([1, 6], [1, 6, 7, 9, 11, 17, 19, 21, 27, 29, 40, 47, 54, 58, 63, 67, 69, 74, 78, 83, 87, 89, 100, 106, 108, 112, 122, 128])
def o47 : List RS := [.t 2]
theorem s47 : slimC Try.prog Try.f47.ntmps v47.1 v47.2 ((Try.f47.body).getD .skip) = some c47 := by kernel_rfl
theorem q47 : slimR Try.prog Try.f47.ntmps v47.1 v47.2 Try.f47.results.toList = some o47 := by kernel_rfl
-- watermeet/batch.write N=91
def c48r0 : List SI := [
  ⟨none, .bxR 1 (.t 0), none, 0⟩,
  ⟨none, .mv 2 (.v (.slice none 0 0)), none, 0⟩]
def c48r1 : List SI := [
  ⟨none, .mv 3 (.v (.slice none 0 0)), none, 0⟩]
def c48r2 : List SI := [
  ⟨none, .nop, (some 1), 0⟩,
  ⟨none, .ldR 13 1 0 none, none, 0⟩,
  ⟨none, .nop, (some 1), 0⟩,
  ⟨none, .ldR 15 1 1 none, none, 0⟩,
  ⟨none, .nop, (some 1), 0⟩,
  ⟨none, .ldR 17 1 0 none, none, 0⟩,
  ⟨none, .bin 18 .sub (.t 15) (.t 17), none, 0⟩,
  ⟨none, .nop, (some 1), 0⟩,
  ⟨none, .ldR 20 1 2 none, none, 0⟩,
  ⟨none, .nop, (some 1), 0⟩,
  ⟨none, .ldR 22 1 3 none, none, 0⟩,
  ⟨none, .nop, (some 1), 0⟩,
  ⟨none, .ldR 24 1 4 none, none, 0⟩,
  ⟨none, .nop, (some 1), 0⟩,
  ⟨none, .ldR 26 1 5 none, none, 0⟩,
  ⟨none, .nop, (some 1), 0⟩,
  ⟨none, .ldR 28 1 6 none, none, 0⟩,
  ⟨none, .bld 29 [(.int .i64 0), (.int .i64 0), (.int .i64 0), (.int .i64 0), (.int .i64 0), (.int .i64 0), (.int .i64 0)] [(0, 1, (.t 13)), (1, 1, (.t 18)), (2, 1, (.t 20)), (3, 1, (.t 22)), (4, 1, (.t 24)), (5, 1, (.t 26)), (6, 1, (.t 28))], none, 0⟩,
  ⟨none, .mv 30 (.i 0), none, 0⟩]
def c48r3 : List SI := [
  ⟨none, .bin 31 .lss (.t 30) (.i 7), none, 0⟩]
def c48r4 : List SI := [
  ⟨none, .ixV 32 (.t 29) (.t 30) 7 1 none, none, 0⟩,
  ⟨none, .mv 5 (.t 32), none, 0⟩]
def c48r5 : List SI := [
  ⟨none, .mv 33 (.t 3), none, 0⟩,
  ⟨none, .mv 34 (.t 5), none, 0⟩,
  ⟨none, .call 35 61 [(.t 33), (.t 34)], none, 0⟩,
  ⟨none, .mv 3 (.t 35), none, 0⟩]
def c48r6 : List SI := [
  ⟨none, .bin 36 .add (.t 30) (.i 1), none, 0⟩,
  ⟨none, .mv 30 (.t 36), none, 0⟩]
def c48r7 : List SI := [
  ⟨none, .nop, (some 1), 0⟩,
  ⟨none, .ldR 38 1 8 none, none, 0⟩,
  ⟨none, .cvI 39 .u8 (.t 38), none, 0⟩,
  ⟨none, .mv 6 (.t 39), none, 0⟩]
def c48r8 : List SI := [
  ⟨none, .nop, (some 1), 0⟩,
  ⟨none, .ldR 41 1 7 none, none, 0⟩]
def c48r9 : List SI := [
  ⟨none, .mv 42 (.t 6), none, 0⟩,
  ⟨none, .bin 43 .or (.t 42) (.v (.int .u8 4)), none, 0⟩,
  ⟨none, .mv 6 (.t 43), none, 0⟩]
def c48r10 : List (Bool × SI) := [
  (true, ⟨none, .mv 44 (.t 3), none, 0⟩),
  (true, ⟨none, .mv 45 (.t 6), none, 0⟩),
  (true, ⟨none, .nop, (some 1), 0⟩),
  (true, ⟨none, .ldR 49 1 9 none, none, 0⟩),
  (true, ⟨none, .len 50 false (.t 49), none, 0⟩),
  (false, ⟨none, .bls 46 5 1 1 [(.int .u8 0)] [(0, 1, (.t 45))], none, 0⟩),
  (false, ⟨none, .app 47 (.t 44) (.t 46) 5 1 1, none, 0⟩),
  (false, ⟨none, .call 51 61 [(.t 47), (.t 50)], none, 0⟩),
  (true, ⟨none, .mv 3 (.t 51), none, 0⟩)]
def c48r11 : List SI := [
  ⟨none, .nop, (some 1), 0⟩,
  ⟨none, .ldR 53 1 9 none, none, 0⟩,
  ⟨none, .len 54 false (.t 53), none, 0⟩,
  ⟨none, .bin 55 .gtr (.t 54) (.i 0), none, 0⟩]
def c48r12 : List SI := [
  ⟨none, .nop, (some 1), 0⟩,
  ⟨none, .ldR 57 1 9 none, none, 0⟩,
  ⟨none, .ixA 58 (.t 57) (.i 0) 5, none, 0⟩,
  ⟨none, .flA 59 (.t 58) 4, none, 0⟩,
  ⟨none, .ld 60 (.t 59) none, none, 0⟩,
  ⟨none, .mv 7 (.t 60), none, 0⟩]
def c48r13 : List SI := [
  ⟨none, .mv 61 (.t 3), none, 0⟩,
  ⟨none, .mv 62 (.t 7), none, 0⟩,
  ⟨none, .call 63 61 [(.t 61), (.t 62)], none, 0⟩,
  ⟨none, .mv 3 (.t 63), none, 0⟩]
def c48r14 : List SI := [
  ⟨none, .nop, (some 1), 0⟩,
  ⟨none, .ldR 65 1 9 none, none, 0⟩,
  ⟨none, .len 66 false (.t 65), none, 0⟩,
  ⟨none, .mv 67 (.i 0), none, 0⟩]
def c48r15 : List SI := [
  ⟨none, .bin 68 .lss (.t 67) (.t 66), none, 0⟩]
def c48r16 : List SI := [
  ⟨none, .ixA 69 (.t 65) (.t 67) 5, none, 0⟩,
  ⟨none, .ld 70 (.t 69) (some 5), none, 0⟩,
  ⟨none, .alR 9 [(.int .i64 0), (.string ⟨#[]⟩), (.string ⟨#[]⟩), (.bool false), (.int .i64 0)], none, 0⟩,
  ⟨none, .stR 9 0 5 (.t 70), none, 0⟩]
def c48r17 : List SI := [
  ⟨none, .ldR 72 9 0 (some 5), none, 0⟩,
  ⟨none, .nop, (some 1), 0⟩,
  ⟨none, .ldR 74 1 0 none, none, 0⟩,
  ⟨none, .mv 75 (.t 7), none, 0⟩,
  ⟨none, .call 76 62 [(.t 72), (.t 74), (.t 75)], none, 0⟩,
  ⟨none, .mv 71 (.t 76), none, 0⟩,
  ⟨none, .ext 77 (.t 71) 0, none, 0⟩,
  ⟨none, .ext 78 (.t 71) 1, none, 0⟩,
  ⟨none, .mv 10 (.t 77), none, 0⟩,
  ⟨none, .mv 11 (.t 78), none, 0⟩]
def c48r18 : List SI := [
  ⟨none, .mv 79 (.t 3), none, 0⟩,
  ⟨none, .mv 80 (.t 10), none, 0⟩,
  ⟨none, .app 81 (.t 79) (.t 80) 5 1 1, none, 0⟩,
  ⟨none, .mv 3 (.t 81), none, 0⟩]
def c48r19 : List SI := [
  ⟨none, .bin 82 .add (.t 67) (.i 1), none, 0⟩,
  ⟨none, .mv 67 (.t 82), none, 0⟩]
def c48r20 : List SI := [
  ⟨none, .mv 83 (.t 3), none, 0⟩,
  ⟨none, .call 84 63 [(.t 83)], none, 0⟩,
  ⟨none, .mv 3 (.t 84), none, 0⟩]
def c48r21 : List SI := [
  ⟨none, .mv 85 (.t 3), none, 0⟩,
  ⟨none, .len 86 false (.t 85), none, 0⟩,
  ⟨none, .cvI 87 .u64 (.t 86), none, 0⟩,
  ⟨none, .call 88 64 [(.v (.slice none 0 0)), (.t 87), (.i 4)], none, 0⟩,
  ⟨none, .mv 89 (.t 3), none, 0⟩,
  ⟨none, .app 90 (.t 88) (.t 89) 5 1 1, none, 0⟩,
  ⟨none, .mv 2 (.t 90), none, 0⟩]
def c48 : SC :=
  (.seq (.reg false c48r0)
  (.seq (.reg false c48r1)
  (.seq (.seq (.reg false c48r2)
  (.blk 0 (.loop (.seq (.reg false c48r3)
    (.seq (.cond (.t 31)
     .skip
     (.exit 0))
    (.seq (.blk 1 (.seq (.reg false c48r4)
     (.reg false c48r5)))
    (.reg false c48r6)))))))
  (.seq (.reg false c48r7)
  (.seq (.seq (.reg false c48r8)
  (.cond (.t 41)
   (.reg false c48r9)
   .skip))
  (.seq (.rgX c48r10)
  (.seq (.seq (.reg false c48r11)
  (.cond (.t 55)
   (.seq (.reg false c48r12)
   (.seq (.reg false c48r13)
   (.seq (.reg false c48r14)
   (.blk 2 (.loop (.seq (.reg false c48r15)
     (.seq (.cond (.t 68)
      .skip
      (.exit 2))
     (.seq (.blk 3 (.seq (.reg false c48r16)
      (.seq (.reg false c48r17)
      (.reg false c48r18))))
     (.reg false c48r19)))))))))
   .skip))
  (.seq (.reg false c48r20)
  (.seq (.reg false c48r21)
  .ret)))))))))
def v48 : List Nat × List Nat := ([1, 9], [1, 9, 12, 14, 16, 19, 21, 23, 25, 27, 37, 40, 48, 52, 56, 64, 73])
def o48 : List RS := [.t 2]
theorem s48 : slimC Try.prog Try.f48.ntmps v48.1 v48.2 ((Try.f48.body).getD .skip) = some c48 := by kernel_rfl
theorem q48 : slimR Try.prog Try.f48.ntmps v48.1 v48.2 Try.f48.results.toList = some o48 := by kernel_rfl
-- slices.Grow[[]byte,byte] N=27
def c49r0 : List SI := [
  ⟨none, .mv 4 (.v (.slice none 0 0)), none, 0⟩]
def c49r1 : List SI := [
  ⟨none, .mv 5 (.t 1), none, 0⟩,
  ⟨none, .bin 6 .lss (.t 5) (.i 0), none, 0⟩]
def c49r2 : List SI := [
  ⟨none, .mv 8 (.t 1), none, 0⟩,
  ⟨none, .mv 9 (.t 0), none, 0⟩,
  ⟨none, .cpc 10 (.t 9), none, 0⟩,
  ⟨none, .mv 11 (.t 0), none, 0⟩,
  ⟨none, .len 12 false (.t 11), none, 0⟩,
  ⟨none, .bin 13 .sub (.t 10) (.t 12), none, 0⟩,
  ⟨none, .bin 14 .sub (.t 8) (.t 13), none, 0⟩,
  ⟨none, .mv 1 (.t 14), none, 0⟩]
def c49r3 : List SI := [
  ⟨none, .mv 15 (.t 1), none, 0⟩,
  ⟨none, .bin 16 .gtr (.t 15) (.i 0), none, 0⟩]
def c49r4 : List SI := [
  ⟨none, .mv 17 (.t 0), none, 0⟩,
  ⟨none, .mv 18 (.t 0), none, 0⟩,
  ⟨none, .cpc 19 (.t 18), none, 0⟩,
  ⟨none, .sl 20 (.t 17) none (some (.t 19)) none 1, none, 0⟩,
  ⟨none, .mv 21 (.t 1), none, 0⟩,
  ⟨none, .apz 22 5 1 1 (.t 20) (.t 21), none, 0⟩,
  ⟨none, .mv 23 (.t 0), none, 0⟩,
  ⟨none, .len 24 false (.t 23), none, 0⟩,
  ⟨none, .sl 25 (.t 22) none (some (.t 24)) none 1, none, 0⟩,
  ⟨none, .mv 0 (.t 25), none, 0⟩]
def c49r5 : List SI := [
  ⟨none, .mv 26 (.t 0), none, 0⟩,
  ⟨none, .mv 4 (.t 26), none, 0⟩]
def c49 : SC :=
  (.seq (.reg false c49r0)
  (.seq (.seq (.reg false c49r1)
  (.cond (.t 6)
   .dead
   .skip))
  (.seq (.seq (.reg false c49r2)
  (.seq (.reg false c49r3)
  (.cond (.t 16)
   (.reg false c49r4)
   .skip)))
  (.seq (.reg false c49r5)
  .ret))))
def v49 : List Nat × List Nat := ([], [])
def o49 : List RS := [.t 4]
theorem s49 : slimC Try.prog Try.f49.ntmps v49.1 v49.2 ((Try.f49.body).getD .skip) = some c49 := by kernel_rfl
theorem q49 : slimR Try.prog Try.f49.ntmps v49.1 v49.2 Try.f49.results.toList = some o49 := by kernel_rfl
-- watermeet/watermeetref04.Check N=10
def c52r0 : List SI := [
  ⟨none, .flA 8 (.t 1) 0, none, 0⟩,
  ⟨none, .ld 9 (.t 8) none, none, 0⟩,
  ⟨none, .mv 3 (.i 0), none, 0⟩,
  ⟨none, .mv 4 (.t 9), none, 0⟩]
def c52r1 : List SI := [
  ⟨none, .flA 11 (.t 1) 1, none, 0⟩,
  ⟨none, .ld 12 (.t 11) none, none, 0⟩,
  ⟨none, .mv 13 (.t 3), none, 0⟩,
  ⟨none, .call 14 53 [(.t 12), (.t 13)], none, 0⟩,
  ⟨none, .mv 10 (.t 14), none, 0⟩,
  ⟨none, .ext 15 (.t 10) 0, none, 0⟩,
  ⟨none, .ext 16 (.t 10) 1, none, 0⟩,
  ⟨none, .ext 17 (.t 10) 2, none, 0⟩,
  ⟨none, .alR 5 [(.int .i64 0), (.int .i64 0), (.int .i64 0), (.int .i64 0), (.int .i64 0), (.int .i64 0), (.int .i64 0), (.bool false), (.int .i64 0), (.slice none 0 0)], none, 0⟩,
  ⟨none, .stR 5 0 10 (.t 15), none, 0⟩,
  ⟨none, .mv 6 (.t 16), none, 0⟩,
  ⟨none, .mv 7 (.t 17), none, 0⟩]
def c52r2 : List SI := [
  ⟨none, .mv 18 (.t 7), none, 0⟩,
  ⟨none, .bin 19 .neq (.t 18) (.i 0), none, 0⟩,
  ⟨none, .mv 20 (.t 19), none, 0⟩,
  ⟨some (20, false), .nop, (some 5), 99999⟩,
  ⟨some (20, false), .ldR 22 5 0 none, none, 22⟩,
  ⟨some (20, false), .mv 23 (.t 4), none, 23⟩,
  ⟨some (20, false), .bin 24 .lss (.t 22) (.t 23), none, 24⟩,
  ⟨none, .pick 25 (.t 20) (.b true) (.t 24), none, 0⟩,
  ⟨none, .mv 26 (.t 25), none, 0⟩,
  ⟨some (26, false), .mv 27 (.t 0), none, 27⟩,
  ⟨some (26, false), .ldR 28 5 0 (some 10), none, 28⟩,
  ⟨some (26, false), .mv 29 (.t 6), none, 29⟩,
  ⟨some (26, false), .cav 30 (.t 27) [(.t 28), (.t 29)], none, 30⟩,
  ⟨some (26, false), .un 31 .not (.t 30), none, 31⟩,
  ⟨none, .pick 32 (.t 26) (.b true) (.t 31), none, 0⟩]
def c52r3 : List SI := [
  ⟨none, .mv 33 (.t 6), none, 0⟩,
  ⟨none, .nop, (some 5), 0⟩,
  ⟨none, .ldR 35 5 1 none, none, 0⟩,
  ⟨none, .bin 36 .add (.t 35) (.i 1), none, 0⟩,
  ⟨none, .mv 3 (.t 33), none, 0⟩,
  ⟨none, .mv 4 (.t 36), none, 0⟩]
def c52 : SC :=
  (.seq (.reg true c52r0)
  (.blk 0 (.loop (.blk 1 (.seq (.reg false c52r1)
     (.seq (.seq (.reg false c52r2)
     (.cond (.t 32)
      .ret
      .skip))
     (.reg true c52r3)))))))
def v52 : List Nat × List Nat := ([5], [5, 21, 34])
def o52 : List RS := []
theorem s52 : slimC Try.prog Try.f52.ntmps v52.1 v52.2 ((Try.f52.body).getD .skip) = some c52 := by kernel_rfl
theorem q52 : slimR Try.prog Try.f52.ntmps v52.1 v52.2 Try.f52.results.toList = some o52 := by kernel_rfl
-- watermeet/batch.Get N=68
def c53r0 : List SI := [
  ⟨none, .alR 4 [(.int .i64 0), (.int .i64 0), (.int .i64 0), (.int .i64 0), (.int .i64 0), (.int .i64 0), (.int .i64 0), (.bool false), (.int .i64 0), (.slice none 0 0)], none, 0⟩,
  ⟨none, .mv 5 (.i 0), none, 0⟩,
  ⟨none, .mv 6 (.i 0), none, 0⟩]
def c53r1 : List SI := [
  ⟨none, .mv 12 (.t 0), none, 0⟩,
  ⟨none, .mv 13 (.t 1), none, 0⟩,
  ⟨none, .call 14 70 [(.t 12), (.t 13), (.i 4)], none, 0⟩,
  ⟨none, .mv 11 (.t 14), none, 0⟩,
  ⟨none, .ext 15 (.t 11) 0, none, 0⟩,
  ⟨none, .ext 16 (.t 11) 1, none, 0⟩,
  ⟨none, .mv 7 (.t 15), none, 0⟩,
  ⟨none, .mv 6 (.t 16), none, 0⟩]
def c53r2 : List SI := [
  ⟨none, .mv 17 (.t 6), none, 0⟩,
  ⟨none, .bin 18 .neq (.t 17) (.i 0), none, 0⟩]
def c53r3 : List SI := [
  ⟨none, .bld 19 [(.int .i64 0), (.int .i64 0), (.int .i64 0), (.int .i64 0), (.int .i64 0), (.int .i64 0), (.int .i64 0), (.bool false), (.int .i64 0), (.slice none 0 0)] [], none, 0⟩,
  ⟨none, .mv 20 (.t 6), none, 0⟩,
  ⟨none, .stR 4 0 10 (.t 19), none, 0⟩,
  ⟨none, .mv 5 (.i 0), none, 0⟩,
  ⟨none, .mv 6 (.t 20), none, 0⟩]
def c53r4 : List SI := [
  ⟨none, .mv 21 (.t 7), none, 0⟩,
  ⟨none, .bin 22 .lss (.t 21) (.v (.int .u64 5)), none, 0⟩,
  ⟨none, .mv 23 (.t 22), none, 0⟩,
  ⟨some (23, false), .mv 24 (.t 7), none, 24⟩,
  ⟨some (23, false), .bin 25 .gtr (.t 24) (.v (.int .u64 2044)), none, 25⟩,
  ⟨none, .pick 26 (.t 23) (.b true) (.t 25), none, 0⟩]
def c53r5 : List SI := [
  ⟨none, .bld 27 [(.int .i64 0), (.int .i64 0), (.int .i64 0), (.int .i64 0), (.int .i64 0), (.int .i64 0), (.int .i64 0), (.bool false), (.int .i64 0), (.slice none 0 0)] [], none, 0⟩,
  ⟨none, .stR 4 0 10 (.t 27), none, 0⟩,
  ⟨none, .mv 5 (.i 0), none, 0⟩,
  ⟨none, .mv 6 (.i 11), none, 0⟩]
def c53r6 : List SI := [
  ⟨none, .mv 28 (.t 0), none, 0⟩,
  ⟨none, .mv 29 (.t 1), none, 0⟩,
  ⟨none, .bin 30 .add (.t 29) (.i 4), none, 0⟩,
  ⟨none, .sl 31 (.t 28) (some (.t 30)) none none 1, none, 0⟩,
  ⟨none, .mv 8 (.t 31), none, 0⟩]
def c53r7 : List SI := [
  ⟨none, .mv 32 (.t 8), none, 0⟩,
  ⟨none, .len 33 false (.t 32), none, 0⟩,
  ⟨none, .cvI 34 .u64 (.t 33), none, 0⟩,
  ⟨none, .mv 35 (.t 7), none, 0⟩,
  ⟨none, .bin 36 .lss (.t 34) (.t 35), none, 0⟩]
def c53r8 : List SI := [
  ⟨none, .bld 37 [(.int .i64 0), (.int .i64 0), (.int .i64 0), (.int .i64 0), (.int .i64 0), (.int .i64 0), (.int .i64 0), (.bool false), (.int .i64 0), (.slice none 0 0)] [], none, 0⟩,
  ⟨none, .stR 4 0 10 (.t 37), none, 0⟩,
  ⟨none, .mv 5 (.i 0), none, 0⟩,
  ⟨none, .mv 6 (.i 10), none, 0⟩]
def c53r9 : List SI := [
  ⟨none, .mv 39 (.t 8), none, 0⟩,
  ⟨none, .mv 40 (.t 7), none, 0⟩,
  ⟨none, .sl 41 (.t 39) none (some (.t 40)) none 1, none, 0⟩,
  ⟨none, .call 42 71 [(.t 41)], none, 0⟩,
  ⟨none, .mv 38 (.t 42), none, 0⟩,
  ⟨none, .ext 43 (.t 38) 0, none, 0⟩,
  ⟨none, .ext 44 (.t 38) 1, none, 0⟩,
  ⟨none, .mv 9 (.t 43), none, 0⟩,
  ⟨none, .mv 6 (.t 44), none, 0⟩]
def c53r10 : List SI := [
  ⟨none, .mv 45 (.t 6), none, 0⟩,
  ⟨none, .bin 46 .neq (.t 45) (.i 0), none, 0⟩]
def c53r11 : List SI := [
  ⟨none, .bld 47 [(.int .i64 0), (.int .i64 0), (.int .i64 0), (.int .i64 0), (.int .i64 0), (.int .i64 0), (.int .i64 0), (.bool false), (.int .i64 0), (.slice none 0 0)] [], none, 0⟩,
  ⟨none, .mv 48 (.t 6), none, 0⟩,
  ⟨none, .stR 4 0 10 (.t 47), none, 0⟩,
  ⟨none, .mv 5 (.i 0), none, 0⟩,
  ⟨none, .mv 6 (.t 48), none, 0⟩]
def c53r12 : List SI := [
  ⟨none, .mv 50 (.t 9), none, 0⟩,
  ⟨none, .call 51 72 [(.t 50)], none, 0⟩,
  ⟨none, .mv 49 (.t 51), none, 0⟩,
  ⟨none, .ext 52 (.t 49) 0, none, 0⟩,
  ⟨none, .ext 53 (.t 49) 1, none, 0⟩,
  ⟨none, .stR 4 0 10 (.t 52), none, 0⟩,
  ⟨none, .mv 10 (.t 53), none, 0⟩]
def c53r13 : List SI := [
  ⟨none, .mv 54 (.t 10), none, 0⟩,
  ⟨none, .un 55 .not (.t 54), none, 0⟩,
  ⟨none, .mv 56 (.t 55), none, 0⟩,
  ⟨some (56, false), .ldR 57 4 0 (some 10), none, 57⟩,
  ⟨some (56, false), .call 58 26 [(.t 57)], none, 58⟩,
  ⟨some (56, false), .bin 59 .neq (.t 58) (.i 0), none, 59⟩,
  ⟨none, .pick 60 (.t 56) (.b true) (.t 59), none, 0⟩]
def c53r14 : List SI := [
  ⟨none, .bld 61 [(.int .i64 0), (.int .i64 0), (.int .i64 0), (.int .i64 0), (.int .i64 0), (.int .i64 0), (.int .i64 0), (.bool false), (.int .i64 0), (.slice none 0 0)] [], none, 0⟩,
  ⟨none, .stR 4 0 10 (.t 61), none, 0⟩,
  ⟨none, .mv 5 (.i 0), none, 0⟩,
  ⟨none, .mv 6 (.i 11), none, 0⟩]
def c53r15 : List SI := [
  ⟨none, .ldR 62 4 0 (some 10), none, 0⟩,
  ⟨none, .mv 63 (.t 1), none, 0⟩,
  ⟨none, .bin 64 .add (.t 63) (.i 4), none, 0⟩,
  ⟨none, .mv 65 (.t 7), none, 0⟩,
  ⟨none, .cvI 66 .i64 (.t 65), none, 0⟩,
  ⟨none, .bin 67 .add (.t 64) (.t 66), none, 0⟩,
  ⟨none, .stR 4 0 10 (.t 62), none, 0⟩,
  ⟨none, .mv 5 (.t 67), none, 0⟩,
  ⟨none, .mv 6 (.i 0), none, 0⟩]
def c53 : SC :=
  (.seq (.reg false c53r0)
  (.seq (.reg false c53r1)
  (.seq (.seq (.reg false c53r2)
  (.cond (.t 18)
   (.seq (.reg false c53r3)
   .ret)
   .skip))
  (.seq (.seq (.reg false c53r4)
  (.cond (.t 26)
   (.seq (.reg false c53r5)
   .ret)
   .skip))
  (.seq (.reg false c53r6)
  (.seq (.seq (.reg false c53r7)
  (.cond (.t 36)
   (.seq (.reg false c53r8)
   .ret)
   .skip))
  (.seq (.reg false c53r9)
  (.seq (.seq (.reg false c53r10)
  (.cond (.t 46)
   (.seq (.reg false c53r11)
   .ret)
   .skip))
  (.seq (.reg false c53r12)
  (.seq (.seq (.reg false c53r13)
  (.cond (.t 60)
   (.seq (.reg false c53r14)
   .ret)
   .skip))
  (.seq (.reg false c53r15)
  .ret)))))))))))
def v53 : List Nat × List Nat := ([4], [4])
def o53 : List RS := [.r 4 (some 10), .t 5, .t 6]
theorem s53 : slimC Try.prog Try.f53.ntmps v53.1 v53.2 ((Try.f53.body).getD .skip) = some c53 := by kernel_rfl
theorem q53 : slimR Try.prog Try.f53.ntmps v53.1 v53.2 Try.f53.results.toList = some o53 := by kernel_rfl
-- watermeet/watermeetref04.SameRecs N=26
def c54r0 : List SI := [
  ⟨none, .mv 4 (.b false), none, 0⟩]
def c54r1 : List SI := [
  ⟨none, .mv 6 (.t 0), none, 0⟩,
  ⟨none, .len 7 false (.t 6), none, 0⟩,
  ⟨none, .mv 8 (.t 1), none, 0⟩,
  ⟨none, .len 9 false (.t 8), none, 0⟩,
  ⟨none, .bin 10 .neq (.t 7) (.t 9), none, 0⟩]
def c54r2 : List SI := [
  ⟨none, .mv 4 (.b false), none, 0⟩]
def c54r3 : List SI := [
  ⟨none, .mv 11 (.t 0), none, 0⟩,
  ⟨none, .len 12 false (.t 11), none, 0⟩,
  ⟨none, .mv 13 (.i 0), none, 0⟩]
def c54r4 : List SI := [
  ⟨none, .bin 14 .lss (.t 13) (.t 12), none, 0⟩]
def c54r5 : List SI := [
  ⟨none, .mv 15 (.t 13), none, 0⟩,
  ⟨none, .mv 5 (.t 15), none, 0⟩]
def c54r6 : List SI := [
  ⟨none, .mv 16 (.t 0), none, 0⟩,
  ⟨none, .mv 17 (.t 5), none, 0⟩,
  ⟨none, .ixA 18 (.t 16) (.t 17) 5, none, 0⟩,
  ⟨none, .ld 19 (.t 18) (some 5), none, 0⟩,
  ⟨none, .mv 20 (.t 1), none, 0⟩,
  ⟨none, .mv 21 (.t 5), none, 0⟩,
  ⟨none, .ixA 22 (.t 20) (.t 21) 5, none, 0⟩,
  ⟨none, .ld 23 (.t 22) (some 5), none, 0⟩,
  ⟨none, .eqf 24 true [0, 2, 2, 1, 0] (.t 19) (.t 23), none, 0⟩]
def c54r7 : List SI := [
  ⟨none, .mv 4 (.b false), none, 0⟩]
def c54r8 : List SI := [
  ⟨none, .bin 25 .add (.t 13) (.i 1), none, 0⟩,
  ⟨none, .mv 13 (.t 25), none, 0⟩]
def c54r9 : List SI := [
  ⟨none, .mv 4 (.b true), none, 0⟩]
def c54 : SC :=
  (.seq (.reg false c54r0)
  (.seq (.seq (.reg false c54r1)
  (.cond (.t 10)
   (.seq (.reg false c54r2)
   .ret)
   .skip))
  (.seq (.seq (.reg false c54r3)
  (.blk 0 (.loop (.seq (.reg false c54r4)
    (.seq (.cond (.t 14)
     .skip
     (.exit 0))
    (.seq (.blk 1 (.seq (.reg false c54r5)
     (.seq (.reg true c54r6)
     (.cond (.t 24)
      (.seq (.reg false c54r7)
      .ret)
      .skip))))
    (.reg false c54r8)))))))
  (.seq (.reg false c54r9)
  .ret))))
def v54 : List Nat × List Nat := ([], [])
def o54 : List RS := [.t 4]
theorem s54 : slimC Try.prog Try.f54.ntmps v54.1 v54.2 ((Try.f54.body).getD .skip) = some c54 := by kernel_rfl
theorem q54 : slimR Try.prog Try.f54.ntmps v54.1 v54.2 Try.f54.results.toList = some o54 := by kernel_rfl
-- watermeet/watermeetref01.Get N=48
def c58r0 : List SI := [
  ⟨none, .mv 2 (.v (.slice none 0 0)), none, 0⟩]
def c58r1 : List SI := [
  ⟨none, .mv 3 (.t 0), none, 0⟩,
  ⟨none, .isn 4 false (.t 3), none, 0⟩]
def c58r2 : List SI := [
  ⟨none, .mv 2 (.v (.slice none 0 0)), none, 0⟩]
def c58r3 : List SI := [
  ⟨none, .bl0 5, none, 0⟩,
  ⟨none, .mv 6 (.t 0), none, 0⟩,
  ⟨none, .app 7 (.t 5) (.t 6) 5 1 1, none, 0⟩,
  ⟨none, .mv 2 (.t 7), none, 0⟩]
def c58 : SC :=
  (.seq (.reg false c58r0)
  (.seq (.seq (.reg false c58r1)
  (.cond (.t 4)
   (.seq (.reg false c58r2)
   .ret)
   .skip))
  (.seq (.reg false c58r3)
  .ret)))
def v58 : List Nat × List Nat := ([], [])
def o58 : List RS := [.t 2]
theorem s58 : slimC Try.prog Try.f58.ntmps v58.1 v58.2 ((Try.f58.body).getD .skip) = some c58 := by kernel_rfl
theorem q58 : slimR Try.prog Try.f58.ntmps v58.1 v58.2 Try.f58.results.toList = some o58 := by kernel_rfl
-- watermeet/batch.within N=14
def c59r0 : List SI := [
  ⟨none, .mv 4 (.b false), none, 0⟩]
def c59r1 : List SI := [
  ⟨none, .mv 5 (.t 1), none, 0⟩,
  ⟨none, .call 6 77 [(.t 5)], none, 0⟩,
  ⟨none, .bin 7 .geq (.t 6) (.i 0), none, 0⟩,
  ⟨none, .mv 8 (.t 7), none, 0⟩,
  ⟨some (8, true), .mv 9 (.t 1), none, 9⟩,
  ⟨some (8, true), .call 10 78 [(.t 9)], none, 10⟩,
  ⟨some (8, true), .mv 11 (.t 0), none, 11⟩,
  ⟨some (8, true), .bin 12 .leq (.t 10) (.t 11), none, 12⟩,
  ⟨none, .pick 13 (.t 8) (.t 12) (.b false), none, 0⟩,
  ⟨none, .mv 4 (.t 13), none, 0⟩]
def c59 : SC :=
  (.seq (.reg false c59r0)
  (.seq (.reg false c59r1)
  .ret))
def v59 : List Nat × List Nat := ([], [])
def o59 : List RS := [.t 4]
theorem s59 : slimC Try.prog Try.f59.ntmps v59.1 v59.2 ((Try.f59.body).getD .skip) = some c59 := by kernel_rfl
theorem q59 : slimR Try.prog Try.f59.ntmps v59.1 v59.2 Try.f59.results.toList = some o59 := by kernel_rfl
-- watermeet/rec.Check N=33
def c60r0 : List SI := [
  ⟨none, .bxR 1 (.t 0), none, 0⟩,
  ⟨none, .mv 2 (.i 0), none, 0⟩]
def c60r1 : List SI := [
  ⟨none, .nop, (some 1), 0⟩,
  ⟨none, .ldR 5 1 0 none, none, 0⟩,
  ⟨none, .call 6 79 [(.t 5)], none, 0⟩,
  ⟨none, .un 7 .not (.t 6), none, 0⟩,
  ⟨none, .mv 3 (.t 7), none, 0⟩]
def c60r2 : List SI := [
  ⟨none, .nop, (some 1), 0⟩,
  ⟨none, .ldR 9 1 4 none, none, 0⟩,
  ⟨none, .call 10 79 [(.t 9)], none, 0⟩,
  ⟨none, .un 11 .not (.t 10), none, 0⟩,
  ⟨none, .mv 3 (.t 11), none, 0⟩]
def c60r3 : List SI := [
  ⟨none, .nop, (some 1), 0⟩,
  ⟨none, .ldR 13 1 1 none, none, 0⟩,
  ⟨none, .len 14 true (.t 13), none, 0⟩,
  ⟨none, .nop, (some 1), 0⟩,
  ⟨none, .ldR 16 1 2 none, none, 0⟩,
  ⟨none, .len 17 true (.t 16), none, 0⟩,
  ⟨none, .mm 18 true (.t 14) (.t 17), none, 0⟩,
  ⟨none, .bin 19 .gtr (.t 18) (.i 64), none, 0⟩,
  ⟨none, .mv 3 (.t 19), none, 0⟩]
def c60r4 : List SI := [
  ⟨none, .mv 2 (.i 1), none, 0⟩]
def c60r5 : List SI := [
  ⟨none, .nop, (some 1), 0⟩,
  ⟨none, .ldR 22 1 3 none, none, 0⟩,
  ⟨none, .mv 23 (.t 22), none, 0⟩,
  ⟨some (23, true), .nop, (some 1), 99999⟩,
  ⟨some (23, true), .ldR 25 1 1 none, none, 25⟩,
  ⟨some (23, true), .bin 26 .eql (.t 25) (.v (.string ⟨#[]⟩)), none, 26⟩,
  ⟨some (23, true), .mv 27 (.t 26), none, 27⟩,
  ⟨some (27, false), .nop, (some 1), 99999⟩,
  ⟨some (27, false), .ldR 29 1 2 none, none, 29⟩,
  ⟨some (27, false), .bin 30 .neq (.t 29) (.v (.string ⟨#[]⟩)), none, 30⟩,
  ⟨some (23, true), .pick 31 (.t 27) (.b true) (.t 30), none, 31⟩,
  ⟨none, .pick 32 (.t 23) (.t 31) (.b false), none, 0⟩,
  ⟨none, .mv 20 (.t 32), none, 0⟩]
def c60r6 : List SI := [
  ⟨none, .mv 2 (.i 1), none, 0⟩]
def c60r7 : List SI := [
  ⟨none, .mv 2 (.i 0), none, 0⟩]
def c60 : SC :=
  (.seq (.reg false c60r0)
  (.seq (.blk 0 (.seq (.seq (.reg false c60r1)
   (.cond (.t 3)
    .skip
    (.seq (.reg false c60r2)
    (.cond (.t 3)
     .skip
     (.reg false c60r3)))))
   (.cond (.t 3)
    (.seq (.reg false c60r4)
    .ret)
    (.seq (.reg false c60r5)
    (.cond (.t 20)
     (.seq (.reg false c60r6)
     .ret)
     .skip)))))
  (.seq (.reg false c60r7)
  .ret)))
def v60 : List Nat × List Nat := ([1], [1, 4, 8, 12, 15, 21, 24, 28])
def o60 : List RS := [.t 2]
theorem s60 : slimC Try.prog Try.f60.ntmps v60.1 v60.2 ((Try.f60.body).getD .skip) = some c60 := by kernel_rfl
theorem q60 : slimR Try.prog Try.f60.ntmps v60.1 v60.2 Try.f60.results.toList = some o60 := by kernel_rfl
-- watermeet/octet.PutVar N=31
def c61r0 : List SI := [
  ⟨none, .mv 4 (.v (.slice none 0 0)), none, 0⟩]
def c61r1 : List SI := [
  ⟨none, .mv 7 (.t 1), none, 0⟩,
  ⟨none, .cvI 8 .u64 (.t 7), none, 0⟩,
  ⟨none, .bin 9 .shl (.t 8) (.v (.int .u64 1)), none, 0⟩,
  ⟨none, .mv 10 (.t 1), none, 0⟩,
  ⟨none, .bin 11 .shr (.t 10) (.v (.int .u64 63)), none, 0⟩,
  ⟨none, .cvI 12 .u64 (.t 11), none, 0⟩,
  ⟨none, .bin 13 .xor (.t 9) (.t 12), none, 0⟩,
  ⟨none, .mv 5 (.t 13), none, 0⟩]
def c61r2 : List SI := [
  ⟨none, .mv 14 (.t 0), none, 0⟩,
  ⟨none, .call 15 58 [(.t 14)], none, 0⟩,
  ⟨none, .mv 6 (.t 15), none, 0⟩]
def c61r3 : List SI := [
  ⟨none, .mv 16 (.t 5), none, 0⟩,
  ⟨none, .bin 17 .geq (.t 16) (.v (.int .u64 128)), none, 0⟩]
def c61r4 : List SI := [
  ⟨none, .mv 20 (.t 6), none, 0⟩,
  ⟨none, .mv 21 (.t 5), none, 0⟩,
  ⟨none, .cvI 22 .u8 (.t 21), none, 0⟩,
  ⟨none, .bin 23 .or (.t 22) (.v (.int .u8 128)), none, 0⟩,
  ⟨none, .bls 24 5 1 1 [(.int .u8 0)] [(0, 1, (.t 23))], none, 0⟩,
  ⟨none, .app 25 (.t 20) (.t 24) 5 1 1, none, 0⟩,
  ⟨none, .mv 6 (.t 25), none, 0⟩]
def c61r5 : List SI := [
  ⟨none, .mv 18 (.t 5), none, 0⟩,
  ⟨none, .bin 19 .shr (.t 18) (.v (.int .u64 7)), none, 0⟩,
  ⟨none, .mv 5 (.t 19), none, 0⟩]
def c61r6 : List SI := [
  ⟨none, .mv 26 (.t 6), none, 0⟩,
  ⟨none, .mv 27 (.t 5), none, 0⟩,
  ⟨none, .cvI 28 .u8 (.t 27), none, 0⟩,
  ⟨none, .bls 29 5 1 1 [(.int .u8 0)] [(0, 1, (.t 28))], none, 0⟩,
  ⟨none, .app 30 (.t 26) (.t 29) 5 1 1, none, 0⟩,
  ⟨none, .mv 4 (.t 30), none, 0⟩]
def c61 : SC :=
  (.seq (.reg false c61r0)
  (.seq (.reg false c61r1)
  (.seq (.reg false c61r2)
  (.seq (.blk 0 (.loop (.seq (.seq (.reg false c61r3)
    (.cond (.t 17)
     .skip
     (.exit 0)))
    (.seq (.blk 1 (.reg false c61r4))
    (.reg false c61r5)))))
  (.seq (.reg false c61r6)
  .ret)))))
def v61 : List Nat × List Nat := ([], [])
def o61 : List RS := [.t 4]
theorem s61 : slimC Try.prog Try.f61.ntmps v61.1 v61.2 ((Try.f61.body).getD .skip) = some c61 := by kernel_rfl
theorem q61 : slimR Try.prog Try.f61.ntmps v61.1 v61.2 Try.f61.results.toList = some o61 := by kernel_rfl
-- watermeet/rec.Put N=46
def c62r0 : List SI := [
  ⟨none, .bxR 3 (.t 0), none, 0⟩,
  ⟨none, .mv 6 (.v (.slice none 0 0)), none, 0⟩,
  ⟨none, .mv 7 (.i 0), none, 0⟩]
def c62r1 : List SI := [
  ⟨none, .ldR 11 3 0 (some 5), none, 0⟩,
  ⟨none, .call 12 60 [(.t 11)], none, 0⟩,
  ⟨none, .mv 8 (.t 12), none, 0⟩]
def c62r2 : List SI := [
  ⟨none, .mv 13 (.t 8), none, 0⟩,
  ⟨none, .bin 14 .neq (.t 13) (.i 0), none, 0⟩]
def c62r3 : List SI := [
  ⟨none, .mv 15 (.t 8), none, 0⟩,
  ⟨none, .mv 6 (.v (.slice none 0 0)), none, 0⟩,
  ⟨none, .mv 7 (.t 15), none, 0⟩]
def c62r4 : List SI := [
  ⟨none, .mv 16 (.t 1), none, 0⟩,
  ⟨none, .call 17 79 [(.t 16)], none, 0⟩,
  ⟨none, .un 18 .not (.t 17), none, 0⟩,
  ⟨none, .mv 19 (.t 18), none, 0⟩,
  ⟨some (19, false), .mv 20 (.t 2), none, 20⟩,
  ⟨some (19, false), .call 21 79 [(.t 20)], none, 21⟩,
  ⟨some (19, false), .un 22 .not (.t 21), none, 22⟩,
  ⟨none, .pick 23 (.t 19) (.b true) (.t 22), none, 0⟩]
def c62r5 : List SI := [
  ⟨none, .mv 6 (.v (.slice none 0 0)), none, 0⟩,
  ⟨none, .mv 7 (.i 1), none, 0⟩]
def c62r6 : List SI := [
  ⟨none, .mv 9 (.v (.int .u8 0)), none, 0⟩]
def c62r7 : List SI := [
  ⟨none, .nop, (some 3), 0⟩,
  ⟨none, .ldR 25 3 3 none, none, 0⟩]
def c62r8 : List SI := [
  ⟨none, .mv 9 (.v (.int .u8 1)), none, 0⟩]
def c62r9 : List (Bool × SI) := [
  (true, ⟨none, .nop, (some 3), 0⟩),
  (true, ⟨none, .ldR 27 3 0 none, none, 0⟩),
  (true, ⟨none, .mv 28 (.t 1), none, 0⟩),
  (true, ⟨none, .bin 29 .sub (.t 27) (.t 28), none, 0⟩),
  (true, ⟨none, .nop, (some 3), 0⟩),
  (true, ⟨none, .ldR 32 3 4 none, none, 0⟩),
  (true, ⟨none, .mv 33 (.t 2), none, 0⟩),
  (true, ⟨none, .bin 34 .sub (.t 32) (.t 33), none, 0⟩),
  (false, ⟨none, .call 30 61 [(.v (.slice none 0 0)), (.t 29)], none, 0⟩),
  (false, ⟨none, .call 35 61 [(.t 30), (.t 34)], none, 0⟩),
  (true, ⟨none, .mv 10 (.t 35), none, 0⟩)]
def c62r10 : List (Bool × SI) := [
  (true, ⟨none, .mv 36 (.t 10), none, 0⟩),
  (true, ⟨none, .mv 37 (.t 9), none, 0⟩),
  (true, ⟨none, .nop, (some 3), 0⟩),
  (true, ⟨none, .ldR 41 3 1 none, none, 0⟩),
  (true, ⟨none, .nop, (some 3), 0⟩),
  (true, ⟨none, .ldR 44 3 2 none, none, 0⟩),
  (false, ⟨none, .bls 38 5 1 1 [(.int .u8 0)] [(0, 1, (.t 37))], none, 0⟩),
  (false, ⟨none, .app 39 (.t 36) (.t 38) 5 1 1, none, 0⟩),
  (false, ⟨none, .call 42 80 [(.t 39), (.t 41)], none, 0⟩),
  (false, ⟨none, .call 45 80 [(.t 42), (.t 44)], none, 0⟩),
  (true, ⟨none, .mv 6 (.t 45), none, 0⟩),
  (true, ⟨none, .mv 7 (.i 0), none, 0⟩)]
def c62 : SC :=
  (.seq (.reg false c62r0)
  (.seq (.seq (.reg false c62r1)
  (.seq (.reg false c62r2)
  (.cond (.t 14)
   (.seq (.reg false c62r3)
   .ret)
   .skip)))
  (.seq (.seq (.reg false c62r4)
  (.cond (.t 23)
   (.seq (.reg false c62r5)
   .ret)
   .skip))
  (.seq (.reg false c62r6)
  (.seq (.seq (.reg false c62r7)
  (.cond (.t 25)
   (.reg false c62r8)
   .skip))
  (.seq (.rgX c62r9)
  (.seq (.rgX c62r10)
  .ret)))))))
def v62 : List Nat × List Nat := ([3], [3, 24, 26, 31, 40, 43])
def o62 : List RS := [.t 6, .t 7]
theorem s62 : slimC Try.prog Try.f62.ntmps v62.1 v62.2 ((Try.f62.body).getD .skip) = some c62 := by kernel_rfl
theorem q62 : slimR Try.prog Try.f62.ntmps v62.1 v62.2 Try.f62.results.toList = some o62 := by kernel_rfl
-- watermeet/crc.Seal N=9
def c63r0 : List SI := [
  ⟨none, .mv 2 (.v (.slice none 0 0)), none, 0⟩]
def c63r1 : List SI := [
  ⟨none, .mv 3 (.t 0), none, 0⟩,
  ⟨none, .app 4 (.v (.slice none 0 0)) (.t 3) 5 1 1, none, 0⟩,
  ⟨none, .mv 5 (.t 0), none, 0⟩,
  ⟨none, .call 6 81 [(.t 5)], none, 0⟩,
  ⟨none, .cvI 7 .u64 (.t 6), none, 0⟩,
  ⟨none, .call 8 64 [(.t 4), (.t 7), (.i 4)], none, 0⟩,
  ⟨none, .mv 2 (.t 8), none, 0⟩]
def c63 : SC :=
  (.seq (.reg false c63r0)
  (.seq (.reg false c63r1)
  .ret))
def v63 : List Nat × List Nat := ([], [])
def o63 : List RS := [.t 2]
theorem s63 : slimC Try.prog Try.f63.ntmps v63.1 v63.2 ((Try.f63.body).getD .skip) = some c63 := by kernel_rfl
theorem q63 : slimR Try.prog Try.f63.ntmps v63.1 v63.2 Try.f63.results.toList = some o63 := by kernel_rfl
-- watermeet/octet.Put N=33
def c64r0 : List SI := [
  ⟨none, .mv 6 (.v (.slice none 0 0)), none, 0⟩]
def c64r1 : List SI := [
  ⟨none, .mv 9 (.t 0), none, 0⟩,
  ⟨none, .call 10 58 [(.t 9)], none, 0⟩,
  ⟨none, .mv 7 (.t 10), none, 0⟩]
def c64r2 : List SI := [
  ⟨none, .mv 11 (.t 2), none, 0⟩,
  ⟨none, .bin 12 .lss (.t 11) (.i 1), none, 0⟩,
  ⟨none, .mv 13 (.t 12), none, 0⟩,
  ⟨some (13, false), .mv 14 (.t 2), none, 14⟩,
  ⟨some (13, false), .bin 15 .gtr (.t 14) (.i 8), none, 15⟩,
  ⟨none, .pick 16 (.t 13) (.b true) (.t 15), none, 0⟩]
def c64r3 : List SI := [
  ⟨none, .mv 17 (.t 7), none, 0⟩,
  ⟨none, .mv 6 (.t 17), none, 0⟩]
def c64r4 : List SI := [
  ⟨none, .mv 18 (.t 2), none, 0⟩,
  ⟨none, .bin 19 .sub (.t 18) (.i 1), none, 0⟩,
  ⟨none, .bin 20 .mul (.i 8) (.t 19), none, 0⟩,
  ⟨none, .mv 8 (.t 20), none, 0⟩]
def c64r5 : List SI := [
  ⟨none, .mv 21 (.t 8), none, 0⟩,
  ⟨none, .bin 22 .geq (.t 21) (.i 0), none, 0⟩]
def c64r6 : List SI := [
  ⟨none, .mv 25 (.t 7), none, 0⟩,
  ⟨none, .mv 26 (.t 1), none, 0⟩,
  ⟨none, .mv 27 (.t 8), none, 0⟩,
  ⟨none, .bin 28 .shr (.t 26) (.t 27), none, 0⟩,
  ⟨none, .cvI 29 .u8 (.t 28), none, 0⟩,
  ⟨none, .bls 30 5 1 1 [(.int .u8 0)] [(0, 1, (.t 29))], none, 0⟩,
  ⟨none, .app 31 (.t 25) (.t 30) 5 1 1, none, 0⟩,
  ⟨none, .mv 7 (.t 31), none, 0⟩]
def c64r7 : List SI := [
  ⟨none, .mv 23 (.t 8), none, 0⟩,
  ⟨none, .bin 24 .sub (.t 23) (.i 8), none, 0⟩,
  ⟨none, .mv 8 (.t 24), none, 0⟩]
def c64r8 : List SI := [
  ⟨none, .mv 32 (.t 7), none, 0⟩,
  ⟨none, .mv 6 (.t 32), none, 0⟩]
def c64 : SC :=
  (.seq (.reg false c64r0)
  (.seq (.reg false c64r1)
  (.seq (.seq (.reg false c64r2)
  (.cond (.t 16)
   (.seq (.reg false c64r3)
   .ret)
   .skip))
  (.seq (.seq (.reg false c64r4)
  (.blk 0 (.loop (.seq (.seq (.reg false c64r5)
    (.cond (.t 22)
     .skip
     (.exit 0)))
    (.seq (.blk 1 (.reg false c64r6))
    (.reg false c64r7))))))
  (.seq (.reg false c64r8)
  .ret)))))
def v64 : List Nat × List Nat := ([], [])
def o64 : List RS := [.t 6]
theorem s64 : slimC Try.prog Try.f64.ntmps v64.1 v64.2 ((Try.f64.body).getD .skip) = some c64 := by kernel_rfl
theorem q64 : slimR Try.prog Try.f64.ntmps v64.1 v64.2 Try.f64.results.toList = some o64 := by kernel_rfl
-- watermeet/watermeetref04.form N=165
end Go.Proofs.Ytfhheomeebejnaa

/- The code of the functions, types resolved, as a program of the prover reads it off the translation; each is held by the kernel. No condition. -/
namespace Go.Proofs.Ytfhheomeebejnaa
open Go Go.Kx
-- watermeet/watermeetref01.PutVar N=36
def c66r0 : List SI := [
  ⟨none, .mv 4 (.v (.slice none 0 0)), none, 0⟩]
def c66r1 : List SI := [
  ⟨none, .mv 7 (.t 1), none, 0⟩,
  ⟨none, .cvI 8 .u64 (.t 7), none, 0⟩,
  ⟨none, .bin 9 .mul (.v (.int .u64 2)) (.t 8), none, 0⟩,
  ⟨none, .mv 5 (.t 9), none, 0⟩]
def c66r2 : List SI := [
  ⟨none, .mv 10 (.t 1), none, 0⟩,
  ⟨none, .bin 11 .lss (.t 10) (.i 0), none, 0⟩]
def c66r3 : List SI := [
  ⟨none, .mv 12 (.t 1), none, 0⟩,
  ⟨none, .bin 13 .add (.t 12) (.i 1), none, 0⟩,
  ⟨none, .un 14 .neg (.t 13), none, 0⟩,
  ⟨none, .cvI 15 .u64 (.t 14), none, 0⟩,
  ⟨none, .bin 16 .mul (.v (.int .u64 2)) (.t 15), none, 0⟩,
  ⟨none, .bin 17 .add (.t 16) (.v (.int .u64 1)), none, 0⟩,
  ⟨none, .mv 5 (.t 17), none, 0⟩]
def c66r4 : List SI := [
  ⟨none, .mv 18 (.t 0), none, 0⟩,
  ⟨none, .call 19 15 [(.t 18)], none, 0⟩,
  ⟨none, .mv 6 (.t 19), none, 0⟩]
def c66r5 : List SI := [
  ⟨none, .mv 20 (.t 5), none, 0⟩,
  ⟨none, .bin 21 .geq (.t 20) (.v (.int .u64 128)), none, 0⟩]
def c66r6 : List SI := [
  ⟨none, .mv 22 (.t 6), none, 0⟩,
  ⟨none, .mv 23 (.t 5), none, 0⟩,
  ⟨none, .bin 24 .rem (.t 23) (.v (.int .u64 128)), none, 0⟩,
  ⟨none, .bin 25 .add (.v (.int .u64 128)) (.t 24), none, 0⟩,
  ⟨none, .cvI 26 .u8 (.t 25), none, 0⟩,
  ⟨none, .bls 27 5 1 1 [(.int .u8 0)] [(0, 1, (.t 26))], none, 0⟩,
  ⟨none, .app 28 (.t 22) (.t 27) 5 1 1, none, 0⟩,
  ⟨none, .mv 6 (.t 28), none, 0⟩]
def c66r7 : List SI := [
  ⟨none, .mv 29 (.t 5), none, 0⟩,
  ⟨none, .bin 30 .quo (.t 29) (.v (.int .u64 128)), none, 0⟩,
  ⟨none, .mv 5 (.t 30), none, 0⟩]
def c66r8 : List SI := [
  ⟨none, .mv 31 (.t 6), none, 0⟩,
  ⟨none, .mv 32 (.t 5), none, 0⟩,
  ⟨none, .cvI 33 .u8 (.t 32), none, 0⟩,
  ⟨none, .bls 34 5 1 1 [(.int .u8 0)] [(0, 1, (.t 33))], none, 0⟩,
  ⟨none, .app 35 (.t 31) (.t 34) 5 1 1, none, 0⟩,
  ⟨none, .mv 4 (.t 35), none, 0⟩]
def c66 : SC :=
  (.seq (.reg false c66r0)
  (.seq (.reg false c66r1)
  (.seq (.seq (.reg false c66r2)
  (.cond (.t 11)
   (.reg false c66r3)
   .skip))
  (.seq (.reg false c66r4)
  (.seq (.blk 0 (.loop (.seq (.seq (.reg false c66r5)
    (.cond (.t 21)
     .skip
     (.exit 0)))
    (.blk 1 (.seq (.reg false c66r6)
     (.reg false c66r7))))))
  (.seq (.reg false c66r8)
  .ret))))))
def v66 : List Nat × List Nat := ([], [])
def o66 : List RS := [.t 4]
theorem s66 : slimC Try.prog Try.f66.ntmps v66.1 v66.2 ((Try.f66.body).getD .skip) = some c66 := by kernel_rfl
theorem q66 : slimR Try.prog Try.f66.ntmps v66.1 v66.2 Try.f66.results.toList = some o66 := by kernel_rfl
-- watermeet/watermeetref03.Put N=50
def c67r0 : List SI := [
  ⟨none, .bxR 3 (.t 0), none, 0⟩,
  ⟨none, .mv 6 (.v (.slice none 0 0)), none, 0⟩,
  ⟨none, .mv 7 (.i 0), none, 0⟩]
def c67r1 : List SI := [
  ⟨none, .ldR 10 3 0 (some 5), none, 0⟩,
  ⟨none, .call 11 83 [(.t 10)], none, 0⟩,
  ⟨none, .mv 8 (.t 11), none, 0⟩]
def c67r2 : List SI := [
  ⟨none, .mv 12 (.t 8), none, 0⟩,
  ⟨none, .bin 13 .neq (.t 12) (.i 0), none, 0⟩]
def c67r3 : List SI := [
  ⟨none, .mv 14 (.t 8), none, 0⟩,
  ⟨none, .mv 6 (.v (.slice none 0 0)), none, 0⟩,
  ⟨none, .mv 7 (.t 14), none, 0⟩]
def c67r4 : List SI := [
  ⟨none, .mv 15 (.t 1), none, 0⟩,
  ⟨none, .call 16 84 [(.t 15)], none, 0⟩,
  ⟨none, .un 17 .not (.t 16), none, 0⟩,
  ⟨none, .mv 18 (.t 17), none, 0⟩,
  ⟨some (18, false), .mv 19 (.t 2), none, 19⟩,
  ⟨some (18, false), .call 20 84 [(.t 19)], none, 20⟩,
  ⟨some (18, false), .un 21 .not (.t 20), none, 21⟩,
  ⟨none, .pick 22 (.t 18) (.b true) (.t 21), none, 0⟩]
def c67r5 : List SI := [
  ⟨none, .mv 6 (.v (.slice none 0 0)), none, 0⟩,
  ⟨none, .mv 7 (.i 1), none, 0⟩]
def c67r6 : List SI := [
  ⟨none, .nop, (some 3), 0⟩,
  ⟨none, .ldR 24 3 0 none, none, 0⟩,
  ⟨none, .mv 25 (.t 1), none, 0⟩,
  ⟨none, .bin 26 .sub (.t 24) (.t 25), none, 0⟩,
  ⟨none, .call 27 66 [(.v (.slice none 0 0)), (.t 26)], none, 0⟩,
  ⟨none, .mv 9 (.t 27), none, 0⟩]
def c67r7 : List SI := [
  ⟨none, .mv 28 (.t 9), none, 0⟩,
  ⟨none, .nop, (some 3), 0⟩,
  ⟨none, .ldR 30 3 4 none, none, 0⟩,
  ⟨none, .mv 31 (.t 2), none, 0⟩,
  ⟨none, .bin 32 .sub (.t 30) (.t 31), none, 0⟩,
  ⟨none, .call 33 66 [(.t 28), (.t 32)], none, 0⟩,
  ⟨none, .mv 9 (.t 33), none, 0⟩]
def c67r8 : List SI := [
  ⟨none, .nop, (some 3), 0⟩,
  ⟨none, .ldR 35 3 3 none, none, 0⟩]
def c67r9 : List SI := [
  ⟨none, .mv 36 (.t 9), none, 0⟩,
  ⟨none, .bls 37 5 1 1 [(.int .u8 0)] [(0, 1, (.v (.int .u8 1)))], none, 0⟩,
  ⟨none, .app 38 (.t 36) (.t 37) 5 1 1, none, 0⟩,
  ⟨none, .mv 9 (.t 38), none, 0⟩]
def c67r10 : List SI := [
  ⟨none, .mv 39 (.t 9), none, 0⟩,
  ⟨none, .bls 40 5 1 1 [(.int .u8 0)] [(0, 1, (.v (.int .u8 0)))], none, 0⟩,
  ⟨none, .app 41 (.t 39) (.t 40) 5 1 1, none, 0⟩,
  ⟨none, .mv 9 (.t 41), none, 0⟩]
def c67r11 : List SI := [
  ⟨none, .mv 42 (.t 9), none, 0⟩,
  ⟨none, .nop, (some 3), 0⟩,
  ⟨none, .ldR 44 3 1 none, none, 0⟩,
  ⟨none, .call 45 85 [(.t 42), (.t 44)], none, 0⟩,
  ⟨none, .mv 9 (.t 45), none, 0⟩]
def c67r12 : List SI := [
  ⟨none, .mv 46 (.t 9), none, 0⟩,
  ⟨none, .nop, (some 3), 0⟩,
  ⟨none, .ldR 48 3 2 none, none, 0⟩,
  ⟨none, .call 49 85 [(.t 46), (.t 48)], none, 0⟩,
  ⟨none, .mv 6 (.t 49), none, 0⟩,
  ⟨none, .mv 7 (.i 0), none, 0⟩]
def c67 : SC :=
  (.seq (.reg false c67r0)
  (.seq (.reg false c67r1)
  (.seq (.seq (.reg false c67r2)
  (.cond (.t 13)
   (.seq (.reg false c67r3)
   .ret)
   .skip))
  (.seq (.seq (.reg false c67r4)
  (.cond (.t 22)
   (.seq (.reg false c67r5)
   .ret)
   .skip))
  (.seq (.reg false c67r6)
  (.seq (.reg false c67r7)
  (.seq (.seq (.reg false c67r8)
  (.cond (.t 35)
   (.reg false c67r9)
   (.reg false c67r10)))
  (.seq (.reg false c67r11)
  (.seq (.reg false c67r12)
  .ret)))))))))
def v67 : List Nat × List Nat := ([3], [3, 23, 29, 34, 43, 47])
def o67 : List RS := [.t 6, .t 7]
theorem s67 : slimC Try.prog Try.f67.ntmps v67.1 v67.2 ((Try.f67.body).getD .skip) = some c67 := by kernel_rfl
theorem q67 : slimR Try.prog Try.f67.ntmps v67.1 v67.2 Try.f67.results.toList = some o67 := by kernel_rfl
-- watermeet/watermeetref02.Seal N=10
def c70r0 : List SI := [
  ⟨none, .mv 6 (.v (.int .u64 0)), none, 0⟩,
  ⟨none, .mv 7 (.i 0), none, 0⟩]
def c70r1 : List SI := [
  ⟨none, .mv 12 (.t 2), none, 0⟩,
  ⟨none, .bin 13 .lss (.t 12) (.i 1), none, 0⟩,
  ⟨none, .mv 14 (.t 13), none, 0⟩,
  ⟨some (14, false), .mv 15 (.t 2), none, 15⟩,
  ⟨some (14, false), .bin 16 .gtr (.t 15) (.i 8), none, 16⟩,
  ⟨none, .pick 17 (.t 14) (.b true) (.t 16), none, 0⟩,
  ⟨none, .mv 18 (.t 17), none, 0⟩,
  ⟨some (18, false), .mv 19 (.t 1), none, 19⟩,
  ⟨some (18, false), .bin 20 .lss (.t 19) (.i 0), none, 20⟩,
  ⟨none, .pick 21 (.t 18) (.b true) (.t 20), none, 0⟩]
def c70r2 : List SI := [
  ⟨none, .mv 6 (.v (.int .u64 0)), none, 0⟩,
  ⟨none, .mv 7 (.i 1), none, 0⟩]
def c70r3 : List SI := [
  ⟨none, .mv 22 (.t 0), none, 0⟩,
  ⟨none, .mv 23 (.t 1), none, 0⟩,
  ⟨none, .call 24 86 [(.t 22), (.t 23)], none, 0⟩,
  ⟨none, .mv 8 (.t 24), none, 0⟩]
def c70r4 : List SI := [
  ⟨none, .mv 25 (.t 8), none, 0⟩,
  ⟨none, .len 26 false (.t 25), none, 0⟩,
  ⟨none, .mv 27 (.t 2), none, 0⟩,
  ⟨none, .bin 28 .lss (.t 26) (.t 27), none, 0⟩]
def c70r5 : List SI := [
  ⟨none, .mv 6 (.v (.int .u64 0)), none, 0⟩,
  ⟨none, .mv 7 (.i 10), none, 0⟩]
def c70r6 : List SI := [
  ⟨none, .mv 9 (.v (.int .u64 0)), none, 0⟩]
def c70r7 : List SI := [
  ⟨none, .mv 29 (.t 8), none, 0⟩,
  ⟨none, .mv 30 (.t 2), none, 0⟩,
  ⟨none, .sl 31 (.t 29) none (some (.t 30)) none 1, none, 0⟩,
  ⟨none, .len 32 false (.t 31), none, 0⟩,
  ⟨none, .mv 33 (.i 0), none, 0⟩]
def c70r8 : List SI := [
  ⟨none, .bin 34 .lss (.t 33) (.t 32), none, 0⟩]
def c70r9 : List SI := [
  ⟨none, .ixA 35 (.t 31) (.t 33) 1, none, 0⟩,
  ⟨none, .ld 36 (.t 35) none, none, 0⟩,
  ⟨none, .mv 11 (.t 36), none, 0⟩]
def c70r10 : List SI := [
  ⟨none, .mv 37 (.t 9), none, 0⟩,
  ⟨none, .bin 38 .shl (.t 37) (.v (.int .u64 8)), none, 0⟩,
  ⟨none, .mv 39 (.t 11), none, 0⟩,
  ⟨none, .cvI 40 .u64 (.t 39), none, 0⟩,
  ⟨none, .bin 41 .or (.t 38) (.t 40), none, 0⟩,
  ⟨none, .mv 9 (.t 41), none, 0⟩]
def c70r11 : List SI := [
  ⟨none, .bin 42 .add (.t 33) (.i 1), none, 0⟩,
  ⟨none, .mv 33 (.t 42), none, 0⟩]
def c70r12 : List SI := [
  ⟨none, .mv 43 (.t 9), none, 0⟩,
  ⟨none, .mv 6 (.t 43), none, 0⟩,
  ⟨none, .mv 7 (.i 0), none, 0⟩]
def c70 : SC :=
  (.seq (.reg false c70r0)
  (.seq (.seq (.reg false c70r1)
  (.cond (.t 21)
   (.seq (.reg false c70r2)
   .ret)
   .skip))
  (.seq (.reg false c70r3)
  (.seq (.seq (.reg false c70r4)
  (.cond (.t 28)
   (.seq (.reg false c70r5)
   .ret)
   .skip))
  (.seq (.reg false c70r6)
  (.seq (.seq (.reg false c70r7)
  (.blk 0 (.loop (.seq (.reg false c70r8)
    (.seq (.cond (.t 34)
     .skip
     (.exit 0))
    (.seq (.blk 1 (.seq (.reg false c70r9)
     (.reg false c70r10)))
    (.reg false c70r11)))))))
  (.seq (.reg false c70r12)
  .ret)))))))
def v70 : List Nat × List Nat := ([], [])
def o70 : List RS := [.t 6, .t 7]
theorem s70 : slimC Try.prog Try.f70.ntmps v70.1 v70.2 ((Try.f70.body).getD .skip) = some c70 := by kernel_rfl
theorem q70 : slimR Try.prog Try.f70.ntmps v70.1 v70.2 Try.f70.results.toList = some o70 := by kernel_rfl
-- watermeet/crc.Open N=33
def c71r0 : List SI := [
  ⟨none, .mv 2 (.v (.slice none 0 0)), none, 0⟩,
  ⟨none, .mv 3 (.i 0), none, 0⟩]
def c71r1 : List SI := [
  ⟨none, .mv 7 (.t 0), none, 0⟩,
  ⟨none, .len 8 false (.t 7), none, 0⟩,
  ⟨none, .bin 9 .sub (.t 8) (.i 4), none, 0⟩,
  ⟨none, .mv 4 (.t 9), none, 0⟩]
def c71r2 : List SI := [
  ⟨none, .mv 10 (.t 4), none, 0⟩,
  ⟨none, .bin 11 .lss (.t 10) (.i 0), none, 0⟩]
def c71r3 : List SI := [
  ⟨none, .mv 2 (.v (.slice none 0 0)), none, 0⟩,
  ⟨none, .mv 3 (.i 10), none, 0⟩]
def c71r4 : List SI := [
  ⟨none, .mv 13 (.t 0), none, 0⟩,
  ⟨none, .mv 14 (.t 4), none, 0⟩,
  ⟨none, .call 15 70 [(.t 13), (.t 14), (.i 4)], none, 0⟩,
  ⟨none, .mv 12 (.t 15), none, 0⟩,
  ⟨none, .ext 16 (.t 12) 0, none, 0⟩,
  ⟨none, .ext 17 (.t 12) 1, none, 0⟩,
  ⟨none, .mv 5 (.t 16), none, 0⟩,
  ⟨none, .mv 6 (.t 17), none, 0⟩]
def c71r5 : List SI := [
  ⟨none, .mv 18 (.t 6), none, 0⟩,
  ⟨none, .bin 19 .neq (.t 18) (.i 0), none, 0⟩,
  ⟨none, .mv 20 (.t 19), none, 0⟩,
  ⟨some (20, false), .mv 21 (.t 5), none, 21⟩,
  ⟨some (20, false), .mv 22 (.t 0), none, 22⟩,
  ⟨some (20, false), .mv 23 (.t 4), none, 23⟩,
  ⟨some (20, false), .sl 24 (.t 22) none (some (.t 23)) none 1, none, 24⟩,
  ⟨some (20, false), .call 25 81 [(.t 24)], none, 25⟩,
  ⟨some (20, false), .cvI 26 .u64 (.t 25), none, 26⟩,
  ⟨some (20, false), .bin 27 .neq (.t 21) (.t 26), none, 27⟩,
  ⟨none, .pick 28 (.t 20) (.b true) (.t 27), none, 0⟩]
def c71r6 : List SI := [
  ⟨none, .mv 2 (.v (.slice none 0 0)), none, 0⟩,
  ⟨none, .mv 3 (.i 20), none, 0⟩]
def c71r7 : List SI := [
  ⟨none, .mv 29 (.t 0), none, 0⟩,
  ⟨none, .mv 30 (.t 4), none, 0⟩,
  ⟨none, .sl 31 (.t 29) none (some (.t 30)) none 1, none, 0⟩,
  ⟨none, .app 32 (.v (.slice none 0 0)) (.t 31) 5 1 1, none, 0⟩,
  ⟨none, .mv 2 (.t 32), none, 0⟩,
  ⟨none, .mv 3 (.i 0), none, 0⟩]
def c71 : SC :=
  (.seq (.reg false c71r0)
  (.seq (.reg false c71r1)
  (.seq (.seq (.reg false c71r2)
  (.cond (.t 11)
   (.seq (.reg false c71r3)
   .ret)
   .skip))
  (.seq (.seq (.reg false c71r4)
  (.seq (.reg false c71r5)
  (.cond (.t 28)
   (.seq (.reg false c71r6)
   .ret)
   .skip)))
  (.seq (.reg false c71r7)
  .ret)))))
def v71 : List Nat × List Nat := ([], [])
def o71 : List RS := [.t 2, .t 3]
theorem s71 : slimC Try.prog Try.f71.ntmps v71.1 v71.2 ((Try.f71.body).getD .skip) = some c71 := by kernel_rfl
theorem q71 : slimR Try.prog Try.f71.ntmps v71.1 v71.2 Try.f71.results.toList = some o71 := by kernel_rfl
-- watermeet/batch.parse N=155
def c72r0 : List SI := [
  ⟨none, .bx 1 (.t 0), none, 0⟩,
  ⟨none, .alR 2 [(.int .i64 0), (.int .i64 0), (.int .i64 0), (.int .i64 0), (.int .i64 0), (.int .i64 0), (.int .i64 0), (.bool false), (.int .i64 0), (.slice none 0 0)], none, 0⟩,
  ⟨none, .al 3 [(.bool false)], none, 0⟩]
def c72r1 : List SI := [
  ⟨none, .al 4 [(.int .i64 0)], none, 0⟩,
  ⟨none, .st (.t 4) 1 (.i 0), none, 0⟩]
def c72r2 : List SI := [
  ⟨none, .st (.t 3) 1 (.b true), none, 0⟩]
def c72r3 : List SI := [
  ⟨none, .mkf 15 (.func 87) [(.t 1), (.t 4), (.t 3)], none, 0⟩,
  ⟨none, .mv 5 (.t 15), none, 0⟩]
def c72r4 : List SI := [
  ⟨none, .al 6 [(.int .i64 0), (.int .i64 0), (.int .i64 0), (.int .i64 0), (.int .i64 0), (.int .i64 0), (.int .i64 0)], none, 0⟩]
def c72r5 : List SI := [
  ⟨none, .mv 16 (.i 0), none, 0⟩]
def c72r6 : List SI := [
  ⟨none, .bin 17 .lss (.t 16) (.i 7), none, 0⟩]
def c72r7 : List SI := [
  ⟨none, .mv 18 (.t 16), none, 0⟩,
  ⟨none, .mv 7 (.t 18), none, 0⟩]
def c72r8 : List SI := [
  ⟨none, .mv 19 (.t 7), none, 0⟩,
  ⟨none, .mv 20 (.t 5), none, 0⟩,
  ⟨none, .cav 21 (.t 20) [], none, 0⟩,
  ⟨none, .ixP 22 (.t 6) (.t 19) 7 1, none, 0⟩,
  ⟨none, .st (.t 22) 1 (.t 21), none, 0⟩]
def c72r9 : List SI := [
  ⟨none, .bin 23 .add (.t 16) (.i 1), none, 0⟩,
  ⟨none, .mv 16 (.t 23), none, 0⟩]
def c72r10 : List SI := [
  ⟨none, .ld 24 (.t 3) none, none, 0⟩,
  ⟨none, .un 25 .not (.t 24), none, 0⟩,
  ⟨none, .mv 26 (.t 25), none, 0⟩,
  ⟨some (26, false), .ld 27 (.t 4) none, none, 27⟩,
  ⟨some (26, false), .ld 28 (.t 1) none, none, 28⟩,
  ⟨some (26, false), .len 29 false (.t 28), none, 29⟩,
  ⟨some (26, false), .bin 30 .geq (.t 27) (.t 29), none, 30⟩,
  ⟨none, .pick 31 (.t 26) (.b true) (.t 30), none, 0⟩,
  ⟨none, .mv 32 (.t 31), none, 0⟩,
  ⟨some (32, false), .ld 33 (.t 1) none, none, 33⟩,
  ⟨some (32, false), .ld 34 (.t 4) none, none, 34⟩,
  ⟨some (32, false), .ixA 35 (.t 33) (.t 34) 1, none, 35⟩,
  ⟨some (32, false), .ld 36 (.t 35) none, none, 36⟩,
  ⟨some (32, false), .bin 37 .geq (.t 36) (.v (.int .u8 8)), none, 37⟩,
  ⟨none, .pick 38 (.t 32) (.b true) (.t 37), none, 0⟩,
  ⟨none, .mv 39 (.t 38), none, 0⟩,
  ⟨some (39, false), .ixP 40 (.t 6) (.i 0) 7 1, none, 40⟩,
  ⟨some (39, false), .ld 41 (.t 40) none, none, 41⟩,
  ⟨some (39, false), .bin 42 .lss (.t 41) (.i 0), none, 42⟩,
  ⟨none, .pick 43 (.t 39) (.b true) (.t 42), none, 0⟩,
  ⟨none, .mv 44 (.t 43), none, 0⟩,
  ⟨some (44, false), .ixP 45 (.t 6) (.i 0) 7 1, none, 45⟩,
  ⟨some (44, false), .ld 46 (.t 45) none, none, 46⟩,
  ⟨some (44, false), .bin 47 .gtr (.t 46) (.i 1099511627776), none, 47⟩,
  ⟨none, .pick 48 (.t 44) (.b true) (.t 47), none, 0⟩,
  ⟨none, .mv 49 (.t 48), none, 0⟩,
  ⟨some (49, false), .ixP 50 (.t 6) (.i 1) 7 1, none, 50⟩,
  ⟨some (49, false), .ld 51 (.t 50) none, none, 51⟩,
  ⟨some (49, false), .bin 52 .lss (.t 51) (.i 0), none, 52⟩,
  ⟨none, .pick 53 (.t 49) (.b true) (.t 52), none, 0⟩,
  ⟨none, .mv 54 (.t 53), none, 0⟩,
  ⟨some (54, false), .ixP 55 (.t 6) (.i 1) 7 1, none, 55⟩,
  ⟨some (54, false), .ld 56 (.t 55) none, none, 56⟩,
  ⟨some (54, false), .bin 57 .geq (.t 56) (.i 16), none, 57⟩,
  ⟨none, .pick 58 (.t 54) (.b true) (.t 57), none, 0⟩]
def c72r11 : List SI := [
  ⟨none, .bld 59 [(.int .i64 0), (.int .i64 0), (.int .i64 0), (.int .i64 0), (.int .i64 0), (.int .i64 0), (.int .i64 0), (.bool false), (.int .i64 0), (.slice none 0 0)] [], none, 0⟩,
  ⟨none, .stR 2 0 10 (.t 59), none, 0⟩,
  ⟨none, .st (.t 3) 1 (.b false), none, 0⟩]
def c72r12 : List SI := [
  ⟨none, .ld 60 (.t 1) none, none, 0⟩,
  ⟨none, .ld 61 (.t 4) none, none, 0⟩,
  ⟨none, .ixA 62 (.t 60) (.t 61) 1, none, 0⟩,
  ⟨none, .ld 63 (.t 62) none, none, 0⟩,
  ⟨none, .mv 8 (.t 63), none, 0⟩]
def c72r13 : List SI := [
  ⟨none, .ld 64 (.t 4) none, none, 0⟩,
  ⟨none, .bin 65 .add (.t 64) (.i 1), none, 0⟩,
  ⟨none, .st (.t 4) 1 (.t 65), none, 0⟩]
def c72r14 : List SI := [
  ⟨none, .ixP 66 (.t 6) (.i 0) 7 1, none, 0⟩,
  ⟨none, .ld 67 (.t 66) none, none, 0⟩,
  ⟨none, .ixP 68 (.t 6) (.i 0) 7 1, none, 0⟩,
  ⟨none, .ld 69 (.t 68) none, none, 0⟩,
  ⟨none, .ixP 70 (.t 6) (.i 1) 7 1, none, 0⟩,
  ⟨none, .ld 71 (.t 70) none, none, 0⟩,
  ⟨none, .bin 72 .add (.t 69) (.t 71), none, 0⟩,
  ⟨none, .ixP 73 (.t 6) (.i 2) 7 1, none, 0⟩,
  ⟨none, .ld 74 (.t 73) none, none, 0⟩,
  ⟨none, .ixP 75 (.t 6) (.i 3) 7 1, none, 0⟩,
  ⟨none, .ld 76 (.t 75) none, none, 0⟩,
  ⟨none, .ixP 77 (.t 6) (.i 4) 7 1, none, 0⟩,
  ⟨none, .ld 78 (.t 77) none, none, 0⟩,
  ⟨none, .ixP 79 (.t 6) (.i 5) 7 1, none, 0⟩,
  ⟨none, .ld 80 (.t 79) none, none, 0⟩,
  ⟨none, .ixP 81 (.t 6) (.i 6) 7 1, none, 0⟩,
  ⟨none, .ld 82 (.t 81) none, none, 0⟩,
  ⟨none, .mv 83 (.t 8), none, 0⟩,
  ⟨none, .bin 84 .and (.t 83) (.v (.int .u8 4)), none, 0⟩,
  ⟨none, .bin 85 .neq (.t 84) (.v (.int .u8 0)), none, 0⟩,
  ⟨none, .mv 86 (.t 8), none, 0⟩,
  ⟨none, .bin 87 .andNot (.t 86) (.v (.int .u8 4)), none, 0⟩,
  ⟨none, .cvI 88 .i64 (.t 87), none, 0⟩,
  ⟨none, .bld 89 [(.int .i64 0), (.int .i64 0), (.int .i64 0), (.int .i64 0), (.int .i64 0), (.int .i64 0), (.int .i64 0), (.bool false), (.int .i64 0), (.slice none 0 0)] [(0, 1, (.t 67)), (1, 1, (.t 72)), (2, 1, (.t 74)), (3, 1, (.t 76)), (4, 1, (.t 78)), (5, 1, (.t 80)), (6, 1, (.t 82)), (7, 1, (.t 85)), (8, 1, (.t 88))], none, 0⟩,
  ⟨none, .stR 2 0 10 (.t 89), none, 0⟩]
def c72r15 : List SI := [
  ⟨none, .mv 90 (.t 5), none, 0⟩,
  ⟨none, .cav 91 (.t 90) [], none, 0⟩,
  ⟨none, .mv 9 (.t 91), none, 0⟩]
def c72r16 : List SI := [
  ⟨none, .ld 92 (.t 3) none, none, 0⟩,
  ⟨none, .un 93 .not (.t 92), none, 0⟩,
  ⟨none, .mv 94 (.t 93), none, 0⟩,
  ⟨some (94, false), .mv 95 (.t 9), none, 95⟩,
  ⟨some (94, false), .bin 96 .lss (.t 95) (.i 0), none, 96⟩,
  ⟨none, .pick 97 (.t 94) (.b true) (.t 96), none, 0⟩,
  ⟨none, .mv 98 (.t 97), none, 0⟩,
  ⟨some (98, false), .mv 99 (.t 9), none, 99⟩,
  ⟨some (98, false), .bin 100 .gtr (.t 99) (.i 16), none, 100⟩,
  ⟨none, .pick 101 (.t 98) (.b true) (.t 100), none, 0⟩]
def c72r17 : List SI := [
  ⟨none, .bld 102 [(.int .i64 0), (.int .i64 0), (.int .i64 0), (.int .i64 0), (.int .i64 0), (.int .i64 0), (.int .i64 0), (.bool false), (.int .i64 0), (.slice none 0 0)] [], none, 0⟩,
  ⟨none, .stR 2 0 10 (.t 102), none, 0⟩,
  ⟨none, .st (.t 3) 1 (.b false), none, 0⟩]
def c72r18 : List SI := [
  ⟨none, .mv 10 (.i 0), none, 0⟩]
def c72r19 : List SI := [
  ⟨none, .mv 103 (.t 9), none, 0⟩,
  ⟨none, .bin 104 .gtr (.t 103) (.i 0), none, 0⟩]
def c72r20 : List SI := [
  ⟨none, .mv 105 (.t 5), none, 0⟩,
  ⟨none, .cav 106 (.t 105) [], none, 0⟩,
  ⟨none, .mv 10 (.t 106), none, 0⟩]
def c72r21 : List SI := [
  ⟨none, .mv 11 (.i 0), none, 0⟩]
def c72r22 : List SI := [
  ⟨none, .mv 107 (.t 11), none, 0⟩,
  ⟨none, .mv 108 (.t 9), none, 0⟩,
  ⟨none, .bin 109 .lss (.t 107) (.t 108), none, 0⟩,
  ⟨none, .mv 110 (.t 109), none, 0⟩,
  ⟨some (110, true), .ld 111 (.t 3) none, none, 111⟩,
  ⟨none, .pick 112 (.t 110) (.t 111) (.b false), none, 0⟩]
def c72r23 : List SI := [
  ⟨none, .ld 116 (.t 1) none, none, 0⟩,
  ⟨none, .ld 117 (.t 4) none, none, 0⟩,
  ⟨none, .nop, (some 2), 0⟩,
  ⟨none, .ldR 119 2 0 none, none, 0⟩,
  ⟨none, .mv 120 (.t 10), none, 0⟩,
  ⟨none, .call 121 89 [(.t 116), (.t 117), (.t 119), (.t 120)], none, 0⟩,
  ⟨none, .mv 115 (.t 121), none, 0⟩,
  ⟨none, .ext 122 (.t 115) 0, none, 0⟩,
  ⟨none, .ext 123 (.t 115) 1, none, 0⟩,
  ⟨none, .ext 124 (.t 115) 2, none, 0⟩,
  ⟨none, .alR 12 [(.int .i64 0), (.string ⟨#[]⟩), (.string ⟨#[]⟩), (.bool false), (.int .i64 0)], none, 0⟩,
  ⟨none, .stR 12 0 5 (.t 122), none, 0⟩,
  ⟨none, .mv 13 (.t 123), none, 0⟩,
  ⟨none, .mv 14 (.t 124), none, 0⟩]
def c72r24 : List SI := [
  ⟨none, .ld 125 (.t 3) none, none, 0⟩,
  ⟨none, .mv 126 (.t 125), none, 0⟩,
  ⟨some (126, true), .mv 127 (.t 14), none, 127⟩,
  ⟨some (126, true), .bin 128 .eql (.t 127) (.i 0), none, 128⟩,
  ⟨none, .pick 129 (.t 126) (.t 128) (.b false), none, 0⟩,
  ⟨none, .mv 130 (.t 129), none, 0⟩,
  ⟨some (130, true), .mv 131 (.t 11), none, 131⟩,
  ⟨some (130, true), .bin 132 .gtr (.t 131) (.i 0), none, 132⟩,
  ⟨some (130, true), .mv 133 (.t 132), none, 133⟩,
  ⟨some (133, false), .nop, (some 12), 99999⟩,
  ⟨some (133, false), .ldR 135 12 4 none, none, 135⟩,
  ⟨some (133, false), .mv 136 (.t 10), none, 136⟩,
  ⟨some (133, false), .bin 137 .eql (.t 135) (.t 136), none, 137⟩,
  ⟨some (130, true), .pick 138 (.t 133) (.b true) (.t 137), none, 138⟩,
  ⟨none, .pick 139 (.t 130) (.t 138) (.b false), none, 0⟩,
  ⟨none, .st (.t 3) 1 (.t 139), none, 0⟩]
def c72r25 : List SI := [
  ⟨none, .mv 140 (.t 13), none, 0⟩,
  ⟨none, .st (.t 4) 1 (.t 140), none, 0⟩]
def c72r26 : List SI := [
  ⟨none, .nop, (some 2), 0⟩,
  ⟨none, .ldR 142 2 9 none, none, 0⟩,
  ⟨none, .ldR 143 12 0 (some 5), none, 0⟩,
  ⟨none, .bls 144 57 1 5 [(.int .i64 0), (.string ⟨#[]⟩), (.string ⟨#[]⟩), (.bool false), (.int .i64 0)] [(0, 5, (.t 143))], none, 0⟩,
  ⟨none, .app 145 (.t 142) (.t 144) 57 5 56, none, 0⟩,
  ⟨none, .nop, (some 2), 0⟩,
  ⟨none, .stR 2 9 1 (.t 145), none, 0⟩]
def c72r27 : List SI := [
  ⟨none, .mv 113 (.t 11), none, 0⟩,
  ⟨none, .bin 114 .add (.t 113) (.i 1), none, 0⟩,
  ⟨none, .mv 11 (.t 114), none, 0⟩]
def c72r28 : List WI := [
  (true, false, ⟨none, .ldR 147 2 0 (some 10), none, 0⟩),
  (true, false, ⟨none, .ld 148 (.t 3) none, none, 0⟩),
  (true, false, ⟨none, .mv 149 (.t 148), none, 0⟩),
  (true, false, ⟨some (149, true), .ld 150 (.t 4) none, none, 150⟩),
  (true, false, ⟨some (149, true), .ld 151 (.t 1) none, none, 151⟩),
  (true, false, ⟨some (149, true), .len 152 false (.t 151), none, 152⟩),
  (true, false, ⟨some (149, true), .bin 153 .eql (.t 150) (.t 152), none, 153⟩),
  (true, false, ⟨none, .pick 154 (.t 149) (.t 153) (.b false), none, 0⟩),
  (false, false, ⟨none, .stR 2 0 10 (.t 147), none, 0⟩),
  (false, true, ⟨none, .st (.t 3) 1 (.t 154), none, 0⟩)]
def c72 : SC :=
  (.seq (.reg false c72r0)
  (.seq (.reg false c72r1)
  (.seq (.reg false c72r2)
  (.seq (.reg false c72r3)
  (.seq (.reg false c72r4)
  (.seq (.seq (.reg false c72r5)
  (.blk 0 (.loop (.seq (.reg false c72r6)
    (.seq (.cond (.t 17)
     .skip
     (.exit 0))
    (.seq (.blk 1 (.seq (.reg false c72r7)
     (.reg false c72r8)))
    (.reg false c72r9)))))))
  (.seq (.seq (.reg false c72r10)
  (.cond (.t 58)
   (.seq (.reg false c72r11)
   .ret)
   .skip))
  (.seq (.reg false c72r12)
  (.seq (.reg false c72r13)
  (.seq (.reg false c72r14)
  (.seq (.reg false c72r15)
  (.seq (.seq (.reg false c72r16)
  (.cond (.t 101)
   (.seq (.reg false c72r17)
   .ret)
   .skip))
  (.seq (.reg false c72r18)
  (.seq (.seq (.reg false c72r19)
  (.cond (.t 104)
   (.reg false c72r20)
   .skip))
  (.seq (.seq (.reg false c72r21)
  (.blk 2 (.loop (.seq (.seq (.reg false c72r22)
    (.cond (.t 112)
     .skip
     (.exit 2)))
    (.seq (.blk 3 (.seq (.reg false c72r23)
     (.seq (.reg false c72r24)
     (.seq (.reg false c72r25)
     (.reg false c72r26)))))
    (.reg false c72r27))))))
  (.seq (.rgW c72r28)
  .ret))))))))))))))))
def v72 : List Nat × List Nat := ([2, 12], [2, 12, 118, 134, 141, 146])
def o72 : List RS := [.r 2 (some 10), .c 3 none]
theorem s72 : slimC Try.prog Try.f72.ntmps v72.1 v72.2 ((Try.f72.body).getD .skip) = some c72 := by kernel_rfl
theorem q72 : slimR Try.prog Try.f72.ntmps v72.1 v72.2 Try.f72.results.toList = some o72 := by kernel_rfl
-- watermeet/watermeetref02.four N=15
def c77r0 : List SI := [
  ⟨none, .mv 2 (.i 0), none, 0⟩]
def c77r1 : List SI := [
  ⟨none, .mv 5 (.t 0), none, 0⟩,
  ⟨none, .len 6 false (.t 5), none, 0⟩,
  ⟨none, .bin 7 .lss (.t 6) (.i 1), none, 0⟩]
def c77r2 : List SI := [
  ⟨none, .mv 9 (.t 0), none, 0⟩,
  ⟨none, .ixA 10 (.t 9) (.i 0) 1, none, 0⟩,
  ⟨none, .ld 11 (.t 10) none, none, 0⟩,
  ⟨none, .mv 3 (.t 11), none, 0⟩]
def c77r3 : List SI := [
  ⟨none, .mv 4 (.i 1), none, 0⟩]
def c77r4 : List SI := [
  ⟨none, .mv 12 (.t 4), none, 0⟩,
  ⟨none, .mv 13 (.t 0), none, 0⟩,
  ⟨none, .len 14 false (.t 13), none, 0⟩,
  ⟨none, .bin 15 .lss (.t 12) (.t 14), none, 0⟩]
def c77r5 : List SI := [
  ⟨none, .mv 18 (.t 3), none, 0⟩,
  ⟨none, .mv 19 (.t 0), none, 0⟩,
  ⟨none, .mv 20 (.t 4), none, 0⟩,
  ⟨none, .ixA 21 (.t 19) (.t 20) 1, none, 0⟩,
  ⟨none, .ld 22 (.t 21) none, none, 0⟩,
  ⟨none, .mm 23 false (.t 18) (.t 22), none, 0⟩,
  ⟨none, .mv 3 (.t 23), none, 0⟩]
def c77r6 : List SI := [
  ⟨none, .mv 16 (.t 4), none, 0⟩,
  ⟨none, .bin 17 .add (.t 16) (.i 1), none, 0⟩,
  ⟨none, .mv 4 (.t 17), none, 0⟩]
def c77r7 : List SI := [
  ⟨none, .mv 24 (.t 3), none, 0⟩,
  ⟨none, .mv 2 (.t 24), none, 0⟩]
def c77 : SC :=
  (.seq (.reg false c77r0)
  (.seq (.seq (.reg false c77r1)
  (.cond (.t 7)
   .dead
   .skip))
  (.seq (.reg false c77r2)
  (.seq (.seq (.reg false c77r3)
  (.blk 0 (.loop (.seq (.seq (.reg false c77r4)
    (.cond (.t 15)
     .skip
     (.exit 0)))
    (.seq (.blk 1 (.reg false c77r5))
    (.reg false c77r6))))))
  (.seq (.reg false c77r7)
  .ret)))))
def v77 : List Nat × List Nat := ([], [])
def o77 : List RS := [.t 2]
theorem s77 : slimC Try.prog Try.f77.ntmps v77.1 v77.2 ((Try.f77.body).getD .skip) = some c77 := by kernel_rfl
theorem q77 : slimR Try.prog Try.f77.ntmps v77.1 v77.2 Try.f77.results.toList = some o77 := by kernel_rfl
-- slices.Max[[]int,int] N=25
def c78r0 : List SI := [
  ⟨none, .mv 2 (.i 0), none, 0⟩]
def c78r1 : List SI := [
  ⟨none, .mv 5 (.t 0), none, 0⟩,
  ⟨none, .len 6 false (.t 5), none, 0⟩,
  ⟨none, .bin 7 .lss (.t 6) (.i 1), none, 0⟩]
def c78r2 : List SI := [
  ⟨none, .mv 9 (.t 0), none, 0⟩,
  ⟨none, .ixA 10 (.t 9) (.i 0) 1, none, 0⟩,
  ⟨none, .ld 11 (.t 10) none, none, 0⟩,
  ⟨none, .mv 3 (.t 11), none, 0⟩]
def c78r3 : List SI := [
  ⟨none, .mv 4 (.i 1), none, 0⟩]
def c78r4 : List SI := [
  ⟨none, .mv 12 (.t 4), none, 0⟩,
  ⟨none, .mv 13 (.t 0), none, 0⟩,
  ⟨none, .len 14 false (.t 13), none, 0⟩,
  ⟨none, .bin 15 .lss (.t 12) (.t 14), none, 0⟩]
def c78r5 : List SI := [
  ⟨none, .mv 18 (.t 3), none, 0⟩,
  ⟨none, .mv 19 (.t 0), none, 0⟩,
  ⟨none, .mv 20 (.t 4), none, 0⟩,
  ⟨none, .ixA 21 (.t 19) (.t 20) 1, none, 0⟩,
  ⟨none, .ld 22 (.t 21) none, none, 0⟩,
  ⟨none, .mm 23 true (.t 18) (.t 22), none, 0⟩,
  ⟨none, .mv 3 (.t 23), none, 0⟩]
def c78r6 : List SI := [
  ⟨none, .mv 16 (.t 4), none, 0⟩,
  ⟨none, .bin 17 .add (.t 16) (.i 1), none, 0⟩,
  ⟨none, .mv 4 (.t 17), none, 0⟩]
def c78r7 : List SI := [
  ⟨none, .mv 24 (.t 3), none, 0⟩,
  ⟨none, .mv 2 (.t 24), none, 0⟩]
def c78 : SC :=
  (.seq (.reg false c78r0)
  (.seq (.seq (.reg false c78r1)
  (.cond (.t 7)
   .dead
   .skip))
  (.seq (.reg false c78r2)
  (.seq (.seq (.reg false c78r3)
  (.blk 0 (.loop (.seq (.seq (.reg false c78r4)
    (.cond (.t 15)
     .skip
     (.exit 0)))
    (.seq (.blk 1 (.reg false c78r5))
    (.reg false c78r6))))))
  (.seq (.reg false c78r7)
  .ret)))))
def v78 : List Nat × List Nat := ([], [])
def o78 : List RS := [.t 2]
theorem s78 : slimC Try.prog Try.f78.ntmps v78.1 v78.2 ((Try.f78.body).getD .skip) = some c78 := by kernel_rfl
theorem q78 : slimR Try.prog Try.f78.ntmps v78.1 v78.2 Try.f78.results.toList = some o78 := by kernel_rfl
-- watermeet/rec.in N=9
def c79r0 : List SI := [
  ⟨none, .mv 2 (.b false), none, 0⟩]
def c79r1 : List SI := [
  ⟨none, .mv 3 (.t 0), none, 0⟩,
  ⟨none, .bin 4 .geq (.t 3) (.i 0), none, 0⟩,
  ⟨none, .mv 5 (.t 4), none, 0⟩,
  ⟨some (5, true), .mv 6 (.t 0), none, 6⟩,
  ⟨some (5, true), .bin 7 .leq (.t 6) (.i 1099511627776), none, 7⟩,
  ⟨none, .pick 8 (.t 5) (.t 7) (.b false), none, 0⟩,
  ⟨none, .mv 2 (.t 8), none, 0⟩]
def c79 : SC :=
  (.seq (.reg false c79r0)
  (.seq (.reg false c79r1)
  .ret))
def v79 : List Nat × List Nat := ([], [])
def o79 : List RS := [.t 2]
theorem s79 : slimC Try.prog Try.f79.ntmps v79.1 v79.2 ((Try.f79.body).getD .skip) = some c79 := by kernel_rfl
theorem q79 : slimR Try.prog Try.f79.ntmps v79.1 v79.2 Try.f79.results.toList = some o79 := by kernel_rfl
-- watermeet/octet.PutText N=11
def c80r0 : List SI := [
  ⟨none, .mv 4 (.v (.slice none 0 0)), none, 0⟩]
def c80r1 : List SI := [
  ⟨none, .mv 5 (.t 0), none, 0⟩,
  ⟨none, .mv 6 (.t 1), none, 0⟩,
  ⟨none, .len 7 true (.t 6), none, 0⟩,
  ⟨none, .call 8 61 [(.t 5), (.t 7)], none, 0⟩,
  ⟨none, .mv 9 (.t 1), none, 0⟩,
  ⟨none, .app 10 (.t 8) (.t 9) 5 1 1, none, 0⟩,
  ⟨none, .mv 4 (.t 10), none, 0⟩]
def c80 : SC :=
  (.seq (.reg false c80r0)
  (.seq (.reg false c80r1)
  .ret))
def v80 : List Nat × List Nat := ([], [])
def o80 : List RS := [.t 4]
theorem s80 : slimC Try.prog Try.f80.ntmps v80.1 v80.2 ((Try.f80.body).getD .skip) = some c80 := by kernel_rfl
theorem q80 : slimR Try.prog Try.f80.ntmps v80.1 v80.2 Try.f80.results.toList = some o80 := by kernel_rfl
-- watermeet/crc.Sum N=21
def c81r0 : List SI := [
  ⟨none, .mv 2 (.v (.int .u32 0)), none, 0⟩]
def c81r1 : List SI := [
  ⟨none, .call 7 93 [], none, 0⟩,
  ⟨none, .mv 3 (.t 7), none, 0⟩]
def c81r2 : List SI := [
  ⟨none, .mv 4 (.v (.int .u32 4294967295)), none, 0⟩]
def c81r3 : List SI := [
  ⟨none, .mv 8 (.t 0), none, 0⟩,
  ⟨none, .len 9 false (.t 8), none, 0⟩,
  ⟨none, .mv 10 (.i 0), none, 0⟩]
def c81r4 : List SI := [
  ⟨none, .bin 11 .lss (.t 10) (.t 9), none, 0⟩]
def c81r5 : List SI := [
  ⟨none, .ixA 12 (.t 8) (.t 10) 1, none, 0⟩,
  ⟨none, .ld 13 (.t 12) none, none, 0⟩,
  ⟨none, .mv 6 (.t 13), none, 0⟩]
def c81r6 : List SI := [
  ⟨none, .mv 14 (.t 3), none, 0⟩,
  ⟨none, .mv 15 (.t 4), none, 0⟩,
  ⟨none, .mv 16 (.t 6), none, 0⟩,
  ⟨none, .cav 17 (.t 14) [(.t 15), (.t 16)], none, 0⟩,
  ⟨none, .mv 4 (.t 17), none, 0⟩]
def c81r7 : List SI := [
  ⟨none, .bin 18 .add (.t 10) (.i 1), none, 0⟩,
  ⟨none, .mv 10 (.t 18), none, 0⟩]
def c81r8 : List SI := [
  ⟨none, .mv 19 (.t 4), none, 0⟩,
  ⟨none, .un 20 .xor (.t 19), none, 0⟩,
  ⟨none, .mv 2 (.t 20), none, 0⟩]
def c81 : SC :=
  (.seq (.reg false c81r0)
  (.seq (.reg false c81r1)
  (.seq (.reg false c81r2)
  (.seq (.seq (.reg false c81r3)
  (.blk 0 (.loop (.seq (.reg false c81r4)
    (.seq (.cond (.t 11)
     .skip
     (.exit 0))
    (.seq (.blk 1 (.seq (.reg false c81r5)
     (.reg false c81r6)))
    (.reg false c81r7)))))))
  (.seq (.reg false c81r8)
  .ret)))))
def v81 : List Nat × List Nat := ([], [])
def o81 : List RS := [.t 2]
theorem s81 : slimC Try.prog Try.f81.ntmps v81.1 v81.2 ((Try.f81.body).getD .skip) = some c81 := by kernel_rfl
theorem q81 : slimR Try.prog Try.f81.ntmps v81.1 v81.2 Try.f81.results.toList = some o81 := by kernel_rfl
-- watermeet/watermeetref04.in N=12
def c83r0 : List SI := [
  ⟨none, .bxR 1 (.t 0), none, 0⟩,
  ⟨none, .mv 2 (.i 0), none, 0⟩]
def c83r1 : List SI := [
  ⟨none, .nop, (some 1), 0⟩,
  ⟨none, .ldR 4 1 0 none, none, 0⟩,
  ⟨none, .call 5 84 [(.t 4)], none, 0⟩,
  ⟨none, .un 6 .not (.t 5), none, 0⟩,
  ⟨none, .mv 7 (.t 6), none, 0⟩,
  ⟨some (7, false), .nop, (some 1), 99999⟩,
  ⟨some (7, false), .ldR 9 1 4 none, none, 9⟩,
  ⟨some (7, false), .call 10 84 [(.t 9)], none, 10⟩,
  ⟨some (7, false), .un 11 .not (.t 10), none, 11⟩,
  ⟨none, .pick 12 (.t 7) (.b true) (.t 11), none, 0⟩,
  ⟨none, .mv 13 (.t 12), none, 0⟩,
  ⟨some (13, false), .nop, (some 1), 99999⟩,
  ⟨some (13, false), .ldR 15 1 1 none, none, 15⟩,
  ⟨some (13, false), .len 16 true (.t 15), none, 16⟩,
  ⟨some (13, false), .bin 17 .gtr (.t 16) (.i 64), none, 17⟩,
  ⟨none, .pick 18 (.t 13) (.b true) (.t 17), none, 0⟩,
  ⟨none, .mv 19 (.t 18), none, 0⟩,
  ⟨some (19, false), .nop, (some 1), 99999⟩,
  ⟨some (19, false), .ldR 21 1 2 none, none, 21⟩,
  ⟨some (19, false), .len 22 true (.t 21), none, 22⟩,
  ⟨some (19, false), .bin 23 .gtr (.t 22) (.i 64), none, 23⟩,
  ⟨none, .pick 24 (.t 19) (.b true) (.t 23), none, 0⟩,
  ⟨none, .mv 25 (.t 24), none, 0⟩,
  ⟨some (25, false), .nop, (some 1), 99999⟩,
  ⟨some (25, false), .ldR 27 1 3 none, none, 27⟩,
  ⟨some (25, false), .mv 28 (.t 27), none, 28⟩,
  ⟨some (28, true), .nop, (some 1), 99999⟩,
  ⟨some (28, true), .ldR 30 1 1 none, none, 30⟩,
  ⟨some (28, true), .bin 31 .eql (.t 30) (.v (.string ⟨#[]⟩)), none, 31⟩,
  ⟨some (28, true), .mv 32 (.t 31), none, 32⟩,
  ⟨some (32, false), .nop, (some 1), 99999⟩,
  ⟨some (32, false), .ldR 34 1 2 none, none, 34⟩,
  ⟨some (32, false), .bin 35 .neq (.t 34) (.v (.string ⟨#[]⟩)), none, 35⟩,
  ⟨some (28, true), .pick 36 (.t 32) (.b true) (.t 35), none, 36⟩,
  ⟨some (25, false), .pick 37 (.t 28) (.t 36) (.b false), none, 37⟩,
  ⟨none, .pick 38 (.t 25) (.b true) (.t 37), none, 0⟩]
def c83r2 : List SI := [
  ⟨none, .mv 2 (.i 1), none, 0⟩]
def c83r3 : List SI := [
  ⟨none, .mv 2 (.i 0), none, 0⟩]
def c83 : SC :=
  (.seq (.reg false c83r0)
  (.seq (.seq (.reg false c83r1)
  (.cond (.t 38)
   (.seq (.reg false c83r2)
   .ret)
   .skip))
  (.seq (.reg false c83r3)
  .ret)))
def v83 : List Nat × List Nat := ([1], [1, 3, 8, 14, 20, 26, 29, 33])
def o83 : List RS := [.t 2]
theorem s83 : slimC Try.prog Try.f83.ntmps v83.1 v83.2 ((Try.f83.body).getD .skip) = some c83 := by kernel_rfl
theorem q83 : slimR Try.prog Try.f83.ntmps v83.1 v83.2 Try.f83.results.toList = some o83 := by kernel_rfl
-- watermeet/watermeetref03.In N=9
def c84r0 : List SI := [
  ⟨none, .mv 2 (.b false), none, 0⟩]
def c84r1 : List SI := [
  ⟨none, .mv 3 (.t 0), none, 0⟩,
  ⟨none, .bin 4 .geq (.t 3) (.i 0), none, 0⟩,
  ⟨none, .mv 5 (.t 4), none, 0⟩,
  ⟨some (5, true), .mv 6 (.t 0), none, 6⟩,
  ⟨some (5, true), .bin 7 .leq (.t 6) (.i 1099511627776), none, 7⟩,
  ⟨none, .pick 8 (.t 5) (.t 7) (.b false), none, 0⟩,
  ⟨none, .mv 2 (.t 8), none, 0⟩]
def c84 : SC :=
  (.seq (.reg false c84r0)
  (.seq (.reg false c84r1)
  .ret))
def v84 : List Nat × List Nat := ([], [])
def o84 : List RS := [.t 2]
theorem s84 : slimC Try.prog Try.f84.ntmps v84.1 v84.2 ((Try.f84.body).getD .skip) = some c84 := by kernel_rfl
theorem q84 : slimR Try.prog Try.f84.ntmps v84.1 v84.2 Try.f84.results.toList = some o84 := by kernel_rfl
-- watermeet/watermeetref01.PutText N=11
def c85r0 : List SI := [
  ⟨none, .mv 4 (.v (.slice none 0 0)), none, 0⟩]
def c85r1 : List SI := [
  ⟨none, .mv 5 (.t 0), none, 0⟩,
  ⟨none, .mv 6 (.t 1), none, 0⟩,
  ⟨none, .len 7 true (.t 6), none, 0⟩,
  ⟨none, .call 8 66 [(.t 5), (.t 7)], none, 0⟩,
  ⟨none, .mv 9 (.t 1), none, 0⟩,
  ⟨none, .app 10 (.t 8) (.t 9) 5 1 1, none, 0⟩,
  ⟨none, .mv 4 (.t 10), none, 0⟩]
def c85 : SC :=
  (.seq (.reg false c85r0)
  (.seq (.reg false c85r1)
  .ret))
def v85 : List Nat × List Nat := ([], [])
def o85 : List RS := [.t 4]
theorem s85 : slimC Try.prog Try.f85.ntmps v85.1 v85.2 ((Try.f85.body).getD .skip) = some c85 := by kernel_rfl
theorem q85 : slimR Try.prog Try.f85.ntmps v85.1 v85.2 Try.f85.results.toList = some o85 := by kernel_rfl
-- watermeet/octet.from N=11
def c86r0 : List SI := [
  ⟨none, .mv 4 (.v (.slice none 0 0)), none, 0⟩]
def c86r1 : List SI := [
  ⟨none, .mv 5 (.t 0), none, 0⟩,
  ⟨none, .mv 6 (.t 1), none, 0⟩,
  ⟨none, .mv 7 (.t 0), none, 0⟩,
  ⟨none, .len 8 false (.t 7), none, 0⟩,
  ⟨none, .mm 9 false (.t 6) (.t 8), none, 0⟩,
  ⟨none, .sl 10 (.t 5) (some (.t 9)) none none 1, none, 0⟩,
  ⟨none, .mv 4 (.t 10), none, 0⟩]
def c86 : SC :=
  (.seq (.reg false c86r0)
  (.seq (.reg false c86r1)
  .ret))
def v86 : List Nat × List Nat := ([], [])
def o86 : List RS := [.t 4]
theorem s86 : slimC Try.prog Try.f86.ntmps v86.1 v86.2 ((Try.f86.body).getD .skip) = some c86 := by kernel_rfl
theorem q86 : slimR Try.prog Try.f86.ntmps v86.1 v86.2 Try.f86.results.toList = some o86 := by kernel_rfl
-- watermeet/batch.parse$1 N=18
def c87r0 : List SI := [
  ⟨none, .mv 3 (.i 0), none, 0⟩]
def c87r1 : List SI := [
  ⟨none, .ld 8 (.t 0) none, none, 0⟩,
  ⟨none, .ld 9 (.t 1) none, none, 0⟩,
  ⟨none, .call 10 88 [(.t 8), (.t 9)], none, 0⟩,
  ⟨none, .mv 7 (.t 10), none, 0⟩,
  ⟨none, .ext 11 (.t 7) 0, none, 0⟩,
  ⟨none, .ext 12 (.t 7) 1, none, 0⟩,
  ⟨none, .ext 13 (.t 7) 2, none, 0⟩,
  ⟨none, .mv 4 (.t 11), none, 0⟩,
  ⟨none, .mv 5 (.t 12), none, 0⟩,
  ⟨none, .mv 6 (.t 13), none, 0⟩]
def c87r2 : List SI := [
  ⟨none, .mv 14 (.t 6), none, 0⟩,
  ⟨none, .bin 15 .neq (.t 14) (.i 0), none, 0⟩]
def c87r3 : List SI := [
  ⟨none, .st (.t 2) 1 (.b false), none, 0⟩]
def c87r4 : List SI := [
  ⟨none, .mv 3 (.i 0), none, 0⟩]
def c87r5 : List SI := [
  ⟨none, .mv 16 (.t 5), none, 0⟩,
  ⟨none, .st (.t 1) 1 (.t 16), none, 0⟩]
def c87r6 : List SI := [
  ⟨none, .mv 17 (.t 4), none, 0⟩,
  ⟨none, .mv 3 (.t 17), none, 0⟩]
def c87 : SC :=
  (.seq (.reg false c87r0)
  (.seq (.reg false c87r1)
  (.seq (.seq (.reg false c87r2)
  (.cond (.t 15)
   (.seq (.reg false c87r3)
   (.seq (.reg false c87r4)
   .ret))
   .skip))
  (.seq (.reg false c87r5)
  (.seq (.reg false c87r6)
  .ret)))))
def v87 : List Nat × List Nat := ([], [])
def o87 : List RS := [.t 3]
theorem s87 : slimC Try.prog Try.f87.ntmps v87.1 v87.2 ((Try.f87.body).getD .skip) = some c87 := by kernel_rfl
theorem q87 : slimR Try.prog Try.f87.ntmps v87.1 v87.2 Try.f87.results.toList = some o87 := by kernel_rfl
-- watermeet/octet.GetVar N=58
def c88r0 : List SI := [
  ⟨none, .mv 4 (.i 0), none, 0⟩,
  ⟨none, .mv 5 (.i 0), none, 0⟩,
  ⟨none, .mv 6 (.i 0), none, 0⟩]
def c88r1 : List SI := [
  ⟨none, .mv 10 (.t 1), none, 0⟩,
  ⟨none, .bin 11 .lss (.t 10) (.i 0), none, 0⟩]
def c88r2 : List SI := [
  ⟨none, .mv 4 (.i 0), none, 0⟩,
  ⟨none, .mv 5 (.i 0), none, 0⟩,
  ⟨none, .mv 6 (.i 1), none, 0⟩]
def c88r3 : List SI := [
  ⟨none, .mv 7 (.v (.int .u64 0)), none, 0⟩]
def c88r4 : List SI := [
  ⟨none, .mv 12 (.t 0), none, 0⟩,
  ⟨none, .mv 13 (.t 1), none, 0⟩,
  ⟨none, .call 14 86 [(.t 12), (.t 13)], none, 0⟩,
  ⟨none, .len 15 false (.t 14), none, 0⟩,
  ⟨none, .mv 16 (.i 0), none, 0⟩]
def c88r5 : List SI := [
  ⟨none, .bin 17 .lss (.t 16) (.t 15), none, 0⟩]
def c88r6 : List SI := [
  ⟨none, .mv 18 (.t 16), none, 0⟩,
  ⟨none, .ixA 19 (.t 14) (.t 16) 1, none, 0⟩,
  ⟨none, .ld 20 (.t 19) none, none, 0⟩,
  ⟨none, .mv 8 (.t 18), none, 0⟩,
  ⟨none, .mv 9 (.t 20), none, 0⟩]
def c88r7 : List SI := [
  ⟨none, .mv 21 (.t 8), none, 0⟩,
  ⟨none, .bin 22 .eql (.t 21) (.i 9), none, 0⟩,
  ⟨none, .mv 23 (.t 22), none, 0⟩,
  ⟨some (23, true), .mv 24 (.t 9), none, 24⟩,
  ⟨some (23, true), .bin 25 .gtr (.t 24) (.v (.int .u8 1)), none, 25⟩,
  ⟨none, .pick 26 (.t 23) (.t 25) (.b false), none, 0⟩,
  ⟨none, .mv 27 (.t 26), none, 0⟩,
  ⟨some (27, false), .mv 28 (.t 8), none, 28⟩,
  ⟨some (27, false), .bin 29 .gtr (.t 28) (.i 0), none, 29⟩,
  ⟨some (27, false), .mv 30 (.t 29), none, 30⟩,
  ⟨some (30, true), .mv 31 (.t 9), none, 31⟩,
  ⟨some (30, true), .bin 32 .eql (.t 31) (.v (.int .u8 0)), none, 32⟩,
  ⟨some (27, false), .pick 33 (.t 30) (.t 32) (.b false), none, 33⟩,
  ⟨none, .pick 34 (.t 27) (.b true) (.t 33), none, 0⟩]
def c88r8 : List SI := [
  ⟨none, .mv 4 (.i 0), none, 0⟩,
  ⟨none, .mv 5 (.i 0), none, 0⟩,
  ⟨none, .mv 6 (.i 11), none, 0⟩]
def c88r9 : List SI := [
  ⟨none, .mv 35 (.t 7), none, 0⟩,
  ⟨none, .mv 36 (.t 9), none, 0⟩,
  ⟨none, .bin 37 .and (.t 36) (.v (.int .u8 127)), none, 0⟩,
  ⟨none, .cvI 38 .u64 (.t 37), none, 0⟩,
  ⟨none, .mv 39 (.t 8), none, 0⟩,
  ⟨none, .bin 40 .mul (.i 7) (.t 39), none, 0⟩,
  ⟨none, .bin 41 .shl (.t 38) (.t 40), none, 0⟩,
  ⟨none, .bin 42 .or (.t 35) (.t 41), none, 0⟩,
  ⟨none, .mv 7 (.t 42), none, 0⟩]
def c88r10 : List SI := [
  ⟨none, .mv 43 (.t 9), none, 0⟩,
  ⟨none, .bin 44 .lss (.t 43) (.v (.int .u8 128)), none, 0⟩]
def c88r11 : List SI := [
  ⟨none, .mv 45 (.t 7), none, 0⟩,
  ⟨none, .bin 46 .shr (.t 45) (.v (.int .u64 1)), none, 0⟩,
  ⟨none, .cvI 47 .i64 (.t 46), none, 0⟩,
  ⟨none, .mv 48 (.t 7), none, 0⟩,
  ⟨none, .bin 49 .and (.t 48) (.v (.int .u64 1)), none, 0⟩,
  ⟨none, .cvI 50 .i64 (.t 49), none, 0⟩,
  ⟨none, .un 51 .neg (.t 50), none, 0⟩,
  ⟨none, .bin 52 .xor (.t 47) (.t 51), none, 0⟩,
  ⟨none, .mv 53 (.t 1), none, 0⟩,
  ⟨none, .mv 54 (.t 8), none, 0⟩,
  ⟨none, .bin 55 .add (.t 53) (.t 54), none, 0⟩,
  ⟨none, .bin 56 .add (.t 55) (.i 1), none, 0⟩,
  ⟨none, .mv 4 (.t 52), none, 0⟩,
  ⟨none, .mv 5 (.t 56), none, 0⟩,
  ⟨none, .mv 6 (.i 0), none, 0⟩]
def c88r12 : List SI := [
  ⟨none, .bin 57 .add (.t 16) (.i 1), none, 0⟩,
  ⟨none, .mv 16 (.t 57), none, 0⟩]
def c88r13 : List SI := [
  ⟨none, .mv 4 (.i 0), none, 0⟩,
  ⟨none, .mv 5 (.i 0), none, 0⟩,
  ⟨none, .mv 6 (.i 10), none, 0⟩]
def c88 : SC :=
  (.seq (.reg false c88r0)
  (.seq (.seq (.reg false c88r1)
  (.cond (.t 11)
   (.seq (.reg false c88r2)
   .ret)
   .skip))
  (.seq (.reg false c88r3)
  (.seq (.seq (.reg false c88r4)
  (.blk 0 (.loop (.seq (.reg false c88r5)
    (.seq (.cond (.t 17)
     .skip
     (.exit 0))
    (.seq (.blk 1 (.seq (.reg false c88r6)
     (.seq (.seq (.reg false c88r7)
     (.cond (.t 34)
      (.seq (.reg false c88r8)
      .ret)
      .skip))
     (.seq (.reg false c88r9)
     (.seq (.reg false c88r10)
     (.cond (.t 44)
      (.seq (.reg false c88r11)
      .ret)
      .skip))))))
    (.reg false c88r12)))))))
  (.seq (.reg false c88r13)
  .ret)))))
def v88 : List Nat × List Nat := ([], [])
def o88 : List RS := [.t 4, .t 5, .t 6]
theorem s88 : slimC Try.prog Try.f88.ntmps v88.1 v88.2 ((Try.f88.body).getD .skip) = some c88 := by kernel_rfl
theorem q88 : slimR Try.prog Try.f88.ntmps v88.1 v88.2 Try.f88.results.toList = some o88 := by kernel_rfl
-- watermeet/rec.Get N=82
def c89r0 : List SI := [
  ⟨none, .alR 8 [(.int .i64 0), (.string ⟨#[]⟩), (.string ⟨#[]⟩), (.bool false), (.int .i64 0)], none, 0⟩,
  ⟨none, .mv 9 (.i 0), none, 0⟩,
  ⟨none, .mv 10 (.i 0), none, 0⟩]
def c89r1 : List SI := [
  ⟨none, .mv 13 (.t 2), none, 0⟩,
  ⟨none, .call 14 79 [(.t 13)], none, 0⟩,
  ⟨none, .un 15 .not (.t 14), none, 0⟩,
  ⟨none, .mv 16 (.t 15), none, 0⟩,
  ⟨some (16, false), .mv 17 (.t 3), none, 17⟩,
  ⟨some (16, false), .call 18 79 [(.t 17)], none, 18⟩,
  ⟨some (16, false), .un 19 .not (.t 18), none, 19⟩,
  ⟨none, .pick 20 (.t 16) (.b true) (.t 19), none, 0⟩,
  ⟨none, .mv 21 (.t 20), none, 0⟩,
  ⟨some (21, false), .mv 22 (.t 1), none, 22⟩,
  ⟨some (21, false), .bin 23 .lss (.t 22) (.i 0), none, 23⟩,
  ⟨none, .pick 24 (.t 21) (.b true) (.t 23), none, 0⟩,
  ⟨none, .mv 25 (.t 24), none, 0⟩,
  ⟨some (25, false), .mv 26 (.t 1), none, 26⟩,
  ⟨some (25, false), .mv 27 (.t 0), none, 27⟩,
  ⟨some (25, false), .len 28 false (.t 27), none, 28⟩,
  ⟨some (25, false), .bin 29 .gtr (.t 26) (.t 28), none, 29⟩,
  ⟨none, .pick 30 (.t 25) (.b true) (.t 29), none, 0⟩]
def c89r2 : List SI := [
  ⟨none, .bld 31 [(.int .i64 0), (.string ⟨#[]⟩), (.string ⟨#[]⟩), (.bool false), (.int .i64 0)] [], none, 0⟩,
  ⟨none, .stR 8 0 5 (.t 31), none, 0⟩,
  ⟨none, .mv 9 (.i 0), none, 0⟩,
  ⟨none, .mv 10 (.i 1), none, 0⟩]
def c89r3 : List SI := [
  ⟨none, .mv 32 (.t 0), none, 0⟩,
  ⟨none, .mv 33 (.t 1), none, 0⟩,
  ⟨none, .bld 34 [(.slice none 0 0), (.int .i64 0), (.int .i64 0)] [(0, 1, (.t 32)), (1, 1, (.t 33))], none, 0⟩,
  ⟨none, .bx 35 (.t 34), none, 0⟩,
  ⟨none, .mv 11 (.t 35), none, 0⟩]
def c89r4 : List SI := [
  ⟨none, .mv 12 (.v (.func (.func 94) #[] #[])), none, 0⟩]
def c89r5 : List SI := [
  ⟨none, .mv 36 (.t 2), none, 0⟩,
  ⟨none, .mv 37 (.t 11), none, 0⟩,
  ⟨none, .call 38 97 [(.t 37), (.v (.func (.func 88) #[] #[]))], none, 0⟩,
  ⟨none, .call 39 96 [(.t 36), (.t 38)], none, 0⟩,
  ⟨none, .nop, (some 8), 0⟩,
  ⟨none, .stR 8 0 1 (.t 39), none, 0⟩]
def c89r6 : List SI := [
  ⟨none, .mv 41 (.t 3), none, 0⟩,
  ⟨none, .mv 42 (.t 11), none, 0⟩,
  ⟨none, .call 43 97 [(.t 42), (.v (.func (.func 88) #[] #[]))], none, 0⟩,
  ⟨none, .call 44 96 [(.t 41), (.t 43)], none, 0⟩,
  ⟨none, .nop, (some 8), 0⟩,
  ⟨none, .stR 8 4 1 (.t 44), none, 0⟩]
def c89r7 : List SI := [
  ⟨none, .mv 46 (.t 11), none, 0⟩,
  ⟨none, .call 47 98 [(.t 46), (.v (.func (.func 99) #[] #[]))], none, 0⟩,
  ⟨none, .nop, (some 8), 0⟩,
  ⟨none, .stR 8 3 1 (.t 47), none, 0⟩]
def c89r8 : List SI := [
  ⟨none, .mv 49 (.t 11), none, 0⟩,
  ⟨none, .mv 50 (.t 12), none, 0⟩,
  ⟨none, .call 51 100 [(.t 49), (.t 50)], none, 0⟩,
  ⟨none, .mv 52 (.t 11), none, 0⟩,
  ⟨none, .mv 53 (.t 12), none, 0⟩,
  ⟨none, .call 54 100 [(.t 52), (.t 53)], none, 0⟩,
  ⟨none, .nop, (some 8), 0⟩,
  ⟨none, .stR 8 1 1 (.t 51), none, 0⟩,
  ⟨none, .nop, (some 8), 0⟩,
  ⟨none, .stR 8 2 1 (.t 54), none, 0⟩]
def c89r9 : List SI := [
  ⟨none, .mv 57 (.t 11), none, 0⟩,
  ⟨none, .nck 58 (.t 57), none, 0⟩,
  ⟨none, .flA 59 (.t 58) 2, none, 0⟩,
  ⟨none, .ld 60 (.t 59) none, none, 0⟩,
  ⟨none, .bin 61 .eql (.t 60) (.i 0), none, 0⟩]
def c89r10 : List SI := [
  ⟨none, .mv 62 (.t 11), none, 0⟩,
  ⟨none, .ldR 63 8 0 (some 5), none, 0⟩,
  ⟨none, .call 64 60 [(.t 63)], none, 0⟩,
  ⟨none, .nck 65 (.t 62), none, 0⟩,
  ⟨none, .flA 66 (.t 65) 2, none, 0⟩,
  ⟨none, .st (.t 66) 1 (.t 64), none, 0⟩]
def c89r11 : List SI := [
  ⟨none, .mv 67 (.t 11), none, 0⟩,
  ⟨none, .nck 68 (.t 67), none, 0⟩,
  ⟨none, .flA 69 (.t 68) 2, none, 0⟩,
  ⟨none, .ld 70 (.t 69) none, none, 0⟩,
  ⟨none, .bin 71 .neq (.t 70) (.i 0), none, 0⟩]
def c89r12 : List WI := [
  (true, false, ⟨none, .bld 72 [(.int .i64 0), (.string ⟨#[]⟩), (.string ⟨#[]⟩), (.bool false), (.int .i64 0)] [], none, 0⟩),
  (true, false, ⟨none, .mv 73 (.t 11), none, 0⟩),
  (true, false, ⟨none, .nck 74 (.t 73), none, 0⟩),
  (true, false, ⟨none, .flA 75 (.t 74) 2, none, 0⟩),
  (true, false, ⟨none, .ld 76 (.t 75) none, none, 0⟩),
  (false, false, ⟨none, .stR 8 0 5 (.t 72), none, 0⟩),
  (true, false, ⟨none, .mv 9 (.i 0), none, 0⟩),
  (true, false, ⟨none, .mv 10 (.t 76), none, 0⟩)]
def c89r13 : List WI := [
  (true, false, ⟨none, .ldR 77 8 0 (some 5), none, 0⟩),
  (true, false, ⟨none, .mv 78 (.t 11), none, 0⟩),
  (true, false, ⟨none, .nck 79 (.t 78), none, 0⟩),
  (true, false, ⟨none, .flA 80 (.t 79) 1, none, 0⟩),
  (true, false, ⟨none, .ld 81 (.t 80) none, none, 0⟩),
  (false, false, ⟨none, .stR 8 0 5 (.t 77), none, 0⟩),
  (true, false, ⟨none, .mv 9 (.t 81), none, 0⟩),
  (true, false, ⟨none, .mv 10 (.i 0), none, 0⟩)]
def c89 : SC :=
  (.seq (.reg false c89r0)
  (.seq (.seq (.reg false c89r1)
  (.cond (.t 30)
   (.seq (.reg false c89r2)
   .ret)
   .skip))
  (.seq (.reg false c89r3)
  (.seq (.reg false c89r4)
  (.seq (.reg false c89r5)
  (.seq (.reg false c89r6)
  (.seq (.reg false c89r7)
  (.seq (.reg false c89r8)
  (.seq (.seq (.reg false c89r9)
  (.cond (.t 61)
   (.reg false c89r10)
   .skip))
  (.seq (.seq (.reg false c89r11)
  (.cond (.t 71)
   (.seq (.rgW c89r12)
   .ret)
   .skip))
  (.seq (.rgW c89r13)
  .ret)))))))))))
def v89 : List Nat × List Nat := ([8], [8, 40, 45, 48, 55, 56])
def o89 : List RS := [.r 8 (some 5), .t 9, .t 10]
theorem s89 : slimC Try.prog Try.f89.ntmps v89.1 v89.2 ((Try.f89.body).getD .skip) = some c89 := by kernel_rfl
theorem q89 : slimR Try.prog Try.f89.ntmps v89.1 v89.2 Try.f89.results.toList = some o89 := by kernel_rfl
-- watermeet/watermeetref02.steps N=14
def c93r0 : List SI := [
  ⟨none, .mv 0 (.v .nilFunc), none, 0⟩]
def c93r1 : List SI := [
  ⟨none, .al 1 [(.int .u32 0), (.int .u32 0), (.int .u32 0), (.int .u32 0), (.int .u32 0), (.int .u32 0), (.int .u32 0), (.int .u32 0), (.int .u32 0), (.int .u32 0), (.int .u32 0), (.int .u32 0), (.int .u32 0), (.int .u32 0), (.int .u32 0), (.int .u32 0)], none, 0⟩]
def c93r2 : List SI := [
  ⟨none, .mv 3 (.i 0), none, 0⟩]
def c93r3 : List SI := [
  ⟨none, .bin 4 .lss (.t 3) (.i 16), none, 0⟩]
def c93r4 : List SI := [
  ⟨none, .mv 5 (.t 3), none, 0⟩,
  ⟨none, .mv 2 (.t 5), none, 0⟩]
def c93r5 : List SI := [
  ⟨none, .mv 6 (.t 2), none, 0⟩,
  ⟨none, .mv 7 (.t 2), none, 0⟩,
  ⟨none, .cvI 8 .u32 (.t 7), none, 0⟩,
  ⟨none, .call 9 102 [(.t 8)], none, 0⟩,
  ⟨none, .ixP 10 (.t 1) (.t 6) 16 1, none, 0⟩,
  ⟨none, .st (.t 10) 1 (.t 9), none, 0⟩]
def c93r6 : List SI := [
  ⟨none, .bin 11 .add (.t 3) (.i 1), none, 0⟩,
  ⟨none, .mv 3 (.t 11), none, 0⟩]
def c93r7 : List SI := [
  ⟨none, .mkf 12 (.func 103) [(.t 1)], none, 0⟩,
  ⟨none, .mv 0 (.t 12), none, 0⟩]
def c93 : SC :=
  (.seq (.reg false c93r0)
  (.seq (.reg false c93r1)
  (.seq (.seq (.reg false c93r2)
  (.blk 0 (.loop (.seq (.reg false c93r3)
    (.seq (.cond (.t 4)
     .skip
     (.exit 0))
    (.seq (.blk 1 (.seq (.reg false c93r4)
     (.reg false c93r5)))
    (.reg false c93r6)))))))
  (.seq (.reg false c93r7)
  .ret))))
def v93 : List Nat × List Nat := ([], [])
def o93 : List RS := [.t 0]
theorem s93 : slimC Try.prog Try.f93.ntmps v93.1 v93.2 ((Try.f93.body).getD .skip) = some c93 := by kernel_rfl
theorem q93 : slimR Try.prog Try.f93.ntmps v93.1 v93.2 Try.f93.results.toList = some o93 := by kernel_rfl
-- watermeet/rec.Get$1 N=13
def c94r0 : List SI := [
  ⟨none, .mv 4 (.v (.string ⟨#[]⟩)), none, 0⟩,
  ⟨none, .mv 5 (.i 0), none, 0⟩,
  ⟨none, .mv 6 (.i 0), none, 0⟩]
def c94r1 : List SI := [
  ⟨none, .mv 7 (.t 0), none, 0⟩,
  ⟨none, .mv 8 (.t 1), none, 0⟩,
  ⟨none, .call 9 95 [(.t 7), (.t 8), (.i 64)], none, 0⟩,
  ⟨none, .ext 10 (.t 9) 0, none, 0⟩,
  ⟨none, .ext 11 (.t 9) 1, none, 0⟩,
  ⟨none, .ext 12 (.t 9) 2, none, 0⟩,
  ⟨none, .mv 4 (.t 10), none, 0⟩,
  ⟨none, .mv 5 (.t 11), none, 0⟩,
  ⟨none, .mv 6 (.t 12), none, 0⟩]
def c94 : SC :=
  (.seq (.reg false c94r0)
  (.seq (.reg false c94r1)
  .ret))
def v94 : List Nat × List Nat := ([], [])
def o94 : List RS := [.t 4, .t 5, .t 6]
theorem s94 : slimC Try.prog Try.f94.ntmps v94.1 v94.2 ((Try.f94.body).getD .skip) = some c94 := by kernel_rfl
theorem q94 : slimR Try.prog Try.f94.ntmps v94.1 v94.2 Try.f94.results.toList = some o94 := by kernel_rfl
-- watermeet/octet.GetText N=45
def c95r0 : List SI := [
  ⟨none, .mv 6 (.v (.string ⟨#[]⟩)), none, 0⟩,
  ⟨none, .mv 7 (.i 0), none, 0⟩,
  ⟨none, .mv 8 (.i 0), none, 0⟩]
def c95r1 : List SI := [
  ⟨none, .mv 11 (.t 0), none, 0⟩,
  ⟨none, .mv 12 (.t 1), none, 0⟩,
  ⟨none, .call 13 88 [(.t 11), (.t 12)], none, 0⟩,
  ⟨none, .mv 10 (.t 13), none, 0⟩,
  ⟨none, .ext 14 (.t 10) 0, none, 0⟩,
  ⟨none, .ext 15 (.t 10) 1, none, 0⟩,
  ⟨none, .ext 16 (.t 10) 2, none, 0⟩,
  ⟨none, .mv 9 (.t 14), none, 0⟩,
  ⟨none, .mv 7 (.t 15), none, 0⟩,
  ⟨none, .mv 8 (.t 16), none, 0⟩]
def c95r2 : List SI := [
  ⟨none, .mv 18 (.t 8), none, 0⟩,
  ⟨none, .bin 19 .neq (.t 18) (.i 0), none, 0⟩,
  ⟨none, .mv 17 (.t 19), none, 0⟩]
def c95r3 : List SI := [
  ⟨none, .mv 20 (.t 8), none, 0⟩,
  ⟨none, .mv 6 (.v (.string ⟨#[]⟩)), none, 0⟩,
  ⟨none, .mv 7 (.i 0), none, 0⟩,
  ⟨none, .mv 8 (.t 20), none, 0⟩]
def c95r4 : List SI := [
  ⟨none, .mv 22 (.t 9), none, 0⟩,
  ⟨none, .bin 23 .lss (.t 22) (.i 0), none, 0⟩,
  ⟨none, .mv 21 (.t 23), none, 0⟩]
def c95r5 : List SI := [
  ⟨none, .mv 6 (.v (.string ⟨#[]⟩)), none, 0⟩,
  ⟨none, .mv 7 (.i 0), none, 0⟩,
  ⟨none, .mv 8 (.i 11), none, 0⟩]
def c95r6 : List SI := [
  ⟨none, .mv 25 (.t 9), none, 0⟩,
  ⟨none, .mv 26 (.t 2), none, 0⟩,
  ⟨none, .bin 27 .gtr (.t 25) (.t 26), none, 0⟩,
  ⟨none, .mv 24 (.t 27), none, 0⟩]
def c95r7 : List SI := [
  ⟨none, .mv 6 (.v (.string ⟨#[]⟩)), none, 0⟩,
  ⟨none, .mv 7 (.i 0), none, 0⟩,
  ⟨none, .mv 8 (.i 2), none, 0⟩]
def c95r8 : List SI := [
  ⟨none, .mv 29 (.t 9), none, 0⟩,
  ⟨none, .mv 30 (.t 0), none, 0⟩,
  ⟨none, .len 31 false (.t 30), none, 0⟩,
  ⟨none, .mv 32 (.t 7), none, 0⟩,
  ⟨none, .bin 33 .sub (.t 31) (.t 32), none, 0⟩,
  ⟨none, .bin 34 .gtr (.t 29) (.t 33), none, 0⟩,
  ⟨none, .mv 28 (.t 34), none, 0⟩]
def c95r9 : List SI := [
  ⟨none, .mv 6 (.v (.string ⟨#[]⟩)), none, 0⟩,
  ⟨none, .mv 7 (.i 0), none, 0⟩,
  ⟨none, .mv 8 (.i 10), none, 0⟩]
def c95r10 : List SI := [
  ⟨none, .mv 35 (.t 0), none, 0⟩,
  ⟨none, .mv 36 (.t 7), none, 0⟩,
  ⟨none, .mv 37 (.t 7), none, 0⟩,
  ⟨none, .mv 38 (.t 9), none, 0⟩,
  ⟨none, .bin 39 .add (.t 37) (.t 38), none, 0⟩,
  ⟨none, .sl 40 (.t 35) (some (.t 36)) (some (.t 39)) none 1, none, 0⟩,
  ⟨none, .cvS 41 (.t 40), none, 0⟩,
  ⟨none, .mv 42 (.t 7), none, 0⟩,
  ⟨none, .mv 43 (.t 9), none, 0⟩,
  ⟨none, .bin 44 .add (.t 42) (.t 43), none, 0⟩,
  ⟨none, .mv 6 (.t 41), none, 0⟩,
  ⟨none, .mv 7 (.t 44), none, 0⟩,
  ⟨none, .mv 8 (.i 0), none, 0⟩]
def c95 : SC :=
  (.seq (.reg false c95r0)
  (.seq (.reg false c95r1)
  (.seq (.blk 0 (.seq (.reg false c95r2)
   (.cond (.t 17)
    (.seq (.reg false c95r3)
    .ret)
    (.seq (.reg false c95r4)
    (.cond (.t 21)
     (.seq (.reg false c95r5)
     .ret)
     (.seq (.reg false c95r6)
     (.cond (.t 24)
      (.seq (.reg false c95r7)
      .ret)
      (.seq (.reg false c95r8)
      (.cond (.t 28)
       (.seq (.reg false c95r9)
       .ret)
       .skip)))))))))
  (.seq (.reg false c95r10)
  .ret))))
def v95 : List Nat × List Nat := ([], [])
def o95 : List RS := [.t 6, .t 7, .t 8]
theorem s95 : slimC Try.prog Try.f95.ntmps v95.1 v95.2 ((Try.f95.body).getD .skip) = some c95 := by kernel_rfl
theorem q95 : slimR Try.prog Try.f95.ntmps v95.1 v95.2 Try.f95.results.toList = some o95 := by kernel_rfl
-- watermeet/rec.beside N=14
def c96r0 : List SI := [
  ⟨none, .mv 4 (.i 0), none, 0⟩]
def c96r1 : List SI := [
  ⟨none, .mv 5 (.t 1), none, 0⟩,
  ⟨none, .bin 6 .lss (.t 5) (.i (-1099511627776)), none, 0⟩,
  ⟨none, .mv 7 (.t 6), none, 0⟩,
  ⟨some (7, false), .mv 8 (.t 1), none, 8⟩,
  ⟨some (7, false), .bin 9 .gtr (.t 8) (.i 1099511627776), none, 9⟩,
  ⟨none, .pick 10 (.t 7) (.b true) (.t 9), none, 0⟩]
def c96r2 : List SI := [
  ⟨none, .mv 4 (.i (-1)), none, 0⟩]
def c96r3 : List SI := [
  ⟨none, .mv 11 (.t 0), none, 0⟩,
  ⟨none, .mv 12 (.t 1), none, 0⟩,
  ⟨none, .bin 13 .add (.t 11) (.t 12), none, 0⟩,
  ⟨none, .mv 4 (.t 13), none, 0⟩]
def c96 : SC :=
  (.seq (.reg false c96r0)
  (.seq (.seq (.reg false c96r1)
  (.cond (.t 10)
   (.seq (.reg false c96r2)
   .ret)
   .skip))
  (.seq (.reg false c96r3)
  .ret)))
def v96 : List Nat × List Nat := ([], [])
def o96 : List RS := [.t 4]
theorem s96 : slimC Try.prog Try.f96.ntmps v96.1 v96.2 ((Try.f96.body).getD .skip) = some c96 := by kernel_rfl
theorem q96 : slimR Try.prog Try.f96.ntmps v96.1 v96.2 Try.f96.results.toList = some o96 := by kernel_rfl
-- watermeet/rec.field[int] N=32
def c97r0 : List SI := [
  ⟨none, .mv 4 (.i 0), none, 0⟩]
def c97r1 : List SI := [
  ⟨none, .mv 5 (.i 0), none, 0⟩]
def c97r2 : List SI := [
  ⟨none, .mv 6 (.t 0), none, 0⟩,
  ⟨none, .nck 7 (.t 6), none, 0⟩,
  ⟨none, .flA 8 (.t 7) 2, none, 0⟩,
  ⟨none, .ld 9 (.t 8) none, none, 0⟩,
  ⟨none, .bin 10 .eql (.t 9) (.i 0), none, 0⟩]
def c97r3 : List WI := [
  (true, false, ⟨none, .mv 12 (.t 0), none, 0⟩),
  (true, false, ⟨none, .mv 13 (.t 0), none, 0⟩),
  (true, false, ⟨none, .mv 14 (.t 1), none, 0⟩),
  (true, false, ⟨none, .mv 15 (.t 0), none, 0⟩),
  (true, false, ⟨none, .nck 16 (.t 15), none, 0⟩),
  (true, false, ⟨none, .flA 17 (.t 16) 0, none, 0⟩),
  (true, false, ⟨none, .ld 18 (.t 17) none, none, 0⟩),
  (true, false, ⟨none, .mv 19 (.t 0), none, 0⟩),
  (true, false, ⟨none, .nck 20 (.t 19), none, 0⟩),
  (true, false, ⟨none, .flA 21 (.t 20) 1, none, 0⟩),
  (true, false, ⟨none, .ld 22 (.t 21) none, none, 0⟩),
  (false, true, ⟨none, .cav 23 (.t 14) [(.t 18), (.t 22)], none, 0⟩),
  (true, false, ⟨none, .mv 11 (.t 23), none, 0⟩),
  (true, false, ⟨none, .ext 24 (.t 11) 0, none, 0⟩),
  (true, false, ⟨none, .ext 25 (.t 11) 1, none, 0⟩),
  (true, false, ⟨none, .ext 26 (.t 11) 2, none, 0⟩),
  (true, false, ⟨none, .mv 5 (.t 24), none, 0⟩),
  (true, false, ⟨none, .nck 27 (.t 12), none, 0⟩),
  (true, false, ⟨none, .flA 28 (.t 27) 1, none, 0⟩),
  (false, true, ⟨none, .st (.t 28) 1 (.t 25), none, 0⟩),
  (true, false, ⟨none, .nck 29 (.t 13), none, 0⟩),
  (true, false, ⟨none, .flA 30 (.t 29) 2, none, 0⟩),
  (false, true, ⟨none, .st (.t 30) 1 (.t 26), none, 0⟩)]
def c97r4 : List SI := [
  ⟨none, .mv 31 (.t 5), none, 0⟩,
  ⟨none, .mv 4 (.t 31), none, 0⟩]
def c97 : SC :=
  (.seq (.reg false c97r0)
  (.seq (.reg false c97r1)
  (.seq (.seq (.reg false c97r2)
  (.cond (.t 10)
   (.rgW c97r3)
   .skip))
  (.seq (.reg false c97r4)
  .ret))))
def v97 : List Nat × List Nat := ([], [])
def o97 : List RS := [.t 4]
theorem s97 : slimC Try.prog Try.f97.ntmps v97.1 v97.2 ((Try.f97.body).getD .skip) = some c97 := by kernel_rfl
theorem q97 : slimR Try.prog Try.f97.ntmps v97.1 v97.2 Try.f97.results.toList = some o97 := by kernel_rfl
-- watermeet/rec.field[bool] N=32
def c98r0 : List SI := [
  ⟨none, .mv 4 (.b false), none, 0⟩]
def c98r1 : List SI := [
  ⟨none, .mv 5 (.b false), none, 0⟩]
def c98r2 : List SI := [
  ⟨none, .mv 6 (.t 0), none, 0⟩,
  ⟨none, .nck 7 (.t 6), none, 0⟩,
  ⟨none, .flA 8 (.t 7) 2, none, 0⟩,
  ⟨none, .ld 9 (.t 8) none, none, 0⟩,
  ⟨none, .bin 10 .eql (.t 9) (.i 0), none, 0⟩]
def c98r3 : List WI := [
  (true, false, ⟨none, .mv 12 (.t 0), none, 0⟩),
  (true, false, ⟨none, .mv 13 (.t 0), none, 0⟩),
  (true, false, ⟨none, .mv 14 (.t 1), none, 0⟩),
  (true, false, ⟨none, .mv 15 (.t 0), none, 0⟩),
  (true, false, ⟨none, .nck 16 (.t 15), none, 0⟩),
  (true, false, ⟨none, .flA 17 (.t 16) 0, none, 0⟩),
  (true, false, ⟨none, .ld 18 (.t 17) none, none, 0⟩),
  (true, false, ⟨none, .mv 19 (.t 0), none, 0⟩),
  (true, false, ⟨none, .nck 20 (.t 19), none, 0⟩),
  (true, false, ⟨none, .flA 21 (.t 20) 1, none, 0⟩),
  (true, false, ⟨none, .ld 22 (.t 21) none, none, 0⟩),
  (false, true, ⟨none, .cav 23 (.t 14) [(.t 18), (.t 22)], none, 0⟩),
  (true, false, ⟨none, .mv 11 (.t 23), none, 0⟩),
  (true, false, ⟨none, .ext 24 (.t 11) 0, none, 0⟩),
  (true, false, ⟨none, .ext 25 (.t 11) 1, none, 0⟩),
  (true, false, ⟨none, .ext 26 (.t 11) 2, none, 0⟩),
  (true, false, ⟨none, .mv 5 (.t 24), none, 0⟩),
  (true, false, ⟨none, .nck 27 (.t 12), none, 0⟩),
  (true, false, ⟨none, .flA 28 (.t 27) 1, none, 0⟩),
  (false, true, ⟨none, .st (.t 28) 1 (.t 25), none, 0⟩),
  (true, false, ⟨none, .nck 29 (.t 13), none, 0⟩),
  (true, false, ⟨none, .flA 30 (.t 29) 2, none, 0⟩),
  (false, true, ⟨none, .st (.t 30) 1 (.t 26), none, 0⟩)]
def c98r4 : List SI := [
  ⟨none, .mv 31 (.t 5), none, 0⟩,
  ⟨none, .mv 4 (.t 31), none, 0⟩]
def c98 : SC :=
  (.seq (.reg false c98r0)
  (.seq (.reg false c98r1)
  (.seq (.seq (.reg false c98r2)
  (.cond (.t 10)
   (.rgW c98r3)
   .skip))
  (.seq (.reg false c98r4)
  .ret))))
def v98 : List Nat × List Nat := ([], [])
def o98 : List RS := [.t 4]
theorem s98 : slimC Try.prog Try.f98.ntmps v98.1 v98.2 ((Try.f98.body).getD .skip) = some c98 := by kernel_rfl
theorem q98 : slimR Try.prog Try.f98.ntmps v98.1 v98.2 Try.f98.results.toList = some o98 := by kernel_rfl
-- watermeet/rec.flag N=25
def c99r0 : List SI := [
  ⟨none, .mv 4 (.b false), none, 0⟩,
  ⟨none, .mv 5 (.i 0), none, 0⟩,
  ⟨none, .mv 6 (.i 0), none, 0⟩]
def c99r1 : List SI := [
  ⟨none, .mv 8 (.t 1), none, 0⟩,
  ⟨none, .mv 9 (.t 0), none, 0⟩,
  ⟨none, .len 10 false (.t 9), none, 0⟩,
  ⟨none, .bin 11 .geq (.t 8) (.t 10), none, 0⟩,
  ⟨none, .mv 7 (.t 11), none, 0⟩]
def c99r2 : List SI := [
  ⟨none, .mv 4 (.b false), none, 0⟩,
  ⟨none, .mv 5 (.i 0), none, 0⟩,
  ⟨none, .mv 6 (.i 10), none, 0⟩]
def c99r3 : List SI := [
  ⟨none, .mv 13 (.t 0), none, 0⟩,
  ⟨none, .mv 14 (.t 1), none, 0⟩,
  ⟨none, .ixA 15 (.t 13) (.t 14) 1, none, 0⟩,
  ⟨none, .ld 16 (.t 15) none, none, 0⟩,
  ⟨none, .bin 17 .gtr (.t 16) (.v (.int .u8 1)), none, 0⟩,
  ⟨none, .mv 12 (.t 17), none, 0⟩]
def c99r4 : List SI := [
  ⟨none, .mv 4 (.b false), none, 0⟩,
  ⟨none, .mv 5 (.i 0), none, 0⟩,
  ⟨none, .mv 6 (.i 11), none, 0⟩]
def c99r5 : List SI := [
  ⟨none, .mv 18 (.t 0), none, 0⟩,
  ⟨none, .mv 19 (.t 1), none, 0⟩,
  ⟨none, .ixA 20 (.t 18) (.t 19) 1, none, 0⟩,
  ⟨none, .ld 21 (.t 20) none, none, 0⟩,
  ⟨none, .bin 22 .eql (.t 21) (.v (.int .u8 1)), none, 0⟩,
  ⟨none, .mv 23 (.t 1), none, 0⟩,
  ⟨none, .bin 24 .add (.t 23) (.i 1), none, 0⟩,
  ⟨none, .mv 4 (.t 22), none, 0⟩,
  ⟨none, .mv 5 (.t 24), none, 0⟩,
  ⟨none, .mv 6 (.i 0), none, 0⟩]
def c99 : SC :=
  (.seq (.reg false c99r0)
  (.seq (.blk 0 (.seq (.reg false c99r1)
   (.cond (.t 7)
    (.seq (.reg false c99r2)
    .ret)
    (.seq (.reg false c99r3)
    (.cond (.t 12)
     (.seq (.reg false c99r4)
     .ret)
     .skip)))))
  (.seq (.reg false c99r5)
  .ret)))
def v99 : List Nat × List Nat := ([], [])
def o99 : List RS := [.t 4, .t 5, .t 6]
theorem s99 : slimC Try.prog Try.f99.ntmps v99.1 v99.2 ((Try.f99.body).getD .skip) = some c99 := by kernel_rfl
theorem q99 : slimR Try.prog Try.f99.ntmps v99.1 v99.2 Try.f99.results.toList = some o99 := by kernel_rfl
-- watermeet/rec.field[string] N=32
def c100r0 : List SI := [
  ⟨none, .mv 4 (.v (.string ⟨#[]⟩)), none, 0⟩]
def c100r1 : List SI := [
  ⟨none, .mv 5 (.v (.string ⟨#[]⟩)), none, 0⟩]
def c100r2 : List SI := [
  ⟨none, .mv 6 (.t 0), none, 0⟩,
  ⟨none, .nck 7 (.t 6), none, 0⟩,
  ⟨none, .flA 8 (.t 7) 2, none, 0⟩,
  ⟨none, .ld 9 (.t 8) none, none, 0⟩,
  ⟨none, .bin 10 .eql (.t 9) (.i 0), none, 0⟩]
def c100r3 : List WI := [
  (true, false, ⟨none, .mv 12 (.t 0), none, 0⟩),
  (true, false, ⟨none, .mv 13 (.t 0), none, 0⟩),
  (true, false, ⟨none, .mv 14 (.t 1), none, 0⟩),
  (true, false, ⟨none, .mv 15 (.t 0), none, 0⟩),
  (true, false, ⟨none, .nck 16 (.t 15), none, 0⟩),
  (true, false, ⟨none, .flA 17 (.t 16) 0, none, 0⟩),
  (true, false, ⟨none, .ld 18 (.t 17) none, none, 0⟩),
  (true, false, ⟨none, .mv 19 (.t 0), none, 0⟩),
  (true, false, ⟨none, .nck 20 (.t 19), none, 0⟩),
  (true, false, ⟨none, .flA 21 (.t 20) 1, none, 0⟩),
  (true, false, ⟨none, .ld 22 (.t 21) none, none, 0⟩),
  (false, true, ⟨none, .cav 23 (.t 14) [(.t 18), (.t 22)], none, 0⟩),
  (true, false, ⟨none, .mv 11 (.t 23), none, 0⟩),
  (true, false, ⟨none, .ext 24 (.t 11) 0, none, 0⟩),
  (true, false, ⟨none, .ext 25 (.t 11) 1, none, 0⟩),
  (true, false, ⟨none, .ext 26 (.t 11) 2, none, 0⟩),
  (true, false, ⟨none, .mv 5 (.t 24), none, 0⟩),
  (true, false, ⟨none, .nck 27 (.t 12), none, 0⟩),
  (true, false, ⟨none, .flA 28 (.t 27) 1, none, 0⟩),
  (false, true, ⟨none, .st (.t 28) 1 (.t 25), none, 0⟩),
  (true, false, ⟨none, .nck 29 (.t 13), none, 0⟩),
  (true, false, ⟨none, .flA 30 (.t 29) 2, none, 0⟩),
  (false, true, ⟨none, .st (.t 30) 1 (.t 26), none, 0⟩)]
def c100r4 : List SI := [
  ⟨none, .mv 31 (.t 5), none, 0⟩,
  ⟨none, .mv 4 (.t 31), none, 0⟩]
def c100 : SC :=
  (.seq (.reg false c100r0)
  (.seq (.reg false c100r1)
  (.seq (.seq (.reg false c100r2)
  (.cond (.t 10)
   (.rgW c100r3)
   .skip))
  (.seq (.reg false c100r4)
  .ret))))
def v100 : List Nat × List Nat := ([], [])
def o100 : List RS := [.t 4]
theorem s100 : slimC Try.prog Try.f100.ntmps v100.1 v100.2 ((Try.f100.body).getD .skip) = some c100 := by kernel_rfl
theorem q100 : slimR Try.prog Try.f100.ntmps v100.1 v100.2 Try.f100.results.toList = some o100 := by kernel_rfl
-- watermeet/watermeetref02.step N=11
def c102r0 : List SI := [
  ⟨none, .mv 2 (.v (.int .u32 0)), none, 0⟩]
def c102r1 : List SI := [
  ⟨none, .mv 3 (.i 0), none, 0⟩]
def c102r2 : List SI := [
  ⟨none, .bin 4 .lss (.t 3) (.i 4), none, 0⟩]
def c102r3 : List SI := [
  ⟨none, .mv 5 (.t 0), none, 0⟩,
  ⟨none, .bin 6 .shr (.t 5) (.v (.int .u64 1)), none, 0⟩,
  ⟨none, .mv 7 (.t 0), none, 0⟩,
  ⟨none, .bin 8 .and (.t 7) (.v (.int .u32 1)), none, 0⟩,
  ⟨none, .un 9 .neg (.t 8), none, 0⟩,
  ⟨none, .bin 10 .and (.v (.int .u32 3988292384)) (.t 9), none, 0⟩,
  ⟨none, .bin 11 .xor (.t 6) (.t 10), none, 0⟩,
  ⟨none, .mv 0 (.t 11), none, 0⟩]
def c102r4 : List SI := [
  ⟨none, .bin 12 .add (.t 3) (.i 1), none, 0⟩,
  ⟨none, .mv 3 (.t 12), none, 0⟩]
def c102r5 : List SI := [
  ⟨none, .mv 13 (.t 0), none, 0⟩,
  ⟨none, .mv 2 (.t 13), none, 0⟩]
def c102 : SC :=
  (.seq (.reg false c102r0)
  (.seq (.seq (.reg false c102r1)
  (.blk 0 (.loop (.seq (.reg false c102r2)
    (.seq (.cond (.t 4)
     .skip
     (.exit 0))
    (.seq (.blk 1 (.reg false c102r3))
    (.reg false c102r4)))))))
  (.seq (.reg false c102r5)
  .ret)))
def v102 : List Nat × List Nat := ([], [])
def o102 : List RS := [.t 2]
theorem s102 : slimC Try.prog Try.f102.ntmps v102.1 v102.2 ((Try.f102.body).getD .skip) = some c102 := by kernel_rfl
theorem q102 : slimR Try.prog Try.f102.ntmps v102.1 v102.2 Try.f102.results.toList = some o102 := by kernel_rfl
-- watermeet/crc.adder$1 N=24
def c103r0 : List SI := [
  ⟨none, .mv 5 (.v (.int .u32 0)), none, 0⟩]
def c103r1 : List SI := [
  ⟨none, .mv 6 (.t 0), none, 0⟩,
  ⟨none, .mv 7 (.t 1), none, 0⟩,
  ⟨none, .cvI 8 .u32 (.t 7), none, 0⟩,
  ⟨none, .bin 9 .xor (.t 6) (.t 8), none, 0⟩,
  ⟨none, .mv 0 (.t 9), none, 0⟩]
def c103r2 : List SI := [
  ⟨none, .mv 10 (.t 0), none, 0⟩,
  ⟨none, .bin 11 .and (.t 10) (.v (.int .u32 15)), none, 0⟩,
  ⟨none, .ixP 12 (.t 2) (.t 11) 16 1, none, 0⟩,
  ⟨none, .ld 13 (.t 12) none, none, 0⟩,
  ⟨none, .mv 14 (.t 0), none, 0⟩,
  ⟨none, .bin 15 .shr (.t 14) (.v (.int .u64 4)), none, 0⟩,
  ⟨none, .bin 16 .xor (.t 13) (.t 15), none, 0⟩,
  ⟨none, .mv 0 (.t 16), none, 0⟩]
def c103r3 : List SI := [
  ⟨none, .mv 17 (.t 0), none, 0⟩,
  ⟨none, .bin 18 .and (.t 17) (.v (.int .u32 15)), none, 0⟩,
  ⟨none, .ixP 19 (.t 2) (.t 18) 16 1, none, 0⟩,
  ⟨none, .ld 20 (.t 19) none, none, 0⟩,
  ⟨none, .mv 21 (.t 0), none, 0⟩,
  ⟨none, .bin 22 .shr (.t 21) (.v (.int .u64 4)), none, 0⟩,
  ⟨none, .bin 23 .xor (.t 20) (.t 22), none, 0⟩,
  ⟨none, .mv 5 (.t 23), none, 0⟩]
def c103 : SC :=
  (.seq (.reg false c103r0)
  (.seq (.reg false c103r1)
  (.seq (.reg false c103r2)
  (.seq (.reg false c103r3)
  .ret))))
def v103 : List Nat × List Nat := ([], [])
def o103 : List RS := [.t 5]
theorem s103 : slimC Try.prog Try.f103.ntmps v103.1 v103.2 ((Try.f103.body).getD .skip) = some c103 := by kernel_rfl
theorem q103 : slimR Try.prog Try.f103.ntmps v103.1 v103.2 Try.f103.results.toList = some o103 := by kernel_rfl
end Go.Proofs.Ytfhheomeebejnaa

/- Bytes, part 1 of a proof: the forms, and copies. No condition. -/
set_option linter.unusedSimpArgs false
set_option linter.unusedVariables false
namespace Go.Proofs.Ytfhheomeebejnaa
open Go Go.Kx
theorem F15 : Fun Try.prog 15 5 v15 c15 o15 := Fun.mk' Try.func15 Try.ntmps15 (by kernel_rfl) (by kernel_rfl) s15 q15
theorem F58 : Fun Try.prog 58 8 v58 c58 o58 := Fun.mk' Try.func58 Try.ntmps58 (by kernel_rfl) (by kernel_rfl) s58 q58

def UE (x : UInt8) (cs : List Value) : Prop := cs = [.int .u8 (x.toNat : Int)]
theorem UE1 : ∀ (x : UInt8) cs, UE x cs → ∀ u ∈ cs, u.oneCell' = true := fun x cs h u hu => by
  rw [h] at hu
  simp at hu
  subst hu
  rfl
abbrev SB (G : Nat → Option Obj) (v : Value) (l : List UInt8) : Prop := SlV G UE 1 v l
/-- Bytes that are handed over. -/
abbrev OwnB (zs : List UInt8) (L' : List Kx.Item) (r : Value) : Prop := OwnL UE 5 1 zs L' r
theorem SB.le {G G' : Nat → Option Obj} {v : Value} {l : List UInt8} (h : SB G v l) (hg : Gle G G') : SB G' v l := SlV.le h hg fun _ _ h => h
def cellB (l : List UInt8) : List Value := l.map fun b => .int .u8 (b.toNat : Int)
theorem cells_b : ∀ (l : List UInt8), Cells UE 1 l (cellB l)
  | [] => .nil
  | b :: l => .cons (cs := [.int .u8 (b.toNat : Int)]) rfl rfl (cells_b l)
theorem byteCells_b (s : ByteArray) : byteCells s = cellB s.data.toList := rfl
/-- One byte more. -/
theorem app8 {P : Program} {h : H} {d : Nat} {l : List SI} {e : Env} {K : Env → H → Prop} {u : Value} {b : Nat} {zs : List UInt8} {zc : List Value} {L1 L2 : List Kx.Item} {x : UInt8} {y : Int} (hL : h.L = .row (.slice (some ⟨b, 0, none⟩) 1 1) 5 1 1 [.int .u8 y] :: L1 ++ .row u 5 1 zs.length zc :: L2) (hy : y = (x.toNat : Int))
    (hc : Cells UE 1 zs zc) (hz : zs.length ≤ 10000000)
    (hk : ∀ A' c' zc', Cells UE 1 (zs ++ [x]) zc' → kR P l d e K (.slice A' (zs ++ [x]).length c') ⟨h.G, .row (.slice (some ⟨b, 0, none⟩) 1 1) 5 1 1 [.int .u8 y] :: L1 ++ .row (.slice A' (zs ++ [x]).length c') 5 1 (zs ++ [x]).length zc' :: L2, h.D⟩) :
    apX P u (.slice (some ⟨b, 0, none⟩) 1 1) 5 1 1 d l e h K := by
  subst hy
  refine ⟨.row (.slice (some ⟨b, 0, none⟩) 1 1) 5 1 1 [.int .u8 (x.toNat : Int)] :: L1, zs.length, zc, L2, 1, [.int .u8 (x.toNat : Int)], .inl hL, srcH_row (h := h) (by rw [hL]; exact .head _) (UE1 x _ rfl) rfl, by unfold maxLen; omega, fun A' c' => ?_⟩
  have := hk A' c' (zc ++ [.int .u8 (x.toNat : Int)]) (hc.app (.one (show UE x [.int .u8 (x.toNat : Int)] from rfl) rfl))
  simp only [List.length_append, List.length_cons, List.length_nil, Nat.zero_add] at this
  exact this
/-- A text put behind bytes. -/
theorem apX_s {P : Program} {h : H} {d : Nat} {l : List SI} {e : Env} {K : Env → H → Prop} {u : Value} {s : ByteArray} {zs : List UInt8} {zc : List Value} {L1 L2 : List Kx.Item} (hr : RowAt h.L u 5 1 L1 zs.length zc L2) (hc : Cells UE 1 zs zc) (hz : zs.length + s.size ≤ 10000000)
    (hk : ∀ A' c' zc', Cells UE 1 (zs ++ s.data.toList) zc' → kR P l d e K (.slice A' (zs ++ s.data.toList).length c') { h with L := L1 ++ .row (.slice A' (zs ++ s.data.toList).length c') 5 1 (zs ++ s.data.toList).length zc' :: L2 }) :
    apX P u (.string s) 5 1 1 d l e h K := by
  refine ⟨L1, zs.length, zc, L2, s.size, cellB s.data.toList, hr, ⟨fun u hu => ?_, ?_, .inr (.inr ⟨s, rfl, rfl, byteCells_b s, rfl⟩)⟩, by unfold maxLen; omega, fun A' c' => ?_⟩
  · simp [cellB] at hu; obtain ⟨_, _, rfl⟩ := hu; rfl
  · simp [cellB]
  · have := hk A' c' (zc ++ cellB s.data.toList) (hc.app (cells_b _))
    rw [List.length_append] at this
    exact this

theorem bin_mul (k : IntKind) (a b : Int) : binV .mul (.int k a) (.int k b) = some (.int k (k.wrap (a * b))) := by simp [binV]
theorem bin_add (k : IntKind) (a b : Int) : binV .add (.int k a) (.int k b) = some (.int k (k.wrap (a + b))) := by simp [binV]
theorem bin_quo (k : IntKind) (a b : Nat) (hb : b ≠ 0) (ha : (a : Int) ≤ k.max) (hk : k.signed = false) : binV .quo (.int k a) (.int k b) = some (.int k ((a / b : Nat) : Int)) := by
  have h1 : ¬ (b : Int) = 0 := by omega
  have h2 : k.wrap (((a / b : Nat) : Int)) = ((a / b : Nat) : Int) := by
    have hq := Nat.div_le_self a b
    generalize a / b = q at hq ⊢
    cases k <;> simp [IntKind.signed] at hk <;> simp [IntKind.max, IntKind.signed, IntKind.bits] at ha <;> simp only [IntKind.wrap, IntKind.signed, IntKind.bits] <;> simp <;> omega
  simp only [binV]
  rw [if_pos trivial, if_neg h1]
  have : (a : Int).tdiv (b : Int) = ((a / b : Nat) : Int) := by rw [Int.tdiv_eq_ediv_of_nonneg (by omega)]; rfl
  rw [this, h2]
theorem bin_rem (k : IntKind) (a b : Nat) (hb : b ≠ 0) : binV .rem (.int k a) (.int k b) = some (.int k ((a % b : Nat) : Int)) := by
  have h1 : ¬ (b : Int) = 0 := by omega
  simp only [binV]
  rw [if_pos trivial, if_neg h1]
  have : (a : Int).tmod (b : Int) = ((a % b : Nat) : Int) := by rw [Int.tmod_eq_emod_of_nonneg (by omega)]; rfl
  rw [this]
/-- What is owned is set down ahead of a call. -/
theorem callsH_gx {P : Program} {f : FuncId} {args : Array Value} {h : H} {M : H → Prop} {R : Value → H → Prop} (hE : Enters P f) (hg : GhostX h M) (hc : ∀ h', M h' → CallsH P f args h' R) : CallsH P f args h R :=
  ⟨hE, fun β w hs => by
    obtain ⟨h1, m, s1, t1, d1, r1⟩ := hg β w hs
    exact ((hc h1 m).2 β w s1).mono fun _ _ ⟨v, h2, a, ⟨b1, b2⟩, c, d, r⟩ => ⟨v, h2, a, ⟨b1.trans d1, r1.trans b2⟩, c, t1.trans d, r⟩⟩
theorem SB.nil {G : Nat → Option Obj} : SB G (.slice none 0 0) [] := ⟨none, 0, rfl, Nat.le_refl _, Nat.zero_le _, fun i x hx => by simp at hx⟩
theorem Copy_ok (l : List UInt8) (v : Value) (G : Nat → Option Obj) (hl : SB G v l) (hb : l.length ≤ 1000000) :
    FnO Try.prog 15 #[v] G [] (fun _ L' r => OwnB l L' r) := by
  refine F15.fnO (by simp) noRegs_nil (go_of ?_)
  unfold c15
  (intros; try refine go_st ?_); refine go_r 0 0 (by decide) ?_; (refine sJ c15r0.eq_1 ?_; try with_reducible exact True.intro)
  (intros; try refine go_st ?_); refine go_r 3 5 (by decide) ?_; (refine sJ c15r1.eq_1 ?_; try with_reducible exact True.intro)
  refine apX_v (.inr ⟨⟨none, rfl⟩, rfl, rfl, rfl, rfl⟩) hl rfl UE1 (by unfold maxLen; omega) fun ys A c hc => ?_
  simp only [Nat.zero_add]
  (refine sI ?_; try with_reducible exact True.intro)
  (intros; try refine go_st ?_)
  refine go_ret (retQ_o _ rfl (List.Sublist.refl _) (noRegs_row noRegs_nil) ?_)
  exact ⟨ys, hc, rfl⟩
theorem Clone_ok (l : List UInt8) (v : Value) (G : Nat → Option Obj) (hl : SB G v l) (hb : l.length ≤ 1000000) :
    FnO Try.prog 58 #[v] G [] (fun _ L' r => OwnB l L' r) := by
  refine F58.fnO (by simp) noRegs_nil (go_of ?_)
  have hl0 := hl
  obtain ⟨A, c, rfl, hc, hm, hA⟩ := hl
  unfold c58
  (intros; try refine go_st ?_); refine go_r 0 0 (by decide) ?_; (refine sJ c58r0.eq_1 ?_; try with_reducible exact True.intro)
  (intros; try refine go_st ?_); refine go_r 3 4 (by decide) ?_; (refine sJ c58r1.eq_1 ?_; try with_reducible exact True.intro)
  (intros; try refine go_st ?_); refine go_c ?_; (refine sI ?_; try with_reducible exact True.intro)
  refine gb (fun ht => ?_) (fun ht => ?_)
  · (intros; try refine go_st ?_); refine go_r 0 0 (by decide) ?_; (refine sJ c58r2.eq_1 ?_; try with_reducible exact True.intro)
    (intros; try refine go_st ?_)
    have hA0 : l = [] := by
      match l, hA with
      | [], _ => rfl
      | x :: xs, hA => obtain ⟨a, _, ha, _⟩ := hA 0 x rfl; subst ha; cases ht
    subst hA0
    refine go_ghost (ghost_nil none 5 1) ?_
    refine go_ret (retQ_o _ rfl (List.Sublist.refl _) (noRegs_row noRegs_nil) ?_)
    exact ⟨[], .nil, rfl⟩
  · (intros; try refine go_st ?_); refine go_r 5 8 (by decide) ?_; (refine sJ c58r3.eq_1 ?_; try with_reducible exact True.intro)
    intro b hb'
    refine apX_v (.inr ⟨⟨_, rfl⟩, rfl, rfl, rfl, rfl⟩) hl0 rfl UE1 (by unfold maxLen; omega) fun ys A c hc => ?_
    simp only [Nat.zero_add]
    (refine sI ?_; try with_reducible exact True.intro)
    (intros; try refine go_st ?_)
    refine go_ret (retQ_o _ rfl (List.Sublist.refl _) (noRegs_row noRegs_nil) ?_)
    exact ⟨ys, hc, rfl⟩
end Go.Proofs.Ytfhheomeebejnaa

/- Bytes, part 2 of a proof: numbers as short as they go. No condition. -/
set_option linter.unusedSimpArgs false
set_option linter.unusedVariables false
namespace Go.Proofs.Ytfhheomeebejnaa
open Go Go.Kx
theorem F61 : Fun Try.prog 61 31 v61 c61 o61 := Fun.mk' Try.func61 Try.ntmps61 (by kernel_rfl) (by kernel_rfl) s61 q61
theorem F66 : Fun Try.prog 66 36 v66 c66 o66 := Fun.mk' Try.func66 Try.ntmps66 (by kernel_rfl) (by kernel_rfl) s66 q66

def zig (n : Int) : Nat := if 0 ≤ n then (2 * n).toNat else (-2 * n - 1).toNat
def vnat : Nat → Nat → List UInt8
  | 0, z => [UInt8.ofNat z]
  | f + 1, z => if z < 128 then [UInt8.ofNat z] else UInt8.ofNat (128 + z % 128) :: vnat f (z / 128)
/-- A number's bytes. -/
def pvB (n : Int) : List UInt8 := vnat 9 (zig n)
theorem vnat_len : ∀ f z, (vnat f z).length ≤ f + 1 ∧ 1 ≤ (vnat f z).length
  | 0, z => by simp [vnat]
  | f + 1, z => by
    unfold vnat
    split
    · simp
    · have := vnat_len f (z / 128)
      simp
      omega
theorem pvB_len (n : Int) : (pvB n).length ≤ 10 := (vnat_len 9 _).1
theorem zig_lt {n : Int} (h : I64 n) : zig n < 18446744073709551616 := by
  unfold zig I64 at *
  split <;> omega
theorem vnat_lt {f z : Nat} (h : z < 128) : vnat f z = [UInt8.ofNat z] := by
  cases f with
  | zero => rfl
  | succ f => exact if_pos h
/-- Out of what was put, and what is left. -/
def Puts (p : List UInt8) (z0 : Nat) (zs : List UInt8) (z : Nat) : Prop := ∃ f, f ≤ 9 ∧ zs.length + f = p.length + 9 ∧ z < 2 * 128 ^ f ∧ zs ++ vnat f z = p ++ vnat 9 z0
theorem puts_zero (p : List UInt8) {z0 : Nat} (h : z0 < 18446744073709551616) : Puts p z0 p z0 := ⟨9, Nat.le_refl _, rfl, by omega, rfl⟩
theorem puts_end {p zs : List UInt8} {z0 z : Nat} (h : Puts p z0 zs z) (hz : z < 128) : zs ++ [UInt8.ofNat z] = p ++ vnat 9 z0 := by
  obtain ⟨f, _, _, _, h⟩ := h
  rw [← h, vnat_lt hz]
theorem puts_more {p zs : List UInt8} {z0 z : Nat} (h : Puts p z0 zs z) (hz : ¬ z < 128) : Puts p z0 (zs ++ [UInt8.ofNat (128 + z % 128)]) (z / 128) := by
  obtain ⟨f, h1, h2, h3, h4⟩ := h
  cases f with
  | zero => simp at h3; omega
  | succ f =>
    refine ⟨f, by omega, by simp; omega, by rw [Nat.pow_succ] at h3; omega, ?_⟩
    rw [← h4, vnat, if_neg hz]
    simp
theorem puts_len {p zs : List UInt8} {z0 z : Nat} (h : Puts p z0 zs z) : zs.length ≤ p.length + 9 := by
  obtain ⟨f, h1, h2, _⟩ := h
  omega
theorem or_128 (z : Nat) : binV .or (.int .u8 (IntKind.u8.wrap (z : Int))) (.int .u8 128) = some (.int .u8 ((UInt8.ofNat (128 + z % 128)).toNat : Int)) := by
  have key : ∀ b : Fin 256, (BitVec.ofInt 8 ((b.val : Nat) : Int) ||| BitVec.ofInt 8 128).toNat = 128 + b.val % 128 := by decide +kernel
  have h1 : IntKind.u8.wrap (z : Int) = ((z % 256 : Nat) : Int) := by rw [IntKind.wrap_u8]; omega
  have h2 := key ⟨z % 256, Nat.mod_lt _ (by omega)⟩
  rw [h1]
  simp only [binV]
  rw [if_pos trivial]
  have h3 : (BitVec.ofInt IntKind.u8.bits ((z % 256 : Nat) : Int) ||| BitVec.ofInt IntKind.u8.bits 128).toNat = 128 + z % 128 := by
    refine h2.trans ?_
    dsimp only
    omega
  rw [h3]
  simp [IntKind.wrap_u8]
theorem u8_nat (z : Nat) : IntKind.u8.wrap (z : Int) = ((UInt8.ofNat z).toNat : Int) := by
  rw [IntKind.wrap_u8]
  simp
theorem shr_7 (z : Nat) : binV .shr (.int .u64 (z : Int)) (.int .u64 7) = some (.int .u64 ((z / 128 : Nat) : Int)) := by
  simp [binV, IntKind.bits]
  rw [Int.fdiv_eq_ediv_of_nonneg _ (by omega)]
theorem shl_1 (n : Int) : binV .shl (.int .u64 (IntKind.u64.wrap n)) (.int .u64 1) = some (.int .u64 (IntKind.u64.wrap (IntKind.u64.wrap n * 2))) := by
  simp [binV, IntKind.bits]
def sgn (n : Int) : Int := if 0 ≤ n then 0 else -1
theorem shr_63 {n : Int} (h : I64 n) : binV .shr (.int .i64 n) (.int .u64 63) = some (.int .i64 (sgn n)) := by
  have h1 : n.fdiv 9223372036854775808 = sgn n := by
    rw [Int.fdiv_eq_ediv_of_nonneg _ (by omega)]
    unfold sgn I64 at *
    split <;> omega
  simp [binV, IntKind.bits, h1]
theorem xor_zig {n : Int} (h : I64 n) : binV .xor (.int .u64 (IntKind.u64.wrap (IntKind.u64.wrap n * 2))) (.int .u64 (IntKind.u64.wrap (sgn n))) = some (.int .u64 (zig n : Int)) := by
  have hz := zig_lt h
  have key : (BitVec.ofInt 64 (IntKind.u64.wrap (IntKind.u64.wrap n * 2)) ^^^ BitVec.ofInt 64 (IntKind.u64.wrap (sgn n))).toNat = zig n := by
    unfold I64 at h
    by_cases h0 : 0 ≤ n
    · have e1 : IntKind.u64.wrap (IntKind.u64.wrap n * 2) = 2 * n := by rw [IntKind.wrap_u64, IntKind.wrap_u64]; omega
      have e2 : IntKind.u64.wrap (sgn n) = 0 := by rw [sgn, if_pos h0]; rfl
      rw [e1, e2]
      have : BitVec.ofInt 64 0 = 0#64 := rfl
      rw [this, BitVec.xor_zero, BitVec.toNat_ofInt]
      simp [zig, h0]
      omega
    · have e1 : IntKind.u64.wrap (IntKind.u64.wrap n * 2) = (2 * n) % 18446744073709551616 := by rw [IntKind.wrap_u64, IntKind.wrap_u64]; omega
      have e2 : IntKind.u64.wrap (sgn n) = 18446744073709551615 := by rw [sgn, if_neg h0]; rfl
      rw [e1, e2]
      have : BitVec.ofInt 64 18446744073709551615 = BitVec.allOnes 64 := by decide
      rw [this, BitVec.xor_allOnes, BitVec.toNat_not, BitVec.toNat_ofInt]
      simp [zig, h0]
      omega
  simp only [binV]
  rw [if_pos trivial]
  have e3 : (BitVec.ofInt IntKind.u64.bits (IntKind.u64.wrap (IntKind.u64.wrap n * 2)) ^^^ BitVec.ofInt IntKind.u64.bits (IntKind.u64.wrap (sgn n))).toNat = zig n := key
  rw [e3, IntKind.wrap_u64]
  congr 2
  omega
theorem PutVar_ok (l : List UInt8) (n : Int) (hn : I64 n) (v : Value) (G : Nat → Option Obj) (hl : SB G v l) (hb : l.length ≤ 100000) :
    FnO Try.prog 61 #[v, .int .i64 n] G [] (fun _ L' r => OwnB (l ++ pvB n) L' r) := by
  refine F61.fnO (by simp) noRegs_nil (go_of ?_)
  have hl0 := hl
  obtain ⟨A, c, rfl, hc, hm, hA⟩ := hl
  unfold c61
  (intros; try refine go_st ?_); refine go_r 0 0 (by decide) ?_; (refine sJ c61r0.eq_1 ?_; try with_reducible exact True.intro)
  (intros; try refine go_st ?_); refine go_r 7 14 (by decide) ?_; (refine sJ4 c61r1.eq_1 @shl_1 (shr_63 hn) (xor_zig hn) ?_; try with_reducible exact True.intro)
  (intros; try refine go_st ?_); refine go_r 14 16 (by decide) ?_; (refine sJ c61r2.eq_1 ?_; try with_reducible exact True.intro)
  refine (Clone_ok l _ G hl0 (by omega) _ []).mono ?_
  rintro r h' ⟨G1, L', rfl, hg1, ys, hys, rfl⟩
  (refine sI ?_; try with_reducible exact True.intro)
  (intros; try refine go_st ?_)
  refine go_loop (fun e h => ∃ (z : Nat) (zs : List UInt8) (zc : List Value) (u : Value), (Puts l (zig n) zs z ∧ Cells UE 1 zs zc) ∧ e 5 = .int .u64 (z : Int) ∧ e 6 = u ∧ h.G = G1 ∧ h.D = [] ∧ [Item.row u 5 1 zs.length zc].Sublist h.L) (fun e h => iv (e 5)) ?_ ?_
  · exact ⟨zig n, l, ys, _, ⟨puts_zero l (zig_lt hn), hys⟩, eE, eE, rfl, rfl, List.Sublist.refl _⟩
  · rintro e ⟨G', L, D⟩ ⟨z, zs, zc, u, ⟨hp, hcs⟩, e5, e6, hG, hD, hL⟩
    dsimp only at hG hD hL
    subst hG hD
    refine go_ghost (ghost_sub hL) ?_
    refine go_keep [5, 6] ?_
    (refine sJ2 @e5 @e6 ?_; try with_reducible exact True.intro)
    have hlen := puts_len hp
    (intros; try refine go_st ?_); refine go_r 16 17 (by decide) ?_; (refine sJ c61r3.eq_1 ?_; try with_reducible exact True.intro)
    (intros; try refine go_st ?_); refine go_c ?_; (refine sI ?_; try with_reducible exact True.intro)
    refine gb (fun ht => ?_) (fun ht => ?_)
    · have hz : ¬ z < 128 := by simp at ht; omega
      (intros; try refine go_st ?_); refine go_r 20 26 (by decide) ?_; (refine sJ2 c61r4.eq_1 @or_128 ?_; try with_reducible exact True.intro)
      intro bk hbk
      refine app8 (L1 := []) (L2 := []) rfl rfl hcs (by omega) fun A' c' zc' hzc => ?_
      (refine sI ?_; try with_reducible exact True.intro)
      (intros; try refine go_st ?_); refine go_r 18 20 (by decide) ?_; (refine sJ2 c61r5.eq_1 @shr_7 ?_; try with_reducible exact True.intro)
      (intros; try refine go_st ?_)
      refine go_l ⟨⟨z / 128, _, zc', _, ⟨puts_more hp hz, hzc⟩, eE, eE, rfl, rfl, .cons _ (List.Sublist.refl _)⟩, ?_⟩
      (refine sI ?_; try with_reducible exact True.intro)
      simp [iv]
      omega
    · have hz : z < 128 := by simp at ht; omega
      refine go_exit ?_
      (refine sI ?_; try with_reducible exact True.intro)
      (intros; try refine go_st ?_); refine go_r 26 31 (by decide) ?_; (refine sJ2 c61r6.eq_1 @u8_nat ?_; try with_reducible exact True.intro)
      intro bk hbk
      refine app8 (L1 := []) (L2 := []) rfl rfl hcs (by omega) fun A' c' zc' hzc => ?_
      (refine sI ?_; try with_reducible exact True.intro)
      (intros; try refine go_st ?_)
      rw [puts_end hp hz] at hzc ⊢
      refine go_ret (retQ_o _ rfl (.cons _ (List.Sublist.refl _)) (noRegs_row noRegs_nil) ?_)
      exact ⟨zc', hzc, rfl⟩
theorem RPutVar_ok (l : List UInt8) (n : Int) (hn : I64 n) (v : Value) (G : Nat → Option Obj) (hl : SB G v l) (hb : l.length ≤ 100000) :
    FnO Try.prog 66 #[v, .int .i64 n] G [] (fun _ L' r => OwnB (l ++ pvB n) L' r) := by
  refine F66.fnO (by simp) noRegs_nil (go_of ?_)
  have hl0 := hl
  have hn0 := hn
  unfold I64 at hn
  obtain ⟨A, c, rfl, hc, hm, hA⟩ := hl
  unfold c66
  (intros; try refine go_st ?_); refine go_r 0 0 (by decide) ?_; (refine sJ c66r0.eq_1 ?_; try with_reducible exact True.intro)
  (intros; try refine go_st ?_); refine go_r 7 10 (by decide) ?_; (refine sJ2 c66r1.eq_1 @bin_mul ?_; try with_reducible exact True.intro)
  have hrest : ∀ (e : Env), e 0 = .slice A l.length c → e 5 = .int .u64 (zig n : Int) → go none Try.prog 36 v66.1 v66.2 (retQ o66 fun v h => OwnB (l ++ pvB n) h.L v) [Td.s ((SC.reg false c66r4).seq ((SC.blk 0 (((SC.reg false c66r5).seq (SC.cond (O.t 21) SC.skip (SC.exit 0))).seq (SC.blk 1 ((SC.reg false c66r6).seq (SC.reg false c66r7)))).loop).seq ((SC.reg false c66r8).seq SC.ret)))] e ⟨G, [], []⟩ := fun e e0 e5 => by
    refine go_keep [0, 5] ?_
    (refine sJ2 @e0 @e5 ?_; try with_reducible exact True.intro)
    (intros; try refine go_st ?_); refine go_r 18 20 (by decide) ?_; (refine sJ c66r4.eq_1 ?_; try with_reducible exact True.intro)
    refine (Copy_ok l _ G hl0 (by omega) _ []).mono ?_
    rintro r h' ⟨G1, L', rfl, hg1, ys, hys, rfl⟩
    (refine sI ?_; try with_reducible exact True.intro)
    (intros; try refine go_st ?_)
    refine go_loop (fun e h => ∃ (z : Nat) (zs : List UInt8) (zc : List Value) (u : Value), (Puts l (zig n) zs z ∧ Cells UE 1 zs zc ∧ z < 18446744073709551616) ∧ e 5 = .int .u64 (z : Int) ∧ e 6 = u ∧ h.G = G1 ∧ h.D = [] ∧ [Item.row u 5 1 zs.length zc].Sublist h.L) (fun e h => iv (e 5)) ?_ ?_
    · exact ⟨zig n, l, ys, _, ⟨puts_zero l (zig_lt hn0), hys, zig_lt hn0⟩, eE, eE, rfl, rfl, List.Sublist.refl _⟩
    · rintro e ⟨G', L, D⟩ ⟨z, zs, zc, u, ⟨hp, hcs, hzb⟩, e5, e6, hG, hD, hL⟩
      dsimp only at hG hD hL
      subst hG hD
      refine go_ghost (ghost_sub hL) ?_
      refine go_keep [5, 6] ?_
      (refine sJ2 @e5 @e6 ?_; try with_reducible exact True.intro)
      have hlen := puts_len hp
      (intros; try refine go_st ?_); refine go_r 20 21 (by decide) ?_; (refine sJ c66r5.eq_1 ?_; try with_reducible exact True.intro)
      (intros; try refine go_st ?_); refine go_c ?_; (refine sI ?_; try with_reducible exact True.intro)
      refine gb (fun ht => ?_) (fun ht => ?_)
      · have hz : ¬ z < 128 := by simp at ht; omega
        have hpm := puts_more hp hz
        have hdz : z / 128 < z := by omega
        have hq : binV .quo (.int .u64 (z : Int)) (.int .u64 128) = some (.int .u64 ((z / 128 : Nat) : Int)) := bin_quo .u64 z 128 (by decide) (by simp [IntKind.max, IntKind.signed, IntKind.bits]; omega) rfl
        generalize z / 128 = q at hq hpm hdz
        have hr : binV .rem (.int .u64 (z : Int)) (.int .u64 128) = some (.int .u64 ((z : Int) % 128)) := bin_rem .u64 z 128 (by decide)
        have hw : IntKind.u8.wrap (IntKind.u64.wrap (128 + (z : Int) % 128)) = ((UInt8.ofNat (128 + z % 128)).toNat : Int) := by
          rw [← u8_nat, IntKind.wrap_u64]
          congr 1
          omega
        (intros; try refine go_st ?_); refine go_r 22 29 (by decide) ?_; (refine sJ3 c66r6.eq_1 @hr @bin_add ?_; try with_reducible exact True.intro)
        intro bk hbk
        refine app8 (L1 := []) (L2 := []) rfl hw hcs (by omega) fun A' c' zc' hzc => ?_
        (refine sI ?_; try with_reducible exact True.intro)
        (intros; try refine go_st ?_); refine go_r 29 31 (by decide) ?_; (refine sJ2 c66r7.eq_1 @hq ?_; try with_reducible exact True.intro)
        (intros; try refine go_st ?_)
        refine go_l ⟨⟨q, _, zc', _, ⟨hpm, hzc, by omega⟩, eE, eE, rfl, rfl, .cons _ (List.Sublist.refl _)⟩, ?_⟩
        (refine sI ?_; try with_reducible exact True.intro)
        omega
      · have hz : z < 128 := by simp at ht; omega
        refine go_exit ?_
        (refine sI ?_; try with_reducible exact True.intro)
        (intros; try refine go_st ?_); refine go_r 31 36 (by decide) ?_; (refine sJ2 c66r8.eq_1 @u8_nat ?_; try with_reducible exact True.intro)
        intro bk hbk
        refine app8 (L1 := []) (L2 := []) rfl rfl hcs (by omega) fun A' c' zc' hzc => ?_
        (refine sI ?_; try with_reducible exact True.intro)
        (intros; try refine go_st ?_)
        rw [puts_end hp hz] at hzc ⊢
        refine go_ret (retQ_o _ rfl (.cons _ (List.Sublist.refl _)) (noRegs_row noRegs_nil) ?_)
        exact ⟨zc', hzc, rfl⟩
  (intros; try refine go_st ?_); refine go_r 10 11 (by decide) ?_; (refine sJ c66r2.eq_1 ?_; try with_reducible exact True.intro)
  (intros; try refine go_st ?_); refine go_c ?_; (refine sI ?_; try with_reducible exact True.intro)
  refine gb (fun ht => ?_) (fun ht => ?_)
  · have hz : IntKind.u64.wrap (IntKind.u64.wrap (2 * IntKind.u64.wrap (IntKind.i64.wrap (0 - IntKind.i64.wrap (n + 1)))) + 1) = (zig n : Int) := by
      have h0 : n < 0 := by simpa using ht
      have e1 : IntKind.i64.wrap (n + 1) = n + 1 := by rw [w64_id] <;> omega
      have e2 : IntKind.i64.wrap (0 - (n + 1)) = 0 - (n + 1) := by rw [w64_id] <;> omega
      rw [e1, e2]
      simp only [IntKind.wrap_u64, zig, if_neg (show ¬ 0 ≤ n by omega)]
      omega
    (intros; try refine go_st ?_); refine go_r 12 18 (by decide) ?_; (refine sJ4 c66r3.eq_1 @bin_mul @bin_add @hz ?_; try with_reducible exact True.intro)
    intro _
    (repeat first | refine go_skip ?_ | refine go_b ?_)
    refine hrest _ ?_ ?_ <;> (refine sI ?_; try with_reducible exact True.intro)
  · have hz : IntKind.u64.wrap (2 * IntKind.u64.wrap n) = (zig n : Int) := by
      have h0 : ¬ n < 0 := by simpa using ht
      simp only [IntKind.wrap_u64, zig, if_pos (show 0 ≤ n by omega)]
      omega
    (repeat first | refine go_skip ?_ | refine go_b ?_)
    refine hrest _ ?_ ?_ <;> (refine sJ @hz ?_; try with_reducible exact True.intro)
end Go.Proofs.Ytfhheomeebejnaa

/- Bytes, part 3 of a proof: texts, and records that may be. No condition. -/
set_option linter.unusedSimpArgs false
set_option linter.unusedVariables false
namespace Go.Proofs.Ytfhheomeebejnaa
open Go Go.Kx
theorem F79 : Fun Try.prog 79 9 v79 c79 o79 := Fun.mk' Try.func79 Try.ntmps79 (by kernel_rfl) (by kernel_rfl) s79 q79
theorem F84 : Fun Try.prog 84 9 v84 c84 o84 := Fun.mk' Try.func84 Try.ntmps84 (by kernel_rfl) (by kernel_rfl) s84 q84
theorem F80 : Fun Try.prog 80 11 v80 c80 o80 := Fun.mk' Try.func80 Try.ntmps80 (by kernel_rfl) (by kernel_rfl) s80 q80
theorem F85 : Fun Try.prog 85 11 v85 c85 o85 := Fun.mk' Try.func85 Try.ntmps85 (by kernel_rfl) (by kernel_rfl) s85 q85
theorem F60 : Fun Try.prog 60 33 v60 c60 o60 := Fun.mk' Try.func60 Try.ntmps60 (by kernel_rfl) (by kernel_rfl) s60 q60
theorem F83 : Fun Try.prog 83 39 v83 c83 o83 := Fun.mk' Try.func83 Try.ntmps83 (by kernel_rfl) (by kernel_rfl) s83 q83

def inO (n : Int) : Bool := decide (0 ≤ n) && decide (n ≤ 1099511627776)
theorem in_ok (n : Int) (G : Nat → Option Obj) : FnS Try.prog 79 #[.int .i64 n] G (.bool (inO n)) := by
  refine F79.fnS (by simp) (go_of ?_)
  unfold c79
  (intros; try refine go_st ?_); refine go_r 0 0 (by decide) ?_; (refine sJ c79r0.eq_1 ?_; try with_reducible exact True.intro)
  (intros; try refine go_st ?_); refine go_r 3 9 (by decide) ?_; (refine sJ c79r1.eq_1 ?_; try with_reducible exact True.intro)
  refine gd (fun h1 => ?_) (fun h1 => ?_)
  · (refine sI ?_; try with_reducible exact True.intro)
    (intros; try refine go_st ?_)
    refine go_ret (retQ_v rfl ?_); simp only [push_cast, Nat.reduceBEq]
    have : 0 ≤ n := by simpa using h1
    simp [inO, this]
  · (refine sI ?_; try with_reducible exact True.intro)
    (intros; try refine go_st ?_)
    refine go_ret (retQ_v rfl ?_); simp only [push_cast, Nat.reduceBEq]
    have : ¬ 0 ≤ n := by simpa using h1
    simp [inO, this]
theorem In_ok (n : Int) (G : Nat → Option Obj) : FnS Try.prog 84 #[.int .i64 n] G (.bool (inO n)) := by
  refine F84.fnS (by simp) (go_of ?_)
  unfold c84
  (intros; try refine go_st ?_); refine go_r 0 0 (by decide) ?_; (refine sJ c84r0.eq_1 ?_; try with_reducible exact True.intro)
  (intros; try refine go_st ?_); refine go_r 3 9 (by decide) ?_; (refine sJ c84r1.eq_1 ?_; try with_reducible exact True.intro)
  refine gd (fun h1 => ?_) (fun h1 => ?_)
  · (refine sI ?_; try with_reducible exact True.intro)
    (intros; try refine go_st ?_)
    refine go_ret (retQ_v rfl ?_); simp only [push_cast, Nat.reduceBEq]
    have : 0 ≤ n := by simpa using h1
    simp [inO, this]
  · (refine sI ?_; try with_reducible exact True.intro)
    (intros; try refine go_st ?_)
    refine go_ret (retQ_v rfl ?_); simp only [push_cast, Nat.reduceBEq]
    have : ¬ 0 ≤ n := by simpa using h1
    simp [inO, this]
/-- A text's bytes. -/
def ptB (s : ByteArray) : List UInt8 := pvB s.size ++ s.data.toList
theorem ptB_len (s : ByteArray) : (ptB s).length ≤ 10 + s.size := by
  have := pvB_len s.size
  simp [ptB]
  omega
theorem PutText_ok (l : List UInt8) (s : ByteArray) (v : Value) (G : Nat → Option Obj) (hl : SB G v l) (hb : l.length ≤ 100000) (hs : s.size ≤ 100000) :
    FnO Try.prog 80 #[v, .string s] G [] (fun _ L' r => OwnB (l ++ ptB s) L' r) := by
  refine F80.fnO (by simp) noRegs_nil (go_of ?_)
  unfold c80
  (intros; try refine go_st ?_); refine go_r 0 0 (by decide) ?_; (refine sJ c80r0.eq_1 ?_; try with_reducible exact True.intro)
  (intros; try refine go_st ?_); refine go_r 5 11 (by decide) ?_; (refine sJ c80r1.eq_1 ?_; try with_reducible exact True.intro)
  refine (PutVar_ok l s.size (by unfold I64; omega) v G hl hb _ []).mono ?_
  rintro r h' ⟨G1, L', rfl, hg1, ys, hys, rfl⟩
  (refine sI ?_; try with_reducible exact True.intro)
  have hpl := pvB_len s.size
  refine apX_s (L1 := []) (.inl rfl) hys (by rw [List.length_append]; omega) fun A' c' zc' hzc => ?_
  (refine sI ?_; try with_reducible exact True.intro)
  (intros; try refine go_st ?_)
  refine go_ret (retQ_o _ rfl (List.Sublist.refl _) (noRegs_row noRegs_nil) ?_)
  rw [List.append_assoc] at hzc ⊢
  exact ⟨zc', hzc, rfl⟩
theorem RPutText_ok (l : List UInt8) (s : ByteArray) (v : Value) (G : Nat → Option Obj) (hl : SB G v l) (hb : l.length ≤ 100000) (hs : s.size ≤ 100000) :
    FnO Try.prog 85 #[v, .string s] G [] (fun _ L' r => OwnB (l ++ ptB s) L' r) := by
  refine F85.fnO (by simp) noRegs_nil (go_of ?_)
  unfold c85
  (intros; try refine go_st ?_); refine go_r 0 0 (by decide) ?_; (refine sJ c85r0.eq_1 ?_; try with_reducible exact True.intro)
  (intros; try refine go_st ?_); refine go_r 5 11 (by decide) ?_; (refine sJ c85r1.eq_1 ?_; try with_reducible exact True.intro)
  refine (RPutVar_ok l s.size (by unfold I64; omega) v G hl hb _ []).mono ?_
  rintro r h' ⟨G1, L', rfl, hg1, ys, hys, rfl⟩
  (refine sI ?_; try with_reducible exact True.intro)
  have hpl := pvB_len s.size
  refine apX_s (L1 := []) (.inl rfl) hys (by rw [List.length_append]; omega) fun A' c' zc' hzc => ?_
  (refine sI ?_; try with_reducible exact True.intro)
  (intros; try refine go_st ?_)
  refine go_ret (retQ_o _ rfl (List.Sublist.refl _) (noRegs_row noRegs_nil) ?_)
  rw [List.append_assoc] at hzc ⊢
  exact ⟨zc', hzc, rfl⟩

structure Rec where
  off : Int
  key : ByteArray
  val : ByteArray
  dead : Bool
  stamp : Int
def cellR (x : Rec) : List Value := [.int .i64 x.off, .string x.key, .string x.val, .bool x.dead, .int .i64 x.stamp]
def RR (x : Rec) (cs : List Value) : Prop := cs = cellR x ∧ (I64 x.off ∧ I64 x.stamp) ∧ x.key.size ≤ maxLen ∧ x.val.size ≤ maxLen
def isE (s : ByteArray) : Bool := s.toList == ByteArray.toList ⟨#[]⟩
def chkR (x : Rec) : Int := if inO x.off = true ∧ inO x.stamp = true ∧ x.key.size ≤ 64 ∧ x.val.size ≤ 64 ∧ ¬ (x.dead = true ∧ (isE x.key = true ∨ isE x.val = false)) then 0 else 1
theorem bin_seq (a : ByteArray) : binV .eql (.string a) (.string ⟨#[]⟩) = some (.bool (isE a)) := rfl
theorem bin_sne (a : ByteArray) : binV .neq (.string a) (.string ⟨#[]⟩) = some (.bool (!isE a)) := rfl

theorem chkR_1 {x : Rec} (h : inO x.off = false ∨ inO x.stamp = false ∨ 64 < x.key.size ∨ 64 < x.val.size ∨ (x.dead = true ∧ (isE x.key = true ∨ isE x.val = false))) : chkR x = 1 := by
  refine if_neg fun ⟨h1, h2, h3, h4, h5⟩ => ?_
  rcases h with h | h | h | h | h
  · rw [h1] at h; cases h
  · rw [h2] at h; cases h
  · omega
  · omega
  · exact h5 h
theorem RCheck_ok (x : Rec) (G : Nat → Option Obj) : FnS Try.prog 83 #[.agg (cellR x).toArray] G (.int .i64 (chkR x)) := by
  refine F83.fnS (by simp) (go_of ?_)
  unfold c83 cellR
  (intros; try refine go_st ?_); refine go_r 0 0 (by decide) ?_; (refine sJ c83r0.eq_1 ?_; try with_reducible exact True.intro)
  have hbad : ∀ (fr : List Td) (e : Env) (L : List Kx.Item), chkR x = 1 → go none Try.prog 39 v83.1 v83.2 (retQ o83 fun v h => v = .int .i64 (chkR x)) (Td.s ((SC.reg false c83r2).seq .ret) :: fr) e ⟨G, L, []⟩ := fun fr e L hx => by
    (intros; try refine go_st ?_); refine go_r 0 0 (by decide) ?_; (refine sJ c83r2.eq_1 ?_; try with_reducible exact True.intro)
    (intros; try refine go_st ?_)
    refine go_ret (retQ_v rfl ?_); simp only [push_cast, Nat.reduceBEq]
    rw [hx]
  have hgood : ∀ (e : Env) (L : List Kx.Item), chkR x = 0 → go none Try.prog 39 v83.1 v83.2 (retQ o83 fun v h => v = .int .i64 (chkR x)) [Td.s ((SC.reg false c83r3).seq .ret)] e ⟨G, L, []⟩ := fun e L hx => by
    (intros; try refine go_st ?_); refine go_r 0 0 (by decide) ?_; (refine sJ c83r3.eq_1 ?_; try with_reducible exact True.intro)
    (intros; try refine go_st ?_)
    refine go_ret (retQ_v rfl ?_); simp only [push_cast, Nat.reduceBEq]
    rw [hx]
  (intros; try refine go_st ?_); refine go_r 4 38 (by decide) ?_; (refine sJ c83r1.eq_1 ?_; try with_reducible exact True.intro)
  refine (In_ok x.off G _ _).mono ?_; rintro _ _ ⟨rfl, rfl⟩; (refine sI ?_; try with_reducible exact True.intro)
  refine gd (fun h1 => ?_) (fun h1 => ?_)
  · (refine sI ?_; try with_reducible exact True.intro)
    (intros; try refine go_st ?_); refine go_c ?_; (refine sI ?_; try with_reducible exact True.intro)
    exact hbad _ _ _ (chkR_1 (.inl (by simpa using h1)))
  (refine sI ?_; try with_reducible exact True.intro)
  refine (In_ok x.stamp G _ _).mono ?_; rintro _ _ ⟨rfl, rfl⟩; (refine sI ?_; try with_reducible exact True.intro)
  refine gd (fun h2 => ?_) (fun h2 => ?_)
  · (refine sI ?_; try with_reducible exact True.intro)
    (intros; try refine go_st ?_); refine go_c ?_; (refine sI ?_; try with_reducible exact True.intro)
    exact hbad _ _ _ (chkR_1 (.inr (.inl (by simpa using h2))))
  (refine sI ?_; try with_reducible exact True.intro)
  refine gd (fun h3 => ?_) (fun h3 => ?_)
  · (refine sI ?_; try with_reducible exact True.intro)
    (intros; try refine go_st ?_); refine go_c ?_; (refine sI ?_; try with_reducible exact True.intro)
    exact hbad _ _ _ (chkR_1 (.inr (.inr (.inl (by simp at h3; omega)))))
  (refine sI ?_; try with_reducible exact True.intro)
  refine gd (fun h4 => ?_) (fun h4 => ?_)
  · (refine sI ?_; try with_reducible exact True.intro)
    (intros; try refine go_st ?_); refine go_c ?_; (refine sI ?_; try with_reducible exact True.intro)
    exact hbad _ _ _ (chkR_1 (.inr (.inr (.inr (.inl (by simp at h4; omega))))))
  (refine sI ?_; try with_reducible exact True.intro)
  have h1' : inO x.off = true := by simpa using h1
  have h2' : inO x.stamp = true := by simpa using h2
  have h3' : x.key.size ≤ 64 := by simp at h3; omega
  have h4' : x.val.size ≤ 64 := by simp at h4; omega
  refine gd (fun h5 => ?_) (fun h5 => ?_)
  · (refine sJ @bin_seq ?_; try with_reducible exact True.intro)
    refine gd (fun h6 => ?_) (fun h6 => ?_)
    · (refine sI ?_; try with_reducible exact True.intro)
      (intros; try refine go_st ?_); refine go_c ?_; (refine sI ?_; try with_reducible exact True.intro)
      exact hbad _ _ _ (chkR_1 (.inr (.inr (.inr (.inr ⟨h5, .inl h6⟩)))))
    (refine sJ @bin_sne ?_; try with_reducible exact True.intro)
    (intros; try refine go_st ?_); refine go_c ?_; (refine sI ?_; try with_reducible exact True.intro)
    refine gb (fun h7 => ?_) (fun h7 => ?_)
    · exact hbad _ _ _ (chkR_1 (.inr (.inr (.inr (.inr ⟨h5, .inr (by simpa using h7)⟩)))))
    · (repeat first | refine go_skip ?_ | refine go_b ?_)
      refine hgood _ _ (if_pos ⟨h1', h2', h3', h4', fun h => ?_⟩)
      rcases h.2 with h | h
      · rw [h6] at h; cases h
      · simp [h] at h7
  · (refine sI ?_; try with_reducible exact True.intro)
    (intros; try refine go_st ?_); refine go_c ?_; (refine sI ?_; try with_reducible exact True.intro)
    (repeat first | refine go_skip ?_ | refine go_b ?_)
    exact hgood _ _ (if_pos ⟨h1', h2', h3', h4', fun h => by rw [h5] at h; cases h.1⟩)
theorem Check_ok (x : Rec) (G : Nat → Option Obj) : FnS Try.prog 60 #[.agg (cellR x).toArray] G (.int .i64 (chkR x)) := by
  refine F60.fnS (by simp) (go_of ?_)
  unfold c60 cellR
  (intros; try refine go_st ?_); refine go_r 0 0 (by decide) ?_; (refine sJ c60r0.eq_1 ?_; try with_reducible exact True.intro)
  have hbad : ∀ (fr : List Td) (e : Env) (L : List Kx.Item), chkR x = 1 → go none Try.prog 33 v60.1 v60.2 (retQ o60 fun v h => v = .int .i64 (chkR x)) (Td.s ((SC.reg false c60r4).seq .ret) :: fr) e ⟨G, L, []⟩ := fun fr e L hx => by
    (intros; try refine go_st ?_); refine go_r 0 0 (by decide) ?_; (refine sJ c60r4.eq_1 ?_; try with_reducible exact True.intro)
    (intros; try refine go_st ?_)
    refine go_ret (retQ_v rfl ?_); simp only [push_cast, Nat.reduceBEq]
    rw [hx]
  (intros; try refine go_st ?_); refine go_r 5 8 (by decide) ?_; (refine sJ c60r1.eq_1 ?_; try with_reducible exact True.intro)
  refine (in_ok x.off G _ _).mono ?_; rintro _ _ ⟨rfl, rfl⟩; (refine sI ?_; try with_reducible exact True.intro)
  (intros; try refine go_st ?_); refine go_c ?_; (refine sI ?_; try with_reducible exact True.intro)
  refine gb (fun h1 => ?_) (fun h1 => ?_)
  · (repeat first | refine go_skip ?_ | refine go_b ?_)
    (intros; try refine go_st ?_); refine go_c ?_; (refine sI ?_; try with_reducible exact True.intro)
    refine gb (fun _ => ?_) (fun h => by rw [h1] at h; cases h)
    exact hbad _ _ _ (chkR_1 (.inl (by simpa using h1)))
  (intros; try refine go_st ?_); refine go_r 9 12 (by decide) ?_; (refine sJ c60r2.eq_1 ?_; try with_reducible exact True.intro)
  refine (in_ok x.stamp G _ _).mono ?_; rintro _ _ ⟨rfl, rfl⟩; (refine sI ?_; try with_reducible exact True.intro)
  (intros; try refine go_st ?_); refine go_c ?_; (refine sI ?_; try with_reducible exact True.intro)
  refine gb (fun h2 => ?_) (fun h2 => ?_)
  · (repeat first | refine go_skip ?_ | refine go_b ?_)
    (intros; try refine go_st ?_); refine go_c ?_; (refine sI ?_; try with_reducible exact True.intro)
    refine gb (fun _ => ?_) (fun h => by rw [h2] at h; cases h)
    exact hbad _ _ _ (chkR_1 (.inr (.inl (by simpa using h2))))
  have h1' : inO x.off = true := by simpa using h1
  have h2' : inO x.stamp = true := by simpa using h2
  (intros; try refine go_st ?_); refine go_r 13 20 (by decide) ?_; (refine sJ c60r3.eq_1 ?_; try with_reducible exact True.intro)
  (intros; try refine go_st ?_); refine go_c ?_; (refine sI ?_; try with_reducible exact True.intro)
  refine gb (fun h3 => ?_) (fun h3 => ?_)
  · have h3 := of_decide_eq_true h3
    by_cases h4 : 64 < x.key.size
    · exact hbad _ _ _ (chkR_1 (.inr (.inr (.inl h4))))
    · exact hbad _ _ _ (chkR_1 (.inr (.inr (.inr (.inl (by omega))))))
  have h3 := of_decide_eq_false h3
  have h3' : x.key.size ≤ 64 := by omega
  have h4' : x.val.size ≤ 64 := by omega
  have hbad2 : ∀ (fr : List Td) (e : Env) (L : List Kx.Item), chkR x = 1 → go none Try.prog 33 v60.1 v60.2 (retQ o60 fun v h => v = .int .i64 (chkR x)) (Td.s ((SC.reg false c60r6).seq .ret) :: fr) e ⟨G, L, []⟩ := fun fr e L hx => by
    (intros; try refine go_st ?_); refine go_r 0 0 (by decide) ?_; (refine sJ c60r6.eq_1 ?_; try with_reducible exact True.intro)
    (intros; try refine go_st ?_)
    refine go_ret (retQ_v rfl ?_); simp only [push_cast, Nat.reduceBEq]
    rw [hx]
  have hgood : ∀ (e : Env) (L : List Kx.Item), chkR x = 0 → go none Try.prog 33 v60.1 v60.2 (retQ o60 fun v h => v = .int .i64 (chkR x)) [Td.s ((SC.reg false c60r7).seq .ret)] e ⟨G, L, []⟩ := fun e L hx => by
    (intros; try refine go_st ?_); refine go_r 0 0 (by decide) ?_; (refine sJ c60r7.eq_1 ?_; try with_reducible exact True.intro)
    (intros; try refine go_st ?_)
    refine go_ret (retQ_v rfl ?_); simp only [push_cast, Nat.reduceBEq]
    rw [hx]
  (intros; try refine go_st ?_); refine go_r 22 33 (by decide) ?_; (refine sJ c60r5.eq_1 ?_; try with_reducible exact True.intro)
  refine gd (fun h5 => ?_) (fun h5 => ?_)
  · (refine sJ @bin_seq ?_; try with_reducible exact True.intro)
    refine gd (fun h6 => ?_) (fun h6 => ?_)
    · (refine sI ?_; try with_reducible exact True.intro)
      (intros; try refine go_st ?_); refine go_c ?_; (refine sI ?_; try with_reducible exact True.intro)
      exact hbad2 _ _ _ (chkR_1 (.inr (.inr (.inr (.inr ⟨h5, .inl h6⟩)))))
    (refine sJ @bin_sne ?_; try with_reducible exact True.intro)
    (intros; try refine go_st ?_); refine go_c ?_; (refine sI ?_; try with_reducible exact True.intro)
    refine gb (fun h7 => ?_) (fun h7 => ?_)
    · exact hbad2 _ _ _ (chkR_1 (.inr (.inr (.inr (.inr ⟨h5, .inr (by simpa using h7)⟩)))))
    · (repeat first | refine go_skip ?_ | refine go_b ?_)
      refine hgood _ _ (if_pos ⟨h1', h2', h3', h4', fun h => ?_⟩)
      rcases h.2 with h | h
      · rw [h6] at h; cases h
      · simp [h] at h7
  · (refine sI ?_; try with_reducible exact True.intro)
    (intros; try refine go_st ?_); refine go_c ?_; (refine sI ?_; try with_reducible exact True.intro)
    (repeat first | refine go_skip ?_ | refine go_b ?_)
    exact hgood _ _ (if_pos ⟨h1', h2', h3', h4', fun h => by rw [h5] at h; cases h.1⟩)
end Go.Proofs.Ytfhheomeebejnaa

/- Bytes, part 4 of a proof: a record's bytes. No condition. -/
set_option linter.unusedSimpArgs false
set_option linter.unusedVariables false
namespace Go.Proofs.Ytfhheomeebejnaa
open Go Go.Kx
theorem F62 : Fun Try.prog 62 46 v62 c62 o62 := Fun.mk' Try.func62 Try.ntmps62 (by kernel_rfl) (by kernel_rfl) s62 q62
theorem F67 : Fun Try.prog 67 50 v67 c67 o67 := Fun.mk' Try.func67 Try.ntmps67 (by kernel_rfl) (by kernel_rfl) s67 q67

/-- A record's bytes. -/
def prB (x : Rec) (base stamp : Int) : List UInt8 := pvB (x.off - base) ++ pvB (x.stamp - stamp) ++ [if x.dead = true then 1 else 0] ++ ptB x.key ++ ptB x.val
def putR (x : Rec) (base stamp : Int) : List UInt8 × Int := if chkR x ≠ 0 then ([], chkR x) else if ¬ (inO base = true ∧ inO stamp = true) then ([], 1) else (prB x base stamp, 0)
/-- Bytes, and why there are none. -/
def OwnE (p : List UInt8 × Int) (L' : List Kx.Item) (r : Value) : Prop := ∃ u, r = .tuple #[u, .int .i64 p.2] ∧ OwnB p.1 L' u
theorem chk_small {x : Rec} (h : chkR x = 0) : (inO x.off = true ∧ inO x.stamp = true) ∧ x.key.size ≤ 64 ∧ x.val.size ≤ 64 := by
  by_cases h0 : inO x.off = true ∧ inO x.stamp = true ∧ x.key.size ≤ 64 ∧ x.val.size ≤ 64 ∧ ¬ (x.dead = true ∧ (isE x.key = true ∨ isE x.val = false))
  · exact ⟨⟨h0.1, h0.2.1⟩, h0.2.2.1, h0.2.2.2.1⟩
  · rw [chkR, if_neg h0] at h; cases h
theorem RPut_ok (x : Rec) (base stamp : Int) (G : Nat → Option Obj) : FnO Try.prog 67 #[.agg (cellR x).toArray, .int .i64 base, .int .i64 stamp] G [] (fun _ L' r => OwnE (putR x base stamp) L' r) := by
  refine F67.fnO (by simp) noRegs_nil (go_of ?_)
  unfold c67
  have hck := RCheck_ok x
  unfold cellR at hck ⊢
  (intros; try refine go_st ?_); refine go_r 0 0 (by decide) ?_; (refine sJ c67r0.eq_1 ?_; try with_reducible exact True.intro)
  (intros; try refine go_st ?_); refine go_r 10 12 (by decide) ?_; (refine sJ c67r1.eq_1 ?_; try with_reducible exact True.intro)
  refine (hck G _ _).mono ?_; rintro _ _ ⟨rfl, rfl⟩; (refine sI ?_; try with_reducible exact True.intro)
  (intros; try refine go_st ?_); refine go_r 12 13 (by decide) ?_; (refine sJ c67r2.eq_1 ?_; try with_reducible exact True.intro)
  (intros; try refine go_st ?_); refine go_c ?_; (refine sI ?_; try with_reducible exact True.intro)
  refine gb (fun h1 => ?_) (fun h1 => ?_)
  · (intros; try refine go_st ?_); refine go_r 14 15 (by decide) ?_; (refine sJ c67r3.eq_1 ?_; try with_reducible exact True.intro)
    (intros; try refine go_st ?_)
    refine go_ghost (ghost_nil none 5 1) ?_
    refine go_ret (retQ_o _ rfl (.cons_cons _ (List.nil_sublist _)) (noRegs_row noRegs_nil) ?_)
    rw [putR, if_pos (by simpa using h1)]
    exact ⟨_, rfl, [], .nil, rfl⟩
  have h1 : chkR x = 0 := by simpa using h1
  have hbad : ∀ (fr : List Td) (e : Env) (L : List Kx.Item), putR x base stamp = ([], 1) → go none Try.prog 50 v67.1 v67.2 (retQ o67 fun v h => OwnE (putR x base stamp) h.L v) (Td.s ((SC.reg false c67r5).seq .ret) :: fr) e ⟨G, L, []⟩ := fun fr e L hx => by
    (intros; try refine go_st ?_); refine go_r 0 0 (by decide) ?_; (refine sJ c67r5.eq_1 ?_; try with_reducible exact True.intro)
    (intros; try refine go_st ?_)
    refine go_ghost (ghost_nil none 5 1) ?_
    refine go_ret (retQ_o _ rfl (.cons_cons _ (List.nil_sublist _)) (noRegs_row noRegs_nil) ?_)
    rw [hx]
    exact ⟨_, rfl, [], .nil, rfl⟩
  have hpb : ∀ (h : ¬ (inO base = true ∧ inO stamp = true)), putR x base stamp = ([], 1) := fun h => by rw [putR, if_neg (by simp [h1]), if_pos h]
  (intros; try refine go_st ?_); refine go_r 15 22 (by decide) ?_; (refine sJ c67r4.eq_1 ?_; try with_reducible exact True.intro)
  refine (In_ok base G _ _).mono ?_; rintro _ _ ⟨rfl, rfl⟩; (refine sI ?_; try with_reducible exact True.intro)
  refine gd (fun h2 => ?_) (fun h2 => ?_)
  · (refine sI ?_; try with_reducible exact True.intro)
    (intros; try refine go_st ?_); refine go_c ?_; (refine sI ?_; try with_reducible exact True.intro)
    exact hbad _ _ _ (hpb fun h => by rw [h.1] at h2; cases h2)
  (refine sI ?_; try with_reducible exact True.intro)
  refine (In_ok stamp G _ _).mono ?_; rintro _ _ ⟨rfl, rfl⟩; (refine sI ?_; try with_reducible exact True.intro)
  (intros; try refine go_st ?_); refine go_c ?_; (refine sI ?_; try with_reducible exact True.intro)
  refine gb (fun h3 => ?_) (fun h3 => ?_)
  · exact hbad _ _ _ (hpb fun h => by rw [h.2] at h3; cases h3)
  have h2 : inO base = true := by simpa using h2
  have h3 : inO stamp = true := by simpa using h3
  obtain ⟨⟨ho, hst⟩, hk, hv⟩ := chk_small h1
  have hput : putR x base stamp = (prB x base stamp, 0) := by rw [putR, if_neg (by simp [h1]), if_neg (by simp [h2, h3])]
  simp [inO] at h2 h3 ho hst
  have w1 : IntKind.i64.wrap (x.off - base) = x.off - base := by rw [w64_id] <;> omega
  have w2 : IntKind.i64.wrap (x.stamp - stamp) = x.stamp - stamp := by rw [w64_id] <;> omega
  have i1 : I64 (x.off - base) := by unfold I64; omega
  have i2 : I64 (x.stamp - stamp) := by unfold I64; omega
  have l1 := pvB_len (x.off - base)
  have l2 := pvB_len (x.stamp - stamp)
  (repeat first | refine go_skip ?_ | refine go_b ?_)
  (intros; try refine go_st ?_); refine go_r 24 28 (by decide) ?_; (refine sJ2 c67r6.eq_1 @w1 ?_; try with_reducible exact True.intro)
  refine (RPutVar_ok [] (x.off - base) i1 _ G SB.nil (by simp) _ []).mono ?_
  rintro r h' ⟨G1, L', rfl, hg1, ys, hys, rfl⟩
  simp only [List.nil_append] at hys ⊢
  (refine sI ?_; try with_reducible exact True.intro)
  (intros; try refine go_st ?_); refine go_r 28 34 (by decide) ?_; (refine sJ2 c67r7.eq_1 @w2 ?_; try with_reducible exact True.intro)
  refine callsH_gx F66.enters (gx_slv_at [] _ (by decide) hys) ?_
  rintro h' ⟨G2, rfl, hg2, hv2⟩
  refine (RPutVar_ok _ (x.stamp - stamp) i2 _ G2 hv2 (by omega) _ []).mono ?_
  rintro r h' ⟨G3, L', rfl, hg3, ys3, hys3, rfl⟩
  (refine sI ?_; try with_reducible exact True.intro)
  have hrest : ∀ (e : Env) (L : List Kx.Item) (u : Value) (zc : List Value) (b : UInt8), b = (if x.dead = true then 1 else 0) → Cells UE 1 (pvB (x.off - base) ++ pvB (x.stamp - stamp) ++ [b]) zc → e 9 = u →
      go none Try.prog 50 v67.1 v67.2 (retQ o67 fun v h => OwnE (putR x base stamp) h.L v) [Td.s ((SC.reg false c67r11).seq ((SC.reg false c67r12).seq .ret))] e ⟨G3, [.row u 5 1 (pvB (x.off - base) ++ pvB (x.stamp - stamp) ++ [b]).length zc, .reg 3 [.int .i64 x.off, .string x.key, .string x.val, .bool x.dead, .int .i64 x.stamp]], []⟩ := fun e L u zc b hb hzc e9 => by
    refine go_keep [9] ?_
    (refine sJ @e9 ?_; try with_reducible exact True.intro)
    (intros; try refine go_st ?_); refine go_r 42 46 (by decide) ?_; (refine sJ c67r11.eq_1 ?_; try with_reducible exact True.intro)
    refine callsH_gx F85.enters (gx_slv_at [] _ (by decide) hzc) ?_
    rintro h' ⟨G4, rfl, hg4, hv4⟩
    refine (RPutText_ok _ x.key _ G4 hv4 (by simp; omega) (by omega) _ []).mono ?_
    rintro r h' ⟨G5, L', rfl, hg5, ys5, hys5, rfl⟩
    (refine sI ?_; try with_reducible exact True.intro)
    have l3 := ptB_len x.key
    (intros; try refine go_st ?_); refine go_r 46 50 (by decide) ?_; (refine sJ c67r12.eq_1 ?_; try with_reducible exact True.intro)
    refine callsH_gx F85.enters (gx_slv_at [] _ (by decide) hys5) ?_
    rintro h' ⟨G6, rfl, hg6, hv6⟩
    refine (RPutText_ok _ x.val _ G6 hv6 (by simp; omega) (by omega) _ []).mono ?_
    rintro r h' ⟨G7, L', rfl, hg7, ys7, hys7, rfl⟩
    (refine sI ?_; try with_reducible exact True.intro)
    (intros; try refine go_st ?_)
    refine go_ret (retQ_o _ rfl (.cons_cons _ (List.nil_sublist _)) (noRegs_row noRegs_nil) ?_)
    rw [hput]
    subst hb
    exact ⟨_, rfl, ys7, hys7, rfl⟩
  (intros; try refine go_st ?_); refine go_r 0 0 (by decide) ?_; (refine sJ c67r8.eq_1 ?_; try with_reducible exact True.intro)
  (intros; try refine go_st ?_); refine go_c ?_; (refine sI ?_; try with_reducible exact True.intro)
  refine gb (fun h5 => ?_) (fun h5 => ?_)
  · (intros; try refine go_st ?_); refine go_r 36 39 (by decide) ?_; (refine sJ c67r9.eq_1 ?_; try with_reducible exact True.intro)
    intro bk hbk
    refine app8 (L1 := []) (L2 := [_]) (x := 1) rfl rfl hys3 (by simp; omega) fun A' c' zc' hzc => ?_
    (refine sI ?_; try with_reducible exact True.intro)
    intro _
    refine go_ghost (ghost_sub (.cons _ (List.Sublist.refl _))) ?_
    (repeat first | refine go_skip ?_ | refine go_b ?_)
    refine hrest _ [] _ _ 1 (by rw [if_pos h5]) hzc ?_
    (refine sI ?_; try with_reducible exact True.intro)
  · (intros; try refine go_st ?_); refine go_r 39 42 (by decide) ?_; (refine sJ c67r10.eq_1 ?_; try with_reducible exact True.intro)
    intro bk hbk
    refine app8 (L1 := []) (L2 := [_]) (x := 0) rfl rfl hys3 (by simp; omega) fun A' c' zc' hzc => ?_
    (refine sI ?_; try with_reducible exact True.intro)
    intro _
    refine go_ghost (ghost_sub (.cons _ (List.Sublist.refl _))) ?_
    (repeat first | refine go_skip ?_ | refine go_b ?_)
    refine hrest _ [] _ _ 0 (by rw [if_neg (by rw [h5]; simp)]) hzc ?_
    (refine sI ?_; try with_reducible exact True.intro)
theorem Put_ok (x : Rec) (base stamp : Int) (G : Nat → Option Obj) : FnO Try.prog 62 #[.agg (cellR x).toArray, .int .i64 base, .int .i64 stamp] G [] (fun _ L' r => OwnE (putR x base stamp) L' r) := by
  refine F62.fnO (by simp) noRegs_nil (go_of ?_)
  unfold c62
  have hck := Check_ok x
  unfold cellR at hck ⊢
  (intros; try refine go_st ?_); refine go_r 0 0 (by decide) ?_; (refine sJ c62r0.eq_1 ?_; try with_reducible exact True.intro)
  (intros; try refine go_st ?_); refine go_r 11 13 (by decide) ?_; (refine sJ c62r1.eq_1 ?_; try with_reducible exact True.intro)
  refine (hck G _ _).mono ?_; rintro _ _ ⟨rfl, rfl⟩; (refine sI ?_; try with_reducible exact True.intro)
  (intros; try refine go_st ?_); refine go_r 13 14 (by decide) ?_; (refine sJ c62r2.eq_1 ?_; try with_reducible exact True.intro)
  (intros; try refine go_st ?_); refine go_c ?_; (refine sI ?_; try with_reducible exact True.intro)
  refine gb (fun h1 => ?_) (fun h1 => ?_)
  · (intros; try refine go_st ?_); refine go_r 15 16 (by decide) ?_; (refine sJ c62r3.eq_1 ?_; try with_reducible exact True.intro)
    (intros; try refine go_st ?_)
    refine go_ghost (ghost_nil none 5 1) ?_
    refine go_ret (retQ_o _ rfl (.cons_cons _ (List.nil_sublist _)) (noRegs_row noRegs_nil) ?_)
    rw [putR, if_pos (by simpa using h1)]
    exact ⟨_, rfl, [], .nil, rfl⟩
  have h1 : chkR x = 0 := by simpa using h1
  have hbad : ∀ (fr : List Td) (e : Env) (L : List Kx.Item), putR x base stamp = ([], 1) → go none Try.prog 46 v62.1 v62.2 (retQ o62 fun v h => OwnE (putR x base stamp) h.L v) (Td.s ((SC.reg false c62r5).seq .ret) :: fr) e ⟨G, L, []⟩ := fun fr e L hx => by
    (intros; try refine go_st ?_); refine go_r 0 0 (by decide) ?_; (refine sJ c62r5.eq_1 ?_; try with_reducible exact True.intro)
    (intros; try refine go_st ?_)
    refine go_ghost (ghost_nil none 5 1) ?_
    refine go_ret (retQ_o _ rfl (.cons_cons _ (List.nil_sublist _)) (noRegs_row noRegs_nil) ?_)
    rw [hx]
    exact ⟨_, rfl, [], .nil, rfl⟩
  have hpb : ∀ (h : ¬ (inO base = true ∧ inO stamp = true)), putR x base stamp = ([], 1) := fun h => by rw [putR, if_neg (by simp [h1]), if_pos h]
  (repeat first | refine go_skip ?_ | refine go_b ?_)
  (intros; try refine go_st ?_); refine go_r 16 23 (by decide) ?_; (refine sJ c62r4.eq_1 ?_; try with_reducible exact True.intro)
  refine (in_ok base G _ _).mono ?_; rintro _ _ ⟨rfl, rfl⟩; (refine sI ?_; try with_reducible exact True.intro)
  refine gd (fun h2 => ?_) (fun h2 => ?_)
  · (refine sI ?_; try with_reducible exact True.intro)
    (intros; try refine go_st ?_); refine go_c ?_; (refine sI ?_; try with_reducible exact True.intro)
    exact hbad _ _ _ (hpb fun h => by rw [h.1] at h2; cases h2)
  (refine sI ?_; try with_reducible exact True.intro)
  refine (in_ok stamp G _ _).mono ?_; rintro _ _ ⟨rfl, rfl⟩; (refine sI ?_; try with_reducible exact True.intro)
  (intros; try refine go_st ?_); refine go_c ?_; (refine sI ?_; try with_reducible exact True.intro)
  refine gb (fun h3 => ?_) (fun h3 => ?_)
  · exact hbad _ _ _ (hpb fun h => by rw [h.2] at h3; cases h3)
  have h2 : inO base = true := by simpa using h2
  have h3 : inO stamp = true := by simpa using h3
  obtain ⟨⟨ho, hst⟩, hk, hv⟩ := chk_small h1
  have hput : putR x base stamp = (prB x base stamp, 0) := by rw [putR, if_neg (by simp [h1]), if_neg (by simp [h2, h3])]
  simp [inO] at h2 h3 ho hst
  have w1 : IntKind.i64.wrap (x.off - base) = x.off - base := by rw [w64_id] <;> omega
  have w2 : IntKind.i64.wrap (x.stamp - stamp) = x.stamp - stamp := by rw [w64_id] <;> omega
  have i1 : I64 (x.off - base) := by unfold I64; omega
  have i2 : I64 (x.stamp - stamp) := by unfold I64; omega
  have l1 := pvB_len (x.off - base)
  have l2 := pvB_len (x.stamp - stamp)
  (repeat first | refine go_skip ?_ | refine go_b ?_)
  have hrest : ∀ (e : Env) (b : UInt8), b = (if x.dead = true then 1 else 0) → e 1 = .int .i64 base → e 2 = .int .i64 stamp → e 9 = .int .u8 (b.toNat : Int) →
      go none Try.prog 46 v62.1 v62.2 (retQ o62 fun v h => OwnE (putR x base stamp) h.L v) [Td.s ((SC.rgX c62r9).seq ((SC.rgX c62r10).seq .ret))] e ⟨G, [.reg 3 [.int .i64 x.off, .string x.key, .string x.val, .bool x.dead, .int .i64 x.stamp]], []⟩ := fun e b hb e1 e2 e9 => by
    refine go_keep [1, 2, 9] ?_
    (refine sJ3 @e1 @e2 @e9 ?_; try with_reducible exact True.intro)
    (intros; try refine go_st ?_); refine go_x _ (List.Sublist.refl _) (by decide) ?_; (refine sJ3 c62r9.eq_1 @w1 @w2 ?_; try with_reducible exact True.intro)
    refine (PutVar_ok [] (x.off - base) i1 _ G SB.nil (by simp) _ []).mono ?_
    rintro r h' ⟨G1, L', rfl, hg1, ys, hys, rfl⟩
    simp only [List.nil_append] at hys ⊢
    refine ⟨grow_L hg1 (.cons _ (List.Sublist.refl _)), ?_⟩
    (refine sI ?_; try with_reducible exact True.intro)
    refine callsH_gx F61.enters (gx_slv_at [] _ (by decide) hys) ?_
    rintro h' ⟨G2, rfl, hg2, hv2⟩
    refine (PutVar_ok _ (x.stamp - stamp) i2 _ G2 hv2 (by omega) _ []).mono ?_
    rintro r h' ⟨G3, L', rfl, hg3, ys3, hys3, rfl⟩
    refine ⟨grow_L (hg1.trans (hg2.trans hg3)) (.cons _ (List.Sublist.refl _)), ?_⟩
    (refine sI ?_; try with_reducible exact True.intro)
    (intros; try refine go_st ?_); refine go_x _ (.cons _ (List.Sublist.refl _)) (by decide) ?_; (refine sJ c62r10.eq_1 ?_; try with_reducible exact True.intro)
    intro bk hbk
    refine ⟨grow_L (fun _ _ h => h) (.cons _ (.cons _ (List.Sublist.refl _))), ?_⟩
    (refine sI ?_; try with_reducible exact True.intro)
    refine app8 (L1 := []) (L2 := [_]) (x := b) rfl rfl hys3 (by simp; omega) fun A' c' zc' hzc => ?_
    (refine sI ?_; try with_reducible exact True.intro)
    refine ⟨grow_L (fun _ _ h => h) (.cons _ (.cons _ (List.Sublist.refl _))), ?_⟩
    (refine sI ?_; try with_reducible exact True.intro)
    refine callsH_gx F80.enters (gx_slv_at [_] _ (by decide) hzc) ?_
    rintro h' ⟨G4, rfl, hg4, hv4⟩
    refine (PutText_ok _ x.key _ G4 hv4 (by simp; omega) (by omega) _ []).mono ?_
    rintro r h' ⟨G5, L', rfl, hg5, ys5, hys5, rfl⟩
    refine ⟨grow_L (hg4.trans hg5) (.cons _ (.cons _ (List.Sublist.refl _))), ?_⟩
    (refine sI ?_; try with_reducible exact True.intro)
    have l3 := ptB_len x.key
    refine callsH_gx F80.enters (gx_slv_at [] _ (by decide) hys5) ?_
    rintro h' ⟨G6, rfl, hg6, hv6⟩
    refine (PutText_ok _ x.val _ G6 hv6 (by simp; omega) (by omega) _ []).mono ?_
    rintro r h' ⟨G7, L', rfl, hg7, ys7, hys7, rfl⟩
    refine ⟨grow_L (hg4.trans (hg5.trans (hg6.trans hg7))) (.cons _ (.cons _ (List.Sublist.refl _))), ?_⟩
    (refine sI ?_; try with_reducible exact True.intro)
    (intros; try refine go_st ?_)
    refine go_ret (retQ_o _ rfl (.cons_cons _ (List.nil_sublist _)) (noRegs_row noRegs_nil) ?_)
    rw [hput]
    subst hb
    exact ⟨_, rfl, ys7, hys7, rfl⟩
  (intros; try refine go_st ?_); refine go_r 0 0 (by decide) ?_; (refine sJ c62r6.eq_1 ?_; try with_reducible exact True.intro)
  (intros; try refine go_st ?_); refine go_r 0 0 (by decide) ?_; (refine sJ c62r7.eq_1 ?_; try with_reducible exact True.intro)
  (intros; try refine go_st ?_); refine go_c ?_; (refine sI ?_; try with_reducible exact True.intro)
  refine gb (fun h5 => ?_) (fun h5 => ?_)
  · (intros; try refine go_st ?_); refine go_r 0 0 (by decide) ?_; (refine sJ c62r8.eq_1 ?_; try with_reducible exact True.intro)
    (repeat first | (with_reducible intro _) | refine go_skip ?_ | refine go_b ?_)
    refine hrest _ 1 (by rw [if_pos h5]) ?_ ?_ ?_ <;> (refine sI ?_; try with_reducible exact True.intro)
    rfl
  · (repeat first | refine go_skip ?_ | refine go_b ?_)
    refine hrest _ 0 (by rw [if_neg (by rw [h5]; simp)]) ?_ ?_ ?_ <;> (refine sI ?_; try with_reducible exact True.intro)
    rfl
end Go.Proofs.Ytfhheomeebejnaa

/- Bytes, part 9 of a proof: numbers in range. No condition. -/
set_option linter.unusedSimpArgs false
set_option linter.unusedVariables false
namespace Go.Proofs.Ytfhheomeebejnaa
open Go Go.Kx
theorem F59 : Fun Try.prog 59 14 v59 c59 o59 := Fun.mk' Try.func59 Try.ntmps59 (by kernel_rfl) (by kernel_rfl) s59 q59
theorem F77 : Fun Try.prog 77 25 v77 c77 o77 := Fun.mk' Try.func77 Try.ntmps77 (by kernel_rfl) (by kernel_rfl) s77 q77
theorem F78 : Fun Try.prog 78 25 v78 c78 o78 := Fun.mk' Try.func78 Try.ntmps78 (by kernel_rfl) (by kernel_rfl) s78 q78
def IE (x : Int) (cs : List Value) : Prop := cs = [.int .i64 x] ∧ I64 x
def rng (m n : Int) : Bool := decide (0 ≤ n) && decide (n ≤ m)
theorem take1 {l : List Int} {k : Nat} {x y : Int} (h0 : l[0]? = some y) (hx : l[k]? = some x) (f : Int → Int → Int) (hk : 0 < k) : ((l.drop 1).take k).foldl f y = f (((l.drop 1).take (k - 1)).foldl f y) x := by
  have hl := List.getElem?_eq_some_iff.1 hx
  obtain ⟨k, rfl⟩ : ∃ j, k = j + 1 := ⟨k - 1, by omega⟩
  have h1 : (l.drop 1)[k]? = some x := by rw [List.getElem?_drop, Nat.add_comm]; exact hx
  have h2 := List.getElem?_eq_some_iff.1 h1
  rw [List.take_succ_eq_append_getElem h2.1, h2.2]
  simp
theorem Min_ok (l : List Int) (y : Int) (h0 : l[0]? = some y) (v : Value) (G : Nat → Option Obj) (hl : SlV G IE 1 v l) : FnS Try.prog 77 #[v] G (.int .i64 ((l.drop 1).foldl min y)) := by
  refine F77.fnS (by simp) (go_of ?_)
  obtain ⟨A, c, rfl, hc, hm, hA⟩ := hl
  have hpos := (List.getElem?_eq_some_iff.1 h0).1
  unfold c77
  (intros; try refine go_st ?_); refine go_r 0 0 (by decide) ?_; (refine sJ c77r0.eq_1 ?_; try with_reducible exact True.intro)
  (intros; try refine go_st ?_); refine go_r 5 7 (by decide) ?_; (refine sJ c77r1.eq_1 ?_; try with_reducible exact True.intro)
  (intros; try refine go_st ?_); refine go_c ?_; (refine sI ?_; try with_reducible exact True.intro)
  refine gb (fun h1 => by simp at h1; omega) (fun h1 => ?_)
  (repeat first | refine go_skip ?_ | refine go_b ?_)
  (intros; try refine go_st ?_); refine go_r 9 12 (by decide) ?_; (refine sJ c77r2.eq_1 ?_; try with_reducible exact True.intro)
  refine hA.x_l1 h0 rfl rfl ?_
  rintro a1 ha1 u1 ⟨hu, -⟩
  cases hu
  (refine sI ?_; try with_reducible exact True.intro)
  (intros; try refine go_st ?_); refine go_r 0 0 (by decide) ?_; (refine sJ c77r3.eq_1 ?_; try with_reducible exact True.intro)
  (intros; try refine go_st ?_)
  refine go_loop (fun e h => ∃ k : Nat, (0 < k ∧ k ≤ l.length) ∧ e 4 = .int .i64 k ∧ e 0 = .slice A l.length c ∧ e 3 = .int .i64 (((l.drop 1).take (k - 1)).foldl min y) ∧ h = ⟨G, [], []⟩) (fun e h => l.length - iv (e 4)) ?_ ?_
  · exact ⟨1, ⟨by omega, by omega⟩, by (refine sI ?_; try with_reducible exact True.intro); rfl, eE, by (refine sI ?_; try with_reducible exact True.intro); rfl, rfl⟩
  · rintro e h ⟨k, ⟨hk0, hk⟩, e4, e0, e3, rfl⟩
    refine go_keep [0, 3, 4] ?_
    (refine sJ3 @e0 @e3 @e4 ?_; try with_reducible exact True.intro)
    (intros; try refine go_st ?_); refine go_r 12 15 (by decide) ?_; (refine sJ c77r4.eq_1 ?_; try with_reducible exact True.intro)
    (intros; try refine go_st ?_); refine go_c ?_; (refine sI ?_; try with_reducible exact True.intro)
    refine gb (fun ht => ?_) (fun ht => ?_)
    · have hkl : k < l.length := by simpa using ht
      have hw3 := inc_i k c (by omega) hm
      obtain ⟨x, hx⟩ : ∃ x, l[k]? = some x := ⟨l[k], List.getElem?_eq_getElem (by omega)⟩
      (repeat first | refine go_skip ?_ | refine go_b ?_)
      (intros; try refine go_st ?_); refine go_r 18 24 (by decide) ?_; (refine sJ c77r5.eq_1 ?_; try with_reducible exact True.intro)
      refine hA.x_l1 hx rfl rfl ?_
      rintro a1 ha1 u1 ⟨hu, -⟩
      cases hu
      (refine sI ?_; try with_reducible exact True.intro)
      (intros; try refine go_st ?_); refine go_r 16 18 (by decide) ?_; (refine sJ2 c77r6.eq_1 @hw3 ?_; try with_reducible exact True.intro)
      (intros; try refine go_st ?_)
      refine go_l ⟨⟨k + 1, ⟨by omega, by omega⟩, eE, eE, by rw [Nat.add_sub_cancel, take1 h0 hx min hk0]; (refine sI ?_; try with_reducible exact True.intro), rfl⟩, ?_⟩
      (refine sI ?_; try with_reducible exact True.intro)
      omega
    · have hkl : k = l.length := by simp at ht; omega
      subst hkl
      refine go_exit ?_
      (refine sI ?_; try with_reducible exact True.intro)
      (intros; try refine go_st ?_); refine go_r 24 25 (by decide) ?_; (refine sJ c77r7.eq_1 ?_; try with_reducible exact True.intro)
      (intros; try refine go_st ?_)
      refine go_ret (retQ_v rfl ?_); simp only [push_cast, Nat.reduceBEq]
      rw [List.take_of_length_le (by simp)]
theorem Max_ok (l : List Int) (y : Int) (h0 : l[0]? = some y) (v : Value) (G : Nat → Option Obj) (hl : SlV G IE 1 v l) : FnS Try.prog 78 #[v] G (.int .i64 ((l.drop 1).foldl max y)) := by
  refine F78.fnS (by simp) (go_of ?_)
  obtain ⟨A, c, rfl, hc, hm, hA⟩ := hl
  have hpos := (List.getElem?_eq_some_iff.1 h0).1
  unfold c78
  (intros; try refine go_st ?_); refine go_r 0 0 (by decide) ?_; (refine sJ c78r0.eq_1 ?_; try with_reducible exact True.intro)
  (intros; try refine go_st ?_); refine go_r 5 7 (by decide) ?_; (refine sJ c78r1.eq_1 ?_; try with_reducible exact True.intro)
  (intros; try refine go_st ?_); refine go_c ?_; (refine sI ?_; try with_reducible exact True.intro)
  refine gb (fun h1 => by simp at h1; omega) (fun h1 => ?_)
  (repeat first | refine go_skip ?_ | refine go_b ?_)
  (intros; try refine go_st ?_); refine go_r 9 12 (by decide) ?_; (refine sJ c78r2.eq_1 ?_; try with_reducible exact True.intro)
  refine hA.x_l1 h0 rfl rfl ?_
  rintro a1 ha1 u1 ⟨hu, -⟩
  cases hu
  (refine sI ?_; try with_reducible exact True.intro)
  (intros; try refine go_st ?_); refine go_r 0 0 (by decide) ?_; (refine sJ c78r3.eq_1 ?_; try with_reducible exact True.intro)
  (intros; try refine go_st ?_)
  refine go_loop (fun e h => ∃ k : Nat, (0 < k ∧ k ≤ l.length) ∧ e 4 = .int .i64 k ∧ e 0 = .slice A l.length c ∧ e 3 = .int .i64 (((l.drop 1).take (k - 1)).foldl max y) ∧ h = ⟨G, [], []⟩) (fun e h => l.length - iv (e 4)) ?_ ?_
  · exact ⟨1, ⟨by omega, by omega⟩, by (refine sI ?_; try with_reducible exact True.intro); rfl, eE, by (refine sI ?_; try with_reducible exact True.intro); rfl, rfl⟩
  · rintro e h ⟨k, ⟨hk0, hk⟩, e4, e0, e3, rfl⟩
    refine go_keep [0, 3, 4] ?_
    (refine sJ3 @e0 @e3 @e4 ?_; try with_reducible exact True.intro)
    (intros; try refine go_st ?_); refine go_r 12 15 (by decide) ?_; (refine sJ c78r4.eq_1 ?_; try with_reducible exact True.intro)
    (intros; try refine go_st ?_); refine go_c ?_; (refine sI ?_; try with_reducible exact True.intro)
    refine gb (fun ht => ?_) (fun ht => ?_)
    · have hkl : k < l.length := by simpa using ht
      have hw3 := inc_i k c (by omega) hm
      obtain ⟨x, hx⟩ : ∃ x, l[k]? = some x := ⟨l[k], List.getElem?_eq_getElem (by omega)⟩
      (repeat first | refine go_skip ?_ | refine go_b ?_)
      (intros; try refine go_st ?_); refine go_r 18 24 (by decide) ?_; (refine sJ c78r5.eq_1 ?_; try with_reducible exact True.intro)
      refine hA.x_l1 hx rfl rfl ?_
      rintro a1 ha1 u1 ⟨hu, -⟩
      cases hu
      (refine sI ?_; try with_reducible exact True.intro)
      (intros; try refine go_st ?_); refine go_r 16 18 (by decide) ?_; (refine sJ2 c78r6.eq_1 @hw3 ?_; try with_reducible exact True.intro)
      (intros; try refine go_st ?_)
      refine go_l ⟨⟨k + 1, ⟨by omega, by omega⟩, eE, eE, by rw [Nat.add_sub_cancel, take1 h0 hx max hk0]; (refine sI ?_; try with_reducible exact True.intro), rfl⟩, ?_⟩
      (refine sI ?_; try with_reducible exact True.intro)
      omega
    · have hkl : k = l.length := by simp at ht; omega
      subst hkl
      refine go_exit ?_
      (refine sI ?_; try with_reducible exact True.intro)
      (intros; try refine go_st ?_); refine go_r 24 25 (by decide) ?_; (refine sJ c78r7.eq_1 ?_; try with_reducible exact True.intro)
      (intros; try refine go_st ?_)
      refine go_ret (retQ_v rfl ?_); simp only [push_cast, Nat.reduceBEq]
      rw [List.take_of_length_le (by simp)]
theorem min_all (m : Int) : ∀ (l : List Int) (y : Int), m ≤ l.foldl min y ↔ m ≤ y ∧ ∀ x ∈ l, m ≤ x
  | [], y => by simp
  | x :: l, y => by
    have h1 : m ≤ min y x ↔ m ≤ y ∧ m ≤ x := by omega
    rw [List.foldl_cons, min_all m l, h1, and_assoc]
    simp
theorem max_all (m : Int) : ∀ (l : List Int) (y : Int), l.foldl max y ≤ m ↔ y ≤ m ∧ ∀ x ∈ l, x ≤ m
  | [], y => by simp
  | x :: l, y => by
    have h1 : max y x ≤ m ↔ y ≤ m ∧ x ≤ m := by omega
    rw [List.foldl_cons, max_all m l, h1, and_assoc]
    simp
theorem within_all (m : Int) (l : List Int) (y : Int) : (decide (0 ≤ l.foldl min y) && decide (l.foldl max y ≤ m)) = (y :: l).all (rng m) := by
  rw [Bool.eq_iff_iff]
  simp only [Bool.and_eq_true, decide_eq_true_eq, min_all, max_all, List.all_eq_true, rng, List.mem_cons]
  constructor
  · rintro ⟨⟨h1, h2⟩, h3, h4⟩ x (rfl | hx)
    · exact ⟨h1, h3⟩
    · exact ⟨h2 x hx, h4 x hx⟩
  · intro h
    exact ⟨⟨(h y (.inl rfl)).1, fun x hx => (h x (.inr hx)).1⟩, (h y (.inl rfl)).2, fun x hx => (h x (.inr hx)).2⟩
theorem within_ok (m : Int) (y : Int) (l : List Int) (v : Value) (G : Nat → Option Obj) (hl : SlV G IE 1 v (y :: l)) : FnS Try.prog 59 #[.int .i64 m, v] G (.bool ((y :: l).all (rng m))) := by
  refine F59.fnS (by simp) (go_of ?_)
  rw [← within_all]
  unfold c59
  (intros; try refine go_st ?_); refine go_r 0 0 (by decide) ?_; (refine sJ c59r0.eq_1 ?_; try with_reducible exact True.intro)
  (intros; try refine go_st ?_); refine go_r 5 14 (by decide) ?_; (refine sJ c59r1.eq_1 ?_; try with_reducible exact True.intro)
  refine (Min_ok (y :: l) y rfl v G hl _ _).mono ?_; rintro _ _ ⟨rfl, rfl⟩; (refine sI ?_; try with_reducible exact True.intro)
  refine gd (fun h1 => ?_) (fun h1 => ?_)
  · (refine sI ?_; try with_reducible exact True.intro)
    refine (Max_ok (y :: l) y rfl v G hl _ _).mono ?_; rintro _ _ ⟨rfl, rfl⟩; (refine sI ?_; try with_reducible exact True.intro)
    (intros; try refine go_st ?_)
    refine go_ret (retQ_v rfl ?_); simp only [push_cast, Nat.reduceBEq]
    have h1 : 0 ≤ l.foldl min y := by simpa using h1
    simp [h1]
  · (refine sI ?_; try with_reducible exact True.intro)
    (intros; try refine go_st ?_)
    refine go_ret (retQ_v rfl ?_); simp only [push_cast, Nat.reduceBEq]
    have h1 : ¬ 0 ≤ l.foldl min y := by simpa using h1
    simp [h1]
end Go.Proofs.Ytfhheomeebejnaa

/- Bytes, part 10 of a proof: batches that have form. No condition. -/
set_option linter.unusedSimpArgs false
set_option linter.unusedVariables false
namespace Go.Proofs.Ytfhheomeebejnaa
open Go Go.Kx
theorem F47 : Fun Try.prog 47 131 v47 c47 o47 := Fun.mk' Try.func47 Try.ntmps47 (by kernel_rfl) (by kernel_rfl) s47 q47

structure Batch where
  base : Int
  last : Int
  src : Int
  epoch : Int
  pid : Int
  gen : Int
  seq : Int
  txn : Bool
  ctl : Int
  recs : List Rec
def cellH (x : Batch) (v : Value) : List Value := [.int .i64 x.base, .int .i64 x.last, .int .i64 x.src, .int .i64 x.epoch, .int .i64 x.pid, .int .i64 x.gen, .int .i64 x.seq, .bool x.txn, .int .i64 x.ctl, v]
def BE (G : Nat → Option Obj) (x : Batch) (cs : List Value) : Prop :=
  ∃ A c, cs = cellH x (.slice A x.recs.length c) ∧ (x.recs.length ≤ c ∧ c ≤ maxLen ∧ SlA G RR 5 A x.recs) ∧ I64 x.base ∧ I64 x.last ∧ I64 x.src ∧ I64 x.epoch ∧ I64 x.pid ∧ I64 x.gen ∧ I64 x.seq ∧ I64 x.ctl
theorem BE.le {G G' : Nat → Option Obj} (hg : Gle G G') {x : Batch} {cs : List Value} (h : BE G x cs) : BE G' x cs := by
  obtain ⟨A, c, h1, ⟨h2, h3, h4⟩, h5⟩ := h
  exact ⟨A, c, h1, ⟨h2, h3, h4.le hg fun _ _ h => h⟩, h5⟩
/-- Records in order, from an offset on, up to another one. -/
def rowF (last : Int) : Int → List Rec → Bool
  | _, [] => true
  | next, r :: rs => decide (chkR r = 0) && decide (next ≤ r.off) && decide (r.off ≤ last) && rowF last (r.off + 1) rs
def Form (b : Batch) : Prop :=
  (rng 1099511627776 b.base = true ∧ rng 1099511627776 b.last = true ∧ rng 1099511627776 b.src = true) ∧ (rng 1048576 b.epoch = true ∧ rng 1048576 b.gen = true ∧ rng 1048576 b.seq = true) ∧
    (b.base ≤ b.last ∧ b.last - b.base < 16 ∧ b.src + (b.last - b.base) ≤ 1099511627776 ∧ b.seq + (b.last - b.base) ≤ 1048576) ∧ (-1 ≤ b.pid ∧ b.pid ≤ 1099511627776) ∧ (b.pid = -1 → b.gen = 0 ∧ b.seq = 0 ∧ b.txn = false ∧ b.ctl = 0) ∧
    ((b.ctl = 0 ∧ rowF b.last b.base b.recs = true) ∨ ((b.ctl = 1 ∨ b.ctl = 2) ∧ b.last - b.base = 0 ∧ b.recs = [] ∧ b.txn = true))
instance decForm (b : Batch) : Decidable (Form b) := by
  unfold Form
  infer_instance
theorem within_row (m : Int) (y : Int) (l : List Int) (v : Value) (n : Nat) (ys : List Value) (hc : Cells IE 1 (y :: l) ys) (G : Nat → Option Obj) (L : List Kx.Item) (D : List Nat) :
    CallsH Try.prog 59 #[.int .i64 m, v] ⟨G, .row v 3 1 n ys :: L, D⟩ fun r h' => r = .bool ((y :: l).all (rng m)) ∧ h' = ⟨G, .row v 3 1 n ys :: L, D⟩ :=
  lend1 (E := IE) (xs := y :: l) (R := fun r => r = .bool ((y :: l).all (rng m))) F59.enters (by decide) hc fun G' hg hx => by
    have := within_ok m y l v G' hx L D
    simpa using this
theorem cells3 {a b c : Int} (ha : I64 a) (hb : I64 b) (hc : I64 c) : Cells IE 1 [a, b, c] [.int .i64 a, .int .i64 b, .int .i64 c] :=
  .cons (cs := [.int .i64 a]) ⟨rfl, ha⟩ rfl (.cons (cs := [.int .i64 b]) ⟨rfl, hb⟩ rfl (.one (cs := [.int .i64 c]) ⟨rfl, hc⟩ rfl))
theorem formed_ok (x : Batch) (cs : List Value) (G : Nat → Option Obj) (hx : BE G x cs) : FnS Try.prog 47 #[.agg cs.toArray] G (.bool (decide (Form x))) := by
  obtain ⟨A, c, rfl, ⟨hc, hm, hA⟩, i1, i2, i3, i4, i5, i6, i7, i8⟩ := hx
  refine F47.fnS (by simp) (go_of ?_)
  unfold c47 cellH
  (intros; try refine go_st ?_); refine go_r 0 0 (by decide) ?_; (refine sJ c47r0.eq_1 ?_; try with_reducible exact True.intro)
  have hbad : ∀ (fr : List Td) (e : Env) (L : List Kx.Item), ¬ Form x → go none Try.prog 131 v47.1 v47.2 (retQ o47 fun v h => v = .bool (decide (Form x))) (Td.s ((SC.reg false c47r2).seq .ret) :: fr) e ⟨G, L, []⟩ := fun fr e L hx => by
    (intros; try refine go_st ?_); refine go_r 0 0 (by decide) ?_; (refine sJ c47r2.eq_1 ?_; try with_reducible exact True.intro)
    (intros; try refine go_st ?_)
    refine go_ret (retQ_v rfl ?_); simp only [push_cast, Nat.reduceBEq]
    rw [decide_eq_false hx]
  (intros; try refine go_st ?_); refine go_r 8 26 (by decide) ?_; (refine sJ c47r1.eq_1 ?_; try with_reducible exact True.intro)
  intro b1 hb1
  refine (within_row 1099511627776 _ _ _ _ _ (cells3 i1 i2 i3) _ _ _).mono ?_; rintro _ _ ⟨rfl, rfl⟩; (refine sI ?_; try with_reducible exact True.intro)
  refine gd (fun h1 => ?_) (fun h1 => ?_)
  · (refine sI ?_; try with_reducible exact True.intro)
    (intros; try refine go_st ?_); refine go_c ?_; (refine sI ?_; try with_reducible exact True.intro)
    refine hbad _ _ _ fun h => ?_
    simp [h.1.1, h.1.2.1, h.1.2.2] at h1
  (refine sI ?_; try with_reducible exact True.intro)
  intro b2 hb2
  refine (within_row 1048576 _ _ _ _ _ (cells3 i4 i6 i7) _ _ _).mono ?_; rintro _ _ ⟨rfl, rfl⟩; (refine sI ?_; try with_reducible exact True.intro)
  (intros; try refine go_st ?_); refine go_c ?_; (refine sI ?_; try with_reducible exact True.intro)
  refine gb (fun h2 => ?_) (fun h2 => ?_)
  · refine hbad _ _ _ fun h => ?_
    simp [h.2.1.1, h.2.1.2.1, h.2.1.2.2] at h2
  have h1 : rng 1099511627776 x.base = true ∧ rng 1099511627776 x.last = true ∧ rng 1099511627776 x.src = true := by simpa using h1
  have h2 : rng 1048576 x.epoch = true ∧ rng 1048576 x.gen = true ∧ rng 1048576 x.seq = true := by simpa using h2
  have h1' := h1
  have h2' := h2
  simp [rng] at h1' h2'
  have w1 : IntKind.i64.wrap (x.last - x.base) = x.last - x.base := by rw [w64_id] <;> omega
  (repeat first | refine go_skip ?_ | refine go_b ?_)
  (intros; try refine go_st ?_); refine go_r 28 32 (by decide) ?_; (refine sJ2 c47r3.eq_1 @w1 ?_; try with_reducible exact True.intro)
  have hb5 : ∀ (fr : List Td) (e : Env) (L : List Kx.Item), ¬ Form x → go none Try.prog 131 v47.1 v47.2 (retQ o47 fun v h => v = .bool (decide (Form x))) (Td.s ((SC.reg false c47r5).seq .ret) :: fr) e ⟨G, L, []⟩ := fun fr e L hx => by
    (intros; try refine go_st ?_); refine go_r 0 0 (by decide) ?_; (refine sJ c47r5.eq_1 ?_; try with_reducible exact True.intro)
    (intros; try refine go_st ?_)
    refine go_ret (retQ_v rfl ?_); simp only [push_cast, Nat.reduceBEq]
    rw [decide_eq_false hx]
  have hb7 : ∀ (fr : List Td) (e : Env) (L : List Kx.Item), ¬ Form x → go none Try.prog 131 v47.1 v47.2 (retQ o47 fun v h => v = .bool (decide (Form x))) (Td.s ((SC.reg false c47r7).seq .ret) :: fr) e ⟨G, L, []⟩ := fun fr e L hx => by
    (intros; try refine go_st ?_); refine go_r 0 0 (by decide) ?_; (refine sJ c47r7.eq_1 ?_; try with_reducible exact True.intro)
    (intros; try refine go_st ?_)
    refine go_ret (retQ_v rfl ?_); simp only [push_cast, Nat.reduceBEq]
    rw [decide_eq_false hx]
  have hb9 : ∀ (fr : List Td) (e : Env) (L : List Kx.Item), ¬ Form x → go none Try.prog 131 v47.1 v47.2 (retQ o47 fun v h => v = .bool (decide (Form x))) (Td.s ((SC.reg false c47r9).seq .ret) :: fr) e ⟨G, L, []⟩ := fun fr e L hx => by
    (intros; try refine go_st ?_); refine go_r 0 0 (by decide) ?_; (refine sJ c47r9.eq_1 ?_; try with_reducible exact True.intro)
    (intros; try refine go_st ?_)
    refine go_ret (retQ_v rfl ?_); simp only [push_cast, Nat.reduceBEq]
    rw [decide_eq_false hx]
  have hb17 : ∀ (fr : List Td) (e : Env) (L : List Kx.Item), ¬ Form x → go none Try.prog 131 v47.1 v47.2 (retQ o47 fun v h => v = .bool (decide (Form x))) (Td.s ((SC.reg false c47r17).seq .ret) :: fr) e ⟨G, L, []⟩ := fun fr e L hx => by
    (intros; try refine go_st ?_); refine go_r 0 0 (by decide) ?_; (refine sJ c47r17.eq_1 ?_; try with_reducible exact True.intro)
    (intros; try refine go_st ?_)
    refine go_ret (retQ_v rfl ?_); simp only [push_cast, Nat.reduceBEq]
    rw [decide_eq_false hx]
  have w2 : ∀ (h : 0 ≤ x.last - x.base), IntKind.i64.wrap (x.src + (x.last - x.base)) = x.src + (x.last - x.base) := fun h => by rw [w64_id] <;> omega
  have w3 : ∀ (h : 0 ≤ x.last - x.base), IntKind.i64.wrap (x.seq + (x.last - x.base)) = x.seq + (x.last - x.base) := fun h => by rw [w64_id] <;> omega
  have w4 : IntKind.i64.wrap (x.gen + x.seq) = x.gen + x.seq := by rw [w64_id] <;> omega
  (intros; try refine go_st ?_); refine go_r 33 53 (by decide) ?_; (refine sJ c47r4.eq_1 ?_; try with_reducible exact True.intro)
  refine gd (fun h3 => ?_) (fun h3 => ?_)
  · (refine sI ?_; try with_reducible exact True.intro)
    (intros; try refine go_st ?_); refine go_c ?_; (refine sI ?_; try with_reducible exact True.intro)
    exact hb5 _ _ _ fun h => by have := of_decide_eq_true h3; have := h.2.2.1.1; omega
  have h3 := of_decide_eq_false h3
  (refine sI ?_; try with_reducible exact True.intro)
  refine gd (fun h4 => ?_) (fun h4 => ?_)
  · (refine sI ?_; try with_reducible exact True.intro)
    (intros; try refine go_st ?_); refine go_c ?_; (refine sI ?_; try with_reducible exact True.intro)
    exact hb5 _ _ _ fun h => by have := of_decide_eq_true h4; have := h.2.2.1.2.1; omega
  have h4 := of_decide_eq_false h4
  (refine sJ (w2 (by omega)) ?_; try with_reducible exact True.intro)
  refine gd (fun h5 => ?_) (fun h5 => ?_)
  · (refine sI ?_; try with_reducible exact True.intro)
    (intros; try refine go_st ?_); refine go_c ?_; (refine sI ?_; try with_reducible exact True.intro)
    exact hb5 _ _ _ fun h => by have := of_decide_eq_true h5; have := h.2.2.1.2.2.1; omega
  have h5 := of_decide_eq_false h5
  (refine sJ (w3 (by omega)) ?_; try with_reducible exact True.intro)
  (intros; try refine go_st ?_); refine go_c ?_; (refine sI ?_; try with_reducible exact True.intro)
  refine gb (fun h6 => ?_) (fun h6 => ?_)
  · exact hb5 _ _ _ fun h => by have := of_decide_eq_true h6; have := h.2.2.1.2.2.2; omega
  have h6 := of_decide_eq_false h6
  (intros; try refine go_st ?_); refine go_r 55 62 (by decide) ?_; (refine sJ c47r6.eq_1 ?_; try with_reducible exact True.intro)
  refine gd (fun h7 => ?_) (fun h7 => ?_)
  · (refine sI ?_; try with_reducible exact True.intro)
    (intros; try refine go_st ?_); refine go_c ?_; (refine sI ?_; try with_reducible exact True.intro)
    exact hb7 _ _ _ fun h => by have := of_decide_eq_true h7; have := h.2.2.2.1.1; omega
  have h7 := of_decide_eq_false h7
  (refine sI ?_; try with_reducible exact True.intro)
  (intros; try refine go_st ?_); refine go_c ?_; (refine sI ?_; try with_reducible exact True.intro)
  refine gb (fun h8 => ?_) (fun h8 => ?_)
  · exact hb7 _ _ _ fun h => by have := of_decide_eq_true h8; have := h.2.2.2.1.2; omega
  have h8 := of_decide_eq_false h8
  (intros; try refine go_st ?_); refine go_r 64 83 (by decide) ?_; (refine sJ c47r8.eq_1 ?_; try with_reducible exact True.intro)
  have hrest : ∀ (e : Env), (x.pid = -1 → x.gen = 0 ∧ x.seq = 0 ∧ x.txn = false ∧ x.ctl = 0) → e 3 = .int .i64 (x.last - x.base) →
      go none Try.prog 131 v47.1 v47.2 (retQ o47 fun v h => v = .bool (decide (Form x))) [Td.s (((SC.reg false c47r10).seq (SC.blk 1 ((SC.reg false c47r11).seq (SC.cond (O.t 85) ((SC.reg false c47r12).seq (((SC.reg false c47r13).seq (SC.blk 2 ((SC.reg false c47r14).seq ((SC.cond (O.t 93) SC.skip (SC.exit 2)).seq ((SC.blk 3 ((SC.reg false c47r15).seq (((SC.reg false c47r16).seq (SC.cond (O.t 111) ((SC.reg false c47r17).seq SC.ret) SC.skip)).seq (SC.reg false c47r18)))).seq (SC.reg false c47r19)))).loop)).seq ((SC.reg false c47r20).seq SC.ret))) (((SC.reg false c47r21).seq (SC.cond (O.t 116) SC.skip (SC.reg false c47r22))).seq (SC.cond (O.t 116) ((SC.reg false c47r23).seq SC.ret) SC.skip)))))).seq ((SC.reg false c47r24).seq SC.ret))] e ⟨G, [.reg 1 [.int .i64 x.base, .int .i64 x.last, .int .i64 x.src, .int .i64 x.epoch, .int .i64 x.pid, .int .i64 x.gen, .int .i64 x.seq, .bool x.txn, .int .i64 x.ctl, .slice A x.recs.length c]], []⟩ := fun e hpid e3 => by
    refine go_keep [3] ?_
    (refine sJ @e3 ?_; try with_reducible exact True.intro)
    (intros; try refine go_st ?_); refine go_r 0 0 (by decide) ?_; (refine sJ c47r10.eq_1 ?_; try with_reducible exact True.intro)
    (intros; try refine go_st ?_); refine go_r 86 87 (by decide) ?_; (refine sJ c47r11.eq_1 ?_; try with_reducible exact True.intro)
    (intros; try refine go_st ?_); refine go_c ?_; (refine sI ?_; try with_reducible exact True.intro)
    have hmk : ((x.ctl = 0 ∧ rowF x.last x.base x.recs = true) ∨ ((x.ctl = 1 ∨ x.ctl = 2) ∧ x.last - x.base = 0 ∧ x.recs = [] ∧ x.txn = true)) → Form x := fun h => ⟨h1, h2, ⟨by omega, by omega, by omega, by omega⟩, ⟨by omega, by omega⟩, hpid, h⟩
    refine gb (fun k1 => ?_) (fun k1 => ?_)
    · have k1 := of_decide_eq_true k1
      (intros; try refine go_st ?_); refine go_r 88 89 (by decide) ?_; (refine sJ c47r12.eq_1 ?_; try with_reducible exact True.intro)
      (intros; try refine go_st ?_); refine go_r 0 0 (by decide) ?_; (refine sJ c47r13.eq_1 ?_; try with_reducible exact True.intro)
      (intros; try refine go_st ?_)
      refine go_loop (fun e h => ∃ (k : Nat) (nx : Int), (k ≤ x.recs.length ∧ rowF x.last x.base x.recs = rowF x.last nx (x.recs.drop k)) ∧ e 92 = .int .i64 k ∧ e 91 = .int .i64 x.recs.length ∧ e 90 = .slice A x.recs.length c ∧ e 4 = .int .i64 nx ∧ h.G = G ∧ h.D = [] ∧ [.reg 1 [.int .i64 x.base, .int .i64 x.last, .int .i64 x.src, .int .i64 x.epoch, .int .i64 x.pid, .int .i64 x.gen, .int .i64 x.seq, .bool x.txn, .int .i64 x.ctl, .slice A x.recs.length c]].Sublist h.L) (fun e h => x.recs.length - iv (e 92)) ?_ ?_
      · exact ⟨0, x.base, ⟨Nat.zero_le _, rfl⟩, eE, eE, eE, eE, rfl, rfl, List.Sublist.refl _⟩
      · rintro e ⟨G', L, D⟩ ⟨k, nx, ⟨hk, hrow⟩, e92, e91, e90, e4, hG, hD, hL⟩
        dsimp only at hG hD hL
        subst hG hD
        refine go_ghost (ghost_sub hL) ?_
        refine go_keep [4, 90, 91, 92] ?_
        (refine sJ4 @e4 @e90 @e91 @e92 ?_; try with_reducible exact True.intro)
        (intros; try refine go_st ?_); refine go_r 0 0 (by decide) ?_; (refine sJ c47r14.eq_1 ?_; try with_reducible exact True.intro)
        (intros; try refine go_st ?_); refine go_c ?_; (refine sI ?_; try with_reducible exact True.intro)
        refine gb (fun ht => ?_) (fun ht => ?_)
        · have hkl : k < x.recs.length := by simpa using ht
          have hw3 := inc_i k c (by omega) hm
          obtain ⟨r, hr⟩ : ∃ r, x.recs[k]? = some r := ⟨x.recs[k], List.getElem?_eq_getElem (by omega)⟩
          have hdr : x.recs.drop k = r :: x.recs.drop (k + 1) := by
            have := List.getElem?_eq_some_iff.1 hr
            rw [List.drop_eq_getElem_cons hkl, this.2]
          rw [hdr] at hrow
          simp only [rowF] at hrow
          have hno : rowF x.last x.base x.recs = false → ¬ Form x := fun h h' => by
            rcases h'.2.2.2.2.2 with h9 | h9
            · rw [h] at h9; cases h9.2
            · omega
          (intros; try refine go_st ?_); refine go_r 94 96 (by decide) ?_; (refine sJ c47r15.eq_1 ?_; try with_reducible exact True.intro)
          refine hA.x_ld hr rfl rfl ?_
          rintro a1 ha1 cs ⟨rfl, ⟨j1, j2⟩, j3, j4⟩
          unfold cellR
          (refine sI ?_; try with_reducible exact True.intro)
          have hck := Check_ok r
          unfold cellR at hck
          (intros; try refine go_st ?_); refine go_r 96 111 (by decide) ?_; (refine sJ c47r16.eq_1 ?_; try with_reducible exact True.intro)
          refine (hck G' _ _).mono ?_; rintro _ _ ⟨rfl, rfl⟩; (refine sI ?_; try with_reducible exact True.intro)
          refine gd (fun k2 => ?_) (fun k2 => ?_)
          · (refine sI ?_; try with_reducible exact True.intro)
            (intros; try refine go_st ?_); refine go_c ?_; (refine sI ?_; try with_reducible exact True.intro)
            exact hb17 _ _ _ (hno (by rw [hrow]; simp at k2; simp [k2]))
          have k2 : chkR r = 0 := by simpa using k2
          (refine sI ?_; try with_reducible exact True.intro)
          refine gd (fun k3 => ?_) (fun k3 => ?_)
          · (refine sI ?_; try with_reducible exact True.intro)
            (intros; try refine go_st ?_); refine go_c ?_; (refine sI ?_; try with_reducible exact True.intro)
            exact hb17 _ _ _ (hno (by rw [hrow]; have := of_decide_eq_true k3; simp; omega))
          have k3 := of_decide_eq_false k3
          (refine sI ?_; try with_reducible exact True.intro)
          (intros; try refine go_st ?_); refine go_c ?_; (refine sI ?_; try with_reducible exact True.intro)
          refine gb (fun k4 => ?_) (fun k4 => ?_)
          · exact hb17 _ _ _ (hno (by rw [hrow]; have := of_decide_eq_true k4; simp; omega))
          have k4 := of_decide_eq_false k4
          have hoff := (chk_small k2).1.1
          simp [inO] at hoff
          have w5 : IntKind.i64.wrap (r.off + 1) = r.off + 1 := by rw [w64_id] <;> omega
          (repeat first | refine go_skip ?_ | refine go_b ?_)
          (intros; try refine go_st ?_); refine go_r 113 115 (by decide) ?_; (refine sJ2 c47r18.eq_1 @w5 ?_; try with_reducible exact True.intro)
          (intros; try refine go_st ?_); refine go_r 115 116 (by decide) ?_; (refine sJ2 c47r19.eq_1 @hw3 ?_; try with_reducible exact True.intro)
          (intros; try refine go_st ?_)
          refine go_l ⟨⟨k + 1, r.off + 1, ⟨by omega, by rw [hrow]; simp [k2]; omega⟩, eE, eE, eE, eE, rfl, rfl, .cons _ (List.Sublist.refl _)⟩, ?_⟩
          (refine sI ?_; try with_reducible exact True.intro)
          omega
        · have hkl : k = x.recs.length := by simp at ht; omega
          subst hkl
          refine go_exit ?_
          (refine sI ?_; try with_reducible exact True.intro)
          (intros; try refine go_st ?_); refine go_r 0 0 (by decide) ?_; (refine sJ c47r20.eq_1 ?_; try with_reducible exact True.intro)
          (intros; try refine go_st ?_)
          refine go_ret (retQ_v rfl ?_); simp only [push_cast, Nat.reduceBEq]
          rw [List.drop_length] at hrow
          rw [decide_eq_true (hmk (.inl ⟨k1, hrow⟩))]
    · have k1 := of_decide_eq_false k1
      have hb24 : ∀ (fr : List Td) (e : Env) (L : List Kx.Item), ¬ Form x → go none Try.prog 131 v47.1 v47.2 (retQ o47 fun v h => v = .bool (decide (Form x))) (Td.s ((SC.reg false c47r24).seq .ret) :: fr) e ⟨G, L, []⟩ := fun fr e L hx => by
        (intros; try refine go_st ?_); refine go_r 0 0 (by decide) ?_; (refine sJ c47r24.eq_1 ?_; try with_reducible exact True.intro)
        (intros; try refine go_st ?_)
        refine go_ret (retQ_v rfl ?_); simp only [push_cast, Nat.reduceBEq]
        rw [decide_eq_false hx]
      have hfin : ∀ (fr : List Td) (e : Env), (x.ctl = 1 ∨ x.ctl = 2) → e 3 = .int .i64 (x.last - x.base) → go none Try.prog 131 v47.1 v47.2 (retQ o47 fun v h => v = .bool (decide (Form x))) (Td.s ((SC.reg false c47r23).seq .ret) :: fr) e ⟨G, [.reg 1 [.int .i64 x.base, .int .i64 x.last, .int .i64 x.src, .int .i64 x.epoch, .int .i64 x.pid, .int .i64 x.gen, .int .i64 x.seq, .bool x.txn, .int .i64 x.ctl, .slice A x.recs.length c]], []⟩ := fun fr e hc12 e3 => by
        refine go_keep [3] ?_
        (refine sJ @e3 ?_; try with_reducible exact True.intro)
        have hnf : ∀ (_ : ¬ (x.last - x.base = 0 ∧ x.recs = [] ∧ x.txn = true)), decide (Form x) = false := fun hn => decide_eq_false fun h => by
          rcases h.2.2.2.2.2 with h9 | h9
          · exact k1 h9.1
          · exact hn h9.2
        (intros; try refine go_st ?_); refine go_r 119 131 (by decide) ?_; (refine sJ c47r23.eq_1 ?_; try with_reducible exact True.intro)
        refine gd (fun k2 => ?_) (fun k2 => ?_)
        · have k2 := of_decide_eq_true k2
          (refine sI ?_; try with_reducible exact True.intro)
          refine gd (fun k3 => ?_) (fun k3 => ?_)
          · have k3 : x.recs = [] := by have := of_decide_eq_true k3; exact List.eq_nil_of_length_eq_zero (by omega)
            (refine sI ?_; try with_reducible exact True.intro)
            (intros; try refine go_st ?_)
            refine go_ret (retQ_v rfl ?_); simp only [push_cast, Nat.reduceBEq]
            cases ht : x.txn with
            | false => rw [hnf fun h => by rw [ht] at h; cases h.2.2]
            | true => rw [decide_eq_true (hmk (.inr ⟨hc12, k2, k3, ht⟩))]
          · have k3 := of_decide_eq_false k3
            (refine sI ?_; try with_reducible exact True.intro)
            (intros; try refine go_st ?_)
            refine go_ret (retQ_v rfl ?_); simp only [push_cast, Nat.reduceBEq]
            rw [hnf fun h => k3 (by rw [h.2.1]; rfl)]
        · have k2 := of_decide_eq_false k2
          (refine sI ?_; try with_reducible exact True.intro)
          (intros; try refine go_st ?_)
          refine go_ret (retQ_v rfl ?_); simp only [push_cast, Nat.reduceBEq]
          rw [hnf fun h => k2 h.1]
      (intros; try refine go_st ?_); refine go_r 117 118 (by decide) ?_; (refine sJ c47r21.eq_1 ?_; try with_reducible exact True.intro)
      (intros; try refine go_st ?_); refine go_c ?_; (refine sI ?_; try with_reducible exact True.intro)
      refine gb (fun k2 => ?_) (fun k2 => ?_)
      · (repeat first | refine go_skip ?_ | refine go_b ?_)
        (intros; try refine go_st ?_); refine go_c ?_; (refine sI ?_; try with_reducible exact True.intro)
        refine gb (fun _ => ?_) (fun h => by rw [k2] at h; cases h)
        refine hfin _ _ (.inl (of_decide_eq_true k2)) ?_
        (refine sI ?_; try with_reducible exact True.intro)
      · have k2 := of_decide_eq_false k2
        (intros; try refine go_st ?_); refine go_r 118 119 (by decide) ?_; (refine sJ c47r22.eq_1 ?_; try with_reducible exact True.intro)
        (intros; try refine go_st ?_); refine go_c ?_; (refine sI ?_; try with_reducible exact True.intro)
        refine gb (fun k3 => ?_) (fun k3 => ?_)
        · refine hfin _ _ (.inr (of_decide_eq_true k3)) ?_
          (refine sI ?_; try with_reducible exact True.intro)
        · have k3 := of_decide_eq_false k3
          (repeat first | refine go_skip ?_ | refine go_b ?_)
          refine hb24 _ _ _ fun h => ?_
          rcases h.2.2.2.2.2 with h9 | h9
          · exact k1 h9.1
          · rcases h9.1 with h9 | h9
            · exact k2 h9
            · exact k3 h9
  refine gd (fun h9 => ?_) (fun h9 => ?_)
  · have h9 := of_decide_eq_true h9
    (refine sJ @w4 ?_; try with_reducible exact True.intro)
    refine gd (fun h10 => ?_) (fun h10 => ?_)
    · (refine sI ?_; try with_reducible exact True.intro)
      (intros; try refine go_st ?_); refine go_c ?_; (refine sI ?_; try with_reducible exact True.intro)
      exact hb9 _ _ _ fun h => by have := of_decide_eq_true h10; have := h.2.2.2.2.1 h9; omega
    have h10 := of_decide_eq_false h10
    (refine sI ?_; try with_reducible exact True.intro)
    refine gd (fun h11 => ?_) (fun h11 => ?_)
    · (refine sI ?_; try with_reducible exact True.intro)
      (intros; try refine go_st ?_); refine go_c ?_; (refine sI ?_; try with_reducible exact True.intro)
      exact hb9 _ _ _ fun h => by have := (h.2.2.2.2.1 h9).2.2.1; rw [h11] at this; cases this
    (refine sI ?_; try with_reducible exact True.intro)
    (intros; try refine go_st ?_); refine go_c ?_; (refine sI ?_; try with_reducible exact True.intro)
    refine gb (fun h12 => ?_) (fun h12 => ?_)
    · exact hb9 _ _ _ fun h => by have := of_decide_eq_true h12; have := (h.2.2.2.2.1 h9).2.2.2; omega
    have h12 := of_decide_eq_false h12
    (repeat first | refine go_skip ?_ | refine go_b ?_)
    refine go_ghost (ghost_sub (.cons _ (.cons _ (List.Sublist.refl _)))) ?_
    refine hrest _ (fun _ => ⟨by omega, by omega, h11, by omega⟩) ?_
    (refine sI ?_; try with_reducible exact True.intro)
  · have h9 := of_decide_eq_false h9
    (refine sI ?_; try with_reducible exact True.intro)
    (intros; try refine go_st ?_); refine go_c ?_; (refine sI ?_; try with_reducible exact True.intro)
    (repeat first | refine go_skip ?_ | refine go_b ?_)
    refine go_ghost (ghost_sub (.cons _ (.cons _ (List.Sublist.refl _)))) ?_
    refine hrest _ (fun h => absurd h h9) ?_
    (refine sI ?_; try with_reducible exact True.intro)
end Go.Proofs.Ytfhheomeebejnaa

/- Bytes, part 5 of a proof: a sum's steps. No condition. -/
set_option linter.unusedSimpArgs false
set_option linter.unusedVariables false
namespace Go.Proofs.Ytfhheomeebejnaa
open Go Go.Kx

abbrev W32 := BitVec 32
def vW (v : W32) : Value := .int .u32 (v.toNat : Int)
def poly : W32 := 3988292384#32
def stp (v : W32) : W32 := (v >>> 1) ^^^ (if v.getLsbD 0 = true then poly else 0#32)
def stpN : Nat → W32 → W32
  | 0, v => v
  | n + 1, v => stp (stpN n v)
theorem stp_xor (a b : W32) : stp (a ^^^ b) = stp a ^^^ stp b := by
  unfold stp
  rw [BitVec.ushiftRight_xor_distrib, BitVec.getLsbD_xor]
  generalize a >>> 1 = x
  generalize b >>> 1 = y
  cases a.getLsbD 0 <;> cases b.getLsbD 0 <;> simp
  · rw [BitVec.xor_assoc]
  · rw [BitVec.xor_assoc, BitVec.xor_assoc, BitVec.xor_comm poly y]
  · rw [BitVec.xor_assoc, BitVec.xor_comm poly (y ^^^ poly), BitVec.xor_assoc, BitVec.xor_self, BitVec.xor_zero]
theorem stpN_xor (a b : W32) : ∀ n, stpN n (a ^^^ b) = stpN n a ^^^ stpN n b
  | 0 => rfl
  | n + 1 => by rw [stpN, stpN_xor a b n, stp_xor]; rfl
theorem stp_even {v : W32} (h : v.getLsbD 0 = false) : stp v = v >>> 1 := by rw [stp, if_neg (by rw [h]; simp), BitVec.xor_zero]
theorem stpN_low {v : W32} : ∀ n, (∀ i, i < n → v.getLsbD i = false) → stpN n v = v >>> n
  | 0, _ => by simp [stpN]
  | n + 1, h => by
    rw [stpN, stpN_low n fun i hi => h i (by omega), stp_even (by rw [BitVec.getLsbD_ushiftRight]; exact h _ (by omega))]
    rw [BitVec.shiftRight_add]
theorem stp_four (v : W32) : stpN 4 v = stpN 4 (v &&& 15#32) ^^^ (v >>> 4) := by
  have h1 : v = (v &&& 15#32) ^^^ (v &&& ~~~15#32) := by
    apply BitVec.eq_of_getLsbD_eq
    intro i hi
    simp only [BitVec.getLsbD_xor, BitVec.getLsbD_and, BitVec.getLsbD_not]
    cases v.getLsbD i <;> cases (15#32).getLsbD i <;> simp [hi]
  have h2 : stpN 4 (v &&& ~~~15#32) = v >>> 4 := by
    rw [stpN_low 4]
    · apply BitVec.eq_of_getLsbD_eq
      intro i hi
      simp only [BitVec.getLsbD_ushiftRight, BitVec.getLsbD_and, BitVec.getLsbD_not]
      by_cases h : 4 + i < 32
      · have : (15#32).getLsbD (4 + i) = false := by
          rw [BitVec.getLsbD_ofNat]
          have : Nat.testBit 15 (4 + i) = false := Nat.testBit_lt_two_pow (Nat.lt_of_lt_of_le (by decide : 15 < 2 ^ 4) (Nat.pow_le_pow_right (by decide) (by omega)))
          simp [this]
        rw [this]
        simp only [h, decide_true, Bool.not_false, Bool.and_true]
      · rw [BitVec.getLsbD_of_ge v (4 + i) (by omega)]
        simp
    · intro i hi
      have : (15#32).getLsbD i = true := by
        match i, hi with
        | 0, _ => rfl
        | 1, _ => rfl
        | 2, _ => rfl
        | 3, _ => rfl
      rw [BitVec.getLsbD_and, BitVec.getLsbD_not, this]
      simp
  conv => lhs; rw [h1, stpN_xor, h2]
theorem stpN_add (v : W32) : ∀ m n, stpN (m + n) v = stpN m (stpN n v)
  | 0, n => by rw [Nat.zero_add]; rfl
  | m + 1, n => by rw [Nat.succ_add, stpN, stpN_add v m n]; rfl
def ofB (b : UInt8) : W32 := BitVec.ofNat 32 b.toNat
/-- One byte. -/
def upd (v : W32) (c : UInt8) : W32 := stpN 8 (v ^^^ ofB c)
def half4 (v : W32) : W32 := stpN 4 (v &&& 15#32) ^^^ (v >>> 4)
theorem upd_eq (v : W32) (c : UInt8) : upd v c = half4 (half4 (v ^^^ ofB c)) := by
  rw [half4, ← stp_four, half4, ← stp_four, ← stpN_add]
  rfl
/-- A sum. -/
def crcB (l : List UInt8) : W32 := ~~~ (l.foldl upd 4294967295#32)
/-! The operations. -/
theorem ofW (a : W32) : BitVec.ofInt 32 (a.toNat : Int) = a := by
  rw [BitVec.ofInt_natCast, BitVec.ofNat_toNat]
  simp
theorem wrapW (a : W32) : IntKind.u32.wrap (a.toNat : Int) = (a.toNat : Int) := by
  have := a.isLt
  simp only [IntKind.wrap, IntKind.bits, IntKind.signed]
  simp
  omega
theorem bin_xorW (a b : W32) : binV .xor (vW a) (vW b) = some (vW (a ^^^ b)) := by
  simp only [binV, vW]
  rw [if_pos trivial]
  have : (BitVec.ofInt IntKind.u32.bits (a.toNat : Int) ^^^ BitVec.ofInt IntKind.u32.bits (b.toNat : Int)).toNat = (a ^^^ b).toNat := by
    show (BitVec.ofInt 32 (a.toNat : Int) ^^^ BitVec.ofInt 32 (b.toNat : Int)).toNat = _
    rw [ofW, ofW]
  rw [this, wrapW]
theorem bin_andW (a b : W32) : binV .and (vW a) (vW b) = some (vW (a &&& b)) := by
  simp only [binV, vW]
  rw [if_pos trivial]
  have : (BitVec.ofInt IntKind.u32.bits (a.toNat : Int) &&& BitVec.ofInt IntKind.u32.bits (b.toNat : Int)).toNat = (a &&& b).toNat := by
    show (BitVec.ofInt 32 (a.toNat : Int) &&& BitVec.ofInt 32 (b.toNat : Int)).toNat = _
    rw [ofW, ofW]
  rw [this, wrapW]
theorem bin_shrW (a : W32) (k : Nat) (hk : k ≤ 32) : binV .shr (vW a) (.int .u64 (k : Int)) = some (vW (a >>> k)) := by
  simp only [binV, vW]
  rw [if_pos (by omega)]
  congr 2
  have h1 : min ((k : Int)).toNat IntKind.u32.bits = k := by simp [IntKind.bits]; omega
  rw [h1, BitVec.toNat_ushiftRight, Nat.shiftRight_eq_div_pow]
  rw [Int.fdiv_eq_ediv_of_nonneg _ (by exact_mod_cast Nat.zero_le _)]
  exact_mod_cast rfl
theorem u8_32 (c : UInt8) : Value.int .u32 (IntKind.u32.wrap (c.toNat : Int)) = vW (ofB c) := by
  have h := c.toNat_lt
  have h2 : (ofB c).toNat = c.toNat := by simp [ofB]
  have := wrapW (ofB c)
  rw [h2] at this
  rw [vW, h2, this]
theorem F102 : Fun Try.prog 102 14 v102 c102 o102 := Fun.mk' Try.func102 Try.ntmps102 (by kernel_rfl) (by kernel_rfl) s102 q102
theorem bit0 (v : W32) : v.getLsbD 0 = true ↔ v.toNat % 2 = 1 := by
  rw [BitVec.getLsbD, Nat.testBit_zero]
  simp
end Go.Proofs.Ytfhheomeebejnaa

/- Bytes, part 6 of a proof: sums. No condition. -/
set_option linter.unusedSimpArgs false
set_option linter.unusedVariables false
namespace Go.Proofs.Ytfhheomeebejnaa
open Go Go.Kx
theorem F93 : Fun Try.prog 93 13 v93 c93 o93 := Fun.mk' Try.func93 Try.ntmps93 (by kernel_rfl) (by kernel_rfl) s93 q93
theorem F103 : Fun Try.prog 103 24 v103 c103 o103 := Fun.mk' Try.func103 Try.ntmps103 (by kernel_rfl) (by kernel_rfl) s103 q103
theorem F81 : Fun Try.prog 81 21 v81 c81 o81 := Fun.mk' Try.func81 Try.ntmps81 (by kernel_rfl) (by kernel_rfl) s81 q81
theorem bin_and1 (v : W32) : binV .and (vW v) (.int .u32 1) = some (vW (v &&& 1#32)) := bin_andW v 1#32
theorem bin_and15 (v : W32) : binV .and (vW v) (.int .u32 15) = some (vW (v &&& 15#32)) := bin_andW v 15#32
theorem bin_Pand (v : W32) : binV .and (.int .u32 3988292384) (vW v) = some (vW (poly &&& v)) := bin_andW poly v
theorem bin_shr1 (v : W32) : binV .shr (vW v) (.int .u64 1) = some (vW (v >>> 1)) := bin_shrW v 1 (by omega)
theorem bin_shr4 (v : W32) : binV .shr (vW v) (.int .u64 4) = some (vW (v >>> 4)) := bin_shrW v 4 (by omega)
theorem un_negW (v : W32) : unV .neg (vW v) = some (vW (-v)) := by
  have := v.isLt
  simp only [unV, vW]
  congr 2
  rw [BitVec.toNat_neg]
  simp only [IntKind.wrap, IntKind.bits, IntKind.signed]
  simp
  omega
theorem un_notW (v : W32) : unV .xor (vW v) = some (vW (~~~v)) := by
  simp only [unV, vW]
  have : (BitVec.ofInt IntKind.u32.bits (if IntKind.u32.signed = true then -1 else IntKind.u32.max) ^^^ BitVec.ofInt IntKind.u32.bits (v.toNat : Int)).toNat = (~~~v).toNat := by
    show (BitVec.ofInt 32 4294967295 ^^^ BitVec.ofInt 32 (v.toNat : Int)).toNat = _
    have h1 : BitVec.ofInt 32 4294967295 = BitVec.allOnes 32 := by decide
    rw [ofW, h1, BitVec.allOnes_xor]
  rw [this, wrapW]
theorem stp_and (v : W32) : (v >>> 1) ^^^ (poly &&& -(v &&& 1#32)) = stp v := by
  have h1 : v &&& 1#32 = if v.getLsbD 0 = true then 1#32 else 0#32 := by
    apply BitVec.eq_of_toNat_eq
    rw [BitVec.toNat_and]
    have : (1#32).toNat = 1 := rfl
    rw [this, Nat.and_one_is_mod]
    by_cases h : v.getLsbD 0 = true
    · rw [if_pos h, (bit0 v).1 h]; rfl
    · rw [if_neg h]
      have h3 : ¬ v.toNat % 2 = 1 := fun h9 => h ((bit0 v).2 h9)
      have h2 : v.toNat % 2 = 0 := by omega
      rw [h2]
      rfl
  rw [h1, stp]
  by_cases h : v.getLsbD 0 = true
  · rw [if_pos h, if_pos h]
    have : poly &&& -1#32 = poly := by decide
    rw [this]
  · rw [if_neg h, if_neg h]
    have : poly &&& -0#32 = 0#32 := by decide
    rw [this]
theorem half_ok (v : W32) (G : Nat → Option Obj) : FnS Try.prog 102 #[vW v] G (vW (stpN 4 v)) := by
  refine F102.fnS (by simp) (go_of ?_)
  unfold c102
  (intros; try refine go_st ?_); refine go_r 0 0 (by decide) ?_; (refine sJ c102r0.eq_1 ?_; try with_reducible exact True.intro)
  (intros; try refine go_st ?_); refine go_r 0 0 (by decide) ?_; (refine sJ c102r1.eq_1 ?_; try with_reducible exact True.intro)
  (intros; try refine go_st ?_)
  refine go_loop (fun e h => ∃ k : Nat, k ≤ 4 ∧ e 3 = .int .i64 k ∧ e 0 = vW (stpN k v) ∧ h = ⟨G, [], []⟩) (fun e h => 4 - iv (e 3)) ?_ ?_
  · exact ⟨0, Nat.zero_le _, eE, by (refine sI ?_; try with_reducible exact True.intro); rfl, rfl⟩
  · rintro e h ⟨k, hk, e3, e0, rfl⟩
    refine go_keep [0, 3] ?_
    (refine sJ2 @e0 @e3 ?_; try with_reducible exact True.intro)
    (intros; try refine go_st ?_); refine go_r 0 0 (by decide) ?_; (refine sJ c102r2.eq_1 ?_; try with_reducible exact True.intro)
    (intros; try refine go_st ?_); refine go_c ?_; (refine sI ?_; try with_reducible exact True.intro)
    refine gb (fun h1 => ?_) (fun h1 => ?_)
    · have hkn : k < 4 := by simp at h1; omega
      have hw3 := inc_i k 4 (by omega) (by unfold maxLen; omega)
      (intros; try refine go_st ?_); refine go_r 5 12 (by decide) ?_; (refine sJ7 c102r3.eq_1 @bin_shr1 @bin_and1 @un_negW @bin_Pand @bin_xorW @stp_and ?_; try with_reducible exact True.intro)
      (intros; try refine go_st ?_); refine go_r 12 13 (by decide) ?_; (refine sJ2 c102r4.eq_1 @hw3 ?_; try with_reducible exact True.intro)
      (intros; try refine go_st ?_)
      refine go_l ⟨⟨k + 1, by omega, eE, by (refine sI ?_; try with_reducible exact True.intro); rfl, rfl⟩, ?_⟩
      (refine sI ?_; try with_reducible exact True.intro)
      omega
    · have hkn : k = 4 := by simp at h1; omega
      subst hkn
      refine go_exit ?_
      (refine sI ?_; try with_reducible exact True.intro)
      (intros; try refine go_st ?_); refine go_r 13 14 (by decide) ?_; (refine sJ c102r5.eq_1 ?_; try with_reducible exact True.intro)
      (intros; try refine go_st ?_)
      refine go_ret (retQ_v rfl ?_); simp only [push_cast, Nat.reduceBEq]
/-- The table. -/
def TabAt (G : Nat → Option Obj) (v : Value) : Prop := ∃ b, v = .pointer (some ⟨b, 0, none⟩) ∧ ∀ i : Nat, i < 16 → cellG G ⟨b, i, none⟩ = some (vW (stpN 4 (BitVec.ofNat 32 i)))
theorem TabAt.le {G G' : Nat → Option Obj} {v : Value} (h : TabAt G v) (hg : Gle G G') : TabAt G' v := by
  obtain ⟨b, h1, h2⟩ := h
  exact ⟨b, h1, fun i hi => cellG_le hg (h2 i hi)⟩
theorem and15 (v : W32) : (v &&& 15#32).toNat < 16 ∧ BitVec.ofNat 32 (v &&& 15#32).toNat = v &&& 15#32 := by
  refine ⟨?_, by simp⟩
  rw [BitVec.toNat_and]
  exact Nat.lt_of_le_of_lt Nat.and_le_right (by decide)
theorem ix_W {b n : Nat} {v : W32} (h : v.toNat < n) : ixPV n 1 (.pointer (some ⟨b, 0, none⟩)) (vW v) = some (.pointer (some ⟨b, v.toNat, none⟩)) := by
  simp only [ixPV, vW]
  rw [if_pos ⟨by omega, by omega⟩]
  simp [add_off]
theorem add_ok (v : W32) (c : UInt8) (p : Value) (G : Nat → Option Obj) (hp : TabAt G p) : FnS Try.prog 103 #[vW v, .int .u8 (c.toNat : Int), p] G (vW (upd v c)) := by
  obtain ⟨b, rfl, ht⟩ := hp
  refine F103.fnS (by simp) (go_of ?_)
  unfold c103
  (intros; try refine go_st ?_); refine go_r 0 0 (by decide) ?_; (refine sJ c103r0.eq_1 ?_; try with_reducible exact True.intro)
  (intros; try refine go_st ?_); refine go_r 6 10 (by decide) ?_; (refine sJ3 c103r1.eq_1 @u8_32 @bin_xorW ?_; try with_reducible exact True.intro)
  rw [upd_eq]
  generalize v ^^^ ofB c = x
  obtain ⟨g1, g2⟩ := and15 x
  (intros; try refine go_st ?_); refine go_r 10 17 (by decide) ?_; (try simp -implicitDefEqProofs only [kR_e, kQ_e, push_cast, Nat.reduceBEq, Nat.reduceAdd, Nat.reduceSub, Nat.reduceMul, Nat.reduceLT, Nat.reduceLeDiff, Nat.reduceEqDiff, reduceIte, Bool.not_true, Bool.not_false, true_and, and_true, Option.map_some, Option.bind_some, Int.toNat_natCast, c103r2, bin_and15, ix_W g1])
  refine ⟨_, ⟨_, rfl, .g (ht _ g1)⟩, ?_⟩
  rw [g2]
  (refine sJ2 @bin_shr4 @bin_xorW ?_; try with_reducible exact True.intro)
  rw [← half4]
  generalize half4 x = y
  obtain ⟨k1, k2⟩ := and15 y
  (intros; try refine go_st ?_); refine go_r 17 24 (by decide) ?_; (try simp -implicitDefEqProofs only [kR_e, kQ_e, push_cast, Nat.reduceBEq, Nat.reduceAdd, Nat.reduceSub, Nat.reduceMul, Nat.reduceLT, Nat.reduceLeDiff, Nat.reduceEqDiff, reduceIte, Bool.not_true, Bool.not_false, true_and, and_true, Option.map_some, Option.bind_some, Int.toNat_natCast, c103r3, bin_and15, ix_W k1])
  refine ⟨_, ⟨_, rfl, .g (ht _ k1)⟩, ?_⟩
  rw [k2]
  (refine sJ2 @bin_shr4 @bin_xorW ?_; try with_reducible exact True.intro)
  (intros; try refine go_st ?_)
  refine go_ret (retQ_v rfl ?_); simp only [push_cast, Nat.reduceBEq]
  rfl
theorem splice1 {cs : List Value} {o : Nat} (x : Value) (h : o < cs.length) : splice cs o [x] = cs.set o x := by
  rw [splice, List.set_eq_take_append_cons_drop, if_pos h]
  simp
theorem adder_ok (G : Nat → Option Obj) : FnD Try.prog 93 #[] G (fun G' r => ∃ p, r = .func (.func 103) #[] #[p] ∧ TabAt G' p) := by
  refine F93.fnD (by simp) (go_of ?_)
  unfold c93
  (intros; try refine go_st ?_); refine go_r 0 0 (by decide) ?_; (refine sJ c93r0.eq_1 ?_; try with_reducible exact True.intro)
  (intros; try refine go_st ?_); refine go_r 0 0 (by decide) ?_; (refine sJ c93r1.eq_1 ?_; try with_reducible exact True.intro)
  intro b hb
  (refine sI ?_; try with_reducible exact True.intro)
  (intros; try refine go_st ?_); refine go_r 0 0 (by decide) ?_; (refine sJ c93r2.eq_1 ?_; try with_reducible exact True.intro)
  (intros; try refine go_st ?_)
  refine go_loop (fun e h => ∃ (k : Nat) (cs : List Value), (k ≤ 16 ∧ cs.length = 16 ∧ ∀ i, i < k → cs[i]? = some (vW (stpN 4 (BitVec.ofNat 32 i)))) ∧ e 3 = .int .i64 k ∧ e 1 = .pointer (some ⟨b, 0, none⟩) ∧ h = ⟨G, [.blk b cs], []⟩) (fun e h => 16 - iv (e 3)) ?_ ?_
  · exact ⟨0, _, ⟨Nat.zero_le _, rfl, fun i hi => by omega⟩, eE, eE, rfl⟩
  · rintro e h ⟨k, cs, ⟨hk, hl, ht⟩, e3, e1, rfl⟩
    refine go_keep [1, 3] ?_
    (refine sJ2 @e1 @e3 ?_; try with_reducible exact True.intro)
    (intros; try refine go_st ?_); refine go_r 0 0 (by decide) ?_; (refine sJ c93r3.eq_1 ?_; try with_reducible exact True.intro)
    (intros; try refine go_st ?_); refine go_c ?_; (refine sI ?_; try with_reducible exact True.intro)
    refine gb (fun h1 => ?_) (fun h1 => ?_)
    · have hkn : k < 16 := by simp at h1; omega
      have hw3 := inc_i k 16 (by omega) (by unfold maxLen; omega)
      have hkw : Value.int .u32 (IntKind.u32.wrap (k : Int)) = vW (BitVec.ofNat 32 k) := by
        have h2 : (BitVec.ofNat 32 k).toNat = k := by simp; omega
        have := wrapW (BitVec.ofNat 32 k)
        rw [h2] at this
        rw [vW, h2, this]
      (intros; try refine go_st ?_); refine go_r 5 6 (by decide) ?_; (refine sJ c93r4.eq_1 ?_; try with_reducible exact True.intro)
      (intros; try refine go_st ?_); refine go_r 6 11 (by decide) ?_; (refine sJ2 c93r5.eq_1 @hkw ?_; try with_reducible exact True.intro)
      refine (half_ok (BitVec.ofNat 32 k) G _ _).mono ?_; rintro _ _ ⟨rfl, rfl⟩; (refine sI ?_; try with_reducible exact True.intro)
      refine ⟨by omega, ?_⟩
      refine stX_blk (xs := [vW (stpN 4 (BitVec.ofNat 32 k))]) [] [] rfl (by simp; omega) ⟨rfl, rfl⟩ ?_
      rw [splice1 _ (by omega), show 0 + k * 1 = k by omega]
      (refine sI ?_; try with_reducible exact True.intro)
      (intros; try refine go_st ?_); refine go_r 11 12 (by decide) ?_; (refine sJ2 c93r6.eq_1 @hw3 ?_; try with_reducible exact True.intro)
      (intros; try refine go_st ?_)
      refine go_l ⟨⟨k + 1, _, ⟨by omega, by simp [hl], fun i hi => ?_⟩, eE, eE, rfl⟩, ?_⟩
      · rw [List.getElem?_set]
        by_cases hik : k = i
        · rw [if_pos hik, if_pos (by omega), ← hik]
        · rw [if_neg hik]; exact ht i (by omega)
      · (refine sI ?_; try with_reducible exact True.intro)
        omega
    · have hkn : k = 16 := by simp at h1; omega
      subst hkn
      refine go_exit ?_
      (refine sI ?_; try with_reducible exact True.intro)
      (intros; try refine go_st ?_); refine go_r 12 13 (by decide) ?_; (refine sJ c93r7.eq_1 ?_; try with_reducible exact True.intro)
      (intros; try refine go_st ?_)
      refine go_gx (gx_blk_at [] []) ?_
      rintro h' ⟨G2, rfl, hg2, hc⟩
      refine go_ret (retQ_v rfl ?_); simp only [push_cast, Nat.reduceBEq]
      exact ⟨_, rfl, b, rfl, fun i hi => by simpa [add_off] using hc i _ (ht i hi)⟩
theorem fold_succ {l : List UInt8} {k : Nat} {x : UInt8} (hx : l[k]? = some x) (v : W32) : (l.take (k + 1)).foldl upd v = upd ((l.take k).foldl upd v) x := by
  have hk := List.getElem?_eq_some_iff.1 hx
  rw [List.take_succ_eq_append_getElem hk.1, hk.2]
  simp
theorem Sum_ok (l : List UInt8) (v : Value) (G : Nat → Option Obj) (hl : SB G v l) : FnD Try.prog 81 #[v] G (fun _ r => r = vW (crcB l)) := by
  refine F81.fnD (by simp) (go_of ?_)
  obtain ⟨A, c, rfl, hc, hm, hA⟩ := hl
  unfold c81
  (intros; try refine go_st ?_); refine go_r 0 0 (by decide) ?_; (refine sJ c81r0.eq_1 ?_; try with_reducible exact True.intro)
  (intros; try refine go_st ?_); refine go_r 7 8 (by decide) ?_; (refine sJ c81r1.eq_1 ?_; try with_reducible exact True.intro)
  refine (adder_ok G _ []).mono ?_
  rintro r h' ⟨G1, rfl, hg1, p, rfl, hp⟩
  (refine sI ?_; try with_reducible exact True.intro)
  have hA1 := hA.le hg1 (E' := UE) fun _ _ h => h
  (intros; try refine go_st ?_); refine go_r 0 0 (by decide) ?_; (refine sJ c81r2.eq_1 ?_; try with_reducible exact True.intro)
  (intros; try refine go_st ?_); refine go_r 0 0 (by decide) ?_; (refine sJ c81r3.eq_1 ?_; try with_reducible exact True.intro)
  (intros; try refine go_st ?_)
  refine go_loop (fun e h => ∃ k : Nat, k ≤ l.length ∧ e 10 = .int .i64 k ∧ e 9 = .int .i64 l.length ∧ e 8 = .slice A l.length c ∧ e 3 = .func (.func 103) #[] #[p] ∧ e 4 = vW ((l.take k).foldl upd 4294967295#32) ∧ h = ⟨G1, [], []⟩) (fun e h => l.length - iv (e 10)) ?_ ?_
  · exact ⟨0, Nat.zero_le _, eE, eE, eE, eE, by (refine sI ?_; try with_reducible exact True.intro); rfl, rfl⟩
  · rintro e h ⟨k, hk, e10, e9, e8, e3, e4, rfl⟩
    refine go_keep [3, 4, 8, 9, 10] ?_
    (refine sJ5 @e3 @e4 @e8 @e9 @e10 ?_; try with_reducible exact True.intro)
    (intros; try refine go_st ?_); refine go_r 0 0 (by decide) ?_; (refine sJ c81r4.eq_1 ?_; try with_reducible exact True.intro)
    (intros; try refine go_st ?_); refine go_c ?_; (refine sI ?_; try with_reducible exact True.intro)
    refine gb (fun h1 => ?_) (fun h1 => ?_)
    · have hkn : k < l.length := by simpa using h1
      have hw3 := inc_i k c (by omega) hm
      obtain ⟨x, hx⟩ : ∃ x, l[k]? = some x := ⟨l[k], List.getElem?_eq_getElem (by omega)⟩
      (intros; try refine go_st ?_); refine go_r 12 14 (by decide) ?_; (refine sJ c81r5.eq_1 ?_; try with_reducible exact True.intro)
      refine hA1.x_l1 hx rfl rfl ?_
      rintro a1 ha1 u1 hu
      cases hu
      (refine sI ?_; try with_reducible exact True.intro)
      (intros; try refine go_st ?_); refine go_r 14 18 (by decide) ?_; (refine sJ c81r6.eq_1 ?_; try with_reducible exact True.intro)
      refine .inl ⟨_, _, rfl, (add_ok _ x p G1 hp _ _).mono ?_⟩
      rintro _ _ ⟨rfl, rfl⟩
      (refine sI ?_; try with_reducible exact True.intro)
      (intros; try refine go_st ?_); refine go_r 18 19 (by decide) ?_; (refine sJ2 c81r7.eq_1 @hw3 ?_; try with_reducible exact True.intro)
      (intros; try refine go_st ?_)
      refine go_l ⟨⟨k + 1, by omega, eE, eE, eE, eE, by rw [fold_succ hx]; (refine sI ?_; try with_reducible exact True.intro), rfl⟩, ?_⟩
      (refine sI ?_; try with_reducible exact True.intro)
      omega
    · have hkn : k = l.length := by simp at h1; omega
      subst hkn
      refine go_exit ?_
      (refine sI ?_; try with_reducible exact True.intro)
      (intros; try refine go_st ?_); refine go_r 19 21 (by decide) ?_; (refine sJ2 c81r8.eq_1 @un_notW ?_; try with_reducible exact True.intro)
      (intros; try refine go_st ?_)
      refine go_ret (retQ_v rfl ?_); simp only [push_cast, Nat.reduceBEq]
      rw [List.take_length]
      rfl
end Go.Proofs.Ytfhheomeebejnaa

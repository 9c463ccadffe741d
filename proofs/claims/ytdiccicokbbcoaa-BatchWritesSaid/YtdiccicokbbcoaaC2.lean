/- The code of the functions, types resolved, as a program of the prover reads it off the translation; each is held by the kernel. No condition. -/
import Derived.Test.YtdiccicokbbcoaaRows
import Derived.Test.YtdiccicokbbcoaaKo
namespace Go.Proofs.Ytdiccicokbbcoaa
open Go Go.Kx
-- watermeet/watermeetref02.four N=15
def c63r0 : List SI := [
  ⟨none, .mv 2 (.v (.slice none 0 0)), none, 0⟩]
def c63r1 : List SI := [
  ⟨none, .mv 3 (.t 0), none, 0⟩,
  ⟨none, .bin 4 .quo (.t 3) (.v (.int .u32 16777216)), none, 0⟩,
  ⟨none, .cvI 5 .u8 (.t 4), none, 0⟩,
  ⟨none, .mv 6 (.t 0), none, 0⟩,
  ⟨none, .bin 7 .quo (.t 6) (.v (.int .u32 65536)), none, 0⟩,
  ⟨none, .cvI 8 .u8 (.t 7), none, 0⟩,
  ⟨none, .mv 9 (.t 0), none, 0⟩,
  ⟨none, .bin 10 .quo (.t 9) (.v (.int .u32 256)), none, 0⟩,
  ⟨none, .cvI 11 .u8 (.t 10), none, 0⟩,
  ⟨none, .mv 12 (.t 0), none, 0⟩,
  ⟨none, .cvI 13 .u8 (.t 12), none, 0⟩,
  ⟨none, .bls 14 5 4 1 [(.int .u8 0), (.int .u8 0), (.int .u8 0), (.int .u8 0)] [(0, 1, (.t 5)), (1, 1, (.t 8)), (2, 1, (.t 11)), (3, 1, (.t 13))], none, 0⟩,
  ⟨none, .mv 2 (.t 14), none, 0⟩]
def c63 : SC :=
  (.seq (.reg false c63r0)
  (.seq (.reg false c63r1)
  .ret))
def v63 : List Nat × List Nat := ([], [])
def o63 : List RS := [.t 2]
theorem s63 : slimC Try.prog Try.f63.ntmps v63.1 v63.2 ((Try.f63.body).getD .skip) = some c63 := by kernel_rfl
theorem q63 : slimR Try.prog Try.f63.ntmps v63.1 v63.2 Try.f63.results.toList = some o63 := by kernel_rfl
-- watermeet/watermeetref02.Sum N=21
def c64r0 : List SI := [
  ⟨none, .mv 2 (.v (.int .u32 0)), none, 0⟩]
def c64r1 : List SI := [
  ⟨none, .mv 3 (.v (.int .u32 4294967295)), none, 0⟩]
def c64r2 : List SI := [
  ⟨none, .mv 4 (.i 0), none, 0⟩]
def c64r3 : List SI := [
  ⟨none, .mv 5 (.t 4), none, 0⟩,
  ⟨none, .mv 6 (.t 0), none, 0⟩,
  ⟨none, .len 7 false (.t 6), none, 0⟩,
  ⟨none, .bin 8 .lss (.t 5) (.t 7), none, 0⟩]
def c64r4 : List SI := [
  ⟨none, .mv 11 (.t 3), none, 0⟩,
  ⟨none, .mv 12 (.t 0), none, 0⟩,
  ⟨none, .mv 13 (.t 4), none, 0⟩,
  ⟨none, .ixA 14 (.t 12) (.t 13) 1, none, 0⟩,
  ⟨none, .ld 15 (.t 14) none, none, 0⟩,
  ⟨none, .cvI 16 .u32 (.t 15), none, 0⟩,
  ⟨none, .bin 17 .xor (.t 11) (.t 16), none, 0⟩,
  ⟨none, .call 18 80 [(.t 17), (.i 8)], none, 0⟩,
  ⟨none, .mv 3 (.t 18), none, 0⟩]
def c64r5 : List SI := [
  ⟨none, .mv 9 (.t 4), none, 0⟩,
  ⟨none, .bin 10 .add (.t 9) (.i 1), none, 0⟩,
  ⟨none, .mv 4 (.t 10), none, 0⟩]
def c64r6 : List SI := [
  ⟨none, .mv 19 (.t 3), none, 0⟩,
  ⟨none, .bin 20 .xor (.t 19) (.v (.int .u32 4294967295)), none, 0⟩,
  ⟨none, .mv 2 (.t 20), none, 0⟩]
def c64 : SC :=
  (.seq (.reg false c64r0)
  (.seq (.reg false c64r1)
  (.seq (.seq (.reg false c64r2)
  (.blk 0 (.loop (.seq (.seq (.reg false c64r3)
    (.cond (.t 8)
     .skip
     (.exit 0)))
    (.seq (.blk 1 (.reg false c64r4))
    (.reg false c64r5))))))
  (.seq (.reg false c64r6)
  .ret))))
def v64 : List Nat × List Nat := ([], [])
def o64 : List RS := [.t 2]
theorem s64 : slimC Try.prog Try.f64.ntmps v64.1 v64.2 ((Try.f64.body).getD .skip) = some c64 := by kernel_rfl
theorem q64 : slimR Try.prog Try.f64.ntmps v64.1 v64.2 Try.f64.results.toList = some o64 := by kernel_rfl
-- watermeet/watermeetref01.GetVar N=73
def c65r0 : List SI := [
  ⟨none, .mv 4 (.i 0), none, 0⟩,
  ⟨none, .mv 5 (.i 0), none, 0⟩,
  ⟨none, .mv 6 (.i 0), none, 0⟩]
def c65r1 : List SI := [
  ⟨none, .mv 12 (.t 1), none, 0⟩,
  ⟨none, .bin 13 .lss (.t 12) (.i 0), none, 0⟩]
def c65r2 : List SI := [
  ⟨none, .mv 4 (.i 0), none, 0⟩,
  ⟨none, .mv 5 (.i 0), none, 0⟩,
  ⟨none, .mv 6 (.i 1), none, 0⟩]
def c65r3 : List SI := [
  ⟨none, .mv 7 (.v (.int .u64 0)), none, 0⟩]
def c65r4 : List SI := [
  ⟨none, .mv 8 (.v (.int .u64 1)), none, 0⟩]
def c65r5 : List SI := [
  ⟨none, .mv 9 (.i 0), none, 0⟩]
def c65r6 : List SI := [
  ⟨none, .mv 16 (.t 1), none, 0⟩,
  ⟨none, .mv 17 (.t 0), none, 0⟩,
  ⟨none, .len 18 false (.t 17), none, 0⟩,
  ⟨none, .bin 19 .geq (.t 16) (.t 18), none, 0⟩,
  ⟨none, .mv 20 (.t 19), none, 0⟩,
  ⟨some (20, false), .mv 21 (.t 9), none, 21⟩,
  ⟨some (20, false), .mv 22 (.t 0), none, 22⟩,
  ⟨some (20, false), .len 23 false (.t 22), none, 23⟩,
  ⟨some (20, false), .mv 24 (.t 1), none, 24⟩,
  ⟨some (20, false), .bin 25 .sub (.t 23) (.t 24), none, 25⟩,
  ⟨some (20, false), .bin 26 .geq (.t 21) (.t 25), none, 26⟩,
  ⟨none, .pick 27 (.t 20) (.b true) (.t 26), none, 0⟩]
def c65r7 : List SI := [
  ⟨none, .mv 4 (.i 0), none, 0⟩,
  ⟨none, .mv 5 (.i 0), none, 0⟩,
  ⟨none, .mv 6 (.i 10), none, 0⟩]
def c65r8 : List SI := [
  ⟨none, .mv 28 (.t 0), none, 0⟩,
  ⟨none, .mv 29 (.t 1), none, 0⟩,
  ⟨none, .mv 30 (.t 9), none, 0⟩,
  ⟨none, .bin 31 .add (.t 29) (.t 30), none, 0⟩,
  ⟨none, .ixA 32 (.t 28) (.t 31) 1, none, 0⟩,
  ⟨none, .ld 33 (.t 32) none, none, 0⟩,
  ⟨none, .mv 10 (.t 33), none, 0⟩]
def c65r9 : List SI := [
  ⟨none, .mv 34 (.t 9), none, 0⟩,
  ⟨none, .bin 35 .eql (.t 34) (.i 9), none, 0⟩,
  ⟨none, .mv 36 (.t 35), none, 0⟩,
  ⟨some (36, true), .mv 37 (.t 10), none, 37⟩,
  ⟨some (36, true), .bin 38 .gtr (.t 37) (.v (.int .u8 1)), none, 38⟩,
  ⟨none, .pick 39 (.t 36) (.t 38) (.b false), none, 0⟩,
  ⟨none, .mv 40 (.t 39), none, 0⟩,
  ⟨some (40, false), .mv 41 (.t 9), none, 41⟩,
  ⟨some (40, false), .bin 42 .gtr (.t 41) (.i 0), none, 42⟩,
  ⟨some (40, false), .mv 43 (.t 42), none, 43⟩,
  ⟨some (43, true), .mv 44 (.t 10), none, 44⟩,
  ⟨some (43, true), .bin 45 .eql (.t 44) (.v (.int .u8 0)), none, 45⟩,
  ⟨some (40, false), .pick 46 (.t 43) (.t 45) (.b false), none, 46⟩,
  ⟨none, .pick 47 (.t 40) (.b true) (.t 46), none, 0⟩]
def c65r10 : List SI := [
  ⟨none, .mv 4 (.i 0), none, 0⟩,
  ⟨none, .mv 5 (.i 0), none, 0⟩,
  ⟨none, .mv 6 (.i 11), none, 0⟩]
def c65r11 : List SI := [
  ⟨none, .mv 48 (.t 7), none, 0⟩,
  ⟨none, .mv 49 (.t 8), none, 0⟩,
  ⟨none, .mv 50 (.t 10), none, 0⟩,
  ⟨none, .bin 51 .rem (.t 50) (.v (.int .u8 128)), none, 0⟩,
  ⟨none, .cvI 52 .u64 (.t 51), none, 0⟩,
  ⟨none, .bin 53 .mul (.t 49) (.t 52), none, 0⟩,
  ⟨none, .bin 54 .add (.t 48) (.t 53), none, 0⟩,
  ⟨none, .mv 7 (.t 54), none, 0⟩]
def c65r12 : List SI := [
  ⟨none, .mv 55 (.t 8), none, 0⟩,
  ⟨none, .bin 56 .mul (.t 55) (.v (.int .u64 128)), none, 0⟩,
  ⟨none, .mv 8 (.t 56), none, 0⟩]
def c65r13 : List SI := [
  ⟨none, .mv 57 (.t 10), none, 0⟩,
  ⟨none, .bin 58 .lss (.t 57) (.v (.int .u8 128)), none, 0⟩]
def c65r14 : List SI := [
  ⟨none, .mv 59 (.t 7), none, 0⟩,
  ⟨none, .bin 60 .quo (.t 59) (.v (.int .u64 2)), none, 0⟩,
  ⟨none, .cvI 61 .i64 (.t 60), none, 0⟩,
  ⟨none, .mv 11 (.t 61), none, 0⟩]
def c65r15 : List SI := [
  ⟨none, .mv 62 (.t 7), none, 0⟩,
  ⟨none, .bin 63 .rem (.t 62) (.v (.int .u64 2)), none, 0⟩,
  ⟨none, .bin 64 .eql (.t 63) (.v (.int .u64 1)), none, 0⟩]
def c65r16 : List SI := [
  ⟨none, .mv 65 (.t 11), none, 0⟩,
  ⟨none, .un 66 .neg (.t 65), none, 0⟩,
  ⟨none, .bin 67 .sub (.t 66) (.i 1), none, 0⟩,
  ⟨none, .mv 11 (.t 67), none, 0⟩]
def c65r17 : List SI := [
  ⟨none, .mv 68 (.t 11), none, 0⟩,
  ⟨none, .mv 69 (.t 1), none, 0⟩,
  ⟨none, .mv 70 (.t 9), none, 0⟩,
  ⟨none, .bin 71 .add (.t 69) (.t 70), none, 0⟩,
  ⟨none, .bin 72 .add (.t 71) (.i 1), none, 0⟩,
  ⟨none, .mv 4 (.t 68), none, 0⟩,
  ⟨none, .mv 5 (.t 72), none, 0⟩,
  ⟨none, .mv 6 (.i 0), none, 0⟩]
def c65r18 : List SI := [
  ⟨none, .mv 14 (.t 9), none, 0⟩,
  ⟨none, .bin 15 .add (.t 14) (.i 1), none, 0⟩,
  ⟨none, .mv 9 (.t 15), none, 0⟩]
def c65 : SC :=
  (.seq (.reg false c65r0)
  (.seq (.seq (.reg false c65r1)
  (.cond (.t 13)
   (.seq (.reg false c65r2)
   .ret)
   .skip))
  (.seq (.reg false c65r3)
  (.seq (.reg false c65r4)
  (.seq (.reg false c65r5)
  (.blk 0 (.loop (.seq (.blk 1 (.seq (.seq (.reg false c65r6)
     (.cond (.t 27)
      (.seq (.reg false c65r7)
      .ret)
      .skip))
     (.seq (.reg false c65r8)
     (.seq (.seq (.reg false c65r9)
     (.cond (.t 47)
      (.seq (.reg false c65r10)
      .ret)
      .skip))
     (.seq (.reg false c65r11)
     (.seq (.reg false c65r12)
     (.seq (.reg false c65r13)
     (.cond (.t 58)
      (.seq (.reg false c65r14)
      (.seq (.seq (.reg false c65r15)
      (.cond (.t 64)
       (.reg false c65r16)
       .skip))
      (.seq (.reg false c65r17)
      .ret)))
      .skip))))))))
    (.reg false c65r18)))))))))
def v65 : List Nat × List Nat := ([], [])
def o65 : List RS := [.t 4, .t 5, .t 6]
theorem s65 : slimC Try.prog Try.f65.ntmps v65.1 v65.2 ((Try.f65.body).getD .skip) = some c65 := by kernel_rfl
theorem q65 : slimR Try.prog Try.f65.ntmps v65.1 v65.2 Try.f65.results.toList = some o65 := by kernel_rfl
-- watermeet/watermeetref03.Get N=121
def c66r0 : List SI := [
  ⟨none, .alR 8 [(.int .i64 0), (.string ⟨#[]⟩), (.string ⟨#[]⟩), (.bool false), (.int .i64 0)], none, 0⟩,
  ⟨none, .mv 9 (.i 0), none, 0⟩,
  ⟨none, .mv 10 (.i 0), none, 0⟩]
def c66r1 : List SI := [
  ⟨none, .bld 25 [(.int .i64 0), (.string ⟨#[]⟩), (.string ⟨#[]⟩), (.bool false), (.int .i64 0)] [], none, 0⟩,
  ⟨none, .alR 11 [(.int .i64 0), (.string ⟨#[]⟩), (.string ⟨#[]⟩), (.bool false), (.int .i64 0)], none, 0⟩,
  ⟨none, .stR 11 0 5 (.t 25), none, 0⟩]
def c66r2 : List SI := [
  ⟨none, .mv 26 (.t 2), none, 0⟩,
  ⟨none, .call 27 70 [(.t 26)], none, 0⟩,
  ⟨none, .un 28 .not (.t 27), none, 0⟩,
  ⟨none, .mv 29 (.t 28), none, 0⟩,
  ⟨some (29, false), .mv 30 (.t 3), none, 30⟩,
  ⟨some (29, false), .call 31 70 [(.t 30)], none, 31⟩,
  ⟨some (29, false), .un 32 .not (.t 31), none, 32⟩,
  ⟨none, .pick 33 (.t 29) (.b true) (.t 32), none, 0⟩,
  ⟨none, .mv 34 (.t 33), none, 0⟩,
  ⟨some (34, false), .mv 35 (.t 1), none, 35⟩,
  ⟨some (34, false), .bin 36 .lss (.t 35) (.i 0), none, 36⟩,
  ⟨none, .pick 37 (.t 34) (.b true) (.t 36), none, 0⟩,
  ⟨none, .mv 38 (.t 37), none, 0⟩,
  ⟨some (38, false), .mv 39 (.t 1), none, 39⟩,
  ⟨some (38, false), .mv 40 (.t 0), none, 40⟩,
  ⟨some (38, false), .len 41 false (.t 40), none, 41⟩,
  ⟨some (38, false), .bin 42 .gtr (.t 39) (.t 41), none, 42⟩,
  ⟨none, .pick 43 (.t 38) (.b true) (.t 42), none, 0⟩]
def c66r3 : List SI := [
  ⟨none, .ldR 44 11 0 (some 5), none, 0⟩,
  ⟨none, .stR 8 0 5 (.t 44), none, 0⟩,
  ⟨none, .mv 9 (.i 0), none, 0⟩,
  ⟨none, .mv 10 (.i 1), none, 0⟩]
def c66r4 : List SI := [
  ⟨none, .mv 46 (.t 0), none, 0⟩,
  ⟨none, .mv 47 (.t 1), none, 0⟩,
  ⟨none, .call 48 65 [(.t 46), (.t 47)], none, 0⟩,
  ⟨none, .mv 45 (.t 48), none, 0⟩,
  ⟨none, .ext 49 (.t 45) 0, none, 0⟩,
  ⟨none, .ext 50 (.t 45) 1, none, 0⟩,
  ⟨none, .ext 51 (.t 45) 2, none, 0⟩,
  ⟨none, .mv 12 (.t 49), none, 0⟩,
  ⟨none, .mv 13 (.t 50), none, 0⟩,
  ⟨none, .mv 14 (.t 51), none, 0⟩]
def c66r5 : List SI := [
  ⟨none, .mv 52 (.t 14), none, 0⟩,
  ⟨none, .bin 53 .neq (.t 52) (.i 0), none, 0⟩]
def c66r6 : List SI := [
  ⟨none, .ldR 54 11 0 (some 5), none, 0⟩,
  ⟨none, .mv 55 (.t 14), none, 0⟩,
  ⟨none, .stR 8 0 5 (.t 54), none, 0⟩,
  ⟨none, .mv 9 (.i 0), none, 0⟩,
  ⟨none, .mv 10 (.t 55), none, 0⟩]
def c66r7 : List SI := [
  ⟨none, .mv 57 (.t 0), none, 0⟩,
  ⟨none, .mv 58 (.t 13), none, 0⟩,
  ⟨none, .call 59 65 [(.t 57), (.t 58)], none, 0⟩,
  ⟨none, .mv 56 (.t 59), none, 0⟩,
  ⟨none, .ext 60 (.t 56) 0, none, 0⟩,
  ⟨none, .ext 61 (.t 56) 1, none, 0⟩,
  ⟨none, .ext 62 (.t 56) 2, none, 0⟩,
  ⟨none, .mv 15 (.t 60), none, 0⟩,
  ⟨none, .mv 16 (.t 61), none, 0⟩,
  ⟨none, .mv 17 (.t 62), none, 0⟩]
def c66r8 : List SI := [
  ⟨none, .mv 63 (.t 17), none, 0⟩,
  ⟨none, .bin 64 .neq (.t 63) (.i 0), none, 0⟩]
def c66r9 : List SI := [
  ⟨none, .ldR 65 11 0 (some 5), none, 0⟩,
  ⟨none, .mv 66 (.t 17), none, 0⟩,
  ⟨none, .stR 8 0 5 (.t 65), none, 0⟩,
  ⟨none, .mv 9 (.i 0), none, 0⟩,
  ⟨none, .mv 10 (.t 66), none, 0⟩]
def c66r10 : List SI := [
  ⟨none, .mv 67 (.t 16), none, 0⟩,
  ⟨none, .mv 68 (.t 0), none, 0⟩,
  ⟨none, .len 69 false (.t 68), none, 0⟩,
  ⟨none, .bin 70 .geq (.t 67) (.t 69), none, 0⟩]
def c66r11 : List SI := [
  ⟨none, .ldR 71 11 0 (some 5), none, 0⟩,
  ⟨none, .stR 8 0 5 (.t 71), none, 0⟩,
  ⟨none, .mv 9 (.i 0), none, 0⟩,
  ⟨none, .mv 10 (.i 10), none, 0⟩]
def c66r12 : List SI := [
  ⟨none, .mv 72 (.t 0), none, 0⟩,
  ⟨none, .mv 73 (.t 16), none, 0⟩,
  ⟨none, .ixA 74 (.t 72) (.t 73) 1, none, 0⟩,
  ⟨none, .ld 75 (.t 74) none, none, 0⟩,
  ⟨none, .bin 76 .gtr (.t 75) (.v (.int .u8 1)), none, 0⟩]
def c66r13 : List SI := [
  ⟨none, .ldR 77 11 0 (some 5), none, 0⟩,
  ⟨none, .stR 8 0 5 (.t 77), none, 0⟩,
  ⟨none, .mv 9 (.i 0), none, 0⟩,
  ⟨none, .mv 10 (.i 11), none, 0⟩]
def c66r14 : List SI := [
  ⟨none, .mv 79 (.t 0), none, 0⟩,
  ⟨none, .mv 80 (.t 16), none, 0⟩,
  ⟨none, .bin 81 .add (.t 80) (.i 1), none, 0⟩,
  ⟨none, .call 82 81 [(.t 79), (.t 81), (.i 64)], none, 0⟩,
  ⟨none, .mv 78 (.t 82), none, 0⟩,
  ⟨none, .ext 83 (.t 78) 0, none, 0⟩,
  ⟨none, .ext 84 (.t 78) 1, none, 0⟩,
  ⟨none, .ext 85 (.t 78) 2, none, 0⟩,
  ⟨none, .mv 18 (.t 83), none, 0⟩,
  ⟨none, .mv 19 (.t 84), none, 0⟩,
  ⟨none, .mv 20 (.t 85), none, 0⟩]
def c66r15 : List SI := [
  ⟨none, .mv 86 (.t 20), none, 0⟩,
  ⟨none, .bin 87 .neq (.t 86) (.i 0), none, 0⟩]
def c66r16 : List SI := [
  ⟨none, .ldR 88 11 0 (some 5), none, 0⟩,
  ⟨none, .mv 89 (.t 20), none, 0⟩,
  ⟨none, .stR 8 0 5 (.t 88), none, 0⟩,
  ⟨none, .mv 9 (.i 0), none, 0⟩,
  ⟨none, .mv 10 (.t 89), none, 0⟩]
def c66r17 : List SI := [
  ⟨none, .mv 91 (.t 0), none, 0⟩,
  ⟨none, .mv 92 (.t 19), none, 0⟩,
  ⟨none, .call 93 81 [(.t 91), (.t 92), (.i 64)], none, 0⟩,
  ⟨none, .mv 90 (.t 93), none, 0⟩,
  ⟨none, .ext 94 (.t 90) 0, none, 0⟩,
  ⟨none, .ext 95 (.t 90) 1, none, 0⟩,
  ⟨none, .ext 96 (.t 90) 2, none, 0⟩,
  ⟨none, .mv 21 (.t 94), none, 0⟩,
  ⟨none, .mv 22 (.t 95), none, 0⟩,
  ⟨none, .mv 23 (.t 96), none, 0⟩]
def c66r18 : List SI := [
  ⟨none, .mv 97 (.t 23), none, 0⟩,
  ⟨none, .bin 98 .neq (.t 97) (.i 0), none, 0⟩]
def c66r19 : List SI := [
  ⟨none, .ldR 99 11 0 (some 5), none, 0⟩,
  ⟨none, .mv 100 (.t 23), none, 0⟩,
  ⟨none, .stR 8 0 5 (.t 99), none, 0⟩,
  ⟨none, .mv 9 (.i 0), none, 0⟩,
  ⟨none, .mv 10 (.t 100), none, 0⟩]
def c66r20 : RX := .br [(true, ⟨none, .mv 101 (.t 2), none, 0⟩),
  (true, ⟨none, .mv 102 (.t 12), none, 0⟩),
  (true, ⟨none, .mv 104 (.t 18), none, 0⟩),
  (true, ⟨none, .mv 105 (.t 21), none, 0⟩),
  (true, ⟨none, .mv 106 (.t 0), none, 0⟩),
  (true, ⟨none, .mv 107 (.t 16), none, 0⟩),
  (true, ⟨none, .ixA 108 (.t 106) (.t 107) 1, none, 0⟩),
  (true, ⟨none, .ld 109 (.t 108) none, none, 0⟩),
  (true, ⟨none, .bin 110 .eql (.t 109) (.v (.int .u8 1)), none, 0⟩),
  (true, ⟨none, .mv 111 (.t 3), none, 0⟩),
  (true, ⟨none, .mv 112 (.t 15), none, 0⟩)]
  ⟨none, .call 103 82 [(.t 101), (.t 102)], none, 0⟩
  (.br []
  ⟨none, .call 113 82 [(.t 111), (.t 112)], none, 0⟩
  (.leaf [(true, ⟨none, .bld 114 [(.int .i64 0), (.string ⟨#[]⟩), (.string ⟨#[]⟩), (.bool false), (.int .i64 0)] [(0, 1, (.t 103)), (1, 1, (.t 104)), (2, 1, (.t 105)), (3, 1, (.t 110)), (4, 1, (.t 113))], none, 0⟩),
  (false, ⟨none, .al 24 [(.int .i64 0), (.string ⟨#[]⟩), (.string ⟨#[]⟩), (.bool false), (.int .i64 0)], none, 0⟩),
  (false, ⟨none, .st (.t 24) 5 (.t 114), none, 0⟩)])
  ⟨none, .al 24 [(.int .i64 0), (.string ⟨#[]⟩), (.string ⟨#[]⟩), (.bool false), (.int .i64 0)], none, 0⟩
  (.leaf [(false, ⟨none, .call 113 82 [(.t 111), (.t 112)], none, 0⟩),
  (true, ⟨none, .bld 114 [(.int .i64 0), (.string ⟨#[]⟩), (.string ⟨#[]⟩), (.bool false), (.int .i64 0)] [(0, 1, (.t 103)), (1, 1, (.t 104)), (2, 1, (.t 105)), (3, 1, (.t 110)), (4, 1, (.t 113))], none, 0⟩),
  (false, ⟨none, .st (.t 24) 5 (.t 114), none, 0⟩)]))
  ⟨none, .al 24 [(.int .i64 0), (.string ⟨#[]⟩), (.string ⟨#[]⟩), (.bool false), (.int .i64 0)], none, 0⟩
  (.leaf [(false, ⟨none, .call 103 82 [(.t 101), (.t 102)], none, 0⟩),
  (false, ⟨none, .call 113 82 [(.t 111), (.t 112)], none, 0⟩),
  (true, ⟨none, .bld 114 [(.int .i64 0), (.string ⟨#[]⟩), (.string ⟨#[]⟩), (.bool false), (.int .i64 0)] [(0, 1, (.t 103)), (1, 1, (.t 104)), (2, 1, (.t 105)), (3, 1, (.t 110)), (4, 1, (.t 113))], none, 0⟩),
  (false, ⟨none, .st (.t 24) 5 (.t 114), none, 0⟩)])
def c66r21 : List SI := [
  ⟨none, .ld 115 (.t 24) (some 5), none, 0⟩,
  ⟨none, .call 116 55 [(.t 115)], none, 0⟩,
  ⟨none, .bin 117 .neq (.t 116) (.i 0), none, 0⟩]
def c66r22 : List SI := [
  ⟨none, .ldR 118 11 0 (some 5), none, 0⟩,
  ⟨none, .stR 8 0 5 (.t 118), none, 0⟩,
  ⟨none, .mv 9 (.i 0), none, 0⟩,
  ⟨none, .mv 10 (.i 1), none, 0⟩]
def c66r23 : List SI := [
  ⟨none, .ld 119 (.t 24) (some 5), none, 0⟩,
  ⟨none, .mv 120 (.t 22), none, 0⟩,
  ⟨none, .stR 8 0 5 (.t 119), none, 0⟩,
  ⟨none, .mv 9 (.t 120), none, 0⟩,
  ⟨none, .mv 10 (.i 0), none, 0⟩]
def c66 : SC :=
  (.seq (.reg false c66r0)
  (.seq (.reg false c66r1)
  (.seq (.seq (.reg false c66r2)
  (.cond (.t 43)
   (.seq (.reg false c66r3)
   .ret)
   .skip))
  (.seq (.reg false c66r4)
  (.seq (.seq (.reg false c66r5)
  (.cond (.t 53)
   (.seq (.reg false c66r6)
   .ret)
   .skip))
  (.seq (.reg false c66r7)
  (.seq (.seq (.reg false c66r8)
  (.cond (.t 64)
   (.seq (.reg false c66r9)
   .ret)
   .skip))
  (.seq (.seq (.reg false c66r10)
  (.cond (.t 70)
   (.seq (.reg false c66r11)
   .ret)
   .skip))
  (.seq (.seq (.reg false c66r12)
  (.cond (.t 76)
   (.seq (.reg false c66r13)
   .ret)
   .skip))
  (.seq (.reg false c66r14)
  (.seq (.seq (.reg false c66r15)
  (.cond (.t 87)
   (.seq (.reg false c66r16)
   .ret)
   .skip))
  (.seq (.reg false c66r17)
  (.seq (.seq (.reg false c66r18)
  (.cond (.t 98)
   (.seq (.reg false c66r19)
   .ret)
   .skip))
  (.seq (.rgZ c66r20)
  (.seq (.seq (.reg false c66r21)
  (.cond (.t 117)
   (.seq (.reg false c66r22)
   .ret)
   .skip))
  (.seq (.reg false c66r23)
  .ret))))))))))))))))
def v66 : List Nat × List Nat := ([8, 11], [8, 11])
def o66 : List RS := [.r 8 (some 5), .t 9, .t 10]
theorem s66 : slimC Try.prog Try.f66.ntmps v66.1 v66.2 ((Try.f66.body).getD .skip) = some c66 := by kernel_rfl
theorem q66 : slimR Try.prog Try.f66.ntmps v66.1 v66.2 Try.f66.results.toList = some o66 := by kernel_rfl
-- watermeet/rec.in N=9
def c67r0 : List SI := [
  ⟨none, .mv 2 (.b false), none, 0⟩]
def c67r1 : List SI := [
  ⟨none, .mv 3 (.t 0), none, 0⟩,
  ⟨none, .bin 4 .geq (.t 3) (.i 0), none, 0⟩,
  ⟨none, .mv 5 (.t 4), none, 0⟩,
  ⟨some (5, true), .mv 6 (.t 0), none, 6⟩,
  ⟨some (5, true), .bin 7 .leq (.t 6) (.i 1099511627776), none, 7⟩,
  ⟨none, .pick 8 (.t 5) (.t 7) (.b false), none, 0⟩,
  ⟨none, .mv 2 (.t 8), none, 0⟩]
def c67 : SC :=
  (.seq (.reg false c67r0)
  (.seq (.reg false c67r1)
  .ret))
def v67 : List Nat × List Nat := ([], [])
def o67 : List RS := [.t 2]
theorem s67 : slimC Try.prog Try.f67.ntmps v67.1 v67.2 ((Try.f67.body).getD .skip) = some c67 := by kernel_rfl
theorem q67 : slimR Try.prog Try.f67.ntmps v67.1 v67.2 Try.f67.results.toList = some o67 := by kernel_rfl
-- slices.Clone[[]byte,byte] N=8
def c68r0 : List SI := [
  ⟨none, .mv 2 (.v (.slice none 0 0)), none, 0⟩]
def c68r1 : List SI := [
  ⟨none, .mv 3 (.t 0), none, 0⟩,
  ⟨none, .isn 4 false (.t 3), none, 0⟩]
def c68r2 : List SI := [
  ⟨none, .mv 2 (.v (.slice none 0 0)), none, 0⟩]
def c68r3 : List SI := [
  ⟨none, .bl0 5, none, 0⟩,
  ⟨none, .mv 6 (.t 0), none, 0⟩,
  ⟨none, .app 7 (.t 5) (.t 6) 5 1 1, none, 0⟩,
  ⟨none, .mv 2 (.t 7), none, 0⟩]
def c68 : SC :=
  (.seq (.reg false c68r0)
  (.seq (.seq (.reg false c68r1)
  (.cond (.t 4)
   (.seq (.reg false c68r2)
   .ret)
   .skip))
  (.seq (.reg false c68r3)
  .ret)))
def v68 : List Nat × List Nat := ([], [])
def o68 : List RS := [.t 2]
theorem s68 : slimC Try.prog Try.f68.ntmps v68.1 v68.2 ((Try.f68.body).getD .skip) = some c68 := by kernel_rfl
theorem q68 : slimR Try.prog Try.f68.ntmps v68.1 v68.2 Try.f68.results.toList = some o68 := by kernel_rfl
-- watermeet/octet.PutText N=11
def c69r0 : List SI := [
  ⟨none, .mv 4 (.v (.slice none 0 0)), none, 0⟩]
def c69r1 : List SI := [
  ⟨none, .mv 5 (.t 0), none, 0⟩,
  ⟨none, .mv 6 (.t 1), none, 0⟩,
  ⟨none, .len 7 true (.t 6), none, 0⟩,
  ⟨none, .call 8 47 [(.t 5), (.t 7)], none, 0⟩,
  ⟨none, .mv 9 (.t 1), none, 0⟩,
  ⟨none, .app 10 (.t 8) (.t 9) 5 1 1, none, 0⟩,
  ⟨none, .mv 4 (.t 10), none, 0⟩]
def c69 : SC :=
  (.seq (.reg false c69r0)
  (.seq (.reg false c69r1)
  .ret))
def v69 : List Nat × List Nat := ([], [])
def o69 : List RS := [.t 4]
theorem s69 : slimC Try.prog Try.f69.ntmps v69.1 v69.2 ((Try.f69.body).getD .skip) = some c69 := by kernel_rfl
theorem q69 : slimR Try.prog Try.f69.ntmps v69.1 v69.2 Try.f69.results.toList = some o69 := by kernel_rfl
-- watermeet/watermeetref03.In N=9
def c70r0 : List SI := [
  ⟨none, .mv 2 (.b false), none, 0⟩]
def c70r1 : List SI := [
  ⟨none, .mv 3 (.t 0), none, 0⟩,
  ⟨none, .bin 4 .geq (.t 3) (.i 0), none, 0⟩,
  ⟨none, .mv 5 (.t 4), none, 0⟩,
  ⟨some (5, true), .mv 6 (.t 0), none, 6⟩,
  ⟨some (5, true), .bin 7 .leq (.t 6) (.i 1099511627776), none, 7⟩,
  ⟨none, .pick 8 (.t 5) (.t 7) (.b false), none, 0⟩,
  ⟨none, .mv 2 (.t 8), none, 0⟩]
def c70 : SC :=
  (.seq (.reg false c70r0)
  (.seq (.reg false c70r1)
  .ret))
def v70 : List Nat × List Nat := ([], [])
def o70 : List RS := [.t 2]
theorem s70 : slimC Try.prog Try.f70.ntmps v70.1 v70.2 ((Try.f70.body).getD .skip) = some c70 := by kernel_rfl
theorem q70 : slimR Try.prog Try.f70.ntmps v70.1 v70.2 Try.f70.results.toList = some o70 := by kernel_rfl
-- watermeet/watermeetref01.PutText N=11
def c71r0 : List SI := [
  ⟨none, .mv 4 (.v (.slice none 0 0)), none, 0⟩]
def c71r1 : List SI := [
  ⟨none, .mv 5 (.t 0), none, 0⟩,
  ⟨none, .mv 6 (.t 1), none, 0⟩,
  ⟨none, .len 7 true (.t 6), none, 0⟩,
  ⟨none, .call 8 51 [(.t 5), (.t 7)], none, 0⟩,
  ⟨none, .mv 9 (.t 1), none, 0⟩,
  ⟨none, .app 10 (.t 8) (.t 9) 5 1 1, none, 0⟩,
  ⟨none, .mv 4 (.t 10), none, 0⟩]
def c71 : SC :=
  (.seq (.reg false c71r0)
  (.seq (.reg false c71r1)
  .ret))
def v71 : List Nat × List Nat := ([], [])
def o71 : List RS := [.t 4]
theorem s71 : slimC Try.prog Try.f71.ntmps v71.1 v71.2 ((Try.f71.body).getD .skip) = some c71 := by kernel_rfl
theorem q71 : slimR Try.prog Try.f71.ntmps v71.1 v71.2 Try.f71.results.toList = some o71 := by kernel_rfl
-- watermeet/crc.adder N=13
def c72r0 : List SI := [
  ⟨none, .mv 0 (.v .nilFunc), none, 0⟩]
def c72r1 : List SI := [
  ⟨none, .al 1 [(.int .u32 0), (.int .u32 0), (.int .u32 0), (.int .u32 0), (.int .u32 0), (.int .u32 0), (.int .u32 0), (.int .u32 0), (.int .u32 0), (.int .u32 0), (.int .u32 0), (.int .u32 0), (.int .u32 0), (.int .u32 0), (.int .u32 0), (.int .u32 0)], none, 0⟩]
def c72r2 : List SI := [
  ⟨none, .mv 3 (.i 0), none, 0⟩]
def c72r3 : List SI := [
  ⟨none, .bin 4 .lss (.t 3) (.i 16), none, 0⟩]
def c72r4 : List SI := [
  ⟨none, .mv 5 (.t 3), none, 0⟩,
  ⟨none, .mv 2 (.t 5), none, 0⟩]
def c72r5 : List SI := [
  ⟨none, .mv 6 (.t 2), none, 0⟩,
  ⟨none, .mv 7 (.t 2), none, 0⟩,
  ⟨none, .cvI 8 .u32 (.t 7), none, 0⟩,
  ⟨none, .call 9 83 [(.t 8)], none, 0⟩,
  ⟨none, .ixP 10 (.t 1) (.t 6) 16 1, none, 0⟩,
  ⟨none, .st (.t 10) 1 (.t 9), none, 0⟩]
def c72r6 : List SI := [
  ⟨none, .bin 11 .add (.t 3) (.i 1), none, 0⟩,
  ⟨none, .mv 3 (.t 11), none, 0⟩]
def c72r7 : List SI := [
  ⟨none, .mkf 12 (.func 84) [(.t 1)], none, 0⟩,
  ⟨none, .mv 0 (.t 12), none, 0⟩]
def c72 : SC :=
  (.seq (.reg false c72r0)
  (.seq (.reg false c72r1)
  (.seq (.seq (.reg false c72r2)
  (.blk 0 (.loop (.seq (.reg false c72r3)
    (.seq (.cond (.t 4)
     .skip
     (.exit 0))
    (.seq (.blk 1 (.seq (.reg false c72r4)
     (.reg false c72r5)))
    (.reg false c72r6)))))))
  (.seq (.reg false c72r7)
  .ret))))
def v72 : List Nat × List Nat := ([], [])
def o72 : List RS := [.t 0]
theorem s72 : slimC Try.prog Try.f72.ntmps v72.1 v72.2 ((Try.f72.body).getD .skip) = some c72 := by kernel_rfl
theorem q72 : slimR Try.prog Try.f72.ntmps v72.1 v72.2 Try.f72.results.toList = some o72 := by kernel_rfl
-- watermeet/rec.Get$1 N=13
def c73r0 : List SI := [
  ⟨none, .mv 4 (.v (.string ⟨#[]⟩)), none, 0⟩,
  ⟨none, .mv 5 (.i 0), none, 0⟩,
  ⟨none, .mv 6 (.i 0), none, 0⟩]
def c73r1 : List SI := [
  ⟨none, .mv 7 (.t 0), none, 0⟩,
  ⟨none, .mv 8 (.t 1), none, 0⟩,
  ⟨none, .call 9 74 [(.t 7), (.t 8), (.i 64)], none, 0⟩,
  ⟨none, .ext 10 (.t 9) 0, none, 0⟩,
  ⟨none, .ext 11 (.t 9) 1, none, 0⟩,
  ⟨none, .ext 12 (.t 9) 2, none, 0⟩,
  ⟨none, .mv 4 (.t 10), none, 0⟩,
  ⟨none, .mv 5 (.t 11), none, 0⟩,
  ⟨none, .mv 6 (.t 12), none, 0⟩]
def c73 : SC :=
  (.seq (.reg false c73r0)
  (.seq (.reg false c73r1)
  .ret))
def v73 : List Nat × List Nat := ([], [])
def o73 : List RS := [.t 4, .t 5, .t 6]
theorem s73 : slimC Try.prog Try.f73.ntmps v73.1 v73.2 ((Try.f73.body).getD .skip) = some c73 := by kernel_rfl
theorem q73 : slimR Try.prog Try.f73.ntmps v73.1 v73.2 Try.f73.results.toList = some o73 := by kernel_rfl
-- watermeet/octet.GetText N=45
def c74r0 : List SI := [
  ⟨none, .mv 6 (.v (.string ⟨#[]⟩)), none, 0⟩,
  ⟨none, .mv 7 (.i 0), none, 0⟩,
  ⟨none, .mv 8 (.i 0), none, 0⟩]
def c74r1 : List SI := [
  ⟨none, .mv 11 (.t 0), none, 0⟩,
  ⟨none, .mv 12 (.t 1), none, 0⟩,
  ⟨none, .call 13 61 [(.t 11), (.t 12)], none, 0⟩,
  ⟨none, .mv 10 (.t 13), none, 0⟩,
  ⟨none, .ext 14 (.t 10) 0, none, 0⟩,
  ⟨none, .ext 15 (.t 10) 1, none, 0⟩,
  ⟨none, .ext 16 (.t 10) 2, none, 0⟩,
  ⟨none, .mv 9 (.t 14), none, 0⟩,
  ⟨none, .mv 7 (.t 15), none, 0⟩,
  ⟨none, .mv 8 (.t 16), none, 0⟩]
def c74r2 : List SI := [
  ⟨none, .mv 18 (.t 8), none, 0⟩,
  ⟨none, .bin 19 .neq (.t 18) (.i 0), none, 0⟩,
  ⟨none, .mv 17 (.t 19), none, 0⟩]
def c74r3 : List SI := [
  ⟨none, .mv 20 (.t 8), none, 0⟩,
  ⟨none, .mv 6 (.v (.string ⟨#[]⟩)), none, 0⟩,
  ⟨none, .mv 7 (.i 0), none, 0⟩,
  ⟨none, .mv 8 (.t 20), none, 0⟩]
def c74r4 : List SI := [
  ⟨none, .mv 22 (.t 9), none, 0⟩,
  ⟨none, .bin 23 .lss (.t 22) (.i 0), none, 0⟩,
  ⟨none, .mv 21 (.t 23), none, 0⟩]
def c74r5 : List SI := [
  ⟨none, .mv 6 (.v (.string ⟨#[]⟩)), none, 0⟩,
  ⟨none, .mv 7 (.i 0), none, 0⟩,
  ⟨none, .mv 8 (.i 11), none, 0⟩]
def c74r6 : List SI := [
  ⟨none, .mv 25 (.t 9), none, 0⟩,
  ⟨none, .mv 26 (.t 2), none, 0⟩,
  ⟨none, .bin 27 .gtr (.t 25) (.t 26), none, 0⟩,
  ⟨none, .mv 24 (.t 27), none, 0⟩]
def c74r7 : List SI := [
  ⟨none, .mv 6 (.v (.string ⟨#[]⟩)), none, 0⟩,
  ⟨none, .mv 7 (.i 0), none, 0⟩,
  ⟨none, .mv 8 (.i 2), none, 0⟩]
def c74r8 : List SI := [
  ⟨none, .mv 29 (.t 9), none, 0⟩,
  ⟨none, .mv 30 (.t 0), none, 0⟩,
  ⟨none, .len 31 false (.t 30), none, 0⟩,
  ⟨none, .mv 32 (.t 7), none, 0⟩,
  ⟨none, .bin 33 .sub (.t 31) (.t 32), none, 0⟩,
  ⟨none, .bin 34 .gtr (.t 29) (.t 33), none, 0⟩,
  ⟨none, .mv 28 (.t 34), none, 0⟩]
def c74r9 : List SI := [
  ⟨none, .mv 6 (.v (.string ⟨#[]⟩)), none, 0⟩,
  ⟨none, .mv 7 (.i 0), none, 0⟩,
  ⟨none, .mv 8 (.i 10), none, 0⟩]
def c74r10 : List SI := [
  ⟨none, .mv 35 (.t 0), none, 0⟩,
  ⟨none, .mv 36 (.t 7), none, 0⟩,
  ⟨none, .mv 37 (.t 7), none, 0⟩,
  ⟨none, .mv 38 (.t 9), none, 0⟩,
  ⟨none, .bin 39 .add (.t 37) (.t 38), none, 0⟩,
  ⟨none, .sl 40 (.t 35) (some (.t 36)) (some (.t 39)) none 1, none, 0⟩,
  ⟨none, .cvS 41 (.t 40), none, 0⟩,
  ⟨none, .mv 42 (.t 7), none, 0⟩,
  ⟨none, .mv 43 (.t 9), none, 0⟩,
  ⟨none, .bin 44 .add (.t 42) (.t 43), none, 0⟩,
  ⟨none, .mv 6 (.t 41), none, 0⟩,
  ⟨none, .mv 7 (.t 44), none, 0⟩,
  ⟨none, .mv 8 (.i 0), none, 0⟩]
def c74 : SC :=
  (.seq (.reg false c74r0)
  (.seq (.reg false c74r1)
  (.seq (.blk 0 (.seq (.reg false c74r2)
   (.cond (.t 17)
    (.seq (.reg false c74r3)
    .ret)
    (.seq (.reg false c74r4)
    (.cond (.t 21)
     (.seq (.reg false c74r5)
     .ret)
     (.seq (.reg false c74r6)
     (.cond (.t 24)
      (.seq (.reg false c74r7)
      .ret)
      (.seq (.reg false c74r8)
      (.cond (.t 28)
       (.seq (.reg false c74r9)
       .ret)
       .skip)))))))))
  (.seq (.reg false c74r10)
  .ret))))
def v74 : List Nat × List Nat := ([], [])
def o74 : List RS := [.t 6, .t 7, .t 8]
theorem s74 : slimC Try.prog Try.f74.ntmps v74.1 v74.2 ((Try.f74.body).getD .skip) = some c74 := by kernel_rfl
theorem q74 : slimR Try.prog Try.f74.ntmps v74.1 v74.2 Try.f74.results.toList = some o74 := by kernel_rfl
-- watermeet/rec.beside N=14
def c75r0 : List SI := [
  ⟨none, .mv 4 (.i 0), none, 0⟩]
def c75r1 : List SI := [
  ⟨none, .mv 5 (.t 1), none, 0⟩,
  ⟨none, .bin 6 .lss (.t 5) (.i (-1099511627776)), none, 0⟩,
  ⟨none, .mv 7 (.t 6), none, 0⟩,
  ⟨some (7, false), .mv 8 (.t 1), none, 8⟩,
  ⟨some (7, false), .bin 9 .gtr (.t 8) (.i 1099511627776), none, 9⟩,
  ⟨none, .pick 10 (.t 7) (.b true) (.t 9), none, 0⟩]
def c75r2 : List SI := [
  ⟨none, .mv 4 (.i (-1)), none, 0⟩]
def c75r3 : List SI := [
  ⟨none, .mv 11 (.t 0), none, 0⟩,
  ⟨none, .mv 12 (.t 1), none, 0⟩,
  ⟨none, .bin 13 .add (.t 11) (.t 12), none, 0⟩,
  ⟨none, .mv 4 (.t 13), none, 0⟩]
def c75 : SC :=
  (.seq (.reg false c75r0)
  (.seq (.seq (.reg false c75r1)
  (.cond (.t 10)
   (.seq (.reg false c75r2)
   .ret)
   .skip))
  (.seq (.reg false c75r3)
  .ret)))
def v75 : List Nat × List Nat := ([], [])
def o75 : List RS := [.t 4]
theorem s75 : slimC Try.prog Try.f75.ntmps v75.1 v75.2 ((Try.f75.body).getD .skip) = some c75 := by kernel_rfl
theorem q75 : slimR Try.prog Try.f75.ntmps v75.1 v75.2 Try.f75.results.toList = some o75 := by kernel_rfl
-- watermeet/rec.field[int] N=32
def c76r0 : List SI := [
  ⟨none, .mv 4 (.i 0), none, 0⟩]
def c76r1 : List SI := [
  ⟨none, .mv 5 (.i 0), none, 0⟩]
def c76r2 : List SI := [
  ⟨none, .mv 6 (.t 0), none, 0⟩,
  ⟨none, .nck 7 (.t 6), none, 0⟩,
  ⟨none, .flA 8 (.t 7) 2, none, 0⟩,
  ⟨none, .ld 9 (.t 8) none, none, 0⟩,
  ⟨none, .bin 10 .eql (.t 9) (.i 0), none, 0⟩]
def c76r3 : List (Bool × SI) := [
  (true, ⟨none, .mv 12 (.t 0), none, 0⟩),
  (true, ⟨none, .mv 13 (.t 0), none, 0⟩),
  (true, ⟨none, .mv 14 (.t 1), none, 0⟩),
  (true, ⟨none, .mv 15 (.t 0), none, 0⟩),
  (true, ⟨none, .nck 16 (.t 15), none, 0⟩),
  (true, ⟨none, .flA 17 (.t 16) 0, none, 0⟩),
  (true, ⟨none, .ld 18 (.t 17) none, none, 0⟩),
  (true, ⟨none, .mv 19 (.t 0), none, 0⟩),
  (true, ⟨none, .nck 20 (.t 19), none, 0⟩),
  (true, ⟨none, .flA 21 (.t 20) 1, none, 0⟩),
  (true, ⟨none, .ld 22 (.t 21) none, none, 0⟩),
  (false, ⟨none, .cav 23 (.t 14) [(.t 18), (.t 22)], none, 0⟩),
  (true, ⟨none, .mv 11 (.t 23), none, 0⟩),
  (true, ⟨none, .ext 24 (.t 11) 0, none, 0⟩),
  (true, ⟨none, .ext 25 (.t 11) 1, none, 0⟩),
  (true, ⟨none, .ext 26 (.t 11) 2, none, 0⟩),
  (true, ⟨none, .mv 5 (.t 24), none, 0⟩),
  (true, ⟨none, .nck 27 (.t 12), none, 0⟩),
  (true, ⟨none, .flA 28 (.t 27) 1, none, 0⟩),
  (false, ⟨none, .st (.t 28) 1 (.t 25), none, 0⟩),
  (true, ⟨none, .nck 29 (.t 13), none, 0⟩),
  (true, ⟨none, .flA 30 (.t 29) 2, none, 0⟩),
  (false, ⟨none, .st (.t 30) 1 (.t 26), none, 0⟩)]
def c76r4 : List SI := [
  ⟨none, .mv 31 (.t 5), none, 0⟩,
  ⟨none, .mv 4 (.t 31), none, 0⟩]
def c76 : SC :=
  (.seq (.reg false c76r0)
  (.seq (.reg false c76r1)
  (.seq (.seq (.reg false c76r2)
  (.cond (.t 10)
   (.rgX c76r3)
   .skip))
  (.seq (.reg false c76r4)
  .ret))))
def v76 : List Nat × List Nat := ([], [])
def o76 : List RS := [.t 4]
theorem s76 : slimC Try.prog Try.f76.ntmps v76.1 v76.2 ((Try.f76.body).getD .skip) = some c76 := by kernel_rfl
theorem q76 : slimR Try.prog Try.f76.ntmps v76.1 v76.2 Try.f76.results.toList = some o76 := by kernel_rfl
-- watermeet/rec.field[bool] N=32
def c77r0 : List SI := [
  ⟨none, .mv 4 (.b false), none, 0⟩]
def c77r1 : List SI := [
  ⟨none, .mv 5 (.b false), none, 0⟩]
def c77r2 : List SI := [
  ⟨none, .mv 6 (.t 0), none, 0⟩,
  ⟨none, .nck 7 (.t 6), none, 0⟩,
  ⟨none, .flA 8 (.t 7) 2, none, 0⟩,
  ⟨none, .ld 9 (.t 8) none, none, 0⟩,
  ⟨none, .bin 10 .eql (.t 9) (.i 0), none, 0⟩]
def c77r3 : List (Bool × SI) := [
  (true, ⟨none, .mv 12 (.t 0), none, 0⟩),
  (true, ⟨none, .mv 13 (.t 0), none, 0⟩),
  (true, ⟨none, .mv 14 (.t 1), none, 0⟩),
  (true, ⟨none, .mv 15 (.t 0), none, 0⟩),
  (true, ⟨none, .nck 16 (.t 15), none, 0⟩),
  (true, ⟨none, .flA 17 (.t 16) 0, none, 0⟩),
  (true, ⟨none, .ld 18 (.t 17) none, none, 0⟩),
  (true, ⟨none, .mv 19 (.t 0), none, 0⟩),
  (true, ⟨none, .nck 20 (.t 19), none, 0⟩),
  (true, ⟨none, .flA 21 (.t 20) 1, none, 0⟩),
  (true, ⟨none, .ld 22 (.t 21) none, none, 0⟩),
  (false, ⟨none, .cav 23 (.t 14) [(.t 18), (.t 22)], none, 0⟩),
  (true, ⟨none, .mv 11 (.t 23), none, 0⟩),
  (true, ⟨none, .ext 24 (.t 11) 0, none, 0⟩),
  (true, ⟨none, .ext 25 (.t 11) 1, none, 0⟩),
  (true, ⟨none, .ext 26 (.t 11) 2, none, 0⟩),
  (true, ⟨none, .mv 5 (.t 24), none, 0⟩),
  (true, ⟨none, .nck 27 (.t 12), none, 0⟩),
  (true, ⟨none, .flA 28 (.t 27) 1, none, 0⟩),
  (false, ⟨none, .st (.t 28) 1 (.t 25), none, 0⟩),
  (true, ⟨none, .nck 29 (.t 13), none, 0⟩),
  (true, ⟨none, .flA 30 (.t 29) 2, none, 0⟩),
  (false, ⟨none, .st (.t 30) 1 (.t 26), none, 0⟩)]
def c77r4 : List SI := [
  ⟨none, .mv 31 (.t 5), none, 0⟩,
  ⟨none, .mv 4 (.t 31), none, 0⟩]
def c77 : SC :=
  (.seq (.reg false c77r0)
  (.seq (.reg false c77r1)
  (.seq (.seq (.reg false c77r2)
  (.cond (.t 10)
   (.rgX c77r3)
   .skip))
  (.seq (.reg false c77r4)
  .ret))))
def v77 : List Nat × List Nat := ([], [])
def o77 : List RS := [.t 4]
theorem s77 : slimC Try.prog Try.f77.ntmps v77.1 v77.2 ((Try.f77.body).getD .skip) = some c77 := by kernel_rfl
theorem q77 : slimR Try.prog Try.f77.ntmps v77.1 v77.2 Try.f77.results.toList = some o77 := by kernel_rfl
-- watermeet/rec.flag N=25
def c78r0 : List SI := [
  ⟨none, .mv 4 (.b false), none, 0⟩,
  ⟨none, .mv 5 (.i 0), none, 0⟩,
  ⟨none, .mv 6 (.i 0), none, 0⟩]
def c78r1 : List SI := [
  ⟨none, .mv 8 (.t 1), none, 0⟩,
  ⟨none, .mv 9 (.t 0), none, 0⟩,
  ⟨none, .len 10 false (.t 9), none, 0⟩,
  ⟨none, .bin 11 .geq (.t 8) (.t 10), none, 0⟩,
  ⟨none, .mv 7 (.t 11), none, 0⟩]
def c78r2 : List SI := [
  ⟨none, .mv 4 (.b false), none, 0⟩,
  ⟨none, .mv 5 (.i 0), none, 0⟩,
  ⟨none, .mv 6 (.i 10), none, 0⟩]
def c78r3 : List SI := [
  ⟨none, .mv 13 (.t 0), none, 0⟩,
  ⟨none, .mv 14 (.t 1), none, 0⟩,
  ⟨none, .ixA 15 (.t 13) (.t 14) 1, none, 0⟩,
  ⟨none, .ld 16 (.t 15) none, none, 0⟩,
  ⟨none, .bin 17 .gtr (.t 16) (.v (.int .u8 1)), none, 0⟩,
  ⟨none, .mv 12 (.t 17), none, 0⟩]
def c78r4 : List SI := [
  ⟨none, .mv 4 (.b false), none, 0⟩,
  ⟨none, .mv 5 (.i 0), none, 0⟩,
  ⟨none, .mv 6 (.i 11), none, 0⟩]
def c78r5 : List SI := [
  ⟨none, .mv 18 (.t 0), none, 0⟩,
  ⟨none, .mv 19 (.t 1), none, 0⟩,
  ⟨none, .ixA 20 (.t 18) (.t 19) 1, none, 0⟩,
  ⟨none, .ld 21 (.t 20) none, none, 0⟩,
  ⟨none, .bin 22 .eql (.t 21) (.v (.int .u8 1)), none, 0⟩,
  ⟨none, .mv 23 (.t 1), none, 0⟩,
  ⟨none, .bin 24 .add (.t 23) (.i 1), none, 0⟩,
  ⟨none, .mv 4 (.t 22), none, 0⟩,
  ⟨none, .mv 5 (.t 24), none, 0⟩,
  ⟨none, .mv 6 (.i 0), none, 0⟩]
def c78 : SC :=
  (.seq (.reg false c78r0)
  (.seq (.blk 0 (.seq (.reg false c78r1)
   (.cond (.t 7)
    (.seq (.reg false c78r2)
    .ret)
    (.seq (.reg false c78r3)
    (.cond (.t 12)
     (.seq (.reg false c78r4)
     .ret)
     .skip)))))
  (.seq (.reg false c78r5)
  .ret)))
def v78 : List Nat × List Nat := ([], [])
def o78 : List RS := [.t 4, .t 5, .t 6]
theorem s78 : slimC Try.prog Try.f78.ntmps v78.1 v78.2 ((Try.f78.body).getD .skip) = some c78 := by kernel_rfl
theorem q78 : slimR Try.prog Try.f78.ntmps v78.1 v78.2 Try.f78.results.toList = some o78 := by kernel_rfl
-- watermeet/rec.field[string] N=32
def c79r0 : List SI := [
  ⟨none, .mv 4 (.v (.string ⟨#[]⟩)), none, 0⟩]
def c79r1 : List SI := [
  ⟨none, .mv 5 (.v (.string ⟨#[]⟩)), none, 0⟩]
def c79r2 : List SI := [
  ⟨none, .mv 6 (.t 0), none, 0⟩,
  ⟨none, .nck 7 (.t 6), none, 0⟩,
  ⟨none, .flA 8 (.t 7) 2, none, 0⟩,
  ⟨none, .ld 9 (.t 8) none, none, 0⟩,
  ⟨none, .bin 10 .eql (.t 9) (.i 0), none, 0⟩]
def c79r3 : List (Bool × SI) := [
  (true, ⟨none, .mv 12 (.t 0), none, 0⟩),
  (true, ⟨none, .mv 13 (.t 0), none, 0⟩),
  (true, ⟨none, .mv 14 (.t 1), none, 0⟩),
  (true, ⟨none, .mv 15 (.t 0), none, 0⟩),
  (true, ⟨none, .nck 16 (.t 15), none, 0⟩),
  (true, ⟨none, .flA 17 (.t 16) 0, none, 0⟩),
  (true, ⟨none, .ld 18 (.t 17) none, none, 0⟩),
  (true, ⟨none, .mv 19 (.t 0), none, 0⟩),
  (true, ⟨none, .nck 20 (.t 19), none, 0⟩),
  (true, ⟨none, .flA 21 (.t 20) 1, none, 0⟩),
  (true, ⟨none, .ld 22 (.t 21) none, none, 0⟩),
  (false, ⟨none, .cav 23 (.t 14) [(.t 18), (.t 22)], none, 0⟩),
  (true, ⟨none, .mv 11 (.t 23), none, 0⟩),
  (true, ⟨none, .ext 24 (.t 11) 0, none, 0⟩),
  (true, ⟨none, .ext 25 (.t 11) 1, none, 0⟩),
  (true, ⟨none, .ext 26 (.t 11) 2, none, 0⟩),
  (true, ⟨none, .mv 5 (.t 24), none, 0⟩),
  (true, ⟨none, .nck 27 (.t 12), none, 0⟩),
  (true, ⟨none, .flA 28 (.t 27) 1, none, 0⟩),
  (false, ⟨none, .st (.t 28) 1 (.t 25), none, 0⟩),
  (true, ⟨none, .nck 29 (.t 13), none, 0⟩),
  (true, ⟨none, .flA 30 (.t 29) 2, none, 0⟩),
  (false, ⟨none, .st (.t 30) 1 (.t 26), none, 0⟩)]
def c79r4 : List SI := [
  ⟨none, .mv 31 (.t 5), none, 0⟩,
  ⟨none, .mv 4 (.t 31), none, 0⟩]
def c79 : SC :=
  (.seq (.reg false c79r0)
  (.seq (.reg false c79r1)
  (.seq (.seq (.reg false c79r2)
  (.cond (.t 10)
   (.rgX c79r3)
   .skip))
  (.seq (.reg false c79r4)
  .ret))))
def v79 : List Nat × List Nat := ([], [])
def o79 : List RS := [.t 4]
theorem s79 : slimC Try.prog Try.f79.ntmps v79.1 v79.2 ((Try.f79.body).getD .skip) = some c79 := by kernel_rfl
theorem q79 : slimR Try.prog Try.f79.ntmps v79.1 v79.2 Try.f79.results.toList = some o79 := by kernel_rfl
-- watermeet/watermeetref02.steps N=14
def c80r0 : List SI := [
  ⟨none, .mv 4 (.v (.int .u32 0)), none, 0⟩]
def c80r1 : List SI := [
  ⟨none, .mv 5 (.i 0), none, 0⟩]
def c80r2 : List SI := [
  ⟨none, .mv 6 (.t 5), none, 0⟩,
  ⟨none, .mv 7 (.t 1), none, 0⟩,
  ⟨none, .bin 8 .lss (.t 6) (.t 7), none, 0⟩]
def c80r3 : List SI := [
  ⟨none, .mv 11 (.t 0), none, 0⟩,
  ⟨none, .call 12 85 [(.t 11)], none, 0⟩,
  ⟨none, .mv 0 (.t 12), none, 0⟩]
def c80r4 : List SI := [
  ⟨none, .mv 9 (.t 5), none, 0⟩,
  ⟨none, .bin 10 .add (.t 9) (.i 1), none, 0⟩,
  ⟨none, .mv 5 (.t 10), none, 0⟩]
def c80r5 : List SI := [
  ⟨none, .mv 13 (.t 0), none, 0⟩,
  ⟨none, .mv 4 (.t 13), none, 0⟩]
def c80 : SC :=
  (.seq (.reg false c80r0)
  (.seq (.seq (.reg false c80r1)
  (.blk 0 (.loop (.seq (.seq (.reg false c80r2)
    (.cond (.t 8)
     .skip
     (.exit 0)))
    (.seq (.blk 1 (.reg false c80r3))
    (.reg false c80r4))))))
  (.seq (.reg false c80r5)
  .ret)))
def v80 : List Nat × List Nat := ([], [])
def o80 : List RS := [.t 4]
theorem s80 : slimC Try.prog Try.f80.ntmps v80.1 v80.2 ((Try.f80.body).getD .skip) = some c80 := by kernel_rfl
theorem q80 : slimR Try.prog Try.f80.ntmps v80.1 v80.2 Try.f80.results.toList = some o80 := by kernel_rfl
-- watermeet/watermeetref01.GetText N=43
def c81r0 : List SI := [
  ⟨none, .mv 6 (.v (.string ⟨#[]⟩)), none, 0⟩,
  ⟨none, .mv 7 (.i 0), none, 0⟩,
  ⟨none, .mv 8 (.i 0), none, 0⟩]
def c81r1 : List SI := [
  ⟨none, .mv 13 (.t 0), none, 0⟩,
  ⟨none, .mv 14 (.t 1), none, 0⟩,
  ⟨none, .call 15 65 [(.t 13), (.t 14)], none, 0⟩,
  ⟨none, .mv 12 (.t 15), none, 0⟩,
  ⟨none, .ext 16 (.t 12) 0, none, 0⟩,
  ⟨none, .ext 17 (.t 12) 1, none, 0⟩,
  ⟨none, .ext 18 (.t 12) 2, none, 0⟩,
  ⟨none, .mv 9 (.t 16), none, 0⟩,
  ⟨none, .mv 10 (.t 17), none, 0⟩,
  ⟨none, .mv 11 (.t 18), none, 0⟩]
def c81r2 : List SI := [
  ⟨none, .mv 19 (.t 11), none, 0⟩,
  ⟨none, .bin 20 .neq (.t 19) (.i 0), none, 0⟩]
def c81r3 : List SI := [
  ⟨none, .mv 21 (.t 11), none, 0⟩,
  ⟨none, .mv 6 (.v (.string ⟨#[]⟩)), none, 0⟩,
  ⟨none, .mv 7 (.i 0), none, 0⟩,
  ⟨none, .mv 8 (.t 21), none, 0⟩]
def c81r4 : List SI := [
  ⟨none, .mv 22 (.t 9), none, 0⟩,
  ⟨none, .bin 23 .lss (.t 22) (.i 0), none, 0⟩]
def c81r5 : List SI := [
  ⟨none, .mv 6 (.v (.string ⟨#[]⟩)), none, 0⟩,
  ⟨none, .mv 7 (.i 0), none, 0⟩,
  ⟨none, .mv 8 (.i 11), none, 0⟩]
def c81r6 : List SI := [
  ⟨none, .mv 24 (.t 9), none, 0⟩,
  ⟨none, .mv 25 (.t 2), none, 0⟩,
  ⟨none, .bin 26 .gtr (.t 24) (.t 25), none, 0⟩]
def c81r7 : List SI := [
  ⟨none, .mv 6 (.v (.string ⟨#[]⟩)), none, 0⟩,
  ⟨none, .mv 7 (.i 0), none, 0⟩,
  ⟨none, .mv 8 (.i 2), none, 0⟩]
def c81r8 : List SI := [
  ⟨none, .mv 27 (.t 0), none, 0⟩,
  ⟨none, .len 28 false (.t 27), none, 0⟩,
  ⟨none, .mv 29 (.t 10), none, 0⟩,
  ⟨none, .bin 30 .sub (.t 28) (.t 29), none, 0⟩,
  ⟨none, .mv 31 (.t 9), none, 0⟩,
  ⟨none, .bin 32 .lss (.t 30) (.t 31), none, 0⟩]
def c81r9 : List SI := [
  ⟨none, .mv 6 (.v (.string ⟨#[]⟩)), none, 0⟩,
  ⟨none, .mv 7 (.i 0), none, 0⟩,
  ⟨none, .mv 8 (.i 10), none, 0⟩]
def c81r10 : List SI := [
  ⟨none, .mv 33 (.t 0), none, 0⟩,
  ⟨none, .mv 34 (.t 10), none, 0⟩,
  ⟨none, .mv 35 (.t 10), none, 0⟩,
  ⟨none, .mv 36 (.t 9), none, 0⟩,
  ⟨none, .bin 37 .add (.t 35) (.t 36), none, 0⟩,
  ⟨none, .sl 38 (.t 33) (some (.t 34)) (some (.t 37)) none 1, none, 0⟩,
  ⟨none, .cvS 39 (.t 38), none, 0⟩,
  ⟨none, .mv 40 (.t 10), none, 0⟩,
  ⟨none, .mv 41 (.t 9), none, 0⟩,
  ⟨none, .bin 42 .add (.t 40) (.t 41), none, 0⟩,
  ⟨none, .mv 6 (.t 39), none, 0⟩,
  ⟨none, .mv 7 (.t 42), none, 0⟩,
  ⟨none, .mv 8 (.i 0), none, 0⟩]
def c81 : SC :=
  (.seq (.reg false c81r0)
  (.seq (.reg false c81r1)
  (.seq (.seq (.reg false c81r2)
  (.cond (.t 20)
   (.seq (.reg false c81r3)
   .ret)
   .skip))
  (.seq (.seq (.reg false c81r4)
  (.cond (.t 23)
   (.seq (.reg false c81r5)
   .ret)
   .skip))
  (.seq (.seq (.reg false c81r6)
  (.cond (.t 26)
   (.seq (.reg false c81r7)
   .ret)
   .skip))
  (.seq (.seq (.reg false c81r8)
  (.cond (.t 32)
   (.seq (.reg false c81r9)
   .ret)
   .skip))
  (.seq (.reg false c81r10)
  .ret)))))))
def v81 : List Nat × List Nat := ([], [])
def o81 : List RS := [.t 6, .t 7, .t 8]
theorem s81 : slimC Try.prog Try.f81.ntmps v81.1 v81.2 ((Try.f81.body).getD .skip) = some c81 := by kernel_rfl
theorem q81 : slimR Try.prog Try.f81.ntmps v81.1 v81.2 Try.f81.results.toList = some o81 := by kernel_rfl
-- watermeet/watermeetref03.beside N=21
def c82r0 : List SI := [
  ⟨none, .mv 4 (.i 0), none, 0⟩]
def c82r1 : List SI := [
  ⟨none, .mv 5 (.t 1), none, 0⟩,
  ⟨none, .bin 6 .lss (.t 5) (.i (-1099511627776)), none, 0⟩,
  ⟨none, .mv 7 (.t 6), none, 0⟩,
  ⟨some (7, false), .mv 8 (.t 1), none, 8⟩,
  ⟨some (7, false), .bin 9 .gtr (.t 8) (.i 1099511627776), none, 9⟩,
  ⟨none, .pick 10 (.t 7) (.b true) (.t 9), none, 0⟩,
  ⟨none, .mv 11 (.t 10), none, 0⟩,
  ⟨some (11, false), .mv 12 (.t 0), none, 12⟩,
  ⟨some (11, false), .mv 13 (.t 1), none, 13⟩,
  ⟨some (11, false), .bin 14 .add (.t 12) (.t 13), none, 14⟩,
  ⟨some (11, false), .call 15 70 [(.t 14)], none, 15⟩,
  ⟨some (11, false), .un 16 .not (.t 15), none, 16⟩,
  ⟨none, .pick 17 (.t 11) (.b true) (.t 16), none, 0⟩]
def c82r2 : List SI := [
  ⟨none, .mv 4 (.i (-1)), none, 0⟩]
def c82r3 : List SI := [
  ⟨none, .mv 18 (.t 0), none, 0⟩,
  ⟨none, .mv 19 (.t 1), none, 0⟩,
  ⟨none, .bin 20 .add (.t 18) (.t 19), none, 0⟩,
  ⟨none, .mv 4 (.t 20), none, 0⟩]
def c82 : SC :=
  (.seq (.reg false c82r0)
  (.seq (.seq (.reg false c82r1)
  (.cond (.t 17)
   (.seq (.reg false c82r2)
   .ret)
   .skip))
  (.seq (.reg false c82r3)
  .ret)))
def v82 : List Nat × List Nat := ([], [])
def o82 : List RS := [.t 4]
theorem s82 : slimC Try.prog Try.f82.ntmps v82.1 v82.2 ((Try.f82.body).getD .skip) = some c82 := by kernel_rfl
theorem q82 : slimR Try.prog Try.f82.ntmps v82.1 v82.2 Try.f82.results.toList = some o82 := by kernel_rfl
-- watermeet/crc.half N=14
def c83r0 : List SI := [
  ⟨none, .mv 2 (.v (.int .u32 0)), none, 0⟩]
def c83r1 : List SI := [
  ⟨none, .mv 3 (.i 0), none, 0⟩]
def c83r2 : List SI := [
  ⟨none, .bin 4 .lss (.t 3) (.i 4), none, 0⟩]
def c83r3 : List SI := [
  ⟨none, .mv 5 (.t 0), none, 0⟩,
  ⟨none, .bin 6 .shr (.t 5) (.v (.int .u64 1)), none, 0⟩,
  ⟨none, .mv 7 (.t 0), none, 0⟩,
  ⟨none, .bin 8 .and (.t 7) (.v (.int .u32 1)), none, 0⟩,
  ⟨none, .un 9 .neg (.t 8), none, 0⟩,
  ⟨none, .bin 10 .and (.v (.int .u32 3988292384)) (.t 9), none, 0⟩,
  ⟨none, .bin 11 .xor (.t 6) (.t 10), none, 0⟩,
  ⟨none, .mv 0 (.t 11), none, 0⟩]
def c83r4 : List SI := [
  ⟨none, .bin 12 .add (.t 3) (.i 1), none, 0⟩,
  ⟨none, .mv 3 (.t 12), none, 0⟩]
def c83r5 : List SI := [
  ⟨none, .mv 13 (.t 0), none, 0⟩,
  ⟨none, .mv 2 (.t 13), none, 0⟩]
def c83 : SC :=
  (.seq (.reg false c83r0)
  (.seq (.seq (.reg false c83r1)
  (.blk 0 (.loop (.seq (.reg false c83r2)
    (.seq (.cond (.t 4)
     .skip
     (.exit 0))
    (.seq (.blk 1 (.reg false c83r3))
    (.reg false c83r4)))))))
  (.seq (.reg false c83r5)
  .ret)))
def v83 : List Nat × List Nat := ([], [])
def o83 : List RS := [.t 2]
theorem s83 : slimC Try.prog Try.f83.ntmps v83.1 v83.2 ((Try.f83.body).getD .skip) = some c83 := by kernel_rfl
theorem q83 : slimR Try.prog Try.f83.ntmps v83.1 v83.2 Try.f83.results.toList = some o83 := by kernel_rfl
-- watermeet/crc.adder$1 N=24
def c84r0 : List SI := [
  ⟨none, .mv 5 (.v (.int .u32 0)), none, 0⟩]
def c84r1 : List SI := [
  ⟨none, .mv 6 (.t 0), none, 0⟩,
  ⟨none, .mv 7 (.t 1), none, 0⟩,
  ⟨none, .cvI 8 .u32 (.t 7), none, 0⟩,
  ⟨none, .bin 9 .xor (.t 6) (.t 8), none, 0⟩,
  ⟨none, .mv 0 (.t 9), none, 0⟩]
def c84r2 : List SI := [
  ⟨none, .mv 10 (.t 0), none, 0⟩,
  ⟨none, .bin 11 .and (.t 10) (.v (.int .u32 15)), none, 0⟩,
  ⟨none, .ixP 12 (.t 2) (.t 11) 16 1, none, 0⟩,
  ⟨none, .ld 13 (.t 12) none, none, 0⟩,
  ⟨none, .mv 14 (.t 0), none, 0⟩,
  ⟨none, .bin 15 .shr (.t 14) (.v (.int .u64 4)), none, 0⟩,
  ⟨none, .bin 16 .xor (.t 13) (.t 15), none, 0⟩,
  ⟨none, .mv 0 (.t 16), none, 0⟩]
def c84r3 : List SI := [
  ⟨none, .mv 17 (.t 0), none, 0⟩,
  ⟨none, .bin 18 .and (.t 17) (.v (.int .u32 15)), none, 0⟩,
  ⟨none, .ixP 19 (.t 2) (.t 18) 16 1, none, 0⟩,
  ⟨none, .ld 20 (.t 19) none, none, 0⟩,
  ⟨none, .mv 21 (.t 0), none, 0⟩,
  ⟨none, .bin 22 .shr (.t 21) (.v (.int .u64 4)), none, 0⟩,
  ⟨none, .bin 23 .xor (.t 20) (.t 22), none, 0⟩,
  ⟨none, .mv 5 (.t 23), none, 0⟩]
def c84 : SC :=
  (.seq (.reg false c84r0)
  (.seq (.reg false c84r1)
  (.seq (.reg false c84r2)
  (.seq (.reg false c84r3)
  .ret))))
def v84 : List Nat × List Nat := ([], [])
def o84 : List RS := [.t 5]
theorem s84 : slimC Try.prog Try.f84.ntmps v84.1 v84.2 ((Try.f84.body).getD .skip) = some c84 := by kernel_rfl
theorem q84 : slimR Try.prog Try.f84.ntmps v84.1 v84.2 Try.f84.results.toList = some o84 := by kernel_rfl
-- watermeet/watermeetref02.step N=11
def c85r0 : List SI := [
  ⟨none, .mv 2 (.v (.int .u32 0)), none, 0⟩]
def c85r1 : List SI := [
  ⟨none, .mv 3 (.t 0), none, 0⟩,
  ⟨none, .bin 4 .rem (.t 3) (.v (.int .u32 2)), none, 0⟩,
  ⟨none, .bin 5 .eql (.t 4) (.v (.int .u32 1)), none, 0⟩]
def c85r2 : List SI := [
  ⟨none, .mv 6 (.t 0), none, 0⟩,
  ⟨none, .bin 7 .quo (.t 6) (.v (.int .u32 2)), none, 0⟩,
  ⟨none, .bin 8 .xor (.t 7) (.v (.int .u32 3988292384)), none, 0⟩,
  ⟨none, .mv 2 (.t 8), none, 0⟩]
def c85r3 : List SI := [
  ⟨none, .mv 9 (.t 0), none, 0⟩,
  ⟨none, .bin 10 .quo (.t 9) (.v (.int .u32 2)), none, 0⟩,
  ⟨none, .mv 2 (.t 10), none, 0⟩]
def c85 : SC :=
  (.seq (.reg false c85r0)
  (.seq (.seq (.reg false c85r1)
  (.cond (.t 5)
   (.seq (.reg false c85r2)
   .ret)
   .skip))
  (.seq (.reg false c85r3)
  .ret)))
def v85 : List Nat × List Nat := ([], [])
def o85 : List RS := [.t 2]
theorem s85 : slimC Try.prog Try.f85.ntmps v85.1 v85.2 ((Try.f85.body).getD .skip) = some c85 := by kernel_rfl
theorem q85 : slimR Try.prog Try.f85.ntmps v85.1 v85.2 Try.f85.results.toList = some o85 := by kernel_rfl
end Go.Proofs.Ytdiccicokbbcoaa

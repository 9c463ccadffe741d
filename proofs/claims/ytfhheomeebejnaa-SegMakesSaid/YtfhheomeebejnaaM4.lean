/- Parts of a proof, 14 texts in one file. No condition. -/
import Derived.Test.YtfhheomeebejnaaRows
import Derived.Test.YtfhheomeebejnaaM1
import Derived.Test.YtfhheomeebejnaaM2
import Derived.Test.YtfhheomeebejnaaM3

/- The code of the functions, types resolved, as a program of the prover reads it off the translation; each is held by the kernel. No condition. -/
namespace Go.Proofs.Ytfhheomeebejnaa
open Go Go.Kx
-- watermeet/watermeetref01.PutVar N=36
def c66r0 : List SI := [
  ⟨none, .mv 4 (.v (.slice none 0 0)), none, 0⟩]
def c66r1 : List SI := [
  ⟨none, .mv 7 (.t 1), none, 0⟩,
  ⟨none, .cvI 8 .u64 (.t 7), none, 0⟩,
  ⟨none, .bin 9 .mul (.v (.int .u64 2)) (.t 8), none, 0⟩,
  ⟨none, .mv 5 (.t 9), none, 0⟩]
def c66r2 : List SI := [
  ⟨none, .mv 10 (.t 1), none, 0⟩,
  ⟨none, .bin 11 .lss (.t 10) (.i 0), none, 0⟩]
def c66r3 : List SI := [
  ⟨none, .mv 12 (.t 1), none, 0⟩,
  ⟨none, .bin 13 .add (.t 12) (.i 1), none, 0⟩,
  ⟨none, .un 14 .neg (.t 13), none, 0⟩,
  ⟨none, .cvI 15 .u64 (.t 14), none, 0⟩,
  ⟨none, .bin 16 .mul (.v (.int .u64 2)) (.t 15), none, 0⟩,
  ⟨none, .bin 17 .add (.t 16) (.v (.int .u64 1)), none, 0⟩,
  ⟨none, .mv 5 (.t 17), none, 0⟩]
def c66r4 : List SI := [
  ⟨none, .mv 18 (.t 0), none, 0⟩,
  ⟨none, .call 19 15 [(.t 18)], none, 0⟩,
  ⟨none, .mv 6 (.t 19), none, 0⟩]
def c66r5 : List SI := [
  ⟨none, .mv 20 (.t 5), none, 0⟩,
  ⟨none, .bin 21 .geq (.t 20) (.v (.int .u64 128)), none, 0⟩]
def c66r6 : List SI := [
  ⟨none, .mv 22 (.t 6), none, 0⟩,
  ⟨none, .mv 23 (.t 5), none, 0⟩,
  ⟨none, .bin 24 .rem (.t 23) (.v (.int .u64 128)), none, 0⟩,
  ⟨none, .bin 25 .add (.v (.int .u64 128)) (.t 24), none, 0⟩,
  ⟨none, .cvI 26 .u8 (.t 25), none, 0⟩,
  ⟨none, .bls 27 5 1 1 [(.int .u8 0)] [(0, 1, (.t 26))], none, 0⟩,
  ⟨none, .app 28 (.t 22) (.t 27) 5 1 1, none, 0⟩,
  ⟨none, .mv 6 (.t 28), none, 0⟩]
def c66r7 : List SI := [
  ⟨none, .mv 29 (.t 5), none, 0⟩,
  ⟨none, .bin 30 .quo (.t 29) (.v (.int .u64 128)), none, 0⟩,
  ⟨none, .mv 5 (.t 30), none, 0⟩]
def c66r8 : List SI := [
  ⟨none, .mv 31 (.t 6), none, 0⟩,
  ⟨none, .mv 32 (.t 5), none, 0⟩,
  ⟨none, .cvI 33 .u8 (.t 32), none, 0⟩,
  ⟨none, .bls 34 5 1 1 [(.int .u8 0)] [(0, 1, (.t 33))], none, 0⟩,
  ⟨none, .app 35 (.t 31) (.t 34) 5 1 1, none, 0⟩,
  ⟨none, .mv 4 (.t 35), none, 0⟩]
def c66 : SC :=
  (.seq (.reg false c66r0)
  (.seq (.reg false c66r1)
  (.seq (.seq (.reg false c66r2)
  (.cond (.t 11)
   (.reg false c66r3)
   .skip))
  (.seq (.reg false c66r4)
  (.seq (.blk 0 (.loop (.seq (.seq (.reg false c66r5)
    (.cond (.t 21)
     .skip
     (.exit 0)))
    (.blk 1 (.seq (.reg false c66r6)
     (.reg false c66r7))))))
  (.seq (.reg false c66r8)
  .ret))))))
def v66 : List Nat × List Nat := ([], [])
def o66 : List RS := [.t 4]
theorem s66 : slimC Try.prog Try.f66.ntmps v66.1 v66.2 ((Try.f66.body).getD .skip) = some c66 := by kernel_rfl
theorem q66 : slimR Try.prog Try.f66.ntmps v66.1 v66.2 Try.f66.results.toList = some o66 := by kernel_rfl
-- watermeet/watermeetref03.Put N=50
def c67r0 : List SI := [
  ⟨none, .bxR 3 (.t 0), none, 0⟩,
  ⟨none, .mv 6 (.v (.slice none 0 0)), none, 0⟩,
  ⟨none, .mv 7 (.i 0), none, 0⟩]
def c67r1 : List SI := [
  ⟨none, .ldR 10 3 0 (some 5), none, 0⟩,
  ⟨none, .call 11 83 [(.t 10)], none, 0⟩,
  ⟨none, .mv 8 (.t 11), none, 0⟩]
def c67r2 : List SI := [
  ⟨none, .mv 12 (.t 8), none, 0⟩,
  ⟨none, .bin 13 .neq (.t 12) (.i 0), none, 0⟩]
def c67r3 : List SI := [
  ⟨none, .mv 14 (.t 8), none, 0⟩,
  ⟨none, .mv 6 (.v (.slice none 0 0)), none, 0⟩,
  ⟨none, .mv 7 (.t 14), none, 0⟩]
def c67r4 : List SI := [
  ⟨none, .mv 15 (.t 1), none, 0⟩,
  ⟨none, .call 16 84 [(.t 15)], none, 0⟩,
  ⟨none, .un 17 .not (.t 16), none, 0⟩,
  ⟨none, .mv 18 (.t 17), none, 0⟩,
  ⟨some (18, false), .mv 19 (.t 2), none, 19⟩,
  ⟨some (18, false), .call 20 84 [(.t 19)], none, 20⟩,
  ⟨some (18, false), .un 21 .not (.t 20), none, 21⟩,
  ⟨none, .pick 22 (.t 18) (.b true) (.t 21), none, 0⟩]
def c67r5 : List SI := [
  ⟨none, .mv 6 (.v (.slice none 0 0)), none, 0⟩,
  ⟨none, .mv 7 (.i 1), none, 0⟩]
def c67r6 : List SI := [
  ⟨none, .nop, (some 3), 0⟩,
  ⟨none, .ldR 24 3 0 none, none, 0⟩,
  ⟨none, .mv 25 (.t 1), none, 0⟩,
  ⟨none, .bin 26 .sub (.t 24) (.t 25), none, 0⟩,
  ⟨none, .call 27 66 [(.v (.slice none 0 0)), (.t 26)], none, 0⟩,
  ⟨none, .mv 9 (.t 27), none, 0⟩]
def c67r7 : List SI := [
  ⟨none, .mv 28 (.t 9), none, 0⟩,
  ⟨none, .nop, (some 3), 0⟩,
  ⟨none, .ldR 30 3 4 none, none, 0⟩,
  ⟨none, .mv 31 (.t 2), none, 0⟩,
  ⟨none, .bin 32 .sub (.t 30) (.t 31), none, 0⟩,
  ⟨none, .call 33 66 [(.t 28), (.t 32)], none, 0⟩,
  ⟨none, .mv 9 (.t 33), none, 0⟩]
def c67r8 : List SI := [
  ⟨none, .nop, (some 3), 0⟩,
  ⟨none, .ldR 35 3 3 none, none, 0⟩]
def c67r9 : List SI := [
  ⟨none, .mv 36 (.t 9), none, 0⟩,
  ⟨none, .bls 37 5 1 1 [(.int .u8 0)] [(0, 1, (.v (.int .u8 1)))], none, 0⟩,
  ⟨none, .app 38 (.t 36) (.t 37) 5 1 1, none, 0⟩,
  ⟨none, .mv 9 (.t 38), none, 0⟩]
def c67r10 : List SI := [
  ⟨none, .mv 39 (.t 9), none, 0⟩,
  ⟨none, .bls 40 5 1 1 [(.int .u8 0)] [(0, 1, (.v (.int .u8 0)))], none, 0⟩,
  ⟨none, .app 41 (.t 39) (.t 40) 5 1 1, none, 0⟩,
  ⟨none, .mv 9 (.t 41), none, 0⟩]
def c67r11 : List SI := [
  ⟨none, .mv 42 (.t 9), none, 0⟩,
  ⟨none, .nop, (some 3), 0⟩,
  ⟨none, .ldR 44 3 1 none, none, 0⟩,
  ⟨none, .call 45 85 [(.t 42), (.t 44)], none, 0⟩,
  ⟨none, .mv 9 (.t 45), none, 0⟩]
def c67r12 : List SI := [
  ⟨none, .mv 46 (.t 9), none, 0⟩,
  ⟨none, .nop, (some 3), 0⟩,
  ⟨none, .ldR 48 3 2 none, none, 0⟩,
  ⟨none, .call 49 85 [(.t 46), (.t 48)], none, 0⟩,
  ⟨none, .mv 6 (.t 49), none, 0⟩,
  ⟨none, .mv 7 (.i 0), none, 0⟩]
def c67 : SC :=
  (.seq (.reg false c67r0)
  (.seq (.reg false c67r1)
  (.seq (.seq (.reg false c67r2)
  (.cond (.t 13)
   (.seq (.reg false c67r3)
   .ret)
   .skip))
  (.seq (.seq (.reg false c67r4)
  (.cond (.t 22)
   (.seq (.reg false c67r5)
   .ret)
   .skip))
  (.seq (.reg false c67r6)
  (.seq (.reg false c67r7)
  (.seq (.seq (.reg false c67r8)
  (.cond (.t 35)
   (.reg false c67r9)
   (.reg false c67r10)))
  (.seq (.reg false c67r11)
  (.seq (.reg false c67r12)
  .ret)))))))))
def v67 : List Nat × List Nat := ([3], [3, 23, 29, 34, 43, 47])
def o67 : List RS := [.t 6, .t 7]
theorem s67 : slimC Try.prog Try.f67.ntmps v67.1 v67.2 ((Try.f67.body).getD .skip) = some c67 := by kernel_rfl
theorem q67 : slimR Try.prog Try.f67.ntmps v67.1 v67.2 Try.f67.results.toList = some o67 := by kernel_rfl
-- watermeet/watermeetref02.Seal N=10
def c68r0 : List SI := [
  ⟨none, .mv 2 (.v (.slice none 0 0)), none, 0⟩]
def c68r1 : List SI := [
  ⟨none, .bl0 3, none, 0⟩,
  ⟨none, .mv 4 (.t 0), none, 0⟩,
  ⟨none, .app 5 (.t 3) (.t 4) 5 1 1, none, 0⟩,
  ⟨none, .mv 6 (.t 0), none, 0⟩,
  ⟨none, .call 7 74 [(.t 6)], none, 0⟩,
  ⟨none, .call 8 73 [(.t 7)], none, 0⟩,
  ⟨none, .app 9 (.t 5) (.t 8) 5 1 1, none, 0⟩,
  ⟨none, .mv 2 (.t 9), none, 0⟩]
def c68 : SC :=
  (.seq (.reg false c68r0)
  (.seq (.reg false c68r1)
  .ret))
def v68 : List Nat × List Nat := ([], [])
def o68 : List RS := [.t 2]
theorem s68 : slimC Try.prog Try.f68.ntmps v68.1 v68.2 ((Try.f68.body).getD .skip) = some c68 := by kernel_rfl
theorem q68 : slimR Try.prog Try.f68.ntmps v68.1 v68.2 Try.f68.results.toList = some o68 := by kernel_rfl
-- watermeet/watermeetref01.Put N=41
def c69r0 : List SI := [
  ⟨none, .mv 6 (.v (.slice none 0 0)), none, 0⟩]
def c69r1 : List SI := [
  ⟨none, .mv 10 (.t 0), none, 0⟩,
  ⟨none, .call 11 15 [(.t 10)], none, 0⟩,
  ⟨none, .mv 7 (.t 11), none, 0⟩]
def c69r2 : List SI := [
  ⟨none, .mv 12 (.t 2), none, 0⟩,
  ⟨none, .bin 13 .lss (.t 12) (.i 1), none, 0⟩,
  ⟨none, .mv 14 (.t 13), none, 0⟩,
  ⟨some (14, false), .mv 15 (.t 2), none, 15⟩,
  ⟨some (14, false), .bin 16 .gtr (.t 15) (.i 8), none, 16⟩,
  ⟨none, .pick 17 (.t 14) (.b true) (.t 16), none, 0⟩]
def c69r3 : List SI := [
  ⟨none, .mv 18 (.t 7), none, 0⟩,
  ⟨none, .mv 6 (.t 18), none, 0⟩]
def c69r4 : List SI := [
  ⟨none, .mv 19 (.t 2), none, 0⟩,
  ⟨none, .mv 20 (.i 0), none, 0⟩]
def c69r5 : List SI := [
  ⟨none, .bin 21 .lss (.t 20) (.t 19), none, 0⟩]
def c69r6 : List SI := [
  ⟨none, .mv 22 (.t 20), none, 0⟩,
  ⟨none, .mv 8 (.t 22), none, 0⟩]
def c69r7 : List SI := [
  ⟨none, .mv 23 (.t 1), none, 0⟩,
  ⟨none, .mv 9 (.t 23), none, 0⟩]
def c69r8 : List SI := [
  ⟨none, .mv 24 (.t 2), none, 0⟩,
  ⟨none, .bin 25 .sub (.t 24) (.i 1), none, 0⟩,
  ⟨none, .mv 26 (.t 8), none, 0⟩,
  ⟨none, .bin 27 .sub (.t 25) (.t 26), none, 0⟩,
  ⟨none, .mv 28 (.i 0), none, 0⟩]
def c69r9 : List SI := [
  ⟨none, .bin 29 .lss (.t 28) (.t 27), none, 0⟩]
def c69r10 : List SI := [
  ⟨none, .mv 30 (.t 9), none, 0⟩,
  ⟨none, .bin 31 .quo (.t 30) (.v (.int .u64 256)), none, 0⟩,
  ⟨none, .mv 9 (.t 31), none, 0⟩]
def c69r11 : List SI := [
  ⟨none, .bin 32 .add (.t 28) (.i 1), none, 0⟩,
  ⟨none, .mv 28 (.t 32), none, 0⟩]
def c69r12 : List SI := [
  ⟨none, .mv 33 (.t 7), none, 0⟩,
  ⟨none, .mv 34 (.t 9), none, 0⟩,
  ⟨none, .bin 35 .rem (.t 34) (.v (.int .u64 256)), none, 0⟩,
  ⟨none, .cvI 36 .u8 (.t 35), none, 0⟩,
  ⟨none, .bls 37 5 1 1 [(.int .u8 0)] [(0, 1, (.t 36))], none, 0⟩,
  ⟨none, .app 38 (.t 33) (.t 37) 5 1 1, none, 0⟩,
  ⟨none, .mv 7 (.t 38), none, 0⟩]
def c69r13 : List SI := [
  ⟨none, .bin 39 .add (.t 20) (.i 1), none, 0⟩,
  ⟨none, .mv 20 (.t 39), none, 0⟩]
def c69r14 : List SI := [
  ⟨none, .mv 40 (.t 7), none, 0⟩,
  ⟨none, .mv 6 (.t 40), none, 0⟩]
def c69 : SC :=
  (.seq (.reg false c69r0)
  (.seq (.reg false c69r1)
  (.seq (.seq (.reg false c69r2)
  (.cond (.t 17)
   (.seq (.reg false c69r3)
   .ret)
   .skip))
  (.seq (.seq (.reg false c69r4)
  (.blk 0 (.loop (.seq (.reg false c69r5)
    (.seq (.cond (.t 21)
     .skip
     (.exit 0))
    (.seq (.blk 1 (.seq (.reg false c69r6)
     (.seq (.reg false c69r7)
     (.seq (.seq (.reg false c69r8)
     (.blk 2 (.loop (.seq (.reg false c69r9)
       (.seq (.cond (.t 29)
        .skip
        (.exit 2))
       (.seq (.blk 3 (.reg false c69r10))
       (.reg false c69r11)))))))
     (.reg false c69r12)))))
    (.reg false c69r13)))))))
  (.seq (.reg false c69r14)
  .ret)))))
def v69 : List Nat × List Nat := ([], [])
def o69 : List RS := [.t 6]
theorem s69 : slimC Try.prog Try.f69.ntmps v69.1 v69.2 ((Try.f69.body).getD .skip) = some c69 := by kernel_rfl
theorem q69 : slimR Try.prog Try.f69.ntmps v69.1 v69.2 Try.f69.results.toList = some o69 := by kernel_rfl
-- watermeet/octet.Get N=44
def c70r0 : List SI := [
  ⟨none, .mv 6 (.v (.int .u64 0)), none, 0⟩,
  ⟨none, .mv 7 (.i 0), none, 0⟩]
def c70r1 : List SI := [
  ⟨none, .mv 12 (.t 2), none, 0⟩,
  ⟨none, .bin 13 .lss (.t 12) (.i 1), none, 0⟩,
  ⟨none, .mv 14 (.t 13), none, 0⟩,
  ⟨some (14, false), .mv 15 (.t 2), none, 15⟩,
  ⟨some (14, false), .bin 16 .gtr (.t 15) (.i 8), none, 16⟩,
  ⟨none, .pick 17 (.t 14) (.b true) (.t 16), none, 0⟩,
  ⟨none, .mv 18 (.t 17), none, 0⟩,
  ⟨some (18, false), .mv 19 (.t 1), none, 19⟩,
  ⟨some (18, false), .bin 20 .lss (.t 19) (.i 0), none, 20⟩,
  ⟨none, .pick 21 (.t 18) (.b true) (.t 20), none, 0⟩]
def c70r2 : List SI := [
  ⟨none, .mv 6 (.v (.int .u64 0)), none, 0⟩,
  ⟨none, .mv 7 (.i 1), none, 0⟩]
def c70r3 : List SI := [
  ⟨none, .mv 22 (.t 0), none, 0⟩,
  ⟨none, .mv 23 (.t 1), none, 0⟩,
  ⟨none, .call 24 86 [(.t 22), (.t 23)], none, 0⟩,
  ⟨none, .mv 8 (.t 24), none, 0⟩]
def c70r4 : List SI := [
  ⟨none, .mv 25 (.t 8), none, 0⟩,
  ⟨none, .len 26 false (.t 25), none, 0⟩,
  ⟨none, .mv 27 (.t 2), none, 0⟩,
  ⟨none, .bin 28 .lss (.t 26) (.t 27), none, 0⟩]
def c70r5 : List SI := [
  ⟨none, .mv 6 (.v (.int .u64 0)), none, 0⟩,
  ⟨none, .mv 7 (.i 10), none, 0⟩]
def c70r6 : List SI := [
  ⟨none, .mv 9 (.v (.int .u64 0)), none, 0⟩]
def c70r7 : List SI := [
  ⟨none, .mv 29 (.t 8), none, 0⟩,
  ⟨none, .mv 30 (.t 2), none, 0⟩,
  ⟨none, .sl 31 (.t 29) none (some (.t 30)) none 1, none, 0⟩,
  ⟨none, .len 32 false (.t 31), none, 0⟩,
  ⟨none, .mv 33 (.i 0), none, 0⟩]
def c70r8 : List SI := [
  ⟨none, .bin 34 .lss (.t 33) (.t 32), none, 0⟩]
def c70r9 : List SI := [
  ⟨none, .ixA 35 (.t 31) (.t 33) 1, none, 0⟩,
  ⟨none, .ld 36 (.t 35) none, none, 0⟩,
  ⟨none, .mv 11 (.t 36), none, 0⟩]
def c70r10 : List SI := [
  ⟨none, .mv 37 (.t 9), none, 0⟩,
  ⟨none, .bin 38 .shl (.t 37) (.v (.int .u64 8)), none, 0⟩,
  ⟨none, .mv 39 (.t 11), none, 0⟩,
  ⟨none, .cvI 40 .u64 (.t 39), none, 0⟩,
  ⟨none, .bin 41 .or (.t 38) (.t 40), none, 0⟩,
  ⟨none, .mv 9 (.t 41), none, 0⟩]
def c70r11 : List SI := [
  ⟨none, .bin 42 .add (.t 33) (.i 1), none, 0⟩,
  ⟨none, .mv 33 (.t 42), none, 0⟩]
def c70r12 : List SI := [
  ⟨none, .mv 43 (.t 9), none, 0⟩,
  ⟨none, .mv 6 (.t 43), none, 0⟩,
  ⟨none, .mv 7 (.i 0), none, 0⟩]
def c70 : SC :=
  (.seq (.reg false c70r0)
  (.seq (.seq (.reg false c70r1)
  (.cond (.t 21)
   (.seq (.reg false c70r2)
   .ret)
   .skip))
  (.seq (.reg false c70r3)
  (.seq (.seq (.reg false c70r4)
  (.cond (.t 28)
   (.seq (.reg false c70r5)
   .ret)
   .skip))
  (.seq (.reg false c70r6)
  (.seq (.seq (.reg false c70r7)
  (.blk 0 (.loop (.seq (.reg false c70r8)
    (.seq (.cond (.t 34)
     .skip
     (.exit 0))
    (.seq (.blk 1 (.seq (.reg false c70r9)
     (.reg false c70r10)))
    (.reg false c70r11)))))))
  (.seq (.reg false c70r12)
  .ret)))))))
def v70 : List Nat × List Nat := ([], [])
def o70 : List RS := [.t 6, .t 7]
theorem s70 : slimC Try.prog Try.f70.ntmps v70.1 v70.2 ((Try.f70.body).getD .skip) = some c70 := by kernel_rfl
theorem q70 : slimR Try.prog Try.f70.ntmps v70.1 v70.2 Try.f70.results.toList = some o70 := by kernel_rfl
-- watermeet/crc.Open N=33
def c71r0 : List SI := [
  ⟨none, .mv 2 (.v (.slice none 0 0)), none, 0⟩,
  ⟨none, .mv 3 (.i 0), none, 0⟩]
def c71r1 : List SI := [
  ⟨none, .mv 7 (.t 0), none, 0⟩,
  ⟨none, .len 8 false (.t 7), none, 0⟩,
  ⟨none, .bin 9 .sub (.t 8) (.i 4), none, 0⟩,
  ⟨none, .mv 4 (.t 9), none, 0⟩]
def c71r2 : List SI := [
  ⟨none, .mv 10 (.t 4), none, 0⟩,
  ⟨none, .bin 11 .lss (.t 10) (.i 0), none, 0⟩]
def c71r3 : List SI := [
  ⟨none, .mv 2 (.v (.slice none 0 0)), none, 0⟩,
  ⟨none, .mv 3 (.i 10), none, 0⟩]
def c71r4 : List SI := [
  ⟨none, .mv 13 (.t 0), none, 0⟩,
  ⟨none, .mv 14 (.t 4), none, 0⟩,
  ⟨none, .call 15 70 [(.t 13), (.t 14), (.i 4)], none, 0⟩,
  ⟨none, .mv 12 (.t 15), none, 0⟩,
  ⟨none, .ext 16 (.t 12) 0, none, 0⟩,
  ⟨none, .ext 17 (.t 12) 1, none, 0⟩,
  ⟨none, .mv 5 (.t 16), none, 0⟩,
  ⟨none, .mv 6 (.t 17), none, 0⟩]
def c71r5 : List SI := [
  ⟨none, .mv 18 (.t 6), none, 0⟩,
  ⟨none, .bin 19 .neq (.t 18) (.i 0), none, 0⟩,
  ⟨none, .mv 20 (.t 19), none, 0⟩,
  ⟨some (20, false), .mv 21 (.t 5), none, 21⟩,
  ⟨some (20, false), .mv 22 (.t 0), none, 22⟩,
  ⟨some (20, false), .mv 23 (.t 4), none, 23⟩,
  ⟨some (20, false), .sl 24 (.t 22) none (some (.t 23)) none 1, none, 24⟩,
  ⟨some (20, false), .call 25 81 [(.t 24)], none, 25⟩,
  ⟨some (20, false), .cvI 26 .u64 (.t 25), none, 26⟩,
  ⟨some (20, false), .bin 27 .neq (.t 21) (.t 26), none, 27⟩,
  ⟨none, .pick 28 (.t 20) (.b true) (.t 27), none, 0⟩]
def c71r6 : List SI := [
  ⟨none, .mv 2 (.v (.slice none 0 0)), none, 0⟩,
  ⟨none, .mv 3 (.i 20), none, 0⟩]
def c71r7 : List SI := [
  ⟨none, .mv 29 (.t 0), none, 0⟩,
  ⟨none, .mv 30 (.t 4), none, 0⟩,
  ⟨none, .sl 31 (.t 29) none (some (.t 30)) none 1, none, 0⟩,
  ⟨none, .app 32 (.v (.slice none 0 0)) (.t 31) 5 1 1, none, 0⟩,
  ⟨none, .mv 2 (.t 32), none, 0⟩,
  ⟨none, .mv 3 (.i 0), none, 0⟩]
def c71 : SC :=
  (.seq (.reg false c71r0)
  (.seq (.reg false c71r1)
  (.seq (.seq (.reg false c71r2)
  (.cond (.t 11)
   (.seq (.reg false c71r3)
   .ret)
   .skip))
  (.seq (.seq (.reg false c71r4)
  (.seq (.reg false c71r5)
  (.cond (.t 28)
   (.seq (.reg false c71r6)
   .ret)
   .skip)))
  (.seq (.reg false c71r7)
  .ret)))))
def v71 : List Nat × List Nat := ([], [])
def o71 : List RS := [.t 2, .t 3]
theorem s71 : slimC Try.prog Try.f71.ntmps v71.1 v71.2 ((Try.f71.body).getD .skip) = some c71 := by kernel_rfl
theorem q71 : slimR Try.prog Try.f71.ntmps v71.1 v71.2 Try.f71.results.toList = some o71 := by kernel_rfl
-- watermeet/batch.parse N=155
def c72r0 : List SI := [
  ⟨none, .bx 1 (.t 0), none, 0⟩,
  ⟨none, .alR 2 [(.int .i64 0), (.int .i64 0), (.int .i64 0), (.int .i64 0), (.int .i64 0), (.int .i64 0), (.int .i64 0), (.bool false), (.int .i64 0), (.slice none 0 0)], none, 0⟩,
  ⟨none, .al 3 [(.bool false)], none, 0⟩]
def c72r1 : List SI := [
  ⟨none, .al 4 [(.int .i64 0)], none, 0⟩,
  ⟨none, .st (.t 4) 1 (.i 0), none, 0⟩]
def c72r2 : List SI := [
  ⟨none, .st (.t 3) 1 (.b true), none, 0⟩]
def c72r3 : List SI := [
  ⟨none, .mkf 15 (.func 87) [(.t 1), (.t 4), (.t 3)], none, 0⟩,
  ⟨none, .mv 5 (.t 15), none, 0⟩]
def c72r4 : List SI := [
  ⟨none, .al 6 [(.int .i64 0), (.int .i64 0), (.int .i64 0), (.int .i64 0), (.int .i64 0), (.int .i64 0), (.int .i64 0)], none, 0⟩]
def c72r5 : List SI := [
  ⟨none, .mv 16 (.i 0), none, 0⟩]
def c72r6 : List SI := [
  ⟨none, .bin 17 .lss (.t 16) (.i 7), none, 0⟩]
def c72r7 : List SI := [
  ⟨none, .mv 18 (.t 16), none, 0⟩,
  ⟨none, .mv 7 (.t 18), none, 0⟩]
def c72r8 : List SI := [
  ⟨none, .mv 19 (.t 7), none, 0⟩,
  ⟨none, .mv 20 (.t 5), none, 0⟩,
  ⟨none, .cav 21 (.t 20) [], none, 0⟩,
  ⟨none, .ixP 22 (.t 6) (.t 19) 7 1, none, 0⟩,
  ⟨none, .st (.t 22) 1 (.t 21), none, 0⟩]
def c72r9 : List SI := [
  ⟨none, .bin 23 .add (.t 16) (.i 1), none, 0⟩,
  ⟨none, .mv 16 (.t 23), none, 0⟩]
def c72r10 : List SI := [
  ⟨none, .ld 24 (.t 3) none, none, 0⟩,
  ⟨none, .un 25 .not (.t 24), none, 0⟩,
  ⟨none, .mv 26 (.t 25), none, 0⟩,
  ⟨some (26, false), .ld 27 (.t 4) none, none, 27⟩,
  ⟨some (26, false), .ld 28 (.t 1) none, none, 28⟩,
  ⟨some (26, false), .len 29 false (.t 28), none, 29⟩,
  ⟨some (26, false), .bin 30 .geq (.t 27) (.t 29), none, 30⟩,
  ⟨none, .pick 31 (.t 26) (.b true) (.t 30), none, 0⟩,
  ⟨none, .mv 32 (.t 31), none, 0⟩,
  ⟨some (32, false), .ld 33 (.t 1) none, none, 33⟩,
  ⟨some (32, false), .ld 34 (.t 4) none, none, 34⟩,
  ⟨some (32, false), .ixA 35 (.t 33) (.t 34) 1, none, 35⟩,
  ⟨some (32, false), .ld 36 (.t 35) none, none, 36⟩,
  ⟨some (32, false), .bin 37 .geq (.t 36) (.v (.int .u8 8)), none, 37⟩,
  ⟨none, .pick 38 (.t 32) (.b true) (.t 37), none, 0⟩,
  ⟨none, .mv 39 (.t 38), none, 0⟩,
  ⟨some (39, false), .ixP 40 (.t 6) (.i 0) 7 1, none, 40⟩,
  ⟨some (39, false), .ld 41 (.t 40) none, none, 41⟩,
  ⟨some (39, false), .bin 42 .lss (.t 41) (.i 0), none, 42⟩,
  ⟨none, .pick 43 (.t 39) (.b true) (.t 42), none, 0⟩,
  ⟨none, .mv 44 (.t 43), none, 0⟩,
  ⟨some (44, false), .ixP 45 (.t 6) (.i 0) 7 1, none, 45⟩,
  ⟨some (44, false), .ld 46 (.t 45) none, none, 46⟩,
  ⟨some (44, false), .bin 47 .gtr (.t 46) (.i 1099511627776), none, 47⟩,
  ⟨none, .pick 48 (.t 44) (.b true) (.t 47), none, 0⟩,
  ⟨none, .mv 49 (.t 48), none, 0⟩,
  ⟨some (49, false), .ixP 50 (.t 6) (.i 1) 7 1, none, 50⟩,
  ⟨some (49, false), .ld 51 (.t 50) none, none, 51⟩,
  ⟨some (49, false), .bin 52 .lss (.t 51) (.i 0), none, 52⟩,
  ⟨none, .pick 53 (.t 49) (.b true) (.t 52), none, 0⟩,
  ⟨none, .mv 54 (.t 53), none, 0⟩,
  ⟨some (54, false), .ixP 55 (.t 6) (.i 1) 7 1, none, 55⟩,
  ⟨some (54, false), .ld 56 (.t 55) none, none, 56⟩,
  ⟨some (54, false), .bin 57 .geq (.t 56) (.i 16), none, 57⟩,
  ⟨none, .pick 58 (.t 54) (.b true) (.t 57), none, 0⟩]
def c72r11 : List SI := [
  ⟨none, .bld 59 [(.int .i64 0), (.int .i64 0), (.int .i64 0), (.int .i64 0), (.int .i64 0), (.int .i64 0), (.int .i64 0), (.bool false), (.int .i64 0), (.slice none 0 0)] [], none, 0⟩,
  ⟨none, .stR 2 0 10 (.t 59), none, 0⟩,
  ⟨none, .st (.t 3) 1 (.b false), none, 0⟩]
def c72r12 : List SI := [
  ⟨none, .ld 60 (.t 1) none, none, 0⟩,
  ⟨none, .ld 61 (.t 4) none, none, 0⟩,
  ⟨none, .ixA 62 (.t 60) (.t 61) 1, none, 0⟩,
  ⟨none, .ld 63 (.t 62) none, none, 0⟩,
  ⟨none, .mv 8 (.t 63), none, 0⟩]
def c72r13 : List SI := [
  ⟨none, .ld 64 (.t 4) none, none, 0⟩,
  ⟨none, .bin 65 .add (.t 64) (.i 1), none, 0⟩,
  ⟨none, .st (.t 4) 1 (.t 65), none, 0⟩]
def c72r14 : List SI := [
  ⟨none, .ixP 66 (.t 6) (.i 0) 7 1, none, 0⟩,
  ⟨none, .ld 67 (.t 66) none, none, 0⟩,
  ⟨none, .ixP 68 (.t 6) (.i 0) 7 1, none, 0⟩,
  ⟨none, .ld 69 (.t 68) none, none, 0⟩,
  ⟨none, .ixP 70 (.t 6) (.i 1) 7 1, none, 0⟩,
  ⟨none, .ld 71 (.t 70) none, none, 0⟩,
  ⟨none, .bin 72 .add (.t 69) (.t 71), none, 0⟩,
  ⟨none, .ixP 73 (.t 6) (.i 2) 7 1, none, 0⟩,
  ⟨none, .ld 74 (.t 73) none, none, 0⟩,
  ⟨none, .ixP 75 (.t 6) (.i 3) 7 1, none, 0⟩,
  ⟨none, .ld 76 (.t 75) none, none, 0⟩,
  ⟨none, .ixP 77 (.t 6) (.i 4) 7 1, none, 0⟩,
  ⟨none, .ld 78 (.t 77) none, none, 0⟩,
  ⟨none, .ixP 79 (.t 6) (.i 5) 7 1, none, 0⟩,
  ⟨none, .ld 80 (.t 79) none, none, 0⟩,
  ⟨none, .ixP 81 (.t 6) (.i 6) 7 1, none, 0⟩,
  ⟨none, .ld 82 (.t 81) none, none, 0⟩,
  ⟨none, .mv 83 (.t 8), none, 0⟩,
  ⟨none, .bin 84 .and (.t 83) (.v (.int .u8 4)), none, 0⟩,
  ⟨none, .bin 85 .neq (.t 84) (.v (.int .u8 0)), none, 0⟩,
  ⟨none, .mv 86 (.t 8), none, 0⟩,
  ⟨none, .bin 87 .andNot (.t 86) (.v (.int .u8 4)), none, 0⟩,
  ⟨none, .cvI 88 .i64 (.t 87), none, 0⟩,
  ⟨none, .bld 89 [(.int .i64 0), (.int .i64 0), (.int .i64 0), (.int .i64 0), (.int .i64 0), (.int .i64 0), (.int .i64 0), (.bool false), (.int .i64 0), (.slice none 0 0)] [(0, 1, (.t 67)), (1, 1, (.t 72)), (2, 1, (.t 74)), (3, 1, (.t 76)), (4, 1, (.t 78)), (5, 1, (.t 80)), (6, 1, (.t 82)), (7, 1, (.t 85)), (8, 1, (.t 88))], none, 0⟩,
  ⟨none, .stR 2 0 10 (.t 89), none, 0⟩]
def c72r15 : List SI := [
  ⟨none, .mv 90 (.t 5), none, 0⟩,
  ⟨none, .cav 91 (.t 90) [], none, 0⟩,
  ⟨none, .mv 9 (.t 91), none, 0⟩]
def c72r16 : List SI := [
  ⟨none, .ld 92 (.t 3) none, none, 0⟩,
  ⟨none, .un 93 .not (.t 92), none, 0⟩,
  ⟨none, .mv 94 (.t 93), none, 0⟩,
  ⟨some (94, false), .mv 95 (.t 9), none, 95⟩,
  ⟨some (94, false), .bin 96 .lss (.t 95) (.i 0), none, 96⟩,
  ⟨none, .pick 97 (.t 94) (.b true) (.t 96), none, 0⟩,
  ⟨none, .mv 98 (.t 97), none, 0⟩,
  ⟨some (98, false), .mv 99 (.t 9), none, 99⟩,
  ⟨some (98, false), .bin 100 .gtr (.t 99) (.i 16), none, 100⟩,
  ⟨none, .pick 101 (.t 98) (.b true) (.t 100), none, 0⟩]
def c72r17 : List SI := [
  ⟨none, .bld 102 [(.int .i64 0), (.int .i64 0), (.int .i64 0), (.int .i64 0), (.int .i64 0), (.int .i64 0), (.int .i64 0), (.bool false), (.int .i64 0), (.slice none 0 0)] [], none, 0⟩,
  ⟨none, .stR 2 0 10 (.t 102), none, 0⟩,
  ⟨none, .st (.t 3) 1 (.b false), none, 0⟩]
def c72r18 : List SI := [
  ⟨none, .mv 10 (.i 0), none, 0⟩]
def c72r19 : List SI := [
  ⟨none, .mv 103 (.t 9), none, 0⟩,
  ⟨none, .bin 104 .gtr (.t 103) (.i 0), none, 0⟩]
def c72r20 : List SI := [
  ⟨none, .mv 105 (.t 5), none, 0⟩,
  ⟨none, .cav 106 (.t 105) [], none, 0⟩,
  ⟨none, .mv 10 (.t 106), none, 0⟩]
def c72r21 : List SI := [
  ⟨none, .mv 11 (.i 0), none, 0⟩]
def c72r22 : List SI := [
  ⟨none, .mv 107 (.t 11), none, 0⟩,
  ⟨none, .mv 108 (.t 9), none, 0⟩,
  ⟨none, .bin 109 .lss (.t 107) (.t 108), none, 0⟩,
  ⟨none, .mv 110 (.t 109), none, 0⟩,
  ⟨some (110, true), .ld 111 (.t 3) none, none, 111⟩,
  ⟨none, .pick 112 (.t 110) (.t 111) (.b false), none, 0⟩]
def c72r23 : List SI := [
  ⟨none, .ld 116 (.t 1) none, none, 0⟩,
  ⟨none, .ld 117 (.t 4) none, none, 0⟩,
  ⟨none, .nop, (some 2), 0⟩,
  ⟨none, .ldR 119 2 0 none, none, 0⟩,
  ⟨none, .mv 120 (.t 10), none, 0⟩,
  ⟨none, .call 121 89 [(.t 116), (.t 117), (.t 119), (.t 120)], none, 0⟩,
  ⟨none, .mv 115 (.t 121), none, 0⟩,
  ⟨none, .ext 122 (.t 115) 0, none, 0⟩,
  ⟨none, .ext 123 (.t 115) 1, none, 0⟩,
  ⟨none, .ext 124 (.t 115) 2, none, 0⟩,
  ⟨none, .alR 12 [(.int .i64 0), (.string ⟨#[]⟩), (.string ⟨#[]⟩), (.bool false), (.int .i64 0)], none, 0⟩,
  ⟨none, .stR 12 0 5 (.t 122), none, 0⟩,
  ⟨none, .mv 13 (.t 123), none, 0⟩,
  ⟨none, .mv 14 (.t 124), none, 0⟩]
def c72r24 : List SI := [
  ⟨none, .ld 125 (.t 3) none, none, 0⟩,
  ⟨none, .mv 126 (.t 125), none, 0⟩,
  ⟨some (126, true), .mv 127 (.t 14), none, 127⟩,
  ⟨some (126, true), .bin 128 .eql (.t 127) (.i 0), none, 128⟩,
  ⟨none, .pick 129 (.t 126) (.t 128) (.b false), none, 0⟩,
  ⟨none, .mv 130 (.t 129), none, 0⟩,
  ⟨some (130, true), .mv 131 (.t 11), none, 131⟩,
  ⟨some (130, true), .bin 132 .gtr (.t 131) (.i 0), none, 132⟩,
  ⟨some (130, true), .mv 133 (.t 132), none, 133⟩,
  ⟨some (133, false), .nop, (some 12), 99999⟩,
  ⟨some (133, false), .ldR 135 12 4 none, none, 135⟩,
  ⟨some (133, false), .mv 136 (.t 10), none, 136⟩,
  ⟨some (133, false), .bin 137 .eql (.t 135) (.t 136), none, 137⟩,
  ⟨some (130, true), .pick 138 (.t 133) (.b true) (.t 137), none, 138⟩,
  ⟨none, .pick 139 (.t 130) (.t 138) (.b false), none, 0⟩,
  ⟨none, .st (.t 3) 1 (.t 139), none, 0⟩]
def c72r25 : List SI := [
  ⟨none, .mv 140 (.t 13), none, 0⟩,
  ⟨none, .st (.t 4) 1 (.t 140), none, 0⟩]
def c72r26 : List SI := [
  ⟨none, .nop, (some 2), 0⟩,
  ⟨none, .ldR 142 2 9 none, none, 0⟩,
  ⟨none, .ldR 143 12 0 (some 5), none, 0⟩,
  ⟨none, .bls 144 57 1 5 [(.int .i64 0), (.string ⟨#[]⟩), (.string ⟨#[]⟩), (.bool false), (.int .i64 0)] [(0, 5, (.t 143))], none, 0⟩,
  ⟨none, .app 145 (.t 142) (.t 144) 57 5 56, none, 0⟩,
  ⟨none, .nop, (some 2), 0⟩,
  ⟨none, .stR 2 9 1 (.t 145), none, 0⟩]
def c72r27 : List SI := [
  ⟨none, .mv 113 (.t 11), none, 0⟩,
  ⟨none, .bin 114 .add (.t 113) (.i 1), none, 0⟩,
  ⟨none, .mv 11 (.t 114), none, 0⟩]
def c72r28 : List WI := [
  (true, false, ⟨none, .ldR 147 2 0 (some 10), none, 0⟩),
  (true, false, ⟨none, .ld 148 (.t 3) none, none, 0⟩),
  (true, false, ⟨none, .mv 149 (.t 148), none, 0⟩),
  (true, false, ⟨some (149, true), .ld 150 (.t 4) none, none, 150⟩),
  (true, false, ⟨some (149, true), .ld 151 (.t 1) none, none, 151⟩),
  (true, false, ⟨some (149, true), .len 152 false (.t 151), none, 152⟩),
  (true, false, ⟨some (149, true), .bin 153 .eql (.t 150) (.t 152), none, 153⟩),
  (true, false, ⟨none, .pick 154 (.t 149) (.t 153) (.b false), none, 0⟩),
  (false, false, ⟨none, .stR 2 0 10 (.t 147), none, 0⟩),
  (false, true, ⟨none, .st (.t 3) 1 (.t 154), none, 0⟩)]
def c72 : SC :=
  (.seq (.reg false c72r0)
  (.seq (.reg false c72r1)
  (.seq (.reg false c72r2)
  (.seq (.reg false c72r3)
  (.seq (.reg false c72r4)
  (.seq (.seq (.reg false c72r5)
  (.blk 0 (.loop (.seq (.reg false c72r6)
    (.seq (.cond (.t 17)
     .skip
     (.exit 0))
    (.seq (.blk 1 (.seq (.reg false c72r7)
     (.reg false c72r8)))
    (.reg false c72r9)))))))
  (.seq (.seq (.reg false c72r10)
  (.cond (.t 58)
   (.seq (.reg false c72r11)
   .ret)
   .skip))
  (.seq (.reg false c72r12)
  (.seq (.reg false c72r13)
  (.seq (.reg false c72r14)
  (.seq (.reg false c72r15)
  (.seq (.seq (.reg false c72r16)
  (.cond (.t 101)
   (.seq (.reg false c72r17)
   .ret)
   .skip))
  (.seq (.reg false c72r18)
  (.seq (.seq (.reg false c72r19)
  (.cond (.t 104)
   (.reg false c72r20)
   .skip))
  (.seq (.seq (.reg false c72r21)
  (.blk 2 (.loop (.seq (.seq (.reg false c72r22)
    (.cond (.t 112)
     .skip
     (.exit 2)))
    (.seq (.blk 3 (.seq (.reg false c72r23)
     (.seq (.reg false c72r24)
     (.seq (.reg false c72r25)
     (.reg false c72r26)))))
    (.reg false c72r27))))))
  (.seq (.rgW c72r28)
  .ret))))))))))))))))
def v72 : List Nat × List Nat := ([2, 12], [2, 12, 118, 134, 141, 146])
def o72 : List RS := [.r 2 (some 10), .c 3 none]
theorem s72 : slimC Try.prog Try.f72.ntmps v72.1 v72.2 ((Try.f72.body).getD .skip) = some c72 := by kernel_rfl
theorem q72 : slimR Try.prog Try.f72.ntmps v72.1 v72.2 Try.f72.results.toList = some o72 := by kernel_rfl
-- watermeet/watermeetref02.four N=15
def c73r0 : List SI := [
  ⟨none, .mv 2 (.v (.slice none 0 0)), none, 0⟩]
def c73r1 : List SI := [
  ⟨none, .mv 3 (.t 0), none, 0⟩,
  ⟨none, .bin 4 .quo (.t 3) (.v (.int .u32 16777216)), none, 0⟩,
  ⟨none, .cvI 5 .u8 (.t 4), none, 0⟩,
  ⟨none, .mv 6 (.t 0), none, 0⟩,
  ⟨none, .bin 7 .quo (.t 6) (.v (.int .u32 65536)), none, 0⟩,
  ⟨none, .cvI 8 .u8 (.t 7), none, 0⟩,
  ⟨none, .mv 9 (.t 0), none, 0⟩,
  ⟨none, .bin 10 .quo (.t 9) (.v (.int .u32 256)), none, 0⟩,
  ⟨none, .cvI 11 .u8 (.t 10), none, 0⟩,
  ⟨none, .mv 12 (.t 0), none, 0⟩,
  ⟨none, .cvI 13 .u8 (.t 12), none, 0⟩,
  ⟨none, .bls 14 5 4 1 [(.int .u8 0), (.int .u8 0), (.int .u8 0), (.int .u8 0)] [(0, 1, (.t 5)), (1, 1, (.t 8)), (2, 1, (.t 11)), (3, 1, (.t 13))], none, 0⟩,
  ⟨none, .mv 2 (.t 14), none, 0⟩]
def c73 : SC :=
  (.seq (.reg false c73r0)
  (.seq (.reg false c73r1)
  .ret))
def v73 : List Nat × List Nat := ([], [])
def o73 : List RS := [.t 2]
theorem s73 : slimC Try.prog Try.f73.ntmps v73.1 v73.2 ((Try.f73.body).getD .skip) = some c73 := by kernel_rfl
theorem q73 : slimR Try.prog Try.f73.ntmps v73.1 v73.2 Try.f73.results.toList = some o73 := by kernel_rfl
-- watermeet/watermeetref02.Sum N=21
def c74r0 : List SI := [
  ⟨none, .mv 2 (.v (.int .u32 0)), none, 0⟩]
def c74r1 : List SI := [
  ⟨none, .mv 3 (.v (.int .u32 4294967295)), none, 0⟩]
def c74r2 : List SI := [
  ⟨none, .mv 4 (.i 0), none, 0⟩]
def c74r3 : List SI := [
  ⟨none, .mv 5 (.t 4), none, 0⟩,
  ⟨none, .mv 6 (.t 0), none, 0⟩,
  ⟨none, .len 7 false (.t 6), none, 0⟩,
  ⟨none, .bin 8 .lss (.t 5) (.t 7), none, 0⟩]
def c74r4 : List SI := [
  ⟨none, .mv 11 (.t 3), none, 0⟩,
  ⟨none, .mv 12 (.t 0), none, 0⟩,
  ⟨none, .mv 13 (.t 4), none, 0⟩,
  ⟨none, .ixA 14 (.t 12) (.t 13) 1, none, 0⟩,
  ⟨none, .ld 15 (.t 14) none, none, 0⟩,
  ⟨none, .cvI 16 .u32 (.t 15), none, 0⟩,
  ⟨none, .bin 17 .xor (.t 11) (.t 16), none, 0⟩,
  ⟨none, .call 18 90 [(.t 17), (.i 8)], none, 0⟩,
  ⟨none, .mv 3 (.t 18), none, 0⟩]
def c74r5 : List SI := [
  ⟨none, .mv 9 (.t 4), none, 0⟩,
  ⟨none, .bin 10 .add (.t 9) (.i 1), none, 0⟩,
  ⟨none, .mv 4 (.t 10), none, 0⟩]
def c74r6 : List SI := [
  ⟨none, .mv 19 (.t 3), none, 0⟩,
  ⟨none, .bin 20 .xor (.t 19) (.v (.int .u32 4294967295)), none, 0⟩,
  ⟨none, .mv 2 (.t 20), none, 0⟩]
def c74 : SC :=
  (.seq (.reg false c74r0)
  (.seq (.reg false c74r1)
  (.seq (.seq (.reg false c74r2)
  (.blk 0 (.loop (.seq (.seq (.reg false c74r3)
    (.cond (.t 8)
     .skip
     (.exit 0)))
    (.seq (.blk 1 (.reg false c74r4))
    (.reg false c74r5))))))
  (.seq (.reg false c74r6)
  .ret))))
def v74 : List Nat × List Nat := ([], [])
def o74 : List RS := [.t 2]
theorem s74 : slimC Try.prog Try.f74.ntmps v74.1 v74.2 ((Try.f74.body).getD .skip) = some c74 := by kernel_rfl
theorem q74 : slimR Try.prog Try.f74.ntmps v74.1 v74.2 Try.f74.results.toList = some o74 := by kernel_rfl
-- watermeet/watermeetref01.GetVar N=73
def c75r0 : List SI := [
  ⟨none, .mv 4 (.i 0), none, 0⟩,
  ⟨none, .mv 5 (.i 0), none, 0⟩,
  ⟨none, .mv 6 (.i 0), none, 0⟩]
def c75r1 : List SI := [
  ⟨none, .mv 12 (.t 1), none, 0⟩,
  ⟨none, .bin 13 .lss (.t 12) (.i 0), none, 0⟩]
def c75r2 : List SI := [
  ⟨none, .mv 4 (.i 0), none, 0⟩,
  ⟨none, .mv 5 (.i 0), none, 0⟩,
  ⟨none, .mv 6 (.i 1), none, 0⟩]
def c75r3 : List SI := [
  ⟨none, .mv 7 (.v (.int .u64 0)), none, 0⟩]
def c75r4 : List SI := [
  ⟨none, .mv 8 (.v (.int .u64 1)), none, 0⟩]
def c75r5 : List SI := [
  ⟨none, .mv 9 (.i 0), none, 0⟩]
def c75r6 : List SI := [
  ⟨none, .mv 16 (.t 1), none, 0⟩,
  ⟨none, .mv 17 (.t 0), none, 0⟩,
  ⟨none, .len 18 false (.t 17), none, 0⟩,
  ⟨none, .bin 19 .geq (.t 16) (.t 18), none, 0⟩,
  ⟨none, .mv 20 (.t 19), none, 0⟩,
  ⟨some (20, false), .mv 21 (.t 9), none, 21⟩,
  ⟨some (20, false), .mv 22 (.t 0), none, 22⟩,
  ⟨some (20, false), .len 23 false (.t 22), none, 23⟩,
  ⟨some (20, false), .mv 24 (.t 1), none, 24⟩,
  ⟨some (20, false), .bin 25 .sub (.t 23) (.t 24), none, 25⟩,
  ⟨some (20, false), .bin 26 .geq (.t 21) (.t 25), none, 26⟩,
  ⟨none, .pick 27 (.t 20) (.b true) (.t 26), none, 0⟩]
def c75r7 : List SI := [
  ⟨none, .mv 4 (.i 0), none, 0⟩,
  ⟨none, .mv 5 (.i 0), none, 0⟩,
  ⟨none, .mv 6 (.i 10), none, 0⟩]
def c75r8 : List SI := [
  ⟨none, .mv 28 (.t 0), none, 0⟩,
  ⟨none, .mv 29 (.t 1), none, 0⟩,
  ⟨none, .mv 30 (.t 9), none, 0⟩,
  ⟨none, .bin 31 .add (.t 29) (.t 30), none, 0⟩,
  ⟨none, .ixA 32 (.t 28) (.t 31) 1, none, 0⟩,
  ⟨none, .ld 33 (.t 32) none, none, 0⟩,
  ⟨none, .mv 10 (.t 33), none, 0⟩]
def c75r9 : List SI := [
  ⟨none, .mv 34 (.t 9), none, 0⟩,
  ⟨none, .bin 35 .eql (.t 34) (.i 9), none, 0⟩,
  ⟨none, .mv 36 (.t 35), none, 0⟩,
  ⟨some (36, true), .mv 37 (.t 10), none, 37⟩,
  ⟨some (36, true), .bin 38 .gtr (.t 37) (.v (.int .u8 1)), none, 38⟩,
  ⟨none, .pick 39 (.t 36) (.t 38) (.b false), none, 0⟩,
  ⟨none, .mv 40 (.t 39), none, 0⟩,
  ⟨some (40, false), .mv 41 (.t 9), none, 41⟩,
  ⟨some (40, false), .bin 42 .gtr (.t 41) (.i 0), none, 42⟩,
  ⟨some (40, false), .mv 43 (.t 42), none, 43⟩,
  ⟨some (43, true), .mv 44 (.t 10), none, 44⟩,
  ⟨some (43, true), .bin 45 .eql (.t 44) (.v (.int .u8 0)), none, 45⟩,
  ⟨some (40, false), .pick 46 (.t 43) (.t 45) (.b false), none, 46⟩,
  ⟨none, .pick 47 (.t 40) (.b true) (.t 46), none, 0⟩]
def c75r10 : List SI := [
  ⟨none, .mv 4 (.i 0), none, 0⟩,
  ⟨none, .mv 5 (.i 0), none, 0⟩,
  ⟨none, .mv 6 (.i 11), none, 0⟩]
def c75r11 : List SI := [
  ⟨none, .mv 48 (.t 7), none, 0⟩,
  ⟨none, .mv 49 (.t 8), none, 0⟩,
  ⟨none, .mv 50 (.t 10), none, 0⟩,
  ⟨none, .bin 51 .rem (.t 50) (.v (.int .u8 128)), none, 0⟩,
  ⟨none, .cvI 52 .u64 (.t 51), none, 0⟩,
  ⟨none, .bin 53 .mul (.t 49) (.t 52), none, 0⟩,
  ⟨none, .bin 54 .add (.t 48) (.t 53), none, 0⟩,
  ⟨none, .mv 7 (.t 54), none, 0⟩]
def c75r12 : List SI := [
  ⟨none, .mv 55 (.t 8), none, 0⟩,
  ⟨none, .bin 56 .mul (.t 55) (.v (.int .u64 128)), none, 0⟩,
  ⟨none, .mv 8 (.t 56), none, 0⟩]
def c75r13 : List SI := [
  ⟨none, .mv 57 (.t 10), none, 0⟩,
  ⟨none, .bin 58 .lss (.t 57) (.v (.int .u8 128)), none, 0⟩]
def c75r14 : List SI := [
  ⟨none, .mv 59 (.t 7), none, 0⟩,
  ⟨none, .bin 60 .quo (.t 59) (.v (.int .u64 2)), none, 0⟩,
  ⟨none, .cvI 61 .i64 (.t 60), none, 0⟩,
  ⟨none, .mv 11 (.t 61), none, 0⟩]
def c75r15 : List SI := [
  ⟨none, .mv 62 (.t 7), none, 0⟩,
  ⟨none, .bin 63 .rem (.t 62) (.v (.int .u64 2)), none, 0⟩,
  ⟨none, .bin 64 .eql (.t 63) (.v (.int .u64 1)), none, 0⟩]
def c75r16 : List SI := [
  ⟨none, .mv 65 (.t 11), none, 0⟩,
  ⟨none, .un 66 .neg (.t 65), none, 0⟩,
  ⟨none, .bin 67 .sub (.t 66) (.i 1), none, 0⟩,
  ⟨none, .mv 11 (.t 67), none, 0⟩]
def c75r17 : List SI := [
  ⟨none, .mv 68 (.t 11), none, 0⟩,
  ⟨none, .mv 69 (.t 1), none, 0⟩,
  ⟨none, .mv 70 (.t 9), none, 0⟩,
  ⟨none, .bin 71 .add (.t 69) (.t 70), none, 0⟩,
  ⟨none, .bin 72 .add (.t 71) (.i 1), none, 0⟩,
  ⟨none, .mv 4 (.t 68), none, 0⟩,
  ⟨none, .mv 5 (.t 72), none, 0⟩,
  ⟨none, .mv 6 (.i 0), none, 0⟩]
def c75r18 : List SI := [
  ⟨none, .mv 14 (.t 9), none, 0⟩,
  ⟨none, .bin 15 .add (.t 14) (.i 1), none, 0⟩,
  ⟨none, .mv 9 (.t 15), none, 0⟩]
def c75 : SC :=
  (.seq (.reg false c75r0)
  (.seq (.seq (.reg false c75r1)
  (.cond (.t 13)
   (.seq (.reg false c75r2)
   .ret)
   .skip))
  (.seq (.reg false c75r3)
  (.seq (.reg false c75r4)
  (.seq (.reg false c75r5)
  (.blk 0 (.loop (.seq (.blk 1 (.seq (.seq (.reg false c75r6)
     (.cond (.t 27)
      (.seq (.reg false c75r7)
      .ret)
      .skip))
     (.seq (.reg false c75r8)
     (.seq (.seq (.reg false c75r9)
     (.cond (.t 47)
      (.seq (.reg false c75r10)
      .ret)
      .skip))
     (.seq (.reg false c75r11)
     (.seq (.reg false c75r12)
     (.seq (.reg false c75r13)
     (.cond (.t 58)
      (.seq (.reg false c75r14)
      (.seq (.seq (.reg false c75r15)
      (.cond (.t 64)
       (.reg false c75r16)
       .skip))
      (.seq (.reg false c75r17)
      .ret)))
      .skip))))))))
    (.reg false c75r18)))))))))
def v75 : List Nat × List Nat := ([], [])
def o75 : List RS := [.t 4, .t 5, .t 6]
theorem s75 : slimC Try.prog Try.f75.ntmps v75.1 v75.2 ((Try.f75.body).getD .skip) = some c75 := by kernel_rfl
theorem q75 : slimR Try.prog Try.f75.ntmps v75.1 v75.2 Try.f75.results.toList = some o75 := by kernel_rfl
-- watermeet/watermeetref03.Get N=121
def c76r0 : List SI := [
  ⟨none, .alR 8 [(.int .i64 0), (.string ⟨#[]⟩), (.string ⟨#[]⟩), (.bool false), (.int .i64 0)], none, 0⟩,
  ⟨none, .mv 9 (.i 0), none, 0⟩,
  ⟨none, .mv 10 (.i 0), none, 0⟩]
def c76r1 : List SI := [
  ⟨none, .bld 25 [(.int .i64 0), (.string ⟨#[]⟩), (.string ⟨#[]⟩), (.bool false), (.int .i64 0)] [], none, 0⟩,
  ⟨none, .alR 11 [(.int .i64 0), (.string ⟨#[]⟩), (.string ⟨#[]⟩), (.bool false), (.int .i64 0)], none, 0⟩,
  ⟨none, .stR 11 0 5 (.t 25), none, 0⟩]
def c76r2 : List SI := [
  ⟨none, .mv 26 (.t 2), none, 0⟩,
  ⟨none, .call 27 84 [(.t 26)], none, 0⟩,
  ⟨none, .un 28 .not (.t 27), none, 0⟩,
  ⟨none, .mv 29 (.t 28), none, 0⟩,
  ⟨some (29, false), .mv 30 (.t 3), none, 30⟩,
  ⟨some (29, false), .call 31 84 [(.t 30)], none, 31⟩,
  ⟨some (29, false), .un 32 .not (.t 31), none, 32⟩,
  ⟨none, .pick 33 (.t 29) (.b true) (.t 32), none, 0⟩,
  ⟨none, .mv 34 (.t 33), none, 0⟩,
  ⟨some (34, false), .mv 35 (.t 1), none, 35⟩,
  ⟨some (34, false), .bin 36 .lss (.t 35) (.i 0), none, 36⟩,
  ⟨none, .pick 37 (.t 34) (.b true) (.t 36), none, 0⟩,
  ⟨none, .mv 38 (.t 37), none, 0⟩,
  ⟨some (38, false), .mv 39 (.t 1), none, 39⟩,
  ⟨some (38, false), .mv 40 (.t 0), none, 40⟩,
  ⟨some (38, false), .len 41 false (.t 40), none, 41⟩,
  ⟨some (38, false), .bin 42 .gtr (.t 39) (.t 41), none, 42⟩,
  ⟨none, .pick 43 (.t 38) (.b true) (.t 42), none, 0⟩]
def c76r3 : List SI := [
  ⟨none, .ldR 44 11 0 (some 5), none, 0⟩,
  ⟨none, .stR 8 0 5 (.t 44), none, 0⟩,
  ⟨none, .mv 9 (.i 0), none, 0⟩,
  ⟨none, .mv 10 (.i 1), none, 0⟩]
def c76r4 : List SI := [
  ⟨none, .mv 46 (.t 0), none, 0⟩,
  ⟨none, .mv 47 (.t 1), none, 0⟩,
  ⟨none, .call 48 75 [(.t 46), (.t 47)], none, 0⟩,
  ⟨none, .mv 45 (.t 48), none, 0⟩,
  ⟨none, .ext 49 (.t 45) 0, none, 0⟩,
  ⟨none, .ext 50 (.t 45) 1, none, 0⟩,
  ⟨none, .ext 51 (.t 45) 2, none, 0⟩,
  ⟨none, .mv 12 (.t 49), none, 0⟩,
  ⟨none, .mv 13 (.t 50), none, 0⟩,
  ⟨none, .mv 14 (.t 51), none, 0⟩]
def c76r5 : List SI := [
  ⟨none, .mv 52 (.t 14), none, 0⟩,
  ⟨none, .bin 53 .neq (.t 52) (.i 0), none, 0⟩]
def c76r6 : List SI := [
  ⟨none, .ldR 54 11 0 (some 5), none, 0⟩,
  ⟨none, .mv 55 (.t 14), none, 0⟩,
  ⟨none, .stR 8 0 5 (.t 54), none, 0⟩,
  ⟨none, .mv 9 (.i 0), none, 0⟩,
  ⟨none, .mv 10 (.t 55), none, 0⟩]
def c76r7 : List SI := [
  ⟨none, .mv 57 (.t 0), none, 0⟩,
  ⟨none, .mv 58 (.t 13), none, 0⟩,
  ⟨none, .call 59 75 [(.t 57), (.t 58)], none, 0⟩,
  ⟨none, .mv 56 (.t 59), none, 0⟩,
  ⟨none, .ext 60 (.t 56) 0, none, 0⟩,
  ⟨none, .ext 61 (.t 56) 1, none, 0⟩,
  ⟨none, .ext 62 (.t 56) 2, none, 0⟩,
  ⟨none, .mv 15 (.t 60), none, 0⟩,
  ⟨none, .mv 16 (.t 61), none, 0⟩,
  ⟨none, .mv 17 (.t 62), none, 0⟩]
def c76r8 : List SI := [
  ⟨none, .mv 63 (.t 17), none, 0⟩,
  ⟨none, .bin 64 .neq (.t 63) (.i 0), none, 0⟩]
def c76r9 : List SI := [
  ⟨none, .ldR 65 11 0 (some 5), none, 0⟩,
  ⟨none, .mv 66 (.t 17), none, 0⟩,
  ⟨none, .stR 8 0 5 (.t 65), none, 0⟩,
  ⟨none, .mv 9 (.i 0), none, 0⟩,
  ⟨none, .mv 10 (.t 66), none, 0⟩]
def c76r10 : List SI := [
  ⟨none, .mv 67 (.t 16), none, 0⟩,
  ⟨none, .mv 68 (.t 0), none, 0⟩,
  ⟨none, .len 69 false (.t 68), none, 0⟩,
  ⟨none, .bin 70 .geq (.t 67) (.t 69), none, 0⟩]
def c76r11 : List SI := [
  ⟨none, .ldR 71 11 0 (some 5), none, 0⟩,
  ⟨none, .stR 8 0 5 (.t 71), none, 0⟩,
  ⟨none, .mv 9 (.i 0), none, 0⟩,
  ⟨none, .mv 10 (.i 10), none, 0⟩]
def c76r12 : List SI := [
  ⟨none, .mv 72 (.t 0), none, 0⟩,
  ⟨none, .mv 73 (.t 16), none, 0⟩,
  ⟨none, .ixA 74 (.t 72) (.t 73) 1, none, 0⟩,
  ⟨none, .ld 75 (.t 74) none, none, 0⟩,
  ⟨none, .bin 76 .gtr (.t 75) (.v (.int .u8 1)), none, 0⟩]
def c76r13 : List SI := [
  ⟨none, .ldR 77 11 0 (some 5), none, 0⟩,
  ⟨none, .stR 8 0 5 (.t 77), none, 0⟩,
  ⟨none, .mv 9 (.i 0), none, 0⟩,
  ⟨none, .mv 10 (.i 11), none, 0⟩]
def c76r14 : List SI := [
  ⟨none, .mv 79 (.t 0), none, 0⟩,
  ⟨none, .mv 80 (.t 16), none, 0⟩,
  ⟨none, .bin 81 .add (.t 80) (.i 1), none, 0⟩,
  ⟨none, .call 82 91 [(.t 79), (.t 81), (.i 64)], none, 0⟩,
  ⟨none, .mv 78 (.t 82), none, 0⟩,
  ⟨none, .ext 83 (.t 78) 0, none, 0⟩,
  ⟨none, .ext 84 (.t 78) 1, none, 0⟩,
  ⟨none, .ext 85 (.t 78) 2, none, 0⟩,
  ⟨none, .mv 18 (.t 83), none, 0⟩,
  ⟨none, .mv 19 (.t 84), none, 0⟩,
  ⟨none, .mv 20 (.t 85), none, 0⟩]
def c76r15 : List SI := [
  ⟨none, .mv 86 (.t 20), none, 0⟩,
  ⟨none, .bin 87 .neq (.t 86) (.i 0), none, 0⟩]
def c76r16 : List SI := [
  ⟨none, .ldR 88 11 0 (some 5), none, 0⟩,
  ⟨none, .mv 89 (.t 20), none, 0⟩,
  ⟨none, .stR 8 0 5 (.t 88), none, 0⟩,
  ⟨none, .mv 9 (.i 0), none, 0⟩,
  ⟨none, .mv 10 (.t 89), none, 0⟩]
def c76r17 : List SI := [
  ⟨none, .mv 91 (.t 0), none, 0⟩,
  ⟨none, .mv 92 (.t 19), none, 0⟩,
  ⟨none, .call 93 91 [(.t 91), (.t 92), (.i 64)], none, 0⟩,
  ⟨none, .mv 90 (.t 93), none, 0⟩,
  ⟨none, .ext 94 (.t 90) 0, none, 0⟩,
  ⟨none, .ext 95 (.t 90) 1, none, 0⟩,
  ⟨none, .ext 96 (.t 90) 2, none, 0⟩,
  ⟨none, .mv 21 (.t 94), none, 0⟩,
  ⟨none, .mv 22 (.t 95), none, 0⟩,
  ⟨none, .mv 23 (.t 96), none, 0⟩]
def c76r18 : List SI := [
  ⟨none, .mv 97 (.t 23), none, 0⟩,
  ⟨none, .bin 98 .neq (.t 97) (.i 0), none, 0⟩]
def c76r19 : List SI := [
  ⟨none, .ldR 99 11 0 (some 5), none, 0⟩,
  ⟨none, .mv 100 (.t 23), none, 0⟩,
  ⟨none, .stR 8 0 5 (.t 99), none, 0⟩,
  ⟨none, .mv 9 (.i 0), none, 0⟩,
  ⟨none, .mv 10 (.t 100), none, 0⟩]
def c76r20 : RX := .br [(true, ⟨none, .mv 101 (.t 2), none, 0⟩),
  (true, ⟨none, .mv 102 (.t 12), none, 0⟩),
  (true, ⟨none, .mv 104 (.t 18), none, 0⟩),
  (true, ⟨none, .mv 105 (.t 21), none, 0⟩),
  (true, ⟨none, .mv 106 (.t 0), none, 0⟩),
  (true, ⟨none, .mv 107 (.t 16), none, 0⟩),
  (true, ⟨none, .ixA 108 (.t 106) (.t 107) 1, none, 0⟩),
  (true, ⟨none, .ld 109 (.t 108) none, none, 0⟩),
  (true, ⟨none, .bin 110 .eql (.t 109) (.v (.int .u8 1)), none, 0⟩),
  (true, ⟨none, .mv 111 (.t 3), none, 0⟩),
  (true, ⟨none, .mv 112 (.t 15), none, 0⟩)]
  ⟨none, .call 103 92 [(.t 101), (.t 102)], none, 0⟩
  (.br []
  ⟨none, .call 113 92 [(.t 111), (.t 112)], none, 0⟩
  (.leaf [(true, ⟨none, .bld 114 [(.int .i64 0), (.string ⟨#[]⟩), (.string ⟨#[]⟩), (.bool false), (.int .i64 0)] [(0, 1, (.t 103)), (1, 1, (.t 104)), (2, 1, (.t 105)), (3, 1, (.t 110)), (4, 1, (.t 113))], none, 0⟩),
  (false, ⟨none, .al 24 [(.int .i64 0), (.string ⟨#[]⟩), (.string ⟨#[]⟩), (.bool false), (.int .i64 0)], none, 0⟩),
  (false, ⟨none, .st (.t 24) 5 (.t 114), none, 0⟩)])
  ⟨none, .al 24 [(.int .i64 0), (.string ⟨#[]⟩), (.string ⟨#[]⟩), (.bool false), (.int .i64 0)], none, 0⟩
  (.leaf [(false, ⟨none, .call 113 92 [(.t 111), (.t 112)], none, 0⟩),
  (true, ⟨none, .bld 114 [(.int .i64 0), (.string ⟨#[]⟩), (.string ⟨#[]⟩), (.bool false), (.int .i64 0)] [(0, 1, (.t 103)), (1, 1, (.t 104)), (2, 1, (.t 105)), (3, 1, (.t 110)), (4, 1, (.t 113))], none, 0⟩),
  (false, ⟨none, .st (.t 24) 5 (.t 114), none, 0⟩)]))
  ⟨none, .al 24 [(.int .i64 0), (.string ⟨#[]⟩), (.string ⟨#[]⟩), (.bool false), (.int .i64 0)], none, 0⟩
  (.leaf [(false, ⟨none, .call 103 92 [(.t 101), (.t 102)], none, 0⟩),
  (false, ⟨none, .call 113 92 [(.t 111), (.t 112)], none, 0⟩),
  (true, ⟨none, .bld 114 [(.int .i64 0), (.string ⟨#[]⟩), (.string ⟨#[]⟩), (.bool false), (.int .i64 0)] [(0, 1, (.t 103)), (1, 1, (.t 104)), (2, 1, (.t 105)), (3, 1, (.t 110)), (4, 1, (.t 113))], none, 0⟩),
  (false, ⟨none, .st (.t 24) 5 (.t 114), none, 0⟩)])
def c76r21 : List SI := [
  ⟨none, .ld 115 (.t 24) (some 5), none, 0⟩,
  ⟨none, .call 116 83 [(.t 115)], none, 0⟩,
  ⟨none, .bin 117 .neq (.t 116) (.i 0), none, 0⟩]
def c76r22 : List SI := [
  ⟨none, .ldR 118 11 0 (some 5), none, 0⟩,
  ⟨none, .stR 8 0 5 (.t 118), none, 0⟩,
  ⟨none, .mv 9 (.i 0), none, 0⟩,
  ⟨none, .mv 10 (.i 1), none, 0⟩]
def c76r23 : List SI := [
  ⟨none, .ld 119 (.t 24) (some 5), none, 0⟩,
  ⟨none, .mv 120 (.t 22), none, 0⟩,
  ⟨none, .stR 8 0 5 (.t 119), none, 0⟩,
  ⟨none, .mv 9 (.t 120), none, 0⟩,
  ⟨none, .mv 10 (.i 0), none, 0⟩]
def c76 : SC :=
  (.seq (.reg false c76r0)
  (.seq (.reg false c76r1)
  (.seq (.seq (.reg false c76r2)
  (.cond (.t 43)
   (.seq (.reg false c76r3)
   .ret)
   .skip))
  (.seq (.reg false c76r4)
  (.seq (.seq (.reg false c76r5)
  (.cond (.t 53)
   (.seq (.reg false c76r6)
   .ret)
   .skip))
  (.seq (.reg false c76r7)
  (.seq (.seq (.reg false c76r8)
  (.cond (.t 64)
   (.seq (.reg false c76r9)
   .ret)
   .skip))
  (.seq (.seq (.reg false c76r10)
  (.cond (.t 70)
   (.seq (.reg false c76r11)
   .ret)
   .skip))
  (.seq (.seq (.reg false c76r12)
  (.cond (.t 76)
   (.seq (.reg false c76r13)
   .ret)
   .skip))
  (.seq (.reg false c76r14)
  (.seq (.seq (.reg false c76r15)
  (.cond (.t 87)
   (.seq (.reg false c76r16)
   .ret)
   .skip))
  (.seq (.reg false c76r17)
  (.seq (.seq (.reg false c76r18)
  (.cond (.t 98)
   (.seq (.reg false c76r19)
   .ret)
   .skip))
  (.seq (.rgZ c76r20)
  (.seq (.seq (.reg false c76r21)
  (.cond (.t 117)
   (.seq (.reg false c76r22)
   .ret)
   .skip))
  (.seq (.reg false c76r23)
  .ret))))))))))))))))
def v76 : List Nat × List Nat := ([8, 11], [8, 11])
def o76 : List RS := [.r 8 (some 5), .t 9, .t 10]
theorem s76 : slimC Try.prog Try.f76.ntmps v76.1 v76.2 ((Try.f76.body).getD .skip) = some c76 := by kernel_rfl
theorem q76 : slimR Try.prog Try.f76.ntmps v76.1 v76.2 Try.f76.results.toList = some o76 := by kernel_rfl
-- slices.Min[[]int,int] N=25
def c77r0 : List SI := [
  ⟨none, .mv 2 (.i 0), none, 0⟩]
def c77r1 : List SI := [
  ⟨none, .mv 5 (.t 0), none, 0⟩,
  ⟨none, .len 6 false (.t 5), none, 0⟩,
  ⟨none, .bin 7 .lss (.t 6) (.i 1), none, 0⟩]
def c77r2 : List SI := [
  ⟨none, .mv 9 (.t 0), none, 0⟩,
  ⟨none, .ixA 10 (.t 9) (.i 0) 1, none, 0⟩,
  ⟨none, .ld 11 (.t 10) none, none, 0⟩,
  ⟨none, .mv 3 (.t 11), none, 0⟩]
def c77r3 : List SI := [
  ⟨none, .mv 4 (.i 1), none, 0⟩]
def c77r4 : List SI := [
  ⟨none, .mv 12 (.t 4), none, 0⟩,
  ⟨none, .mv 13 (.t 0), none, 0⟩,
  ⟨none, .len 14 false (.t 13), none, 0⟩,
  ⟨none, .bin 15 .lss (.t 12) (.t 14), none, 0⟩]
def c77r5 : List SI := [
  ⟨none, .mv 18 (.t 3), none, 0⟩,
  ⟨none, .mv 19 (.t 0), none, 0⟩,
  ⟨none, .mv 20 (.t 4), none, 0⟩,
  ⟨none, .ixA 21 (.t 19) (.t 20) 1, none, 0⟩,
  ⟨none, .ld 22 (.t 21) none, none, 0⟩,
  ⟨none, .mm 23 false (.t 18) (.t 22), none, 0⟩,
  ⟨none, .mv 3 (.t 23), none, 0⟩]
def c77r6 : List SI := [
  ⟨none, .mv 16 (.t 4), none, 0⟩,
  ⟨none, .bin 17 .add (.t 16) (.i 1), none, 0⟩,
  ⟨none, .mv 4 (.t 17), none, 0⟩]
def c77r7 : List SI := [
  ⟨none, .mv 24 (.t 3), none, 0⟩,
  ⟨none, .mv 2 (.t 24), none, 0⟩]
def c77 : SC :=
  (.seq (.reg false c77r0)
  (.seq (.seq (.reg false c77r1)
  (.cond (.t 7)
   .dead
   .skip))
  (.seq (.reg false c77r2)
  (.seq (.seq (.reg false c77r3)
  (.blk 0 (.loop (.seq (.seq (.reg false c77r4)
    (.cond (.t 15)
     .skip
     (.exit 0)))
    (.seq (.blk 1 (.reg false c77r5))
    (.reg false c77r6))))))
  (.seq (.reg false c77r7)
  .ret)))))
def v77 : List Nat × List Nat := ([], [])
def o77 : List RS := [.t 2]
theorem s77 : slimC Try.prog Try.f77.ntmps v77.1 v77.2 ((Try.f77.body).getD .skip) = some c77 := by kernel_rfl
theorem q77 : slimR Try.prog Try.f77.ntmps v77.1 v77.2 Try.f77.results.toList = some o77 := by kernel_rfl
-- slices.Max[[]int,int] N=25
def c78r0 : List SI := [
  ⟨none, .mv 2 (.i 0), none, 0⟩]
def c78r1 : List SI := [
  ⟨none, .mv 5 (.t 0), none, 0⟩,
  ⟨none, .len 6 false (.t 5), none, 0⟩,
  ⟨none, .bin 7 .lss (.t 6) (.i 1), none, 0⟩]
def c78r2 : List SI := [
  ⟨none, .mv 9 (.t 0), none, 0⟩,
  ⟨none, .ixA 10 (.t 9) (.i 0) 1, none, 0⟩,
  ⟨none, .ld 11 (.t 10) none, none, 0⟩,
  ⟨none, .mv 3 (.t 11), none, 0⟩]
def c78r3 : List SI := [
  ⟨none, .mv 4 (.i 1), none, 0⟩]
def c78r4 : List SI := [
  ⟨none, .mv 12 (.t 4), none, 0⟩,
  ⟨none, .mv 13 (.t 0), none, 0⟩,
  ⟨none, .len 14 false (.t 13), none, 0⟩,
  ⟨none, .bin 15 .lss (.t 12) (.t 14), none, 0⟩]
def c78r5 : List SI := [
  ⟨none, .mv 18 (.t 3), none, 0⟩,
  ⟨none, .mv 19 (.t 0), none, 0⟩,
  ⟨none, .mv 20 (.t 4), none, 0⟩,
  ⟨none, .ixA 21 (.t 19) (.t 20) 1, none, 0⟩,
  ⟨none, .ld 22 (.t 21) none, none, 0⟩,
  ⟨none, .mm 23 true (.t 18) (.t 22), none, 0⟩,
  ⟨none, .mv 3 (.t 23), none, 0⟩]
def c78r6 : List SI := [
  ⟨none, .mv 16 (.t 4), none, 0⟩,
  ⟨none, .bin 17 .add (.t 16) (.i 1), none, 0⟩,
  ⟨none, .mv 4 (.t 17), none, 0⟩]
def c78r7 : List SI := [
  ⟨none, .mv 24 (.t 3), none, 0⟩,
  ⟨none, .mv 2 (.t 24), none, 0⟩]
def c78 : SC :=
  (.seq (.reg false c78r0)
  (.seq (.seq (.reg false c78r1)
  (.cond (.t 7)
   .dead
   .skip))
  (.seq (.reg false c78r2)
  (.seq (.seq (.reg false c78r3)
  (.blk 0 (.loop (.seq (.seq (.reg false c78r4)
    (.cond (.t 15)
     .skip
     (.exit 0)))
    (.seq (.blk 1 (.reg false c78r5))
    (.reg false c78r6))))))
  (.seq (.reg false c78r7)
  .ret)))))
def v78 : List Nat × List Nat := ([], [])
def o78 : List RS := [.t 2]
theorem s78 : slimC Try.prog Try.f78.ntmps v78.1 v78.2 ((Try.f78.body).getD .skip) = some c78 := by kernel_rfl
theorem q78 : slimR Try.prog Try.f78.ntmps v78.1 v78.2 Try.f78.results.toList = some o78 := by kernel_rfl
-- watermeet/rec.in N=9
def c79r0 : List SI := [
  ⟨none, .mv 2 (.b false), none, 0⟩]
def c79r1 : List SI := [
  ⟨none, .mv 3 (.t 0), none, 0⟩,
  ⟨none, .bin 4 .geq (.t 3) (.i 0), none, 0⟩,
  ⟨none, .mv 5 (.t 4), none, 0⟩,
  ⟨some (5, true), .mv 6 (.t 0), none, 6⟩,
  ⟨some (5, true), .bin 7 .leq (.t 6) (.i 1099511627776), none, 7⟩,
  ⟨none, .pick 8 (.t 5) (.t 7) (.b false), none, 0⟩,
  ⟨none, .mv 2 (.t 8), none, 0⟩]
def c79 : SC :=
  (.seq (.reg false c79r0)
  (.seq (.reg false c79r1)
  .ret))
def v79 : List Nat × List Nat := ([], [])
def o79 : List RS := [.t 2]
theorem s79 : slimC Try.prog Try.f79.ntmps v79.1 v79.2 ((Try.f79.body).getD .skip) = some c79 := by kernel_rfl
theorem q79 : slimR Try.prog Try.f79.ntmps v79.1 v79.2 Try.f79.results.toList = some o79 := by kernel_rfl
-- watermeet/octet.PutText N=11
def c80r0 : List SI := [
  ⟨none, .mv 4 (.v (.slice none 0 0)), none, 0⟩]
def c80r1 : List SI := [
  ⟨none, .mv 5 (.t 0), none, 0⟩,
  ⟨none, .mv 6 (.t 1), none, 0⟩,
  ⟨none, .len 7 true (.t 6), none, 0⟩,
  ⟨none, .call 8 61 [(.t 5), (.t 7)], none, 0⟩,
  ⟨none, .mv 9 (.t 1), none, 0⟩,
  ⟨none, .app 10 (.t 8) (.t 9) 5 1 1, none, 0⟩,
  ⟨none, .mv 4 (.t 10), none, 0⟩]
def c80 : SC :=
  (.seq (.reg false c80r0)
  (.seq (.reg false c80r1)
  .ret))
def v80 : List Nat × List Nat := ([], [])
def o80 : List RS := [.t 4]
theorem s80 : slimC Try.prog Try.f80.ntmps v80.1 v80.2 ((Try.f80.body).getD .skip) = some c80 := by kernel_rfl
theorem q80 : slimR Try.prog Try.f80.ntmps v80.1 v80.2 Try.f80.results.toList = some o80 := by kernel_rfl
-- watermeet/crc.Sum N=21
def c81r0 : List SI := [
  ⟨none, .mv 2 (.v (.int .u32 0)), none, 0⟩]
def c81r1 : List SI := [
  ⟨none, .call 7 93 [], none, 0⟩,
  ⟨none, .mv 3 (.t 7), none, 0⟩]
def c81r2 : List SI := [
  ⟨none, .mv 4 (.v (.int .u32 4294967295)), none, 0⟩]
def c81r3 : List SI := [
  ⟨none, .mv 8 (.t 0), none, 0⟩,
  ⟨none, .len 9 false (.t 8), none, 0⟩,
  ⟨none, .mv 10 (.i 0), none, 0⟩]
def c81r4 : List SI := [
  ⟨none, .bin 11 .lss (.t 10) (.t 9), none, 0⟩]
def c81r5 : List SI := [
  ⟨none, .ixA 12 (.t 8) (.t 10) 1, none, 0⟩,
  ⟨none, .ld 13 (.t 12) none, none, 0⟩,
  ⟨none, .mv 6 (.t 13), none, 0⟩]
def c81r6 : List SI := [
  ⟨none, .mv 14 (.t 3), none, 0⟩,
  ⟨none, .mv 15 (.t 4), none, 0⟩,
  ⟨none, .mv 16 (.t 6), none, 0⟩,
  ⟨none, .cav 17 (.t 14) [(.t 15), (.t 16)], none, 0⟩,
  ⟨none, .mv 4 (.t 17), none, 0⟩]
def c81r7 : List SI := [
  ⟨none, .bin 18 .add (.t 10) (.i 1), none, 0⟩,
  ⟨none, .mv 10 (.t 18), none, 0⟩]
def c81r8 : List SI := [
  ⟨none, .mv 19 (.t 4), none, 0⟩,
  ⟨none, .un 20 .xor (.t 19), none, 0⟩,
  ⟨none, .mv 2 (.t 20), none, 0⟩]
def c81 : SC :=
  (.seq (.reg false c81r0)
  (.seq (.reg false c81r1)
  (.seq (.reg false c81r2)
  (.seq (.seq (.reg false c81r3)
  (.blk 0 (.loop (.seq (.reg false c81r4)
    (.seq (.cond (.t 11)
     .skip
     (.exit 0))
    (.seq (.blk 1 (.seq (.reg false c81r5)
     (.reg false c81r6)))
    (.reg false c81r7)))))))
  (.seq (.reg false c81r8)
  .ret)))))
def v81 : List Nat × List Nat := ([], [])
def o81 : List RS := [.t 2]
theorem s81 : slimC Try.prog Try.f81.ntmps v81.1 v81.2 ((Try.f81.body).getD .skip) = some c81 := by kernel_rfl
theorem q81 : slimR Try.prog Try.f81.ntmps v81.1 v81.2 Try.f81.results.toList = some o81 := by kernel_rfl
-- watermeet/watermeetref04.in N=12
def c82r0 : List SI := [
  ⟨none, .mv 4 (.b false), none, 0⟩]
def c82r1 : List SI := [
  ⟨none, .mv 5 (.t 0), none, 0⟩,
  ⟨none, .bin 6 .geq (.t 5) (.i 0), none, 0⟩,
  ⟨none, .mv 7 (.t 6), none, 0⟩,
  ⟨some (7, true), .mv 8 (.t 0), none, 8⟩,
  ⟨some (7, true), .mv 9 (.t 1), none, 9⟩,
  ⟨some (7, true), .bin 10 .leq (.t 8) (.t 9), none, 10⟩,
  ⟨none, .pick 11 (.t 7) (.t 10) (.b false), none, 0⟩,
  ⟨none, .mv 4 (.t 11), none, 0⟩]
def c82 : SC :=
  (.seq (.reg false c82r0)
  (.seq (.reg false c82r1)
  .ret))
def v82 : List Nat × List Nat := ([], [])
def o82 : List RS := [.t 4]
theorem s82 : slimC Try.prog Try.f82.ntmps v82.1 v82.2 ((Try.f82.body).getD .skip) = some c82 := by kernel_rfl
theorem q82 : slimR Try.prog Try.f82.ntmps v82.1 v82.2 Try.f82.results.toList = some o82 := by kernel_rfl
-- watermeet/watermeetref03.Check N=39
def c83r0 : List SI := [
  ⟨none, .bxR 1 (.t 0), none, 0⟩,
  ⟨none, .mv 2 (.i 0), none, 0⟩]
def c83r1 : List SI := [
  ⟨none, .nop, (some 1), 0⟩,
  ⟨none, .ldR 4 1 0 none, none, 0⟩,
  ⟨none, .call 5 84 [(.t 4)], none, 0⟩,
  ⟨none, .un 6 .not (.t 5), none, 0⟩,
  ⟨none, .mv 7 (.t 6), none, 0⟩,
  ⟨some (7, false), .nop, (some 1), 99999⟩,
  ⟨some (7, false), .ldR 9 1 4 none, none, 9⟩,
  ⟨some (7, false), .call 10 84 [(.t 9)], none, 10⟩,
  ⟨some (7, false), .un 11 .not (.t 10), none, 11⟩,
  ⟨none, .pick 12 (.t 7) (.b true) (.t 11), none, 0⟩,
  ⟨none, .mv 13 (.t 12), none, 0⟩,
  ⟨some (13, false), .nop, (some 1), 99999⟩,
  ⟨some (13, false), .ldR 15 1 1 none, none, 15⟩,
  ⟨some (13, false), .len 16 true (.t 15), none, 16⟩,
  ⟨some (13, false), .bin 17 .gtr (.t 16) (.i 64), none, 17⟩,
  ⟨none, .pick 18 (.t 13) (.b true) (.t 17), none, 0⟩,
  ⟨none, .mv 19 (.t 18), none, 0⟩,
  ⟨some (19, false), .nop, (some 1), 99999⟩,
  ⟨some (19, false), .ldR 21 1 2 none, none, 21⟩,
  ⟨some (19, false), .len 22 true (.t 21), none, 22⟩,
  ⟨some (19, false), .bin 23 .gtr (.t 22) (.i 64), none, 23⟩,
  ⟨none, .pick 24 (.t 19) (.b true) (.t 23), none, 0⟩,
  ⟨none, .mv 25 (.t 24), none, 0⟩,
  ⟨some (25, false), .nop, (some 1), 99999⟩,
  ⟨some (25, false), .ldR 27 1 3 none, none, 27⟩,
  ⟨some (25, false), .mv 28 (.t 27), none, 28⟩,
  ⟨some (28, true), .nop, (some 1), 99999⟩,
  ⟨some (28, true), .ldR 30 1 1 none, none, 30⟩,
  ⟨some (28, true), .bin 31 .eql (.t 30) (.v (.string ⟨#[]⟩)), none, 31⟩,
  ⟨some (28, true), .mv 32 (.t 31), none, 32⟩,
  ⟨some (32, false), .nop, (some 1), 99999⟩,
  ⟨some (32, false), .ldR 34 1 2 none, none, 34⟩,
  ⟨some (32, false), .bin 35 .neq (.t 34) (.v (.string ⟨#[]⟩)), none, 35⟩,
  ⟨some (28, true), .pick 36 (.t 32) (.b true) (.t 35), none, 36⟩,
  ⟨some (25, false), .pick 37 (.t 28) (.t 36) (.b false), none, 37⟩,
  ⟨none, .pick 38 (.t 25) (.b true) (.t 37), none, 0⟩]
def c83r2 : List SI := [
  ⟨none, .mv 2 (.i 1), none, 0⟩]
def c83r3 : List SI := [
  ⟨none, .mv 2 (.i 0), none, 0⟩]
def c83 : SC :=
  (.seq (.reg false c83r0)
  (.seq (.seq (.reg false c83r1)
  (.cond (.t 38)
   (.seq (.reg false c83r2)
   .ret)
   .skip))
  (.seq (.reg false c83r3)
  .ret)))
def v83 : List Nat × List Nat := ([1], [1, 3, 8, 14, 20, 26, 29, 33])
def o83 : List RS := [.t 2]
theorem s83 : slimC Try.prog Try.f83.ntmps v83.1 v83.2 ((Try.f83.body).getD .skip) = some c83 := by kernel_rfl
theorem q83 : slimR Try.prog Try.f83.ntmps v83.1 v83.2 Try.f83.results.toList = some o83 := by kernel_rfl
-- watermeet/watermeetref03.In N=9
def c84r0 : List SI := [
  ⟨none, .mv 2 (.b false), none, 0⟩]
def c84r1 : List SI := [
  ⟨none, .mv 3 (.t 0), none, 0⟩,
  ⟨none, .bin 4 .geq (.t 3) (.i 0), none, 0⟩,
  ⟨none, .mv 5 (.t 4), none, 0⟩,
  ⟨some (5, true), .mv 6 (.t 0), none, 6⟩,
  ⟨some (5, true), .bin 7 .leq (.t 6) (.i 1099511627776), none, 7⟩,
  ⟨none, .pick 8 (.t 5) (.t 7) (.b false), none, 0⟩,
  ⟨none, .mv 2 (.t 8), none, 0⟩]
def c84 : SC :=
  (.seq (.reg false c84r0)
  (.seq (.reg false c84r1)
  .ret))
def v84 : List Nat × List Nat := ([], [])
def o84 : List RS := [.t 2]
theorem s84 : slimC Try.prog Try.f84.ntmps v84.1 v84.2 ((Try.f84.body).getD .skip) = some c84 := by kernel_rfl
theorem q84 : slimR Try.prog Try.f84.ntmps v84.1 v84.2 Try.f84.results.toList = some o84 := by kernel_rfl
-- watermeet/watermeetref01.PutText N=11
def c85r0 : List SI := [
  ⟨none, .mv 4 (.v (.slice none 0 0)), none, 0⟩]
def c85r1 : List SI := [
  ⟨none, .mv 5 (.t 0), none, 0⟩,
  ⟨none, .mv 6 (.t 1), none, 0⟩,
  ⟨none, .len 7 true (.t 6), none, 0⟩,
  ⟨none, .call 8 66 [(.t 5), (.t 7)], none, 0⟩,
  ⟨none, .mv 9 (.t 1), none, 0⟩,
  ⟨none, .app 10 (.t 8) (.t 9) 5 1 1, none, 0⟩,
  ⟨none, .mv 4 (.t 10), none, 0⟩]
def c85 : SC :=
  (.seq (.reg false c85r0)
  (.seq (.reg false c85r1)
  .ret))
def v85 : List Nat × List Nat := ([], [])
def o85 : List RS := [.t 4]
theorem s85 : slimC Try.prog Try.f85.ntmps v85.1 v85.2 ((Try.f85.body).getD .skip) = some c85 := by kernel_rfl
theorem q85 : slimR Try.prog Try.f85.ntmps v85.1 v85.2 Try.f85.results.toList = some o85 := by kernel_rfl
-- watermeet/octet.from N=11
def c86r0 : List SI := [
  ⟨none, .mv 4 (.v (.slice none 0 0)), none, 0⟩]
def c86r1 : List SI := [
  ⟨none, .mv 5 (.t 0), none, 0⟩,
  ⟨none, .mv 6 (.t 1), none, 0⟩,
  ⟨none, .mv 7 (.t 0), none, 0⟩,
  ⟨none, .len 8 false (.t 7), none, 0⟩,
  ⟨none, .mm 9 false (.t 6) (.t 8), none, 0⟩,
  ⟨none, .sl 10 (.t 5) (some (.t 9)) none none 1, none, 0⟩,
  ⟨none, .mv 4 (.t 10), none, 0⟩]
def c86 : SC :=
  (.seq (.reg false c86r0)
  (.seq (.reg false c86r1)
  .ret))
def v86 : List Nat × List Nat := ([], [])
def o86 : List RS := [.t 4]
theorem s86 : slimC Try.prog Try.f86.ntmps v86.1 v86.2 ((Try.f86.body).getD .skip) = some c86 := by kernel_rfl
theorem q86 : slimR Try.prog Try.f86.ntmps v86.1 v86.2 Try.f86.results.toList = some o86 := by kernel_rfl
-- watermeet/batch.parse$1 N=18
def c87r0 : List SI := [
  ⟨none, .mv 3 (.i 0), none, 0⟩]
def c87r1 : List SI := [
  ⟨none, .ld 8 (.t 0) none, none, 0⟩,
  ⟨none, .ld 9 (.t 1) none, none, 0⟩,
  ⟨none, .call 10 88 [(.t 8), (.t 9)], none, 0⟩,
  ⟨none, .mv 7 (.t 10), none, 0⟩,
  ⟨none, .ext 11 (.t 7) 0, none, 0⟩,
  ⟨none, .ext 12 (.t 7) 1, none, 0⟩,
  ⟨none, .ext 13 (.t 7) 2, none, 0⟩,
  ⟨none, .mv 4 (.t 11), none, 0⟩,
  ⟨none, .mv 5 (.t 12), none, 0⟩,
  ⟨none, .mv 6 (.t 13), none, 0⟩]
def c87r2 : List SI := [
  ⟨none, .mv 14 (.t 6), none, 0⟩,
  ⟨none, .bin 15 .neq (.t 14) (.i 0), none, 0⟩]
def c87r3 : List SI := [
  ⟨none, .st (.t 2) 1 (.b false), none, 0⟩]
def c87r4 : List SI := [
  ⟨none, .mv 3 (.i 0), none, 0⟩]
def c87r5 : List SI := [
  ⟨none, .mv 16 (.t 5), none, 0⟩,
  ⟨none, .st (.t 1) 1 (.t 16), none, 0⟩]
def c87r6 : List SI := [
  ⟨none, .mv 17 (.t 4), none, 0⟩,
  ⟨none, .mv 3 (.t 17), none, 0⟩]
def c87 : SC :=
  (.seq (.reg false c87r0)
  (.seq (.reg false c87r1)
  (.seq (.seq (.reg false c87r2)
  (.cond (.t 15)
   (.seq (.reg false c87r3)
   (.seq (.reg false c87r4)
   .ret))
   .skip))
  (.seq (.reg false c87r5)
  (.seq (.reg false c87r6)
  .ret)))))
def v87 : List Nat × List Nat := ([], [])
def o87 : List RS := [.t 3]
theorem s87 : slimC Try.prog Try.f87.ntmps v87.1 v87.2 ((Try.f87.body).getD .skip) = some c87 := by kernel_rfl
theorem q87 : slimR Try.prog Try.f87.ntmps v87.1 v87.2 Try.f87.results.toList = some o87 := by kernel_rfl
-- watermeet/octet.GetVar N=58
def c88r0 : List SI := [
  ⟨none, .mv 4 (.i 0), none, 0⟩,
  ⟨none, .mv 5 (.i 0), none, 0⟩,
  ⟨none, .mv 6 (.i 0), none, 0⟩]
def c88r1 : List SI := [
  ⟨none, .mv 10 (.t 1), none, 0⟩,
  ⟨none, .bin 11 .lss (.t 10) (.i 0), none, 0⟩]
def c88r2 : List SI := [
  ⟨none, .mv 4 (.i 0), none, 0⟩,
  ⟨none, .mv 5 (.i 0), none, 0⟩,
  ⟨none, .mv 6 (.i 1), none, 0⟩]
def c88r3 : List SI := [
  ⟨none, .mv 7 (.v (.int .u64 0)), none, 0⟩]
def c88r4 : List SI := [
  ⟨none, .mv 12 (.t 0), none, 0⟩,
  ⟨none, .mv 13 (.t 1), none, 0⟩,
  ⟨none, .call 14 86 [(.t 12), (.t 13)], none, 0⟩,
  ⟨none, .len 15 false (.t 14), none, 0⟩,
  ⟨none, .mv 16 (.i 0), none, 0⟩]
def c88r5 : List SI := [
  ⟨none, .bin 17 .lss (.t 16) (.t 15), none, 0⟩]
def c88r6 : List SI := [
  ⟨none, .mv 18 (.t 16), none, 0⟩,
  ⟨none, .ixA 19 (.t 14) (.t 16) 1, none, 0⟩,
  ⟨none, .ld 20 (.t 19) none, none, 0⟩,
  ⟨none, .mv 8 (.t 18), none, 0⟩,
  ⟨none, .mv 9 (.t 20), none, 0⟩]
def c88r7 : List SI := [
  ⟨none, .mv 21 (.t 8), none, 0⟩,
  ⟨none, .bin 22 .eql (.t 21) (.i 9), none, 0⟩,
  ⟨none, .mv 23 (.t 22), none, 0⟩,
  ⟨some (23, true), .mv 24 (.t 9), none, 24⟩,
  ⟨some (23, true), .bin 25 .gtr (.t 24) (.v (.int .u8 1)), none, 25⟩,
  ⟨none, .pick 26 (.t 23) (.t 25) (.b false), none, 0⟩,
  ⟨none, .mv 27 (.t 26), none, 0⟩,
  ⟨some (27, false), .mv 28 (.t 8), none, 28⟩,
  ⟨some (27, false), .bin 29 .gtr (.t 28) (.i 0), none, 29⟩,
  ⟨some (27, false), .mv 30 (.t 29), none, 30⟩,
  ⟨some (30, true), .mv 31 (.t 9), none, 31⟩,
  ⟨some (30, true), .bin 32 .eql (.t 31) (.v (.int .u8 0)), none, 32⟩,
  ⟨some (27, false), .pick 33 (.t 30) (.t 32) (.b false), none, 33⟩,
  ⟨none, .pick 34 (.t 27) (.b true) (.t 33), none, 0⟩]
def c88r8 : List SI := [
  ⟨none, .mv 4 (.i 0), none, 0⟩,
  ⟨none, .mv 5 (.i 0), none, 0⟩,
  ⟨none, .mv 6 (.i 11), none, 0⟩]
def c88r9 : List SI := [
  ⟨none, .mv 35 (.t 7), none, 0⟩,
  ⟨none, .mv 36 (.t 9), none, 0⟩,
  ⟨none, .bin 37 .and (.t 36) (.v (.int .u8 127)), none, 0⟩,
  ⟨none, .cvI 38 .u64 (.t 37), none, 0⟩,
  ⟨none, .mv 39 (.t 8), none, 0⟩,
  ⟨none, .bin 40 .mul (.i 7) (.t 39), none, 0⟩,
  ⟨none, .bin 41 .shl (.t 38) (.t 40), none, 0⟩,
  ⟨none, .bin 42 .or (.t 35) (.t 41), none, 0⟩,
  ⟨none, .mv 7 (.t 42), none, 0⟩]
def c88r10 : List SI := [
  ⟨none, .mv 43 (.t 9), none, 0⟩,
  ⟨none, .bin 44 .lss (.t 43) (.v (.int .u8 128)), none, 0⟩]
def c88r11 : List SI := [
  ⟨none, .mv 45 (.t 7), none, 0⟩,
  ⟨none, .bin 46 .shr (.t 45) (.v (.int .u64 1)), none, 0⟩,
  ⟨none, .cvI 47 .i64 (.t 46), none, 0⟩,
  ⟨none, .mv 48 (.t 7), none, 0⟩,
  ⟨none, .bin 49 .and (.t 48) (.v (.int .u64 1)), none, 0⟩,
  ⟨none, .cvI 50 .i64 (.t 49), none, 0⟩,
  ⟨none, .un 51 .neg (.t 50), none, 0⟩,
  ⟨none, .bin 52 .xor (.t 47) (.t 51), none, 0⟩,
  ⟨none, .mv 53 (.t 1), none, 0⟩,
  ⟨none, .mv 54 (.t 8), none, 0⟩,
  ⟨none, .bin 55 .add (.t 53) (.t 54), none, 0⟩,
  ⟨none, .bin 56 .add (.t 55) (.i 1), none, 0⟩,
  ⟨none, .mv 4 (.t 52), none, 0⟩,
  ⟨none, .mv 5 (.t 56), none, 0⟩,
  ⟨none, .mv 6 (.i 0), none, 0⟩]
def c88r12 : List SI := [
  ⟨none, .bin 57 .add (.t 16) (.i 1), none, 0⟩,
  ⟨none, .mv 16 (.t 57), none, 0⟩]
def c88r13 : List SI := [
  ⟨none, .mv 4 (.i 0), none, 0⟩,
  ⟨none, .mv 5 (.i 0), none, 0⟩,
  ⟨none, .mv 6 (.i 10), none, 0⟩]
def c88 : SC :=
  (.seq (.reg false c88r0)
  (.seq (.seq (.reg false c88r1)
  (.cond (.t 11)
   (.seq (.reg false c88r2)
   .ret)
   .skip))
  (.seq (.reg false c88r3)
  (.seq (.seq (.reg false c88r4)
  (.blk 0 (.loop (.seq (.reg false c88r5)
    (.seq (.cond (.t 17)
     .skip
     (.exit 0))
    (.seq (.blk 1 (.seq (.reg false c88r6)
     (.seq (.seq (.reg false c88r7)
     (.cond (.t 34)
      (.seq (.reg false c88r8)
      .ret)
      .skip))
     (.seq (.reg false c88r9)
     (.seq (.reg false c88r10)
     (.cond (.t 44)
      (.seq (.reg false c88r11)
      .ret)
      .skip))))))
    (.reg false c88r12)))))))
  (.seq (.reg false c88r13)
  .ret)))))
def v88 : List Nat × List Nat := ([], [])
def o88 : List RS := [.t 4, .t 5, .t 6]
theorem s88 : slimC Try.prog Try.f88.ntmps v88.1 v88.2 ((Try.f88.body).getD .skip) = some c88 := by kernel_rfl
theorem q88 : slimR Try.prog Try.f88.ntmps v88.1 v88.2 Try.f88.results.toList = some o88 := by kernel_rfl
-- watermeet/rec.Get N=82
def c89r0 : List SI := [
  ⟨none, .alR 8 [(.int .i64 0), (.string ⟨#[]⟩), (.string ⟨#[]⟩), (.bool false), (.int .i64 0)], none, 0⟩,
  ⟨none, .mv 9 (.i 0), none, 0⟩,
  ⟨none, .mv 10 (.i 0), none, 0⟩]
def c89r1 : List SI := [
  ⟨none, .mv 13 (.t 2), none, 0⟩,
  ⟨none, .call 14 79 [(.t 13)], none, 0⟩,
  ⟨none, .un 15 .not (.t 14), none, 0⟩,
  ⟨none, .mv 16 (.t 15), none, 0⟩,
  ⟨some (16, false), .mv 17 (.t 3), none, 17⟩,
  ⟨some (16, false), .call 18 79 [(.t 17)], none, 18⟩,
  ⟨some (16, false), .un 19 .not (.t 18), none, 19⟩,
  ⟨none, .pick 20 (.t 16) (.b true) (.t 19), none, 0⟩,
  ⟨none, .mv 21 (.t 20), none, 0⟩,
  ⟨some (21, false), .mv 22 (.t 1), none, 22⟩,
  ⟨some (21, false), .bin 23 .lss (.t 22) (.i 0), none, 23⟩,
  ⟨none, .pick 24 (.t 21) (.b true) (.t 23), none, 0⟩,
  ⟨none, .mv 25 (.t 24), none, 0⟩,
  ⟨some (25, false), .mv 26 (.t 1), none, 26⟩,
  ⟨some (25, false), .mv 27 (.t 0), none, 27⟩,
  ⟨some (25, false), .len 28 false (.t 27), none, 28⟩,
  ⟨some (25, false), .bin 29 .gtr (.t 26) (.t 28), none, 29⟩,
  ⟨none, .pick 30 (.t 25) (.b true) (.t 29), none, 0⟩]
def c89r2 : List SI := [
  ⟨none, .bld 31 [(.int .i64 0), (.string ⟨#[]⟩), (.string ⟨#[]⟩), (.bool false), (.int .i64 0)] [], none, 0⟩,
  ⟨none, .stR 8 0 5 (.t 31), none, 0⟩,
  ⟨none, .mv 9 (.i 0), none, 0⟩,
  ⟨none, .mv 10 (.i 1), none, 0⟩]
def c89r3 : List SI := [
  ⟨none, .mv 32 (.t 0), none, 0⟩,
  ⟨none, .mv 33 (.t 1), none, 0⟩,
  ⟨none, .bld 34 [(.slice none 0 0), (.int .i64 0), (.int .i64 0)] [(0, 1, (.t 32)), (1, 1, (.t 33))], none, 0⟩,
  ⟨none, .bx 35 (.t 34), none, 0⟩,
  ⟨none, .mv 11 (.t 35), none, 0⟩]
def c89r4 : List SI := [
  ⟨none, .mv 12 (.v (.func (.func 94) #[] #[])), none, 0⟩]
def c89r5 : List SI := [
  ⟨none, .mv 36 (.t 2), none, 0⟩,
  ⟨none, .mv 37 (.t 11), none, 0⟩,
  ⟨none, .call 38 97 [(.t 37), (.v (.func (.func 88) #[] #[]))], none, 0⟩,
  ⟨none, .call 39 96 [(.t 36), (.t 38)], none, 0⟩,
  ⟨none, .nop, (some 8), 0⟩,
  ⟨none, .stR 8 0 1 (.t 39), none, 0⟩]
def c89r6 : List SI := [
  ⟨none, .mv 41 (.t 3), none, 0⟩,
  ⟨none, .mv 42 (.t 11), none, 0⟩,
  ⟨none, .call 43 97 [(.t 42), (.v (.func (.func 88) #[] #[]))], none, 0⟩,
  ⟨none, .call 44 96 [(.t 41), (.t 43)], none, 0⟩,
  ⟨none, .nop, (some 8), 0⟩,
  ⟨none, .stR 8 4 1 (.t 44), none, 0⟩]
def c89r7 : List SI := [
  ⟨none, .mv 46 (.t 11), none, 0⟩,
  ⟨none, .call 47 98 [(.t 46), (.v (.func (.func 99) #[] #[]))], none, 0⟩,
  ⟨none, .nop, (some 8), 0⟩,
  ⟨none, .stR 8 3 1 (.t 47), none, 0⟩]
def c89r8 : List SI := [
  ⟨none, .mv 49 (.t 11), none, 0⟩,
  ⟨none, .mv 50 (.t 12), none, 0⟩,
  ⟨none, .call 51 100 [(.t 49), (.t 50)], none, 0⟩,
  ⟨none, .mv 52 (.t 11), none, 0⟩,
  ⟨none, .mv 53 (.t 12), none, 0⟩,
  ⟨none, .call 54 100 [(.t 52), (.t 53)], none, 0⟩,
  ⟨none, .nop, (some 8), 0⟩,
  ⟨none, .stR 8 1 1 (.t 51), none, 0⟩,
  ⟨none, .nop, (some 8), 0⟩,
  ⟨none, .stR 8 2 1 (.t 54), none, 0⟩]
def c89r9 : List SI := [
  ⟨none, .mv 57 (.t 11), none, 0⟩,
  ⟨none, .nck 58 (.t 57), none, 0⟩,
  ⟨none, .flA 59 (.t 58) 2, none, 0⟩,
  ⟨none, .ld 60 (.t 59) none, none, 0⟩,
  ⟨none, .bin 61 .eql (.t 60) (.i 0), none, 0⟩]
def c89r10 : List SI := [
  ⟨none, .mv 62 (.t 11), none, 0⟩,
  ⟨none, .ldR 63 8 0 (some 5), none, 0⟩,
  ⟨none, .call 64 60 [(.t 63)], none, 0⟩,
  ⟨none, .nck 65 (.t 62), none, 0⟩,
  ⟨none, .flA 66 (.t 65) 2, none, 0⟩,
  ⟨none, .st (.t 66) 1 (.t 64), none, 0⟩]
def c89r11 : List SI := [
  ⟨none, .mv 67 (.t 11), none, 0⟩,
  ⟨none, .nck 68 (.t 67), none, 0⟩,
  ⟨none, .flA 69 (.t 68) 2, none, 0⟩,
  ⟨none, .ld 70 (.t 69) none, none, 0⟩,
  ⟨none, .bin 71 .neq (.t 70) (.i 0), none, 0⟩]
def c89r12 : List WI := [
  (true, false, ⟨none, .bld 72 [(.int .i64 0), (.string ⟨#[]⟩), (.string ⟨#[]⟩), (.bool false), (.int .i64 0)] [], none, 0⟩),
  (true, false, ⟨none, .mv 73 (.t 11), none, 0⟩),
  (true, false, ⟨none, .nck 74 (.t 73), none, 0⟩),
  (true, false, ⟨none, .flA 75 (.t 74) 2, none, 0⟩),
  (true, false, ⟨none, .ld 76 (.t 75) none, none, 0⟩),
  (false, false, ⟨none, .stR 8 0 5 (.t 72), none, 0⟩),
  (true, false, ⟨none, .mv 9 (.i 0), none, 0⟩),
  (true, false, ⟨none, .mv 10 (.t 76), none, 0⟩)]
def c89r13 : List WI := [
  (true, false, ⟨none, .ldR 77 8 0 (some 5), none, 0⟩),
  (true, false, ⟨none, .mv 78 (.t 11), none, 0⟩),
  (true, false, ⟨none, .nck 79 (.t 78), none, 0⟩),
  (true, false, ⟨none, .flA 80 (.t 79) 1, none, 0⟩),
  (true, false, ⟨none, .ld 81 (.t 80) none, none, 0⟩),
  (false, false, ⟨none, .stR 8 0 5 (.t 77), none, 0⟩),
  (true, false, ⟨none, .mv 9 (.t 81), none, 0⟩),
  (true, false, ⟨none, .mv 10 (.i 0), none, 0⟩)]
def c89 : SC :=
  (.seq (.reg false c89r0)
  (.seq (.seq (.reg false c89r1)
  (.cond (.t 30)
   (.seq (.reg false c89r2)
   .ret)
   .skip))
  (.seq (.reg false c89r3)
  (.seq (.reg false c89r4)
  (.seq (.reg false c89r5)
  (.seq (.reg false c89r6)
  (.seq (.reg false c89r7)
  (.seq (.reg false c89r8)
  (.seq (.seq (.reg false c89r9)
  (.cond (.t 61)
   (.reg false c89r10)
   .skip))
  (.seq (.seq (.reg false c89r11)
  (.cond (.t 71)
   (.seq (.rgW c89r12)
   .ret)
   .skip))
  (.seq (.rgW c89r13)
  .ret)))))))))))
def v89 : List Nat × List Nat := ([8], [8, 40, 45, 48, 55, 56])
def o89 : List RS := [.r 8 (some 5), .t 9, .t 10]
theorem s89 : slimC Try.prog Try.f89.ntmps v89.1 v89.2 ((Try.f89.body).getD .skip) = some c89 := by kernel_rfl
theorem q89 : slimR Try.prog Try.f89.ntmps v89.1 v89.2 Try.f89.results.toList = some o89 := by kernel_rfl
-- watermeet/watermeetref02.steps N=14
def c90r0 : List SI := [
  ⟨none, .mv 4 (.v (.int .u32 0)), none, 0⟩]
def c90r1 : List SI := [
  ⟨none, .mv 5 (.i 0), none, 0⟩]
def c90r2 : List SI := [
  ⟨none, .mv 6 (.t 5), none, 0⟩,
  ⟨none, .mv 7 (.t 1), none, 0⟩,
  ⟨none, .bin 8 .lss (.t 6) (.t 7), none, 0⟩]
def c90r3 : List SI := [
  ⟨none, .mv 11 (.t 0), none, 0⟩,
  ⟨none, .call 12 101 [(.t 11)], none, 0⟩,
  ⟨none, .mv 0 (.t 12), none, 0⟩]
def c90r4 : List SI := [
  ⟨none, .mv 9 (.t 5), none, 0⟩,
  ⟨none, .bin 10 .add (.t 9) (.i 1), none, 0⟩,
  ⟨none, .mv 5 (.t 10), none, 0⟩]
def c90r5 : List SI := [
  ⟨none, .mv 13 (.t 0), none, 0⟩,
  ⟨none, .mv 4 (.t 13), none, 0⟩]
def c90 : SC :=
  (.seq (.reg false c90r0)
  (.seq (.seq (.reg false c90r1)
  (.blk 0 (.loop (.seq (.seq (.reg false c90r2)
    (.cond (.t 8)
     .skip
     (.exit 0)))
    (.seq (.blk 1 (.reg false c90r3))
    (.reg false c90r4))))))
  (.seq (.reg false c90r5)
  .ret)))
def v90 : List Nat × List Nat := ([], [])
def o90 : List RS := [.t 4]
theorem s90 : slimC Try.prog Try.f90.ntmps v90.1 v90.2 ((Try.f90.body).getD .skip) = some c90 := by kernel_rfl
theorem q90 : slimR Try.prog Try.f90.ntmps v90.1 v90.2 Try.f90.results.toList = some o90 := by kernel_rfl
-- watermeet/watermeetref01.GetText N=43
def c91r0 : List SI := [
  ⟨none, .mv 6 (.v (.string ⟨#[]⟩)), none, 0⟩,
  ⟨none, .mv 7 (.i 0), none, 0⟩,
  ⟨none, .mv 8 (.i 0), none, 0⟩]
def c91r1 : List SI := [
  ⟨none, .mv 13 (.t 0), none, 0⟩,
  ⟨none, .mv 14 (.t 1), none, 0⟩,
  ⟨none, .call 15 75 [(.t 13), (.t 14)], none, 0⟩,
  ⟨none, .mv 12 (.t 15), none, 0⟩,
  ⟨none, .ext 16 (.t 12) 0, none, 0⟩,
  ⟨none, .ext 17 (.t 12) 1, none, 0⟩,
  ⟨none, .ext 18 (.t 12) 2, none, 0⟩,
  ⟨none, .mv 9 (.t 16), none, 0⟩,
  ⟨none, .mv 10 (.t 17), none, 0⟩,
  ⟨none, .mv 11 (.t 18), none, 0⟩]
def c91r2 : List SI := [
  ⟨none, .mv 19 (.t 11), none, 0⟩,
  ⟨none, .bin 20 .neq (.t 19) (.i 0), none, 0⟩]
def c91r3 : List SI := [
  ⟨none, .mv 21 (.t 11), none, 0⟩,
  ⟨none, .mv 6 (.v (.string ⟨#[]⟩)), none, 0⟩,
  ⟨none, .mv 7 (.i 0), none, 0⟩,
  ⟨none, .mv 8 (.t 21), none, 0⟩]
def c91r4 : List SI := [
  ⟨none, .mv 22 (.t 9), none, 0⟩,
  ⟨none, .bin 23 .lss (.t 22) (.i 0), none, 0⟩]
def c91r5 : List SI := [
  ⟨none, .mv 6 (.v (.string ⟨#[]⟩)), none, 0⟩,
  ⟨none, .mv 7 (.i 0), none, 0⟩,
  ⟨none, .mv 8 (.i 11), none, 0⟩]
def c91r6 : List SI := [
  ⟨none, .mv 24 (.t 9), none, 0⟩,
  ⟨none, .mv 25 (.t 2), none, 0⟩,
  ⟨none, .bin 26 .gtr (.t 24) (.t 25), none, 0⟩]
def c91r7 : List SI := [
  ⟨none, .mv 6 (.v (.string ⟨#[]⟩)), none, 0⟩,
  ⟨none, .mv 7 (.i 0), none, 0⟩,
  ⟨none, .mv 8 (.i 2), none, 0⟩]
def c91r8 : List SI := [
  ⟨none, .mv 27 (.t 0), none, 0⟩,
  ⟨none, .len 28 false (.t 27), none, 0⟩,
  ⟨none, .mv 29 (.t 10), none, 0⟩,
  ⟨none, .bin 30 .sub (.t 28) (.t 29), none, 0⟩,
  ⟨none, .mv 31 (.t 9), none, 0⟩,
  ⟨none, .bin 32 .lss (.t 30) (.t 31), none, 0⟩]
def c91r9 : List SI := [
  ⟨none, .mv 6 (.v (.string ⟨#[]⟩)), none, 0⟩,
  ⟨none, .mv 7 (.i 0), none, 0⟩,
  ⟨none, .mv 8 (.i 10), none, 0⟩]
def c91r10 : List SI := [
  ⟨none, .mv 33 (.t 0), none, 0⟩,
  ⟨none, .mv 34 (.t 10), none, 0⟩,
  ⟨none, .mv 35 (.t 10), none, 0⟩,
  ⟨none, .mv 36 (.t 9), none, 0⟩,
  ⟨none, .bin 37 .add (.t 35) (.t 36), none, 0⟩,
  ⟨none, .sl 38 (.t 33) (some (.t 34)) (some (.t 37)) none 1, none, 0⟩,
  ⟨none, .cvS 39 (.t 38), none, 0⟩,
  ⟨none, .mv 40 (.t 10), none, 0⟩,
  ⟨none, .mv 41 (.t 9), none, 0⟩,
  ⟨none, .bin 42 .add (.t 40) (.t 41), none, 0⟩,
  ⟨none, .mv 6 (.t 39), none, 0⟩,
  ⟨none, .mv 7 (.t 42), none, 0⟩,
  ⟨none, .mv 8 (.i 0), none, 0⟩]
def c91 : SC :=
  (.seq (.reg false c91r0)
  (.seq (.reg false c91r1)
  (.seq (.seq (.reg false c91r2)
  (.cond (.t 20)
   (.seq (.reg false c91r3)
   .ret)
   .skip))
  (.seq (.seq (.reg false c91r4)
  (.cond (.t 23)
   (.seq (.reg false c91r5)
   .ret)
   .skip))
  (.seq (.seq (.reg false c91r6)
  (.cond (.t 26)
   (.seq (.reg false c91r7)
   .ret)
   .skip))
  (.seq (.seq (.reg false c91r8)
  (.cond (.t 32)
   (.seq (.reg false c91r9)
   .ret)
   .skip))
  (.seq (.reg false c91r10)
  .ret)))))))
def v91 : List Nat × List Nat := ([], [])
def o91 : List RS := [.t 6, .t 7, .t 8]
theorem s91 : slimC Try.prog Try.f91.ntmps v91.1 v91.2 ((Try.f91.body).getD .skip) = some c91 := by kernel_rfl
theorem q91 : slimR Try.prog Try.f91.ntmps v91.1 v91.2 Try.f91.results.toList = some o91 := by kernel_rfl
-- watermeet/watermeetref03.beside N=21
def c92r0 : List SI := [
  ⟨none, .mv 4 (.i 0), none, 0⟩]
def c92r1 : List SI := [
  ⟨none, .mv 5 (.t 1), none, 0⟩,
  ⟨none, .bin 6 .lss (.t 5) (.i (-1099511627776)), none, 0⟩,
  ⟨none, .mv 7 (.t 6), none, 0⟩,
  ⟨some (7, false), .mv 8 (.t 1), none, 8⟩,
  ⟨some (7, false), .bin 9 .gtr (.t 8) (.i 1099511627776), none, 9⟩,
  ⟨none, .pick 10 (.t 7) (.b true) (.t 9), none, 0⟩,
  ⟨none, .mv 11 (.t 10), none, 0⟩,
  ⟨some (11, false), .mv 12 (.t 0), none, 12⟩,
  ⟨some (11, false), .mv 13 (.t 1), none, 13⟩,
  ⟨some (11, false), .bin 14 .add (.t 12) (.t 13), none, 14⟩,
  ⟨some (11, false), .call 15 84 [(.t 14)], none, 15⟩,
  ⟨some (11, false), .un 16 .not (.t 15), none, 16⟩,
  ⟨none, .pick 17 (.t 11) (.b true) (.t 16), none, 0⟩]
def c92r2 : List SI := [
  ⟨none, .mv 4 (.i (-1)), none, 0⟩]
def c92r3 : List SI := [
  ⟨none, .mv 18 (.t 0), none, 0⟩,
  ⟨none, .mv 19 (.t 1), none, 0⟩,
  ⟨none, .bin 20 .add (.t 18) (.t 19), none, 0⟩,
  ⟨none, .mv 4 (.t 20), none, 0⟩]
def c92 : SC :=
  (.seq (.reg false c92r0)
  (.seq (.seq (.reg false c92r1)
  (.cond (.t 17)
   (.seq (.reg false c92r2)
   .ret)
   .skip))
  (.seq (.reg false c92r3)
  .ret)))
def v92 : List Nat × List Nat := ([], [])
def o92 : List RS := [.t 4]
theorem s92 : slimC Try.prog Try.f92.ntmps v92.1 v92.2 ((Try.f92.body).getD .skip) = some c92 := by kernel_rfl
theorem q92 : slimR Try.prog Try.f92.ntmps v92.1 v92.2 Try.f92.results.toList = some o92 := by kernel_rfl
-- watermeet/crc.adder N=13
def c93r0 : List SI := [
  ⟨none, .mv 0 (.v .nilFunc), none, 0⟩]
def c93r1 : List SI := [
  ⟨none, .al 1 [(.int .u32 0), (.int .u32 0), (.int .u32 0), (.int .u32 0), (.int .u32 0), (.int .u32 0), (.int .u32 0), (.int .u32 0), (.int .u32 0), (.int .u32 0), (.int .u32 0), (.int .u32 0), (.int .u32 0), (.int .u32 0), (.int .u32 0), (.int .u32 0)], none, 0⟩]
def c93r2 : List SI := [
  ⟨none, .mv 3 (.i 0), none, 0⟩]
def c93r3 : List SI := [
  ⟨none, .bin 4 .lss (.t 3) (.i 16), none, 0⟩]
def c93r4 : List SI := [
  ⟨none, .mv 5 (.t 3), none, 0⟩,
  ⟨none, .mv 2 (.t 5), none, 0⟩]
def c93r5 : List SI := [
  ⟨none, .mv 6 (.t 2), none, 0⟩,
  ⟨none, .mv 7 (.t 2), none, 0⟩,
  ⟨none, .cvI 8 .u32 (.t 7), none, 0⟩,
  ⟨none, .call 9 102 [(.t 8)], none, 0⟩,
  ⟨none, .ixP 10 (.t 1) (.t 6) 16 1, none, 0⟩,
  ⟨none, .st (.t 10) 1 (.t 9), none, 0⟩]
def c93r6 : List SI := [
  ⟨none, .bin 11 .add (.t 3) (.i 1), none, 0⟩,
  ⟨none, .mv 3 (.t 11), none, 0⟩]
def c93r7 : List SI := [
  ⟨none, .mkf 12 (.func 103) [(.t 1)], none, 0⟩,
  ⟨none, .mv 0 (.t 12), none, 0⟩]
def c93 : SC :=
  (.seq (.reg false c93r0)
  (.seq (.reg false c93r1)
  (.seq (.seq (.reg false c93r2)
  (.blk 0 (.loop (.seq (.reg false c93r3)
    (.seq (.cond (.t 4)
     .skip
     (.exit 0))
    (.seq (.blk 1 (.seq (.reg false c93r4)
     (.reg false c93r5)))
    (.reg false c93r6)))))))
  (.seq (.reg false c93r7)
  .ret))))
def v93 : List Nat × List Nat := ([], [])
def o93 : List RS := [.t 0]
theorem s93 : slimC Try.prog Try.f93.ntmps v93.1 v93.2 ((Try.f93.body).getD .skip) = some c93 := by kernel_rfl
theorem q93 : slimR Try.prog Try.f93.ntmps v93.1 v93.2 Try.f93.results.toList = some o93 := by kernel_rfl
-- watermeet/rec.Get$1 N=13
def c94r0 : List SI := [
  ⟨none, .mv 4 (.v (.string ⟨#[]⟩)), none, 0⟩,
  ⟨none, .mv 5 (.i 0), none, 0⟩,
  ⟨none, .mv 6 (.i 0), none, 0⟩]
def c94r1 : List SI := [
  ⟨none, .mv 7 (.t 0), none, 0⟩,
  ⟨none, .mv 8 (.t 1), none, 0⟩,
  ⟨none, .call 9 95 [(.t 7), (.t 8), (.i 64)], none, 0⟩,
  ⟨none, .ext 10 (.t 9) 0, none, 0⟩,
  ⟨none, .ext 11 (.t 9) 1, none, 0⟩,
  ⟨none, .ext 12 (.t 9) 2, none, 0⟩,
  ⟨none, .mv 4 (.t 10), none, 0⟩,
  ⟨none, .mv 5 (.t 11), none, 0⟩,
  ⟨none, .mv 6 (.t 12), none, 0⟩]
def c94 : SC :=
  (.seq (.reg false c94r0)
  (.seq (.reg false c94r1)
  .ret))
def v94 : List Nat × List Nat := ([], [])
def o94 : List RS := [.t 4, .t 5, .t 6]
theorem s94 : slimC Try.prog Try.f94.ntmps v94.1 v94.2 ((Try.f94.body).getD .skip) = some c94 := by kernel_rfl
theorem q94 : slimR Try.prog Try.f94.ntmps v94.1 v94.2 Try.f94.results.toList = some o94 := by kernel_rfl
-- watermeet/octet.GetText N=45
def c95r0 : List SI := [
  ⟨none, .mv 6 (.v (.string ⟨#[]⟩)), none, 0⟩,
  ⟨none, .mv 7 (.i 0), none, 0⟩,
  ⟨none, .mv 8 (.i 0), none, 0⟩]
def c95r1 : List SI := [
  ⟨none, .mv 11 (.t 0), none, 0⟩,
  ⟨none, .mv 12 (.t 1), none, 0⟩,
  ⟨none, .call 13 88 [(.t 11), (.t 12)], none, 0⟩,
  ⟨none, .mv 10 (.t 13), none, 0⟩,
  ⟨none, .ext 14 (.t 10) 0, none, 0⟩,
  ⟨none, .ext 15 (.t 10) 1, none, 0⟩,
  ⟨none, .ext 16 (.t 10) 2, none, 0⟩,
  ⟨none, .mv 9 (.t 14), none, 0⟩,
  ⟨none, .mv 7 (.t 15), none, 0⟩,
  ⟨none, .mv 8 (.t 16), none, 0⟩]
def c95r2 : List SI := [
  ⟨none, .mv 18 (.t 8), none, 0⟩,
  ⟨none, .bin 19 .neq (.t 18) (.i 0), none, 0⟩,
  ⟨none, .mv 17 (.t 19), none, 0⟩]
def c95r3 : List SI := [
  ⟨none, .mv 20 (.t 8), none, 0⟩,
  ⟨none, .mv 6 (.v (.string ⟨#[]⟩)), none, 0⟩,
  ⟨none, .mv 7 (.i 0), none, 0⟩,
  ⟨none, .mv 8 (.t 20), none, 0⟩]
def c95r4 : List SI := [
  ⟨none, .mv 22 (.t 9), none, 0⟩,
  ⟨none, .bin 23 .lss (.t 22) (.i 0), none, 0⟩,
  ⟨none, .mv 21 (.t 23), none, 0⟩]
def c95r5 : List SI := [
  ⟨none, .mv 6 (.v (.string ⟨#[]⟩)), none, 0⟩,
  ⟨none, .mv 7 (.i 0), none, 0⟩,
  ⟨none, .mv 8 (.i 11), none, 0⟩]
def c95r6 : List SI := [
  ⟨none, .mv 25 (.t 9), none, 0⟩,
  ⟨none, .mv 26 (.t 2), none, 0⟩,
  ⟨none, .bin 27 .gtr (.t 25) (.t 26), none, 0⟩,
  ⟨none, .mv 24 (.t 27), none, 0⟩]
def c95r7 : List SI := [
  ⟨none, .mv 6 (.v (.string ⟨#[]⟩)), none, 0⟩,
  ⟨none, .mv 7 (.i 0), none, 0⟩,
  ⟨none, .mv 8 (.i 2), none, 0⟩]
def c95r8 : List SI := [
  ⟨none, .mv 29 (.t 9), none, 0⟩,
  ⟨none, .mv 30 (.t 0), none, 0⟩,
  ⟨none, .len 31 false (.t 30), none, 0⟩,
  ⟨none, .mv 32 (.t 7), none, 0⟩,
  ⟨none, .bin 33 .sub (.t 31) (.t 32), none, 0⟩,
  ⟨none, .bin 34 .gtr (.t 29) (.t 33), none, 0⟩,
  ⟨none, .mv 28 (.t 34), none, 0⟩]
def c95r9 : List SI := [
  ⟨none, .mv 6 (.v (.string ⟨#[]⟩)), none, 0⟩,
  ⟨none, .mv 7 (.i 0), none, 0⟩,
  ⟨none, .mv 8 (.i 10), none, 0⟩]
def c95r10 : List SI := [
  ⟨none, .mv 35 (.t 0), none, 0⟩,
  ⟨none, .mv 36 (.t 7), none, 0⟩,
  ⟨none, .mv 37 (.t 7), none, 0⟩,
  ⟨none, .mv 38 (.t 9), none, 0⟩,
  ⟨none, .bin 39 .add (.t 37) (.t 38), none, 0⟩,
  ⟨none, .sl 40 (.t 35) (some (.t 36)) (some (.t 39)) none 1, none, 0⟩,
  ⟨none, .cvS 41 (.t 40), none, 0⟩,
  ⟨none, .mv 42 (.t 7), none, 0⟩,
  ⟨none, .mv 43 (.t 9), none, 0⟩,
  ⟨none, .bin 44 .add (.t 42) (.t 43), none, 0⟩,
  ⟨none, .mv 6 (.t 41), none, 0⟩,
  ⟨none, .mv 7 (.t 44), none, 0⟩,
  ⟨none, .mv 8 (.i 0), none, 0⟩]
def c95 : SC :=
  (.seq (.reg false c95r0)
  (.seq (.reg false c95r1)
  (.seq (.blk 0 (.seq (.reg false c95r2)
   (.cond (.t 17)
    (.seq (.reg false c95r3)
    .ret)
    (.seq (.reg false c95r4)
    (.cond (.t 21)
     (.seq (.reg false c95r5)
     .ret)
     (.seq (.reg false c95r6)
     (.cond (.t 24)
      (.seq (.reg false c95r7)
      .ret)
      (.seq (.reg false c95r8)
      (.cond (.t 28)
       (.seq (.reg false c95r9)
       .ret)
       .skip)))))))))
  (.seq (.reg false c95r10)
  .ret))))
def v95 : List Nat × List Nat := ([], [])
def o95 : List RS := [.t 6, .t 7, .t 8]
theorem s95 : slimC Try.prog Try.f95.ntmps v95.1 v95.2 ((Try.f95.body).getD .skip) = some c95 := by kernel_rfl
theorem q95 : slimR Try.prog Try.f95.ntmps v95.1 v95.2 Try.f95.results.toList = some o95 := by kernel_rfl
-- watermeet/rec.beside N=14
def c96r0 : List SI := [
  ⟨none, .mv 4 (.i 0), none, 0⟩]
def c96r1 : List SI := [
  ⟨none, .mv 5 (.t 1), none, 0⟩,
  ⟨none, .bin 6 .lss (.t 5) (.i (-1099511627776)), none, 0⟩,
  ⟨none, .mv 7 (.t 6), none, 0⟩,
  ⟨some (7, false), .mv 8 (.t 1), none, 8⟩,
  ⟨some (7, false), .bin 9 .gtr (.t 8) (.i 1099511627776), none, 9⟩,
  ⟨none, .pick 10 (.t 7) (.b true) (.t 9), none, 0⟩]
def c96r2 : List SI := [
  ⟨none, .mv 4 (.i (-1)), none, 0⟩]
def c96r3 : List SI := [
  ⟨none, .mv 11 (.t 0), none, 0⟩,
  ⟨none, .mv 12 (.t 1), none, 0⟩,
  ⟨none, .bin 13 .add (.t 11) (.t 12), none, 0⟩,
  ⟨none, .mv 4 (.t 13), none, 0⟩]
def c96 : SC :=
  (.seq (.reg false c96r0)
  (.seq (.seq (.reg false c96r1)
  (.cond (.t 10)
   (.seq (.reg false c96r2)
   .ret)
   .skip))
  (.seq (.reg false c96r3)
  .ret)))
def v96 : List Nat × List Nat := ([], [])
def o96 : List RS := [.t 4]
theorem s96 : slimC Try.prog Try.f96.ntmps v96.1 v96.2 ((Try.f96.body).getD .skip) = some c96 := by kernel_rfl
theorem q96 : slimR Try.prog Try.f96.ntmps v96.1 v96.2 Try.f96.results.toList = some o96 := by kernel_rfl
-- watermeet/rec.field[int] N=32
def c97r0 : List SI := [
  ⟨none, .mv 4 (.i 0), none, 0⟩]
def c97r1 : List SI := [
  ⟨none, .mv 5 (.i 0), none, 0⟩]
def c97r2 : List SI := [
  ⟨none, .mv 6 (.t 0), none, 0⟩,
  ⟨none, .nck 7 (.t 6), none, 0⟩,
  ⟨none, .flA 8 (.t 7) 2, none, 0⟩,
  ⟨none, .ld 9 (.t 8) none, none, 0⟩,
  ⟨none, .bin 10 .eql (.t 9) (.i 0), none, 0⟩]
def c97r3 : List WI := [
  (true, false, ⟨none, .mv 12 (.t 0), none, 0⟩),
  (true, false, ⟨none, .mv 13 (.t 0), none, 0⟩),
  (true, false, ⟨none, .mv 14 (.t 1), none, 0⟩),
  (true, false, ⟨none, .mv 15 (.t 0), none, 0⟩),
  (true, false, ⟨none, .nck 16 (.t 15), none, 0⟩),
  (true, false, ⟨none, .flA 17 (.t 16) 0, none, 0⟩),
  (true, false, ⟨none, .ld 18 (.t 17) none, none, 0⟩),
  (true, false, ⟨none, .mv 19 (.t 0), none, 0⟩),
  (true, false, ⟨none, .nck 20 (.t 19), none, 0⟩),
  (true, false, ⟨none, .flA 21 (.t 20) 1, none, 0⟩),
  (true, false, ⟨none, .ld 22 (.t 21) none, none, 0⟩),
  (false, true, ⟨none, .cav 23 (.t 14) [(.t 18), (.t 22)], none, 0⟩),
  (true, false, ⟨none, .mv 11 (.t 23), none, 0⟩),
  (true, false, ⟨none, .ext 24 (.t 11) 0, none, 0⟩),
  (true, false, ⟨none, .ext 25 (.t 11) 1, none, 0⟩),
  (true, false, ⟨none, .ext 26 (.t 11) 2, none, 0⟩),
  (true, false, ⟨none, .mv 5 (.t 24), none, 0⟩),
  (true, false, ⟨none, .nck 27 (.t 12), none, 0⟩),
  (true, false, ⟨none, .flA 28 (.t 27) 1, none, 0⟩),
  (false, true, ⟨none, .st (.t 28) 1 (.t 25), none, 0⟩),
  (true, false, ⟨none, .nck 29 (.t 13), none, 0⟩),
  (true, false, ⟨none, .flA 30 (.t 29) 2, none, 0⟩),
  (false, true, ⟨none, .st (.t 30) 1 (.t 26), none, 0⟩)]
def c97r4 : List SI := [
  ⟨none, .mv 31 (.t 5), none, 0⟩,
  ⟨none, .mv 4 (.t 31), none, 0⟩]
def c97 : SC :=
  (.seq (.reg false c97r0)
  (.seq (.reg false c97r1)
  (.seq (.seq (.reg false c97r2)
  (.cond (.t 10)
   (.rgW c97r3)
   .skip))
  (.seq (.reg false c97r4)
  .ret))))
def v97 : List Nat × List Nat := ([], [])
def o97 : List RS := [.t 4]
theorem s97 : slimC Try.prog Try.f97.ntmps v97.1 v97.2 ((Try.f97.body).getD .skip) = some c97 := by kernel_rfl
theorem q97 : slimR Try.prog Try.f97.ntmps v97.1 v97.2 Try.f97.results.toList = some o97 := by kernel_rfl
-- watermeet/rec.field[bool] N=32
def c98r0 : List SI := [
  ⟨none, .mv 4 (.b false), none, 0⟩]
def c98r1 : List SI := [
  ⟨none, .mv 5 (.b false), none, 0⟩]
def c98r2 : List SI := [
  ⟨none, .mv 6 (.t 0), none, 0⟩,
  ⟨none, .nck 7 (.t 6), none, 0⟩,
  ⟨none, .flA 8 (.t 7) 2, none, 0⟩,
  ⟨none, .ld 9 (.t 8) none, none, 0⟩,
  ⟨none, .bin 10 .eql (.t 9) (.i 0), none, 0⟩]
def c98r3 : List WI := [
  (true, false, ⟨none, .mv 12 (.t 0), none, 0⟩),
  (true, false, ⟨none, .mv 13 (.t 0), none, 0⟩),
  (true, false, ⟨none, .mv 14 (.t 1), none, 0⟩),
  (true, false, ⟨none, .mv 15 (.t 0), none, 0⟩),
  (true, false, ⟨none, .nck 16 (.t 15), none, 0⟩),
  (true, false, ⟨none, .flA 17 (.t 16) 0, none, 0⟩),
  (true, false, ⟨none, .ld 18 (.t 17) none, none, 0⟩),
  (true, false, ⟨none, .mv 19 (.t 0), none, 0⟩),
  (true, false, ⟨none, .nck 20 (.t 19), none, 0⟩),
  (true, false, ⟨none, .flA 21 (.t 20) 1, none, 0⟩),
  (true, false, ⟨none, .ld 22 (.t 21) none, none, 0⟩),
  (false, true, ⟨none, .cav 23 (.t 14) [(.t 18), (.t 22)], none, 0⟩),
  (true, false, ⟨none, .mv 11 (.t 23), none, 0⟩),
  (true, false, ⟨none, .ext 24 (.t 11) 0, none, 0⟩),
  (true, false, ⟨none, .ext 25 (.t 11) 1, none, 0⟩),
  (true, false, ⟨none, .ext 26 (.t 11) 2, none, 0⟩),
  (true, false, ⟨none, .mv 5 (.t 24), none, 0⟩),
  (true, false, ⟨none, .nck 27 (.t 12), none, 0⟩),
  (true, false, ⟨none, .flA 28 (.t 27) 1, none, 0⟩),
  (false, true, ⟨none, .st (.t 28) 1 (.t 25), none, 0⟩),
  (true, false, ⟨none, .nck 29 (.t 13), none, 0⟩),
  (true, false, ⟨none, .flA 30 (.t 29) 2, none, 0⟩),
  (false, true, ⟨none, .st (.t 30) 1 (.t 26), none, 0⟩)]
def c98r4 : List SI := [
  ⟨none, .mv 31 (.t 5), none, 0⟩,
  ⟨none, .mv 4 (.t 31), none, 0⟩]
def c98 : SC :=
  (.seq (.reg false c98r0)
  (.seq (.reg false c98r1)
  (.seq (.seq (.reg false c98r2)
  (.cond (.t 10)
   (.rgW c98r3)
   .skip))
  (.seq (.reg false c98r4)
  .ret))))
def v98 : List Nat × List Nat := ([], [])
def o98 : List RS := [.t 4]
theorem s98 : slimC Try.prog Try.f98.ntmps v98.1 v98.2 ((Try.f98.body).getD .skip) = some c98 := by kernel_rfl
theorem q98 : slimR Try.prog Try.f98.ntmps v98.1 v98.2 Try.f98.results.toList = some o98 := by kernel_rfl
-- watermeet/rec.flag N=25
def c99r0 : List SI := [
  ⟨none, .mv 4 (.b false), none, 0⟩,
  ⟨none, .mv 5 (.i 0), none, 0⟩,
  ⟨none, .mv 6 (.i 0), none, 0⟩]
def c99r1 : List SI := [
  ⟨none, .mv 8 (.t 1), none, 0⟩,
  ⟨none, .mv 9 (.t 0), none, 0⟩,
  ⟨none, .len 10 false (.t 9), none, 0⟩,
  ⟨none, .bin 11 .geq (.t 8) (.t 10), none, 0⟩,
  ⟨none, .mv 7 (.t 11), none, 0⟩]
def c99r2 : List SI := [
  ⟨none, .mv 4 (.b false), none, 0⟩,
  ⟨none, .mv 5 (.i 0), none, 0⟩,
  ⟨none, .mv 6 (.i 10), none, 0⟩]
def c99r3 : List SI := [
  ⟨none, .mv 13 (.t 0), none, 0⟩,
  ⟨none, .mv 14 (.t 1), none, 0⟩,
  ⟨none, .ixA 15 (.t 13) (.t 14) 1, none, 0⟩,
  ⟨none, .ld 16 (.t 15) none, none, 0⟩,
  ⟨none, .bin 17 .gtr (.t 16) (.v (.int .u8 1)), none, 0⟩,
  ⟨none, .mv 12 (.t 17), none, 0⟩]
def c99r4 : List SI := [
  ⟨none, .mv 4 (.b false), none, 0⟩,
  ⟨none, .mv 5 (.i 0), none, 0⟩,
  ⟨none, .mv 6 (.i 11), none, 0⟩]
def c99r5 : List SI := [
  ⟨none, .mv 18 (.t 0), none, 0⟩,
  ⟨none, .mv 19 (.t 1), none, 0⟩,
  ⟨none, .ixA 20 (.t 18) (.t 19) 1, none, 0⟩,
  ⟨none, .ld 21 (.t 20) none, none, 0⟩,
  ⟨none, .bin 22 .eql (.t 21) (.v (.int .u8 1)), none, 0⟩,
  ⟨none, .mv 23 (.t 1), none, 0⟩,
  ⟨none, .bin 24 .add (.t 23) (.i 1), none, 0⟩,
  ⟨none, .mv 4 (.t 22), none, 0⟩,
  ⟨none, .mv 5 (.t 24), none, 0⟩,
  ⟨none, .mv 6 (.i 0), none, 0⟩]
def c99 : SC :=
  (.seq (.reg false c99r0)
  (.seq (.blk 0 (.seq (.reg false c99r1)
   (.cond (.t 7)
    (.seq (.reg false c99r2)
    .ret)
    (.seq (.reg false c99r3)
    (.cond (.t 12)
     (.seq (.reg false c99r4)
     .ret)
     .skip)))))
  (.seq (.reg false c99r5)
  .ret)))
def v99 : List Nat × List Nat := ([], [])
def o99 : List RS := [.t 4, .t 5, .t 6]
theorem s99 : slimC Try.prog Try.f99.ntmps v99.1 v99.2 ((Try.f99.body).getD .skip) = some c99 := by kernel_rfl
theorem q99 : slimR Try.prog Try.f99.ntmps v99.1 v99.2 Try.f99.results.toList = some o99 := by kernel_rfl
-- watermeet/rec.field[string] N=32
def c100r0 : List SI := [
  ⟨none, .mv 4 (.v (.string ⟨#[]⟩)), none, 0⟩]
def c100r1 : List SI := [
  ⟨none, .mv 5 (.v (.string ⟨#[]⟩)), none, 0⟩]
def c100r2 : List SI := [
  ⟨none, .mv 6 (.t 0), none, 0⟩,
  ⟨none, .nck 7 (.t 6), none, 0⟩,
  ⟨none, .flA 8 (.t 7) 2, none, 0⟩,
  ⟨none, .ld 9 (.t 8) none, none, 0⟩,
  ⟨none, .bin 10 .eql (.t 9) (.i 0), none, 0⟩]
def c100r3 : List WI := [
  (true, false, ⟨none, .mv 12 (.t 0), none, 0⟩),
  (true, false, ⟨none, .mv 13 (.t 0), none, 0⟩),
  (true, false, ⟨none, .mv 14 (.t 1), none, 0⟩),
  (true, false, ⟨none, .mv 15 (.t 0), none, 0⟩),
  (true, false, ⟨none, .nck 16 (.t 15), none, 0⟩),
  (true, false, ⟨none, .flA 17 (.t 16) 0, none, 0⟩),
  (true, false, ⟨none, .ld 18 (.t 17) none, none, 0⟩),
  (true, false, ⟨none, .mv 19 (.t 0), none, 0⟩),
  (true, false, ⟨none, .nck 20 (.t 19), none, 0⟩),
  (true, false, ⟨none, .flA 21 (.t 20) 1, none, 0⟩),
  (true, false, ⟨none, .ld 22 (.t 21) none, none, 0⟩),
  (false, true, ⟨none, .cav 23 (.t 14) [(.t 18), (.t 22)], none, 0⟩),
  (true, false, ⟨none, .mv 11 (.t 23), none, 0⟩),
  (true, false, ⟨none, .ext 24 (.t 11) 0, none, 0⟩),
  (true, false, ⟨none, .ext 25 (.t 11) 1, none, 0⟩),
  (true, false, ⟨none, .ext 26 (.t 11) 2, none, 0⟩),
  (true, false, ⟨none, .mv 5 (.t 24), none, 0⟩),
  (true, false, ⟨none, .nck 27 (.t 12), none, 0⟩),
  (true, false, ⟨none, .flA 28 (.t 27) 1, none, 0⟩),
  (false, true, ⟨none, .st (.t 28) 1 (.t 25), none, 0⟩),
  (true, false, ⟨none, .nck 29 (.t 13), none, 0⟩),
  (true, false, ⟨none, .flA 30 (.t 29) 2, none, 0⟩),
  (false, true, ⟨none, .st (.t 30) 1 (.t 26), none, 0⟩)]
def c100r4 : List SI := [
  ⟨none, .mv 31 (.t 5), none, 0⟩,
  ⟨none, .mv 4 (.t 31), none, 0⟩]
def c100 : SC :=
  (.seq (.reg false c100r0)
  (.seq (.reg false c100r1)
  (.seq (.seq (.reg false c100r2)
  (.cond (.t 10)
   (.rgW c100r3)
   .skip))
  (.seq (.reg false c100r4)
  .ret))))
def v100 : List Nat × List Nat := ([], [])
def o100 : List RS := [.t 4]
theorem s100 : slimC Try.prog Try.f100.ntmps v100.1 v100.2 ((Try.f100.body).getD .skip) = some c100 := by kernel_rfl
theorem q100 : slimR Try.prog Try.f100.ntmps v100.1 v100.2 Try.f100.results.toList = some o100 := by kernel_rfl
-- watermeet/watermeetref02.step N=11
def c101r0 : List SI := [
  ⟨none, .mv 2 (.v (.int .u32 0)), none, 0⟩]
def c101r1 : List SI := [
  ⟨none, .mv 3 (.t 0), none, 0⟩,
  ⟨none, .bin 4 .rem (.t 3) (.v (.int .u32 2)), none, 0⟩,
  ⟨none, .bin 5 .eql (.t 4) (.v (.int .u32 1)), none, 0⟩]
def c101r2 : List SI := [
  ⟨none, .mv 6 (.t 0), none, 0⟩,
  ⟨none, .bin 7 .quo (.t 6) (.v (.int .u32 2)), none, 0⟩,
  ⟨none, .bin 8 .xor (.t 7) (.v (.int .u32 3988292384)), none, 0⟩,
  ⟨none, .mv 2 (.t 8), none, 0⟩]
def c101r3 : List SI := [
  ⟨none, .mv 9 (.t 0), none, 0⟩,
  ⟨none, .bin 10 .quo (.t 9) (.v (.int .u32 2)), none, 0⟩,
  ⟨none, .mv 2 (.t 10), none, 0⟩]
def c101 : SC :=
  (.seq (.reg false c101r0)
  (.seq (.seq (.reg false c101r1)
  (.cond (.t 5)
   (.seq (.reg false c101r2)
   .ret)
   .skip))
  (.seq (.reg false c101r3)
  .ret)))
def v101 : List Nat × List Nat := ([], [])
def o101 : List RS := [.t 2]
theorem s101 : slimC Try.prog Try.f101.ntmps v101.1 v101.2 ((Try.f101.body).getD .skip) = some c101 := by kernel_rfl
theorem q101 : slimR Try.prog Try.f101.ntmps v101.1 v101.2 Try.f101.results.toList = some o101 := by kernel_rfl
-- watermeet/crc.half N=14
def c102r0 : List SI := [
  ⟨none, .mv 2 (.v (.int .u32 0)), none, 0⟩]
def c102r1 : List SI := [
  ⟨none, .mv 3 (.i 0), none, 0⟩]
def c102r2 : List SI := [
  ⟨none, .bin 4 .lss (.t 3) (.i 4), none, 0⟩]
def c102r3 : List SI := [
  ⟨none, .mv 5 (.t 0), none, 0⟩,
  ⟨none, .bin 6 .shr (.t 5) (.v (.int .u64 1)), none, 0⟩,
  ⟨none, .mv 7 (.t 0), none, 0⟩,
  ⟨none, .bin 8 .and (.t 7) (.v (.int .u32 1)), none, 0⟩,
  ⟨none, .un 9 .neg (.t 8), none, 0⟩,
  ⟨none, .bin 10 .and (.v (.int .u32 3988292384)) (.t 9), none, 0⟩,
  ⟨none, .bin 11 .xor (.t 6) (.t 10), none, 0⟩,
  ⟨none, .mv 0 (.t 11), none, 0⟩]
def c102r4 : List SI := [
  ⟨none, .bin 12 .add (.t 3) (.i 1), none, 0⟩,
  ⟨none, .mv 3 (.t 12), none, 0⟩]
def c102r5 : List SI := [
  ⟨none, .mv 13 (.t 0), none, 0⟩,
  ⟨none, .mv 2 (.t 13), none, 0⟩]
def c102 : SC :=
  (.seq (.reg false c102r0)
  (.seq (.seq (.reg false c102r1)
  (.blk 0 (.loop (.seq (.reg false c102r2)
    (.seq (.cond (.t 4)
     .skip
     (.exit 0))
    (.seq (.blk 1 (.reg false c102r3))
    (.reg false c102r4)))))))
  (.seq (.reg false c102r5)
  .ret)))
def v102 : List Nat × List Nat := ([], [])
def o102 : List RS := [.t 2]
theorem s102 : slimC Try.prog Try.f102.ntmps v102.1 v102.2 ((Try.f102.body).getD .skip) = some c102 := by kernel_rfl
theorem q102 : slimR Try.prog Try.f102.ntmps v102.1 v102.2 Try.f102.results.toList = some o102 := by kernel_rfl
-- watermeet/crc.adder$1 N=24
def c103r0 : List SI := [
  ⟨none, .mv 5 (.v (.int .u32 0)), none, 0⟩]
def c103r1 : List SI := [
  ⟨none, .mv 6 (.t 0), none, 0⟩,
  ⟨none, .mv 7 (.t 1), none, 0⟩,
  ⟨none, .cvI 8 .u32 (.t 7), none, 0⟩,
  ⟨none, .bin 9 .xor (.t 6) (.t 8), none, 0⟩,
  ⟨none, .mv 0 (.t 9), none, 0⟩]
def c103r2 : List SI := [
  ⟨none, .mv 10 (.t 0), none, 0⟩,
  ⟨none, .bin 11 .and (.t 10) (.v (.int .u32 15)), none, 0⟩,
  ⟨none, .ixP 12 (.t 2) (.t 11) 16 1, none, 0⟩,
  ⟨none, .ld 13 (.t 12) none, none, 0⟩,
  ⟨none, .mv 14 (.t 0), none, 0⟩,
  ⟨none, .bin 15 .shr (.t 14) (.v (.int .u64 4)), none, 0⟩,
  ⟨none, .bin 16 .xor (.t 13) (.t 15), none, 0⟩,
  ⟨none, .mv 0 (.t 16), none, 0⟩]
def c103r3 : List SI := [
  ⟨none, .mv 17 (.t 0), none, 0⟩,
  ⟨none, .bin 18 .and (.t 17) (.v (.int .u32 15)), none, 0⟩,
  ⟨none, .ixP 19 (.t 2) (.t 18) 16 1, none, 0⟩,
  ⟨none, .ld 20 (.t 19) none, none, 0⟩,
  ⟨none, .mv 21 (.t 0), none, 0⟩,
  ⟨none, .bin 22 .shr (.t 21) (.v (.int .u64 4)), none, 0⟩,
  ⟨none, .bin 23 .xor (.t 20) (.t 22), none, 0⟩,
  ⟨none, .mv 5 (.t 23), none, 0⟩]
def c103 : SC :=
  (.seq (.reg false c103r0)
  (.seq (.reg false c103r1)
  (.seq (.reg false c103r2)
  (.seq (.reg false c103r3)
  .ret))))
def v103 : List Nat × List Nat := ([], [])
def o103 : List RS := [.t 5]
theorem s103 : slimC Try.prog Try.f103.ntmps v103.1 v103.2 ((Try.f103.body).getD .skip) = some c103 := by kernel_rfl
theorem q103 : slimR Try.prog Try.f103.ntmps v103.1 v103.2 Try.f103.results.toList = some o103 := by kernel_rfl
end Go.Proofs.Ytfhheomeebejnaa

/- Bytes, part 1 of a proof: the forms, and copies. No condition. -/
set_option linter.unusedSimpArgs false
set_option linter.unusedVariables false
namespace Go.Proofs.Ytfhheomeebejnaa
open Go Go.Kx
theorem F15 : Fun Try.prog 15 5 v15 c15 o15 := Fun.mk' Try.func15 Try.ntmps15 (by kernel_rfl) (by kernel_rfl) s15 q15
theorem F58 : Fun Try.prog 58 8 v58 c58 o58 := Fun.mk' Try.func58 Try.ntmps58 (by kernel_rfl) (by kernel_rfl) s58 q58

def UE (x : UInt8) (cs : List Value) : Prop := cs = [.int .u8 (x.toNat : Int)]
theorem UE1 : ∀ (x : UInt8) cs, UE x cs → ∀ u ∈ cs, u.oneCell' = true := fun x cs h u hu => by
  rw [h] at hu
  simp at hu
  subst hu
  rfl
abbrev SB (G : Nat → Option Obj) (v : Value) (l : List UInt8) : Prop := SlV G UE 1 v l
/-- Bytes that are handed over. -/
abbrev OwnB (zs : List UInt8) (L' : List Kx.Item) (r : Value) : Prop := OwnL UE 5 1 zs L' r
theorem SB.le {G G' : Nat → Option Obj} {v : Value} {l : List UInt8} (h : SB G v l) (hg : Gle G G') : SB G' v l := SlV.le h hg fun _ _ h => h
def cellB (l : List UInt8) : List Value := l.map fun b => .int .u8 (b.toNat : Int)
theorem cells_b : ∀ (l : List UInt8), Cells UE 1 l (cellB l)
  | [] => .nil
  | b :: l => .cons (cs := [.int .u8 (b.toNat : Int)]) rfl rfl (cells_b l)
theorem byteCells_b (s : ByteArray) : byteCells s = cellB s.data.toList := rfl
/-- One byte more. -/
theorem app8 {P : Program} {h : H} {d : Nat} {l : List SI} {e : Env} {K : Env → H → Prop} {u : Value} {b : Nat} {zs : List UInt8} {zc : List Value} {L1 L2 : List Kx.Item} {x : UInt8} {y : Int} (hL : h.L = .row (.slice (some ⟨b, 0, none⟩) 1 1) 5 1 1 [.int .u8 y] :: L1 ++ .row u 5 1 zs.length zc :: L2) (hy : y = (x.toNat : Int))
    (hc : Cells UE 1 zs zc) (hz : zs.length ≤ 10000000)
    (hk : ∀ A' c' zc', Cells UE 1 (zs ++ [x]) zc' → kR P l d e K (.slice A' (zs ++ [x]).length c') ⟨h.G, .row (.slice (some ⟨b, 0, none⟩) 1 1) 5 1 1 [.int .u8 y] :: L1 ++ .row (.slice A' (zs ++ [x]).length c') 5 1 (zs ++ [x]).length zc' :: L2, h.D⟩) :
    apX P u (.slice (some ⟨b, 0, none⟩) 1 1) 5 1 1 d l e h K := by
  subst hy
  refine ⟨.row (.slice (some ⟨b, 0, none⟩) 1 1) 5 1 1 [.int .u8 (x.toNat : Int)] :: L1, zs.length, zc, L2, 1, [.int .u8 (x.toNat : Int)], .inl hL, srcH_row (h := h) (by rw [hL]; exact .head _) (UE1 x _ rfl) rfl, by unfold maxLen; omega, fun A' c' => ?_⟩
  have := hk A' c' (zc ++ [.int .u8 (x.toNat : Int)]) (hc.app (.one (show UE x [.int .u8 (x.toNat : Int)] from rfl) rfl))
  simp only [List.length_append, List.length_cons, List.length_nil, Nat.zero_add] at this
  exact this
/-- A text put behind bytes. -/
theorem apX_s {P : Program} {h : H} {d : Nat} {l : List SI} {e : Env} {K : Env → H → Prop} {u : Value} {s : ByteArray} {zs : List UInt8} {zc : List Value} {L1 L2 : List Kx.Item} (hr : RowAt h.L u 5 1 L1 zs.length zc L2) (hc : Cells UE 1 zs zc) (hz : zs.length + s.size ≤ 10000000)
    (hk : ∀ A' c' zc', Cells UE 1 (zs ++ s.data.toList) zc' → kR P l d e K (.slice A' (zs ++ s.data.toList).length c') { h with L := L1 ++ .row (.slice A' (zs ++ s.data.toList).length c') 5 1 (zs ++ s.data.toList).length zc' :: L2 }) :
    apX P u (.string s) 5 1 1 d l e h K := by
  refine ⟨L1, zs.length, zc, L2, s.size, cellB s.data.toList, hr, ⟨fun u hu => ?_, ?_, .inr (.inr ⟨s, rfl, rfl, byteCells_b s, rfl⟩)⟩, by unfold maxLen; omega, fun A' c' => ?_⟩
  · simp [cellB] at hu; obtain ⟨_, _, rfl⟩ := hu; rfl
  · simp [cellB]
  · have := hk A' c' (zc ++ cellB s.data.toList) (hc.app (cells_b _))
    rw [List.length_append] at this
    exact this

theorem bin_mul (k : IntKind) (a b : Int) : binV .mul (.int k a) (.int k b) = some (.int k (k.wrap (a * b))) := by simp [binV]
theorem bin_add (k : IntKind) (a b : Int) : binV .add (.int k a) (.int k b) = some (.int k (k.wrap (a + b))) := by simp [binV]
theorem bin_quo (k : IntKind) (a b : Nat) (hb : b ≠ 0) (ha : (a : Int) ≤ k.max) (hk : k.signed = false) : binV .quo (.int k a) (.int k b) = some (.int k ((a / b : Nat) : Int)) := by
  have h1 : ¬ (b : Int) = 0 := by omega
  have h2 : k.wrap (((a / b : Nat) : Int)) = ((a / b : Nat) : Int) := by
    have hq := Nat.div_le_self a b
    generalize a / b = q at hq ⊢
    cases k <;> simp [IntKind.signed] at hk <;> simp [IntKind.max, IntKind.signed, IntKind.bits] at ha <;> simp only [IntKind.wrap, IntKind.signed, IntKind.bits] <;> simp <;> omega
  simp only [binV]
  rw [if_pos trivial, if_neg h1]
  have : (a : Int).tdiv (b : Int) = ((a / b : Nat) : Int) := by rw [Int.tdiv_eq_ediv_of_nonneg (by omega)]; rfl
  rw [this, h2]
theorem bin_rem (k : IntKind) (a b : Nat) (hb : b ≠ 0) : binV .rem (.int k a) (.int k b) = some (.int k ((a % b : Nat) : Int)) := by
  have h1 : ¬ (b : Int) = 0 := by omega
  simp only [binV]
  rw [if_pos trivial, if_neg h1]
  have : (a : Int).tmod (b : Int) = ((a % b : Nat) : Int) := by rw [Int.tmod_eq_emod_of_nonneg (by omega)]; rfl
  rw [this]
/-- What is owned is set down ahead of a call. -/
theorem callsH_gx {P : Program} {f : FuncId} {args : Array Value} {h : H} {M : H → Prop} {R : Value → H → Prop} (hE : Enters P f) (hg : GhostX h M) (hc : ∀ h', M h' → CallsH P f args h' R) : CallsH P f args h R :=
  ⟨hE, fun β w hs => by
    obtain ⟨h1, m, s1, t1, d1, r1⟩ := hg β w hs
    exact ((hc h1 m).2 β w s1).mono fun _ _ ⟨v, h2, a, ⟨b1, b2⟩, c, d, r⟩ => ⟨v, h2, a, ⟨b1.trans d1, r1.trans b2⟩, c, t1.trans d, r⟩⟩
theorem SB.nil {G : Nat → Option Obj} : SB G (.slice none 0 0) [] := ⟨none, 0, rfl, Nat.le_refl _, Nat.zero_le _, fun i x hx => by simp at hx⟩
theorem Copy_ok (l : List UInt8) (v : Value) (G : Nat → Option Obj) (hl : SB G v l) (hb : l.length ≤ 1000000) :
    FnO Try.prog 15 #[v] G [] (fun _ L' r => OwnB l L' r) := by
  refine F15.fnO (by simp) noRegs_nil (go_of ?_)
  unfold c15
  (intros; try refine go_st ?_); refine go_r 0 0 (by decide) ?_; (refine sJ c15r0.eq_1 ?_; try with_reducible exact True.intro)
  (intros; try refine go_st ?_); refine go_r 3 5 (by decide) ?_; (refine sJ c15r1.eq_1 ?_; try with_reducible exact True.intro)
  refine apX_v (.inr ⟨⟨none, rfl⟩, rfl, rfl, rfl, rfl⟩) hl rfl UE1 (by unfold maxLen; omega) fun ys A c hc => ?_
  simp only [Nat.zero_add]
  (refine sI ?_; try with_reducible exact True.intro)
  (intros; try refine go_st ?_)
  refine go_ret (retQ_o _ rfl (List.Sublist.refl _) (noRegs_row noRegs_nil) ?_)
  exact ⟨ys, hc, rfl⟩
theorem Clone_ok (l : List UInt8) (v : Value) (G : Nat → Option Obj) (hl : SB G v l) (hb : l.length ≤ 1000000) :
    FnO Try.prog 58 #[v] G [] (fun _ L' r => OwnB l L' r) := by
  refine F58.fnO (by simp) noRegs_nil (go_of ?_)
  have hl0 := hl
  obtain ⟨A, c, rfl, hc, hm, hA⟩ := hl
  unfold c58
  (intros; try refine go_st ?_); refine go_r 0 0 (by decide) ?_; (refine sJ c58r0.eq_1 ?_; try with_reducible exact True.intro)
  (intros; try refine go_st ?_); refine go_r 3 4 (by decide) ?_; (refine sJ c58r1.eq_1 ?_; try with_reducible exact True.intro)
  (intros; try refine go_st ?_); refine go_c ?_; (refine sI ?_; try with_reducible exact True.intro)
  refine gb (fun ht => ?_) (fun ht => ?_)
  · (intros; try refine go_st ?_); refine go_r 0 0 (by decide) ?_; (refine sJ c58r2.eq_1 ?_; try with_reducible exact True.intro)
    (intros; try refine go_st ?_)
    have hA0 : l = [] := by
      match l, hA with
      | [], _ => rfl
      | x :: xs, hA => obtain ⟨a, _, ha, _⟩ := hA 0 x rfl; subst ha; cases ht
    subst hA0
    refine go_ghost (ghost_nil none 5 1) ?_
    refine go_ret (retQ_o _ rfl (List.Sublist.refl _) (noRegs_row noRegs_nil) ?_)
    exact ⟨[], .nil, rfl⟩
  · (intros; try refine go_st ?_); refine go_r 5 8 (by decide) ?_; (refine sJ c58r3.eq_1 ?_; try with_reducible exact True.intro)
    intro b hb'
    refine apX_v (.inr ⟨⟨_, rfl⟩, rfl, rfl, rfl, rfl⟩) hl0 rfl UE1 (by unfold maxLen; omega) fun ys A c hc => ?_
    simp only [Nat.zero_add]
    (refine sI ?_; try with_reducible exact True.intro)
    (intros; try refine go_st ?_)
    refine go_ret (retQ_o _ rfl (List.Sublist.refl _) (noRegs_row noRegs_nil) ?_)
    exact ⟨ys, hc, rfl⟩
end Go.Proofs.Ytfhheomeebejnaa

/- Bytes, part 2 of a proof: numbers as short as they go. No condition. -/
set_option linter.unusedSimpArgs false
set_option linter.unusedVariables false
namespace Go.Proofs.Ytfhheomeebejnaa
open Go Go.Kx
theorem F61 : Fun Try.prog 61 31 v61 c61 o61 := Fun.mk' Try.func61 Try.ntmps61 (by kernel_rfl) (by kernel_rfl) s61 q61
theorem F66 : Fun Try.prog 66 36 v66 c66 o66 := Fun.mk' Try.func66 Try.ntmps66 (by kernel_rfl) (by kernel_rfl) s66 q66

def zig (n : Int) : Nat := if 0 ≤ n then (2 * n).toNat else (-2 * n - 1).toNat
def vnat : Nat → Nat → List UInt8
  | 0, z => [UInt8.ofNat z]
  | f + 1, z => if z < 128 then [UInt8.ofNat z] else UInt8.ofNat (128 + z % 128) :: vnat f (z / 128)
/-- A number's bytes. -/
def pvB (n : Int) : List UInt8 := vnat 9 (zig n)
theorem vnat_len : ∀ f z, (vnat f z).length ≤ f + 1 ∧ 1 ≤ (vnat f z).length
  | 0, z => by simp [vnat]
  | f + 1, z => by
    unfold vnat
    split
    · simp
    · have := vnat_len f (z / 128)
      simp
      omega
theorem pvB_len (n : Int) : (pvB n).length ≤ 10 := (vnat_len 9 _).1
theorem zig_lt {n : Int} (h : I64 n) : zig n < 18446744073709551616 := by
  unfold zig I64 at *
  split <;> omega
theorem vnat_lt {f z : Nat} (h : z < 128) : vnat f z = [UInt8.ofNat z] := by
  cases f with
  | zero => rfl
  | succ f => exact if_pos h
/-- Out of what was put, and what is left. -/
def Puts (p : List UInt8) (z0 : Nat) (zs : List UInt8) (z : Nat) : Prop := ∃ f, f ≤ 9 ∧ zs.length + f = p.length + 9 ∧ z < 2 * 128 ^ f ∧ zs ++ vnat f z = p ++ vnat 9 z0
theorem puts_zero (p : List UInt8) {z0 : Nat} (h : z0 < 18446744073709551616) : Puts p z0 p z0 := ⟨9, Nat.le_refl _, rfl, by omega, rfl⟩
theorem puts_end {p zs : List UInt8} {z0 z : Nat} (h : Puts p z0 zs z) (hz : z < 128) : zs ++ [UInt8.ofNat z] = p ++ vnat 9 z0 := by
  obtain ⟨f, _, _, _, h⟩ := h
  rw [← h, vnat_lt hz]
theorem puts_more {p zs : List UInt8} {z0 z : Nat} (h : Puts p z0 zs z) (hz : ¬ z < 128) : Puts p z0 (zs ++ [UInt8.ofNat (128 + z % 128)]) (z / 128) := by
  obtain ⟨f, h1, h2, h3, h4⟩ := h
  cases f with
  | zero => simp at h3; omega
  | succ f =>
    refine ⟨f, by omega, by simp; omega, by rw [Nat.pow_succ] at h3; omega, ?_⟩
    rw [← h4, vnat, if_neg hz]
    simp
theorem puts_len {p zs : List UInt8} {z0 z : Nat} (h : Puts p z0 zs z) : zs.length ≤ p.length + 9 := by
  obtain ⟨f, h1, h2, _⟩ := h
  omega
theorem or_128 (z : Nat) : binV .or (.int .u8 (IntKind.u8.wrap (z : Int))) (.int .u8 128) = some (.int .u8 ((UInt8.ofNat (128 + z % 128)).toNat : Int)) := by
  have key : ∀ b : Fin 256, (BitVec.ofInt 8 ((b.val : Nat) : Int) ||| BitVec.ofInt 8 128).toNat = 128 + b.val % 128 := by decide +kernel
  have h1 : IntKind.u8.wrap (z : Int) = ((z % 256 : Nat) : Int) := by rw [IntKind.wrap_u8]; omega
  have h2 := key ⟨z % 256, Nat.mod_lt _ (by omega)⟩
  rw [h1]
  simp only [binV]
  rw [if_pos trivial]
  have h3 : (BitVec.ofInt IntKind.u8.bits ((z % 256 : Nat) : Int) ||| BitVec.ofInt IntKind.u8.bits 128).toNat = 128 + z % 128 := by
    refine h2.trans ?_
    dsimp only
    omega
  rw [h3]
  simp [IntKind.wrap_u8]
theorem u8_nat (z : Nat) : IntKind.u8.wrap (z : Int) = ((UInt8.ofNat z).toNat : Int) := by
  rw [IntKind.wrap_u8]
  simp
theorem shr_7 (z : Nat) : binV .shr (.int .u64 (z : Int)) (.int .u64 7) = some (.int .u64 ((z / 128 : Nat) : Int)) := by
  simp [binV, IntKind.bits]
  rw [Int.fdiv_eq_ediv_of_nonneg _ (by omega)]
theorem shl_1 (n : Int) : binV .shl (.int .u64 (IntKind.u64.wrap n)) (.int .u64 1) = some (.int .u64 (IntKind.u64.wrap (IntKind.u64.wrap n * 2))) := by
  simp [binV, IntKind.bits]
def sgn (n : Int) : Int := if 0 ≤ n then 0 else -1
theorem shr_63 {n : Int} (h : I64 n) : binV .shr (.int .i64 n) (.int .u64 63) = some (.int .i64 (sgn n)) := by
  have h1 : n.fdiv 9223372036854775808 = sgn n := by
    rw [Int.fdiv_eq_ediv_of_nonneg _ (by omega)]
    unfold sgn I64 at *
    split <;> omega
  simp [binV, IntKind.bits, h1]
theorem xor_zig {n : Int} (h : I64 n) : binV .xor (.int .u64 (IntKind.u64.wrap (IntKind.u64.wrap n * 2))) (.int .u64 (IntKind.u64.wrap (sgn n))) = some (.int .u64 (zig n : Int)) := by
  have hz := zig_lt h
  have key : (BitVec.ofInt 64 (IntKind.u64.wrap (IntKind.u64.wrap n * 2)) ^^^ BitVec.ofInt 64 (IntKind.u64.wrap (sgn n))).toNat = zig n := by
    unfold I64 at h
    by_cases h0 : 0 ≤ n
    · have e1 : IntKind.u64.wrap (IntKind.u64.wrap n * 2) = 2 * n := by rw [IntKind.wrap_u64, IntKind.wrap_u64]; omega
      have e2 : IntKind.u64.wrap (sgn n) = 0 := by rw [sgn, if_pos h0]; rfl
      rw [e1, e2]
      have : BitVec.ofInt 64 0 = 0#64 := rfl
      rw [this, BitVec.xor_zero, BitVec.toNat_ofInt]
      simp [zig, h0]
      omega
    · have e1 : IntKind.u64.wrap (IntKind.u64.wrap n * 2) = (2 * n) % 18446744073709551616 := by rw [IntKind.wrap_u64, IntKind.wrap_u64]; omega
      have e2 : IntKind.u64.wrap (sgn n) = 18446744073709551615 := by rw [sgn, if_neg h0]; rfl
      rw [e1, e2]
      have : BitVec.ofInt 64 18446744073709551615 = BitVec.allOnes 64 := by decide
      rw [this, BitVec.xor_allOnes, BitVec.toNat_not, BitVec.toNat_ofInt]
      simp [zig, h0]
      omega
  simp only [binV]
  rw [if_pos trivial]
  have e3 : (BitVec.ofInt IntKind.u64.bits (IntKind.u64.wrap (IntKind.u64.wrap n * 2)) ^^^ BitVec.ofInt IntKind.u64.bits (IntKind.u64.wrap (sgn n))).toNat = zig n := key
  rw [e3, IntKind.wrap_u64]
  congr 2
  omega
theorem PutVar_ok (l : List UInt8) (n : Int) (hn : I64 n) (v : Value) (G : Nat → Option Obj) (hl : SB G v l) (hb : l.length ≤ 100000) :
    FnO Try.prog 61 #[v, .int .i64 n] G [] (fun _ L' r => OwnB (l ++ pvB n) L' r) := by
  refine F61.fnO (by simp) noRegs_nil (go_of ?_)
  have hl0 := hl
  obtain ⟨A, c, rfl, hc, hm, hA⟩ := hl
  unfold c61
  (intros; try refine go_st ?_); refine go_r 0 0 (by decide) ?_; (refine sJ c61r0.eq_1 ?_; try with_reducible exact True.intro)
  (intros; try refine go_st ?_); refine go_r 7 14 (by decide) ?_; (refine sJ4 c61r1.eq_1 @shl_1 (shr_63 hn) (xor_zig hn) ?_; try with_reducible exact True.intro)
  (intros; try refine go_st ?_); refine go_r 14 16 (by decide) ?_; (refine sJ c61r2.eq_1 ?_; try with_reducible exact True.intro)
  refine (Clone_ok l _ G hl0 (by omega) _ []).mono ?_
  rintro r h' ⟨G1, L', rfl, hg1, ys, hys, rfl⟩
  (refine sI ?_; try with_reducible exact True.intro)
  (intros; try refine go_st ?_)
  refine go_loop (fun e h => ∃ (z : Nat) (zs : List UInt8) (zc : List Value) (u : Value), (Puts l (zig n) zs z ∧ Cells UE 1 zs zc) ∧ e 5 = .int .u64 (z : Int) ∧ e 6 = u ∧ h.G = G1 ∧ h.D = [] ∧ [Item.row u 5 1 zs.length zc].Sublist h.L) (fun e h => iv (e 5)) ?_ ?_
  · exact ⟨zig n, l, ys, _, ⟨puts_zero l (zig_lt hn), hys⟩, eE, eE, rfl, rfl, List.Sublist.refl _⟩
  · rintro e ⟨G', L, D⟩ ⟨z, zs, zc, u, ⟨hp, hcs⟩, e5, e6, hG, hD, hL⟩
    dsimp only at hG hD hL
    subst hG hD
    refine go_ghost (ghost_sub hL) ?_
    refine go_keep [5, 6] ?_
    (refine sJ2 @e5 @e6 ?_; try with_reducible exact True.intro)
    have hlen := puts_len hp
    (intros; try refine go_st ?_); refine go_r 16 17 (by decide) ?_; (refine sJ c61r3.eq_1 ?_; try with_reducible exact True.intro)
    (intros; try refine go_st ?_); refine go_c ?_; (refine sI ?_; try with_reducible exact True.intro)
    refine gb (fun ht => ?_) (fun ht => ?_)
    · have hz : ¬ z < 128 := by simp at ht; omega
      (intros; try refine go_st ?_); refine go_r 20 26 (by decide) ?_; (refine sJ2 c61r4.eq_1 @or_128 ?_; try with_reducible exact True.intro)
      intro bk hbk
      refine app8 (L1 := []) (L2 := []) rfl rfl hcs (by omega) fun A' c' zc' hzc => ?_
      (refine sI ?_; try with_reducible exact True.intro)
      (intros; try refine go_st ?_); refine go_r 18 20 (by decide) ?_; (refine sJ2 c61r5.eq_1 @shr_7 ?_; try with_reducible exact True.intro)
      (intros; try refine go_st ?_)
      refine go_l ⟨⟨z / 128, _, zc', _, ⟨puts_more hp hz, hzc⟩, eE, eE, rfl, rfl, .cons _ (List.Sublist.refl _)⟩, ?_⟩
      (refine sI ?_; try with_reducible exact True.intro)
      simp [iv]
      omega
    · have hz : z < 128 := by simp at ht; omega
      refine go_exit ?_
      (refine sI ?_; try with_reducible exact True.intro)
      (intros; try refine go_st ?_); refine go_r 26 31 (by decide) ?_; (refine sJ2 c61r6.eq_1 @u8_nat ?_; try with_reducible exact True.intro)
      intro bk hbk
      refine app8 (L1 := []) (L2 := []) rfl rfl hcs (by omega) fun A' c' zc' hzc => ?_
      (refine sI ?_; try with_reducible exact True.intro)
      (intros; try refine go_st ?_)
      rw [puts_end hp hz] at hzc ⊢
      refine go_ret (retQ_o _ rfl (.cons _ (List.Sublist.refl _)) (noRegs_row noRegs_nil) ?_)
      exact ⟨zc', hzc, rfl⟩
theorem RPutVar_ok (l : List UInt8) (n : Int) (hn : I64 n) (v : Value) (G : Nat → Option Obj) (hl : SB G v l) (hb : l.length ≤ 100000) :
    FnO Try.prog 66 #[v, .int .i64 n] G [] (fun _ L' r => OwnB (l ++ pvB n) L' r) := by
  refine F66.fnO (by simp) noRegs_nil (go_of ?_)
  have hl0 := hl
  have hn0 := hn
  unfold I64 at hn
  obtain ⟨A, c, rfl, hc, hm, hA⟩ := hl
  unfold c66
  (intros; try refine go_st ?_); refine go_r 0 0 (by decide) ?_; (refine sJ c66r0.eq_1 ?_; try with_reducible exact True.intro)
  (intros; try refine go_st ?_); refine go_r 7 10 (by decide) ?_; (refine sJ2 c66r1.eq_1 @bin_mul ?_; try with_reducible exact True.intro)
  have hrest : ∀ (e : Env), e 0 = .slice A l.length c → e 5 = .int .u64 (zig n : Int) → go none Try.prog 36 v66.1 v66.2 (retQ o66 fun v h => OwnB (l ++ pvB n) h.L v) [Td.s ((SC.reg false c66r4).seq ((SC.blk 0 (((SC.reg false c66r5).seq (SC.cond (O.t 21) SC.skip (SC.exit 0))).seq (SC.blk 1 ((SC.reg false c66r6).seq (SC.reg false c66r7)))).loop).seq ((SC.reg false c66r8).seq SC.ret)))] e ⟨G, [], []⟩ := fun e e0 e5 => by
    refine go_keep [0, 5] ?_
    (refine sJ2 @e0 @e5 ?_; try with_reducible exact True.intro)
    (intros; try refine go_st ?_); refine go_r 18 20 (by decide) ?_; (refine sJ c66r4.eq_1 ?_; try with_reducible exact True.intro)
    refine (Copy_ok l _ G hl0 (by omega) _ []).mono ?_
    rintro r h' ⟨G1, L', rfl, hg1, ys, hys, rfl⟩
    (refine sI ?_; try with_reducible exact True.intro)
    (intros; try refine go_st ?_)
    refine go_loop (fun e h => ∃ (z : Nat) (zs : List UInt8) (zc : List Value) (u : Value), (Puts l (zig n) zs z ∧ Cells UE 1 zs zc ∧ z < 18446744073709551616) ∧ e 5 = .int .u64 (z : Int) ∧ e 6 = u ∧ h.G = G1 ∧ h.D = [] ∧ [Item.row u 5 1 zs.length zc].Sublist h.L) (fun e h => iv (e 5)) ?_ ?_
    · exact ⟨zig n, l, ys, _, ⟨puts_zero l (zig_lt hn0), hys, zig_lt hn0⟩, eE, eE, rfl, rfl, List.Sublist.refl _⟩
    · rintro e ⟨G', L, D⟩ ⟨z, zs, zc, u, ⟨hp, hcs, hzb⟩, e5, e6, hG, hD, hL⟩
      dsimp only at hG hD hL
      subst hG hD
      refine go_ghost (ghost_sub hL) ?_
      refine go_keep [5, 6] ?_
      (refine sJ2 @e5 @e6 ?_; try with_reducible exact True.intro)
      have hlen := puts_len hp
      (intros; try refine go_st ?_); refine go_r 20 21 (by decide) ?_; (refine sJ c66r5.eq_1 ?_; try with_reducible exact True.intro)
      (intros; try refine go_st ?_); refine go_c ?_; (refine sI ?_; try with_reducible exact True.intro)
      refine gb (fun ht => ?_) (fun ht => ?_)
      · have hz : ¬ z < 128 := by simp at ht; omega
        have hpm := puts_more hp hz
        have hdz : z / 128 < z := by omega
        have hq : binV .quo (.int .u64 (z : Int)) (.int .u64 128) = some (.int .u64 ((z / 128 : Nat) : Int)) := bin_quo .u64 z 128 (by decide) (by simp [IntKind.max, IntKind.signed, IntKind.bits]; omega) rfl
        generalize z / 128 = q at hq hpm hdz
        have hr : binV .rem (.int .u64 (z : Int)) (.int .u64 128) = some (.int .u64 ((z : Int) % 128)) := bin_rem .u64 z 128 (by decide)
        have hw : IntKind.u8.wrap (IntKind.u64.wrap (128 + (z : Int) % 128)) = ((UInt8.ofNat (128 + z % 128)).toNat : Int) := by
          rw [← u8_nat, IntKind.wrap_u64]
          congr 1
          omega
        (intros; try refine go_st ?_); refine go_r 22 29 (by decide) ?_; (refine sJ3 c66r6.eq_1 @hr @bin_add ?_; try with_reducible exact True.intro)
        intro bk hbk
        refine app8 (L1 := []) (L2 := []) rfl hw hcs (by omega) fun A' c' zc' hzc => ?_
        (refine sI ?_; try with_reducible exact True.intro)
        (intros; try refine go_st ?_); refine go_r 29 31 (by decide) ?_; (refine sJ2 c66r7.eq_1 @hq ?_; try with_reducible exact True.intro)
        (intros; try refine go_st ?_)
        refine go_l ⟨⟨q, _, zc', _, ⟨hpm, hzc, by omega⟩, eE, eE, rfl, rfl, .cons _ (List.Sublist.refl _)⟩, ?_⟩
        (refine sI ?_; try with_reducible exact True.intro)
        omega
      · have hz : z < 128 := by simp at ht; omega
        refine go_exit ?_
        (refine sI ?_; try with_reducible exact True.intro)
        (intros; try refine go_st ?_); refine go_r 31 36 (by decide) ?_; (refine sJ2 c66r8.eq_1 @u8_nat ?_; try with_reducible exact True.intro)
        intro bk hbk
        refine app8 (L1 := []) (L2 := []) rfl rfl hcs (by omega) fun A' c' zc' hzc => ?_
        (refine sI ?_; try with_reducible exact True.intro)
        (intros; try refine go_st ?_)
        rw [puts_end hp hz] at hzc ⊢
        refine go_ret (retQ_o _ rfl (.cons _ (List.Sublist.refl _)) (noRegs_row noRegs_nil) ?_)
        exact ⟨zc', hzc, rfl⟩
  (intros; try refine go_st ?_); refine go_r 10 11 (by decide) ?_; (refine sJ c66r2.eq_1 ?_; try with_reducible exact True.intro)
  (intros; try refine go_st ?_); refine go_c ?_; (refine sI ?_; try with_reducible exact True.intro)
  refine gb (fun ht => ?_) (fun ht => ?_)
  · have hz : IntKind.u64.wrap (IntKind.u64.wrap (2 * IntKind.u64.wrap (IntKind.i64.wrap (0 - IntKind.i64.wrap (n + 1)))) + 1) = (zig n : Int) := by
      have h0 : n < 0 := by simpa using ht
      have e1 : IntKind.i64.wrap (n + 1) = n + 1 := by rw [w64_id] <;> omega
      have e2 : IntKind.i64.wrap (0 - (n + 1)) = 0 - (n + 1) := by rw [w64_id] <;> omega
      rw [e1, e2]
      simp only [IntKind.wrap_u64, zig, if_neg (show ¬ 0 ≤ n by omega)]
      omega
    (intros; try refine go_st ?_); refine go_r 12 18 (by decide) ?_; (refine sJ4 c66r3.eq_1 @bin_mul @bin_add @hz ?_; try with_reducible exact True.intro)
    intro _
    (repeat first | refine go_skip ?_ | refine go_b ?_)
    refine hrest _ ?_ ?_ <;> (refine sI ?_; try with_reducible exact True.intro)
  · have hz : IntKind.u64.wrap (2 * IntKind.u64.wrap n) = (zig n : Int) := by
      have h0 : ¬ n < 0 := by simpa using ht
      simp only [IntKind.wrap_u64, zig, if_pos (show 0 ≤ n by omega)]
      omega
    (repeat first | refine go_skip ?_ | refine go_b ?_)
    refine hrest _ ?_ ?_ <;> (refine sJ @hz ?_; try with_reducible exact True.intro)
end Go.Proofs.Ytfhheomeebejnaa

/- Bytes, part 3 of a proof: texts, and records that may be. No condition. -/
set_option linter.unusedSimpArgs false
set_option linter.unusedVariables false
namespace Go.Proofs.Ytfhheomeebejnaa
open Go Go.Kx
theorem F79 : Fun Try.prog 79 9 v79 c79 o79 := Fun.mk' Try.func79 Try.ntmps79 (by kernel_rfl) (by kernel_rfl) s79 q79
theorem F84 : Fun Try.prog 84 9 v84 c84 o84 := Fun.mk' Try.func84 Try.ntmps84 (by kernel_rfl) (by kernel_rfl) s84 q84
theorem F80 : Fun Try.prog 80 11 v80 c80 o80 := Fun.mk' Try.func80 Try.ntmps80 (by kernel_rfl) (by kernel_rfl) s80 q80
theorem F85 : Fun Try.prog 85 11 v85 c85 o85 := Fun.mk' Try.func85 Try.ntmps85 (by kernel_rfl) (by kernel_rfl) s85 q85
theorem F60 : Fun Try.prog 60 33 v60 c60 o60 := Fun.mk' Try.func60 Try.ntmps60 (by kernel_rfl) (by kernel_rfl) s60 q60
theorem F83 : Fun Try.prog 83 39 v83 c83 o83 := Fun.mk' Try.func83 Try.ntmps83 (by kernel_rfl) (by kernel_rfl) s83 q83

def inO (n : Int) : Bool := decide (0 ≤ n) && decide (n ≤ 1099511627776)
theorem in_ok (n : Int) (G : Nat → Option Obj) : FnS Try.prog 79 #[.int .i64 n] G (.bool (inO n)) := by
  refine F79.fnS (by simp) (go_of ?_)
  unfold c79
  (intros; try refine go_st ?_); refine go_r 0 0 (by decide) ?_; (refine sJ c79r0.eq_1 ?_; try with_reducible exact True.intro)
  (intros; try refine go_st ?_); refine go_r 3 9 (by decide) ?_; (refine sJ c79r1.eq_1 ?_; try with_reducible exact True.intro)
  refine gd (fun h1 => ?_) (fun h1 => ?_)
  · (refine sI ?_; try with_reducible exact True.intro)
    (intros; try refine go_st ?_)
    refine go_ret (retQ_v rfl ?_); simp only [push_cast, Nat.reduceBEq]
    have : 0 ≤ n := by simpa using h1
    simp [inO, this]
  · (refine sI ?_; try with_reducible exact True.intro)
    (intros; try refine go_st ?_)
    refine go_ret (retQ_v rfl ?_); simp only [push_cast, Nat.reduceBEq]
    have : ¬ 0 ≤ n := by simpa using h1
    simp [inO, this]
theorem In_ok (n : Int) (G : Nat → Option Obj) : FnS Try.prog 84 #[.int .i64 n] G (.bool (inO n)) := by
  refine F84.fnS (by simp) (go_of ?_)
  unfold c84
  (intros; try refine go_st ?_); refine go_r 0 0 (by decide) ?_; (refine sJ c84r0.eq_1 ?_; try with_reducible exact True.intro)
  (intros; try refine go_st ?_); refine go_r 3 9 (by decide) ?_; (refine sJ c84r1.eq_1 ?_; try with_reducible exact True.intro)
  refine gd (fun h1 => ?_) (fun h1 => ?_)
  · (refine sI ?_; try with_reducible exact True.intro)
    (intros; try refine go_st ?_)
    refine go_ret (retQ_v rfl ?_); simp only [push_cast, Nat.reduceBEq]
    have : 0 ≤ n := by simpa using h1
    simp [inO, this]
  · (refine sI ?_; try with_reducible exact True.intro)
    (intros; try refine go_st ?_)
    refine go_ret (retQ_v rfl ?_); simp only [push_cast, Nat.reduceBEq]
    have : ¬ 0 ≤ n := by simpa using h1
    simp [inO, this]
/-- A text's bytes. -/
def ptB (s : ByteArray) : List UInt8 := pvB s.size ++ s.data.toList
theorem ptB_len (s : ByteArray) : (ptB s).length ≤ 10 + s.size := by
  have := pvB_len s.size
  simp [ptB]
  omega
theorem PutText_ok (l : List UInt8) (s : ByteArray) (v : Value) (G : Nat → Option Obj) (hl : SB G v l) (hb : l.length ≤ 100000) (hs : s.size ≤ 100000) :
    FnO Try.prog 80 #[v, .string s] G [] (fun _ L' r => OwnB (l ++ ptB s) L' r) := by
  refine F80.fnO (by simp) noRegs_nil (go_of ?_)
  unfold c80
  (intros; try refine go_st ?_); refine go_r 0 0 (by decide) ?_; (refine sJ c80r0.eq_1 ?_; try with_reducible exact True.intro)
  (intros; try refine go_st ?_); refine go_r 5 11 (by decide) ?_; (refine sJ c80r1.eq_1 ?_; try with_reducible exact True.intro)
  refine (PutVar_ok l s.size (by unfold I64; omega) v G hl hb _ []).mono ?_
  rintro r h' ⟨G1, L', rfl, hg1, ys, hys, rfl⟩
  (refine sI ?_; try with_reducible exact True.intro)
  have hpl := pvB_len s.size
  refine apX_s (L1 := []) (.inl rfl) hys (by rw [List.length_append]; omega) fun A' c' zc' hzc => ?_
  (refine sI ?_; try with_reducible exact True.intro)
  (intros; try refine go_st ?_)
  refine go_ret (retQ_o _ rfl (List.Sublist.refl _) (noRegs_row noRegs_nil) ?_)
  rw [List.append_assoc] at hzc ⊢
  exact ⟨zc', hzc, rfl⟩
theorem RPutText_ok (l : List UInt8) (s : ByteArray) (v : Value) (G : Nat → Option Obj) (hl : SB G v l) (hb : l.length ≤ 100000) (hs : s.size ≤ 100000) :
    FnO Try.prog 85 #[v, .string s] G [] (fun _ L' r => OwnB (l ++ ptB s) L' r) := by
  refine F85.fnO (by simp) noRegs_nil (go_of ?_)
  unfold c85
  (intros; try refine go_st ?_); refine go_r 0 0 (by decide) ?_; (refine sJ c85r0.eq_1 ?_; try with_reducible exact True.intro)
  (intros; try refine go_st ?_); refine go_r 5 11 (by decide) ?_; (refine sJ c85r1.eq_1 ?_; try with_reducible exact True.intro)
  refine (RPutVar_ok l s.size (by unfold I64; omega) v G hl hb _ []).mono ?_
  rintro r h' ⟨G1, L', rfl, hg1, ys, hys, rfl⟩
  (refine sI ?_; try with_reducible exact True.intro)
  have hpl := pvB_len s.size
  refine apX_s (L1 := []) (.inl rfl) hys (by rw [List.length_append]; omega) fun A' c' zc' hzc => ?_
  (refine sI ?_; try with_reducible exact True.intro)
  (intros; try refine go_st ?_)
  refine go_ret (retQ_o _ rfl (List.Sublist.refl _) (noRegs_row noRegs_nil) ?_)
  rw [List.append_assoc] at hzc ⊢
  exact ⟨zc', hzc, rfl⟩

structure Rec where
  off : Int
  key : ByteArray
  val : ByteArray
  dead : Bool
  stamp : Int
def cellR (x : Rec) : List Value := [.int .i64 x.off, .string x.key, .string x.val, .bool x.dead, .int .i64 x.stamp]
def RR (x : Rec) (cs : List Value) : Prop := cs = cellR x ∧ (I64 x.off ∧ I64 x.stamp) ∧ x.key.size ≤ maxLen ∧ x.val.size ≤ maxLen
def isE (s : ByteArray) : Bool := s.toList == ByteArray.toList ⟨#[]⟩
def chkR (x : Rec) : Int := if inO x.off = true ∧ inO x.stamp = true ∧ x.key.size ≤ 64 ∧ x.val.size ≤ 64 ∧ ¬ (x.dead = true ∧ (isE x.key = true ∨ isE x.val = false)) then 0 else 1
theorem bin_seq (a : ByteArray) : binV .eql (.string a) (.string ⟨#[]⟩) = some (.bool (isE a)) := rfl
theorem bin_sne (a : ByteArray) : binV .neq (.string a) (.string ⟨#[]⟩) = some (.bool (!isE a)) := rfl

theorem chkR_1 {x : Rec} (h : inO x.off = false ∨ inO x.stamp = false ∨ 64 < x.key.size ∨ 64 < x.val.size ∨ (x.dead = true ∧ (isE x.key = true ∨ isE x.val = false))) : chkR x = 1 := by
  refine if_neg fun ⟨h1, h2, h3, h4, h5⟩ => ?_
  rcases h with h | h | h | h | h
  · rw [h1] at h; cases h
  · rw [h2] at h; cases h
  · omega
  · omega
  · exact h5 h
theorem RCheck_ok (x : Rec) (G : Nat → Option Obj) : FnS Try.prog 83 #[.agg (cellR x).toArray] G (.int .i64 (chkR x)) := by
  refine F83.fnS (by simp) (go_of ?_)
  unfold c83 cellR
  (intros; try refine go_st ?_); refine go_r 0 0 (by decide) ?_; (refine sJ c83r0.eq_1 ?_; try with_reducible exact True.intro)
  have hbad : ∀ (fr : List Td) (e : Env) (L : List Kx.Item), chkR x = 1 → go none Try.prog 39 v83.1 v83.2 (retQ o83 fun v h => v = .int .i64 (chkR x)) (Td.s ((SC.reg false c83r2).seq .ret) :: fr) e ⟨G, L, []⟩ := fun fr e L hx => by
    (intros; try refine go_st ?_); refine go_r 0 0 (by decide) ?_; (refine sJ c83r2.eq_1 ?_; try with_reducible exact True.intro)
    (intros; try refine go_st ?_)
    refine go_ret (retQ_v rfl ?_); simp only [push_cast, Nat.reduceBEq]
    rw [hx]
  have hgood : ∀ (e : Env) (L : List Kx.Item), chkR x = 0 → go none Try.prog 39 v83.1 v83.2 (retQ o83 fun v h => v = .int .i64 (chkR x)) [Td.s ((SC.reg false c83r3).seq .ret)] e ⟨G, L, []⟩ := fun e L hx => by
    (intros; try refine go_st ?_); refine go_r 0 0 (by decide) ?_; (refine sJ c83r3.eq_1 ?_; try with_reducible exact True.intro)
    (intros; try refine go_st ?_)
    refine go_ret (retQ_v rfl ?_); simp only [push_cast, Nat.reduceBEq]
    rw [hx]
  (intros; try refine go_st ?_); refine go_r 4 38 (by decide) ?_; (refine sJ c83r1.eq_1 ?_; try with_reducible exact True.intro)
  refine (In_ok x.off G _ _).mono ?_; rintro _ _ ⟨rfl, rfl⟩; (refine sI ?_; try with_reducible exact True.intro)
  refine gd (fun h1 => ?_) (fun h1 => ?_)
  · (refine sI ?_; try with_reducible exact True.intro)
    (intros; try refine go_st ?_); refine go_c ?_; (refine sI ?_; try with_reducible exact True.intro)
    exact hbad _ _ _ (chkR_1 (.inl (by simpa using h1)))
  (refine sI ?_; try with_reducible exact True.intro)
  refine (In_ok x.stamp G _ _).mono ?_; rintro _ _ ⟨rfl, rfl⟩; (refine sI ?_; try with_reducible exact True.intro)
  refine gd (fun h2 => ?_) (fun h2 => ?_)
  · (refine sI ?_; try with_reducible exact True.intro)
    (intros; try refine go_st ?_); refine go_c ?_; (refine sI ?_; try with_reducible exact True.intro)
    exact hbad _ _ _ (chkR_1 (.inr (.inl (by simpa using h2))))
  (refine sI ?_; try with_reducible exact True.intro)
  refine gd (fun h3 => ?_) (fun h3 => ?_)
  · (refine sI ?_; try with_reducible exact True.intro)
    (intros; try refine go_st ?_); refine go_c ?_; (refine sI ?_; try with_reducible exact True.intro)
    exact hbad _ _ _ (chkR_1 (.inr (.inr (.inl (by simp at h3; omega)))))
  (refine sI ?_; try with_reducible exact True.intro)
  refine gd (fun h4 => ?_) (fun h4 => ?_)
  · (refine sI ?_; try with_reducible exact True.intro)
    (intros; try refine go_st ?_); refine go_c ?_; (refine sI ?_; try with_reducible exact True.intro)
    exact hbad _ _ _ (chkR_1 (.inr (.inr (.inr (.inl (by simp at h4; omega))))))
  (refine sI ?_; try with_reducible exact True.intro)
  have h1' : inO x.off = true := by simpa using h1
  have h2' : inO x.stamp = true := by simpa using h2
  have h3' : x.key.size ≤ 64 := by simp at h3; omega
  have h4' : x.val.size ≤ 64 := by simp at h4; omega
  refine gd (fun h5 => ?_) (fun h5 => ?_)
  · (refine sJ @bin_seq ?_; try with_reducible exact True.intro)
    refine gd (fun h6 => ?_) (fun h6 => ?_)
    · (refine sI ?_; try with_reducible exact True.intro)
      (intros; try refine go_st ?_); refine go_c ?_; (refine sI ?_; try with_reducible exact True.intro)
      exact hbad _ _ _ (chkR_1 (.inr (.inr (.inr (.inr ⟨h5, .inl h6⟩)))))
    (refine sJ @bin_sne ?_; try with_reducible exact True.intro)
    (intros; try refine go_st ?_); refine go_c ?_; (refine sI ?_; try with_reducible exact True.intro)
    refine gb (fun h7 => ?_) (fun h7 => ?_)
    · exact hbad _ _ _ (chkR_1 (.inr (.inr (.inr (.inr ⟨h5, .inr (by simpa using h7)⟩)))))
    · (repeat first | refine go_skip ?_ | refine go_b ?_)
      refine hgood _ _ (if_pos ⟨h1', h2', h3', h4', fun h => ?_⟩)
      rcases h.2 with h | h
      · rw [h6] at h; cases h
      · simp [h] at h7
  · (refine sI ?_; try with_reducible exact True.intro)
    (intros; try refine go_st ?_); refine go_c ?_; (refine sI ?_; try with_reducible exact True.intro)
    (repeat first | refine go_skip ?_ | refine go_b ?_)
    exact hgood _ _ (if_pos ⟨h1', h2', h3', h4', fun h => by rw [h5] at h; cases h.1⟩)
theorem Check_ok (x : Rec) (G : Nat → Option Obj) : FnS Try.prog 60 #[.agg (cellR x).toArray] G (.int .i64 (chkR x)) := by
  refine F60.fnS (by simp) (go_of ?_)
  unfold c60 cellR
  (intros; try refine go_st ?_); refine go_r 0 0 (by decide) ?_; (refine sJ c60r0.eq_1 ?_; try with_reducible exact True.intro)
  have hbad : ∀ (fr : List Td) (e : Env) (L : List Kx.Item), chkR x = 1 → go none Try.prog 33 v60.1 v60.2 (retQ o60 fun v h => v = .int .i64 (chkR x)) (Td.s ((SC.reg false c60r4).seq .ret) :: fr) e ⟨G, L, []⟩ := fun fr e L hx => by
    (intros; try refine go_st ?_); refine go_r 0 0 (by decide) ?_; (refine sJ c60r4.eq_1 ?_; try with_reducible exact True.intro)
    (intros; try refine go_st ?_)
    refine go_ret (retQ_v rfl ?_); simp only [push_cast, Nat.reduceBEq]
    rw [hx]
  (intros; try refine go_st ?_); refine go_r 5 8 (by decide) ?_; (refine sJ c60r1.eq_1 ?_; try with_reducible exact True.intro)
  refine (in_ok x.off G _ _).mono ?_; rintro _ _ ⟨rfl, rfl⟩; (refine sI ?_; try with_reducible exact True.intro)
  (intros; try refine go_st ?_); refine go_c ?_; (refine sI ?_; try with_reducible exact True.intro)
  refine gb (fun h1 => ?_) (fun h1 => ?_)
  · (repeat first | refine go_skip ?_ | refine go_b ?_)
    (intros; try refine go_st ?_); refine go_c ?_; (refine sI ?_; try with_reducible exact True.intro)
    refine gb (fun _ => ?_) (fun h => by rw [h1] at h; cases h)
    exact hbad _ _ _ (chkR_1 (.inl (by simpa using h1)))
  (intros; try refine go_st ?_); refine go_r 9 12 (by decide) ?_; (refine sJ c60r2.eq_1 ?_; try with_reducible exact True.intro)
  refine (in_ok x.stamp G _ _).mono ?_; rintro _ _ ⟨rfl, rfl⟩; (refine sI ?_; try with_reducible exact True.intro)
  (intros; try refine go_st ?_); refine go_c ?_; (refine sI ?_; try with_reducible exact True.intro)
  refine gb (fun h2 => ?_) (fun h2 => ?_)
  · (repeat first | refine go_skip ?_ | refine go_b ?_)
    (intros; try refine go_st ?_); refine go_c ?_; (refine sI ?_; try with_reducible exact True.intro)
    refine gb (fun _ => ?_) (fun h => by rw [h2] at h; cases h)
    exact hbad _ _ _ (chkR_1 (.inr (.inl (by simpa using h2))))
  have h1' : inO x.off = true := by simpa using h1
  have h2' : inO x.stamp = true := by simpa using h2
  (intros; try refine go_st ?_); refine go_r 13 20 (by decide) ?_; (refine sJ c60r3.eq_1 ?_; try with_reducible exact True.intro)
  (intros; try refine go_st ?_); refine go_c ?_; (refine sI ?_; try with_reducible exact True.intro)
  refine gb (fun h3 => ?_) (fun h3 => ?_)
  · have h3 := of_decide_eq_true h3
    by_cases h4 : 64 < x.key.size
    · exact hbad _ _ _ (chkR_1 (.inr (.inr (.inl h4))))
    · exact hbad _ _ _ (chkR_1 (.inr (.inr (.inr (.inl (by omega))))))
  have h3 := of_decide_eq_false h3
  have h3' : x.key.size ≤ 64 := by omega
  have h4' : x.val.size ≤ 64 := by omega
  have hbad2 : ∀ (fr : List Td) (e : Env) (L : List Kx.Item), chkR x = 1 → go none Try.prog 33 v60.1 v60.2 (retQ o60 fun v h => v = .int .i64 (chkR x)) (Td.s ((SC.reg false c60r6).seq .ret) :: fr) e ⟨G, L, []⟩ := fun fr e L hx => by
    (intros; try refine go_st ?_); refine go_r 0 0 (by decide) ?_; (refine sJ c60r6.eq_1 ?_; try with_reducible exact True.intro)
    (intros; try refine go_st ?_)
    refine go_ret (retQ_v rfl ?_); simp only [push_cast, Nat.reduceBEq]
    rw [hx]
  have hgood : ∀ (e : Env) (L : List Kx.Item), chkR x = 0 → go none Try.prog 33 v60.1 v60.2 (retQ o60 fun v h => v = .int .i64 (chkR x)) [Td.s ((SC.reg false c60r7).seq .ret)] e ⟨G, L, []⟩ := fun e L hx => by
    (intros; try refine go_st ?_); refine go_r 0 0 (by decide) ?_; (refine sJ c60r7.eq_1 ?_; try with_reducible exact True.intro)
    (intros; try refine go_st ?_)
    refine go_ret (retQ_v rfl ?_); simp only [push_cast, Nat.reduceBEq]
    rw [hx]
  (intros; try refine go_st ?_); refine go_r 22 33 (by decide) ?_; (refine sJ c60r5.eq_1 ?_; try with_reducible exact True.intro)
  refine gd (fun h5 => ?_) (fun h5 => ?_)
  · (refine sJ @bin_seq ?_; try with_reducible exact True.intro)
    refine gd (fun h6 => ?_) (fun h6 => ?_)
    · (refine sI ?_; try with_reducible exact True.intro)
      (intros; try refine go_st ?_); refine go_c ?_; (refine sI ?_; try with_reducible exact True.intro)
      exact hbad2 _ _ _ (chkR_1 (.inr (.inr (.inr (.inr ⟨h5, .inl h6⟩)))))
    (refine sJ @bin_sne ?_; try with_reducible exact True.intro)
    (intros; try refine go_st ?_); refine go_c ?_; (refine sI ?_; try with_reducible exact True.intro)
    refine gb (fun h7 => ?_) (fun h7 => ?_)
    · exact hbad2 _ _ _ (chkR_1 (.inr (.inr (.inr (.inr ⟨h5, .inr (by simpa using h7)⟩)))))
    · (repeat first | refine go_skip ?_ | refine go_b ?_)
      refine hgood _ _ (if_pos ⟨h1', h2', h3', h4', fun h => ?_⟩)
      rcases h.2 with h | h
      · rw [h6] at h; cases h
      · simp [h] at h7
  · (refine sI ?_; try with_reducible exact True.intro)
    (intros; try refine go_st ?_); refine go_c ?_; (refine sI ?_; try with_reducible exact True.intro)
    (repeat first | refine go_skip ?_ | refine go_b ?_)
    exact hgood _ _ (if_pos ⟨h1', h2', h3', h4', fun h => by rw [h5] at h; cases h.1⟩)
end Go.Proofs.Ytfhheomeebejnaa

/- Bytes, part 4 of a proof: a record's bytes. No condition. -/
set_option linter.unusedSimpArgs false
set_option linter.unusedVariables false
namespace Go.Proofs.Ytfhheomeebejnaa
open Go Go.Kx
theorem F62 : Fun Try.prog 62 46 v62 c62 o62 := Fun.mk' Try.func62 Try.ntmps62 (by kernel_rfl) (by kernel_rfl) s62 q62
theorem F67 : Fun Try.prog 67 50 v67 c67 o67 := Fun.mk' Try.func67 Try.ntmps67 (by kernel_rfl) (by kernel_rfl) s67 q67

/-- A record's bytes. -/
def prB (x : Rec) (base stamp : Int) : List UInt8 := pvB (x.off - base) ++ pvB (x.stamp - stamp) ++ [if x.dead = true then 1 else 0] ++ ptB x.key ++ ptB x.val
def putR (x : Rec) (base stamp : Int) : List UInt8 × Int := if chkR x ≠ 0 then ([], chkR x) else if ¬ (inO base = true ∧ inO stamp = true) then ([], 1) else (prB x base stamp, 0)
/-- Bytes, and why there are none. -/
def OwnE (p : List UInt8 × Int) (L' : List Kx.Item) (r : Value) : Prop := ∃ u, r = .tuple #[u, .int .i64 p.2] ∧ OwnB p.1 L' u
theorem chk_small {x : Rec} (h : chkR x = 0) : (inO x.off = true ∧ inO x.stamp = true) ∧ x.key.size ≤ 64 ∧ x.val.size ≤ 64 := by
  by_cases h0 : inO x.off = true ∧ inO x.stamp = true ∧ x.key.size ≤ 64 ∧ x.val.size ≤ 64 ∧ ¬ (x.dead = true ∧ (isE x.key = true ∨ isE x.val = false))
  · exact ⟨⟨h0.1, h0.2.1⟩, h0.2.2.1, h0.2.2.2.1⟩
  · rw [chkR, if_neg h0] at h; cases h
theorem RPut_ok (x : Rec) (base stamp : Int) (G : Nat → Option Obj) : FnO Try.prog 67 #[.agg (cellR x).toArray, .int .i64 base, .int .i64 stamp] G [] (fun _ L' r => OwnE (putR x base stamp) L' r) := by
  refine F67.fnO (by simp) noRegs_nil (go_of ?_)
  unfold c67
  have hck := RCheck_ok x
  unfold cellR at hck ⊢
  (intros; try refine go_st ?_); refine go_r 0 0 (by decide) ?_; (refine sJ c67r0.eq_1 ?_; try with_reducible exact True.intro)
  (intros; try refine go_st ?_); refine go_r 10 12 (by decide) ?_; (refine sJ c67r1.eq_1 ?_; try with_reducible exact True.intro)
  refine (hck G _ _).mono ?_; rintro _ _ ⟨rfl, rfl⟩; (refine sI ?_; try with_reducible exact True.intro)
  (intros; try refine go_st ?_); refine go_r 12 13 (by decide) ?_; (refine sJ c67r2.eq_1 ?_; try with_reducible exact True.intro)
  (intros; try refine go_st ?_); refine go_c ?_; (refine sI ?_; try with_reducible exact True.intro)
  refine gb (fun h1 => ?_) (fun h1 => ?_)
  · (intros; try refine go_st ?_); refine go_r 14 15 (by decide) ?_; (refine sJ c67r3.eq_1 ?_; try with_reducible exact True.intro)
    (intros; try refine go_st ?_)
    refine go_ghost (ghost_nil none 5 1) ?_
    refine go_ret (retQ_o _ rfl (.cons_cons _ (List.nil_sublist _)) (noRegs_row noRegs_nil) ?_)
    rw [putR, if_pos (by simpa using h1)]
    exact ⟨_, rfl, [], .nil, rfl⟩
  have h1 : chkR x = 0 := by simpa using h1
  have hbad : ∀ (fr : List Td) (e : Env) (L : List Kx.Item), putR x base stamp = ([], 1) → go none Try.prog 50 v67.1 v67.2 (retQ o67 fun v h => OwnE (putR x base stamp) h.L v) (Td.s ((SC.reg false c67r5).seq .ret) :: fr) e ⟨G, L, []⟩ := fun fr e L hx => by
    (intros; try refine go_st ?_); refine go_r 0 0 (by decide) ?_; (refine sJ c67r5.eq_1 ?_; try with_reducible exact True.intro)
    (intros; try refine go_st ?_)
    refine go_ghost (ghost_nil none 5 1) ?_
    refine go_ret (retQ_o _ rfl (.cons_cons _ (List.nil_sublist _)) (noRegs_row noRegs_nil) ?_)
    rw [hx]
    exact ⟨_, rfl, [], .nil, rfl⟩
  have hpb : ∀ (h : ¬ (inO base = true ∧ inO stamp = true)), putR x base stamp = ([], 1) := fun h => by rw [putR, if_neg (by simp [h1]), if_pos h]
  (intros; try refine go_st ?_); refine go_r 15 22 (by decide) ?_; (refine sJ c67r4.eq_1 ?_; try with_reducible exact True.intro)
  refine (In_ok base G _ _).mono ?_; rintro _ _ ⟨rfl, rfl⟩; (refine sI ?_; try with_reducible exact True.intro)
  refine gd (fun h2 => ?_) (fun h2 => ?_)
  · (refine sI ?_; try with_reducible exact True.intro)
    (intros; try refine go_st ?_); refine go_c ?_; (refine sI ?_; try with_reducible exact True.intro)
    exact hbad _ _ _ (hpb fun h => by rw [h.1] at h2; cases h2)
  (refine sI ?_; try with_reducible exact True.intro)
  refine (In_ok stamp G _ _).mono ?_; rintro _ _ ⟨rfl, rfl⟩; (refine sI ?_; try with_reducible exact True.intro)
  (intros; try refine go_st ?_); refine go_c ?_; (refine sI ?_; try with_reducible exact True.intro)
  refine gb (fun h3 => ?_) (fun h3 => ?_)
  · exact hbad _ _ _ (hpb fun h => by rw [h.2] at h3; cases h3)
  have h2 : inO base = true := by simpa using h2
  have h3 : inO stamp = true := by simpa using h3
  obtain ⟨⟨ho, hst⟩, hk, hv⟩ := chk_small h1
  have hput : putR x base stamp = (prB x base stamp, 0) := by rw [putR, if_neg (by simp [h1]), if_neg (by simp [h2, h3])]
  simp [inO] at h2 h3 ho hst
  have w1 : IntKind.i64.wrap (x.off - base) = x.off - base := by rw [w64_id] <;> omega
  have w2 : IntKind.i64.wrap (x.stamp - stamp) = x.stamp - stamp := by rw [w64_id] <;> omega
  have i1 : I64 (x.off - base) := by unfold I64; omega
  have i2 : I64 (x.stamp - stamp) := by unfold I64; omega
  have l1 := pvB_len (x.off - base)
  have l2 := pvB_len (x.stamp - stamp)
  (repeat first | refine go_skip ?_ | refine go_b ?_)
  (intros; try refine go_st ?_); refine go_r 24 28 (by decide) ?_; (refine sJ2 c67r6.eq_1 @w1 ?_; try with_reducible exact True.intro)
  refine (RPutVar_ok [] (x.off - base) i1 _ G SB.nil (by simp) _ []).mono ?_
  rintro r h' ⟨G1, L', rfl, hg1, ys, hys, rfl⟩
  simp only [List.nil_append] at hys ⊢
  (refine sI ?_; try with_reducible exact True.intro)
  (intros; try refine go_st ?_); refine go_r 28 34 (by decide) ?_; (refine sJ2 c67r7.eq_1 @w2 ?_; try with_reducible exact True.intro)
  refine callsH_gx F66.enters (gx_slv_at [] _ (by decide) hys) ?_
  rintro h' ⟨G2, rfl, hg2, hv2⟩
  refine (RPutVar_ok _ (x.stamp - stamp) i2 _ G2 hv2 (by omega) _ []).mono ?_
  rintro r h' ⟨G3, L', rfl, hg3, ys3, hys3, rfl⟩
  (refine sI ?_; try with_reducible exact True.intro)
  have hrest : ∀ (e : Env) (L : List Kx.Item) (u : Value) (zc : List Value) (b : UInt8), b = (if x.dead = true then 1 else 0) → Cells UE 1 (pvB (x.off - base) ++ pvB (x.stamp - stamp) ++ [b]) zc → e 9 = u →
      go none Try.prog 50 v67.1 v67.2 (retQ o67 fun v h => OwnE (putR x base stamp) h.L v) [Td.s ((SC.reg false c67r11).seq ((SC.reg false c67r12).seq .ret))] e ⟨G3, [.row u 5 1 (pvB (x.off - base) ++ pvB (x.stamp - stamp) ++ [b]).length zc, .reg 3 [.int .i64 x.off, .string x.key, .string x.val, .bool x.dead, .int .i64 x.stamp]], []⟩ := fun e L u zc b hb hzc e9 => by
    refine go_keep [9] ?_
    (refine sJ @e9 ?_; try with_reducible exact True.intro)
    (intros; try refine go_st ?_); refine go_r 42 46 (by decide) ?_; (refine sJ c67r11.eq_1 ?_; try with_reducible exact True.intro)
    refine callsH_gx F85.enters (gx_slv_at [] _ (by decide) hzc) ?_
    rintro h' ⟨G4, rfl, hg4, hv4⟩
    refine (RPutText_ok _ x.key _ G4 hv4 (by simp; omega) (by omega) _ []).mono ?_
    rintro r h' ⟨G5, L', rfl, hg5, ys5, hys5, rfl⟩
    (refine sI ?_; try with_reducible exact True.intro)
    have l3 := ptB_len x.key
    (intros; try refine go_st ?_); refine go_r 46 50 (by decide) ?_; (refine sJ c67r12.eq_1 ?_; try with_reducible exact True.intro)
    refine callsH_gx F85.enters (gx_slv_at [] _ (by decide) hys5) ?_
    rintro h' ⟨G6, rfl, hg6, hv6⟩
    refine (RPutText_ok _ x.val _ G6 hv6 (by simp; omega) (by omega) _ []).mono ?_
    rintro r h' ⟨G7, L', rfl, hg7, ys7, hys7, rfl⟩
    (refine sI ?_; try with_reducible exact True.intro)
    (intros; try refine go_st ?_)
    refine go_ret (retQ_o _ rfl (.cons_cons _ (List.nil_sublist _)) (noRegs_row noRegs_nil) ?_)
    rw [hput]
    subst hb
    exact ⟨_, rfl, ys7, hys7, rfl⟩
  (intros; try refine go_st ?_); refine go_r 0 0 (by decide) ?_; (refine sJ c67r8.eq_1 ?_; try with_reducible exact True.intro)
  (intros; try refine go_st ?_); refine go_c ?_; (refine sI ?_; try with_reducible exact True.intro)
  refine gb (fun h5 => ?_) (fun h5 => ?_)
  · (intros; try refine go_st ?_); refine go_r 36 39 (by decide) ?_; (refine sJ c67r9.eq_1 ?_; try with_reducible exact True.intro)
    intro bk hbk
    refine app8 (L1 := []) (L2 := [_]) (x := 1) rfl rfl hys3 (by simp; omega) fun A' c' zc' hzc => ?_
    (refine sI ?_; try with_reducible exact True.intro)
    intro _
    refine go_ghost (ghost_sub (.cons _ (List.Sublist.refl _))) ?_
    (repeat first | refine go_skip ?_ | refine go_b ?_)
    refine hrest _ [] _ _ 1 (by rw [if_pos h5]) hzc ?_
    (refine sI ?_; try with_reducible exact True.intro)
  · (intros; try refine go_st ?_); refine go_r 39 42 (by decide) ?_; (refine sJ c67r10.eq_1 ?_; try with_reducible exact True.intro)
    intro bk hbk
    refine app8 (L1 := []) (L2 := [_]) (x := 0) rfl rfl hys3 (by simp; omega) fun A' c' zc' hzc => ?_
    (refine sI ?_; try with_reducible exact True.intro)
    intro _
    refine go_ghost (ghost_sub (.cons _ (List.Sublist.refl _))) ?_
    (repeat first | refine go_skip ?_ | refine go_b ?_)
    refine hrest _ [] _ _ 0 (by rw [if_neg (by rw [h5]; simp)]) hzc ?_
    (refine sI ?_; try with_reducible exact True.intro)
theorem Put_ok (x : Rec) (base stamp : Int) (G : Nat → Option Obj) : FnO Try.prog 62 #[.agg (cellR x).toArray, .int .i64 base, .int .i64 stamp] G [] (fun _ L' r => OwnE (putR x base stamp) L' r) := by
  refine F62.fnO (by simp) noRegs_nil (go_of ?_)
  unfold c62
  have hck := Check_ok x
  unfold cellR at hck ⊢
  (intros; try refine go_st ?_); refine go_r 0 0 (by decide) ?_; (refine sJ c62r0.eq_1 ?_; try with_reducible exact True.intro)
  (intros; try refine go_st ?_); refine go_r 11 13 (by decide) ?_; (refine sJ c62r1.eq_1 ?_; try with_reducible exact True.intro)
  refine (hck G _ _).mono ?_; rintro _ _ ⟨rfl, rfl⟩; (refine sI ?_; try with_reducible exact True.intro)
  (intros; try refine go_st ?_); refine go_r 13 14 (by decide) ?_; (refine sJ c62r2.eq_1 ?_; try with_reducible exact True.intro)
  (intros; try refine go_st ?_); refine go_c ?_; (refine sI ?_; try with_reducible exact True.intro)
  refine gb (fun h1 => ?_) (fun h1 => ?_)
  · (intros; try refine go_st ?_); refine go_r 15 16 (by decide) ?_; (refine sJ c62r3.eq_1 ?_; try with_reducible exact True.intro)
    (intros; try refine go_st ?_)
    refine go_ghost (ghost_nil none 5 1) ?_
    refine go_ret (retQ_o _ rfl (.cons_cons _ (List.nil_sublist _)) (noRegs_row noRegs_nil) ?_)
    rw [putR, if_pos (by simpa using h1)]
    exact ⟨_, rfl, [], .nil, rfl⟩
  have h1 : chkR x = 0 := by simpa using h1
  have hbad : ∀ (fr : List Td) (e : Env) (L : List Kx.Item), putR x base stamp = ([], 1) → go none Try.prog 46 v62.1 v62.2 (retQ o62 fun v h => OwnE (putR x base stamp) h.L v) (Td.s ((SC.reg false c62r5).seq .ret) :: fr) e ⟨G, L, []⟩ := fun fr e L hx => by
    (intros; try refine go_st ?_); refine go_r 0 0 (by decide) ?_; (refine sJ c62r5.eq_1 ?_; try with_reducible exact True.intro)
    (intros; try refine go_st ?_)
    refine go_ghost (ghost_nil none 5 1) ?_
    refine go_ret (retQ_o _ rfl (.cons_cons _ (List.nil_sublist _)) (noRegs_row noRegs_nil) ?_)
    rw [hx]
    exact ⟨_, rfl, [], .nil, rfl⟩
  have hpb : ∀ (h : ¬ (inO base = true ∧ inO stamp = true)), putR x base stamp = ([], 1) := fun h => by rw [putR, if_neg (by simp [h1]), if_pos h]
  (repeat first | refine go_skip ?_ | refine go_b ?_)
  (intros; try refine go_st ?_); refine go_r 16 23 (by decide) ?_; (refine sJ c62r4.eq_1 ?_; try with_reducible exact True.intro)
  refine (in_ok base G _ _).mono ?_; rintro _ _ ⟨rfl, rfl⟩; (refine sI ?_; try with_reducible exact True.intro)
  refine gd (fun h2 => ?_) (fun h2 => ?_)
  · (refine sI ?_; try with_reducible exact True.intro)
    (intros; try refine go_st ?_); refine go_c ?_; (refine sI ?_; try with_reducible exact True.intro)
    exact hbad _ _ _ (hpb fun h => by rw [h.1] at h2; cases h2)
  (refine sI ?_; try with_reducible exact True.intro)
  refine (in_ok stamp G _ _).mono ?_; rintro _ _ ⟨rfl, rfl⟩; (refine sI ?_; try with_reducible exact True.intro)
  (intros; try refine go_st ?_); refine go_c ?_; (refine sI ?_; try with_reducible exact True.intro)
  refine gb (fun h3 => ?_) (fun h3 => ?_)
  · exact hbad _ _ _ (hpb fun h => by rw [h.2] at h3; cases h3)
  have h2 : inO base = true := by simpa using h2
  have h3 : inO stamp = true := by simpa using h3
  obtain ⟨⟨ho, hst⟩, hk, hv⟩ := chk_small h1
  have hput : putR x base stamp = (prB x base stamp, 0) := by rw [putR, if_neg (by simp [h1]), if_neg (by simp [h2, h3])]
  simp [inO] at h2 h3 ho hst
  have w1 : IntKind.i64.wrap (x.off - base) = x.off - base := by rw [w64_id] <;> omega
  have w2 : IntKind.i64.wrap (x.stamp - stamp) = x.stamp - stamp := by rw [w64_id] <;> omega
  have i1 : I64 (x.off - base) := by unfold I64; omega
  have i2 : I64 (x.stamp - stamp) := by unfold I64; omega
  have l1 := pvB_len (x.off - base)
  have l2 := pvB_len (x.stamp - stamp)
  (repeat first | refine go_skip ?_ | refine go_b ?_)
  have hrest : ∀ (e : Env) (b : UInt8), b = (if x.dead = true then 1 else 0) → e 1 = .int .i64 base → e 2 = .int .i64 stamp → e 9 = .int .u8 (b.toNat : Int) →
      go none Try.prog 46 v62.1 v62.2 (retQ o62 fun v h => OwnE (putR x base stamp) h.L v) [Td.s ((SC.rgX c62r9).seq ((SC.rgX c62r10).seq .ret))] e ⟨G, [.reg 3 [.int .i64 x.off, .string x.key, .string x.val, .bool x.dead, .int .i64 x.stamp]], []⟩ := fun e b hb e1 e2 e9 => by
    refine go_keep [1, 2, 9] ?_
    (refine sJ3 @e1 @e2 @e9 ?_; try with_reducible exact True.intro)
    (intros; try refine go_st ?_); refine go_x _ (List.Sublist.refl _) (by decide) ?_; (refine sJ3 c62r9.eq_1 @w1 @w2 ?_; try with_reducible exact True.intro)
    refine (PutVar_ok [] (x.off - base) i1 _ G SB.nil (by simp) _ []).mono ?_
    rintro r h' ⟨G1, L', rfl, hg1, ys, hys, rfl⟩
    simp only [List.nil_append] at hys ⊢
    refine ⟨grow_L hg1 (.cons _ (List.Sublist.refl _)), ?_⟩
    (refine sI ?_; try with_reducible exact True.intro)
    refine callsH_gx F61.enters (gx_slv_at [] _ (by decide) hys) ?_
    rintro h' ⟨G2, rfl, hg2, hv2⟩
    refine (PutVar_ok _ (x.stamp - stamp) i2 _ G2 hv2 (by omega) _ []).mono ?_
    rintro r h' ⟨G3, L', rfl, hg3, ys3, hys3, rfl⟩
    refine ⟨grow_L (hg1.trans (hg2.trans hg3)) (.cons _ (List.Sublist.refl _)), ?_⟩
    (refine sI ?_; try with_reducible exact True.intro)
    (intros; try refine go_st ?_); refine go_x _ (.cons _ (List.Sublist.refl _)) (by decide) ?_; (refine sJ c62r10.eq_1 ?_; try with_reducible exact True.intro)
    intro bk hbk
    refine ⟨grow_L (fun _ _ h => h) (.cons _ (.cons _ (List.Sublist.refl _))), ?_⟩
    (refine sI ?_; try with_reducible exact True.intro)
    refine app8 (L1 := []) (L2 := [_]) (x := b) rfl rfl hys3 (by simp; omega) fun A' c' zc' hzc => ?_
    (refine sI ?_; try with_reducible exact True.intro)
    refine ⟨grow_L (fun _ _ h => h) (.cons _ (.cons _ (List.Sublist.refl _))), ?_⟩
    (refine sI ?_; try with_reducible exact True.intro)
    refine callsH_gx F80.enters (gx_slv_at [_] _ (by decide) hzc) ?_
    rintro h' ⟨G4, rfl, hg4, hv4⟩
    refine (PutText_ok _ x.key _ G4 hv4 (by simp; omega) (by omega) _ []).mono ?_
    rintro r h' ⟨G5, L', rfl, hg5, ys5, hys5, rfl⟩
    refine ⟨grow_L (hg4.trans hg5) (.cons _ (.cons _ (List.Sublist.refl _))), ?_⟩
    (refine sI ?_; try with_reducible exact True.intro)
    have l3 := ptB_len x.key
    refine callsH_gx F80.enters (gx_slv_at [] _ (by decide) hys5) ?_
    rintro h' ⟨G6, rfl, hg6, hv6⟩
    refine (PutText_ok _ x.val _ G6 hv6 (by simp; omega) (by omega) _ []).mono ?_
    rintro r h' ⟨G7, L', rfl, hg7, ys7, hys7, rfl⟩
    refine ⟨grow_L (hg4.trans (hg5.trans (hg6.trans hg7))) (.cons _ (.cons _ (List.Sublist.refl _))), ?_⟩
    (refine sI ?_; try with_reducible exact True.intro)
    (intros; try refine go_st ?_)
    refine go_ret (retQ_o _ rfl (.cons_cons _ (List.nil_sublist _)) (noRegs_row noRegs_nil) ?_)
    rw [hput]
    subst hb
    exact ⟨_, rfl, ys7, hys7, rfl⟩
  (intros; try refine go_st ?_); refine go_r 0 0 (by decide) ?_; (refine sJ c62r6.eq_1 ?_; try with_reducible exact True.intro)
  (intros; try refine go_st ?_); refine go_r 0 0 (by decide) ?_; (refine sJ c62r7.eq_1 ?_; try with_reducible exact True.intro)
  (intros; try refine go_st ?_); refine go_c ?_; (refine sI ?_; try with_reducible exact True.intro)
  refine gb (fun h5 => ?_) (fun h5 => ?_)
  · (intros; try refine go_st ?_); refine go_r 0 0 (by decide) ?_; (refine sJ c62r8.eq_1 ?_; try with_reducible exact True.intro)
    (repeat first | (with_reducible intro _) | refine go_skip ?_ | refine go_b ?_)
    refine hrest _ 1 (by rw [if_pos h5]) ?_ ?_ ?_ <;> (refine sI ?_; try with_reducible exact True.intro)
    rfl
  · (repeat first | refine go_skip ?_ | refine go_b ?_)
    refine hrest _ 0 (by rw [if_neg (by rw [h5]; simp)]) ?_ ?_ ?_ <;> (refine sI ?_; try with_reducible exact True.intro)
    rfl
end Go.Proofs.Ytfhheomeebejnaa

/- Bytes, part 9 of a proof: numbers in range. No condition. -/
set_option linter.unusedSimpArgs false
set_option linter.unusedVariables false
namespace Go.Proofs.Ytfhheomeebejnaa
open Go Go.Kx
theorem F59 : Fun Try.prog 59 14 v59 c59 o59 := Fun.mk' Try.func59 Try.ntmps59 (by kernel_rfl) (by kernel_rfl) s59 q59
theorem F77 : Fun Try.prog 77 25 v77 c77 o77 := Fun.mk' Try.func77 Try.ntmps77 (by kernel_rfl) (by kernel_rfl) s77 q77
theorem F78 : Fun Try.prog 78 25 v78 c78 o78 := Fun.mk' Try.func78 Try.ntmps78 (by kernel_rfl) (by kernel_rfl) s78 q78
theorem F82 : Fun Try.prog 82 12 v82 c82 o82 := Fun.mk' Try.func82 Try.ntmps82 (by kernel_rfl) (by kernel_rfl) s82 q82
def IE (x : Int) (cs : List Value) : Prop := cs = [.int .i64 x] ∧ I64 x
def rng (m n : Int) : Bool := decide (0 ≤ n) && decide (n ≤ m)
theorem rin_ok (n m : Int) (G : Nat → Option Obj) : FnS Try.prog 82 #[.int .i64 n, .int .i64 m] G (.bool (rng m n)) := by
  refine F82.fnS (by simp) (go_of ?_)
  unfold c82
  (intros; try refine go_st ?_); refine go_r 0 0 (by decide) ?_; (refine sJ c82r0.eq_1 ?_; try with_reducible exact True.intro)
  (intros; try refine go_st ?_); refine go_r 5 12 (by decide) ?_; (refine sJ c82r1.eq_1 ?_; try with_reducible exact True.intro)
  refine gd (fun h1 => ?_) (fun h1 => ?_)
  · (refine sI ?_; try with_reducible exact True.intro)
    (intros; try refine go_st ?_)
    refine go_ret (retQ_v rfl ?_); simp only [push_cast, Nat.reduceBEq]
    have : 0 ≤ n := by simpa using h1
    simp [rng, this]
  · (refine sI ?_; try with_reducible exact True.intro)
    (intros; try refine go_st ?_)
    refine go_ret (retQ_v rfl ?_); simp only [push_cast, Nat.reduceBEq]
    have : ¬ 0 ≤ n := by simpa using h1
    simp [rng, this]
theorem take1 {l : List Int} {k : Nat} {x y : Int} (h0 : l[0]? = some y) (hx : l[k]? = some x) (f : Int → Int → Int) (hk : 0 < k) : ((l.drop 1).take k).foldl f y = f (((l.drop 1).take (k - 1)).foldl f y) x := by
  have hl := List.getElem?_eq_some_iff.1 hx
  obtain ⟨k, rfl⟩ : ∃ j, k = j + 1 := ⟨k - 1, by omega⟩
  have h1 : (l.drop 1)[k]? = some x := by rw [List.getElem?_drop, Nat.add_comm]; exact hx
  have h2 := List.getElem?_eq_some_iff.1 h1
  rw [List.take_succ_eq_append_getElem h2.1, h2.2]
  simp
theorem Min_ok (l : List Int) (y : Int) (h0 : l[0]? = some y) (v : Value) (G : Nat → Option Obj) (hl : SlV G IE 1 v l) : FnS Try.prog 77 #[v] G (.int .i64 ((l.drop 1).foldl min y)) := by
  refine F77.fnS (by simp) (go_of ?_)
  obtain ⟨A, c, rfl, hc, hm, hA⟩ := hl
  have hpos := (List.getElem?_eq_some_iff.1 h0).1
  unfold c77
  (intros; try refine go_st ?_); refine go_r 0 0 (by decide) ?_; (refine sJ c77r0.eq_1 ?_; try with_reducible exact True.intro)
  (intros; try refine go_st ?_); refine go_r 5 7 (by decide) ?_; (refine sJ c77r1.eq_1 ?_; try with_reducible exact True.intro)
  (intros; try refine go_st ?_); refine go_c ?_; (refine sI ?_; try with_reducible exact True.intro)
  refine gb (fun h1 => by simp at h1; omega) (fun h1 => ?_)
  (repeat first | refine go_skip ?_ | refine go_b ?_)
  (intros; try refine go_st ?_); refine go_r 9 12 (by decide) ?_; (refine sJ c77r2.eq_1 ?_; try with_reducible exact True.intro)
  refine hA.x_l1 h0 rfl rfl ?_
  rintro a1 ha1 u1 ⟨hu, -⟩
  cases hu
  (refine sI ?_; try with_reducible exact True.intro)
  (intros; try refine go_st ?_); refine go_r 0 0 (by decide) ?_; (refine sJ c77r3.eq_1 ?_; try with_reducible exact True.intro)
  (intros; try refine go_st ?_)
  refine go_loop (fun e h => ∃ k : Nat, (0 < k ∧ k ≤ l.length) ∧ e 4 = .int .i64 k ∧ e 0 = .slice A l.length c ∧ e 3 = .int .i64 (((l.drop 1).take (k - 1)).foldl min y) ∧ h = ⟨G, [], []⟩) (fun e h => l.length - iv (e 4)) ?_ ?_
  · exact ⟨1, ⟨by omega, by omega⟩, by (refine sI ?_; try with_reducible exact True.intro); rfl, eE, by (refine sI ?_; try with_reducible exact True.intro); rfl, rfl⟩
  · rintro e h ⟨k, ⟨hk0, hk⟩, e4, e0, e3, rfl⟩
    refine go_keep [0, 3, 4] ?_
    (refine sJ3 @e0 @e3 @e4 ?_; try with_reducible exact True.intro)
    (intros; try refine go_st ?_); refine go_r 12 15 (by decide) ?_; (refine sJ c77r4.eq_1 ?_; try with_reducible exact True.intro)
    (intros; try refine go_st ?_); refine go_c ?_; (refine sI ?_; try with_reducible exact True.intro)
    refine gb (fun ht => ?_) (fun ht => ?_)
    · have hkl : k < l.length := by simpa using ht
      have hw3 := inc_i k c (by omega) hm
      obtain ⟨x, hx⟩ : ∃ x, l[k]? = some x := ⟨l[k], List.getElem?_eq_getElem (by omega)⟩
      (repeat first | refine go_skip ?_ | refine go_b ?_)
      (intros; try refine go_st ?_); refine go_r 18 24 (by decide) ?_; (refine sJ c77r5.eq_1 ?_; try with_reducible exact True.intro)
      refine hA.x_l1 hx rfl rfl ?_
      rintro a1 ha1 u1 ⟨hu, -⟩
      cases hu
      (refine sI ?_; try with_reducible exact True.intro)
      (intros; try refine go_st ?_); refine go_r 16 18 (by decide) ?_; (refine sJ2 c77r6.eq_1 @hw3 ?_; try with_reducible exact True.intro)
      (intros; try refine go_st ?_)
      refine go_l ⟨⟨k + 1, ⟨by omega, by omega⟩, eE, eE, by rw [Nat.add_sub_cancel, take1 h0 hx min hk0]; (refine sI ?_; try with_reducible exact True.intro), rfl⟩, ?_⟩
      (refine sI ?_; try with_reducible exact True.intro)
      omega
    · have hkl : k = l.length := by simp at ht; omega
      subst hkl
      refine go_exit ?_
      (refine sI ?_; try with_reducible exact True.intro)
      (intros; try refine go_st ?_); refine go_r 24 25 (by decide) ?_; (refine sJ c77r7.eq_1 ?_; try with_reducible exact True.intro)
      (intros; try refine go_st ?_)
      refine go_ret (retQ_v rfl ?_); simp only [push_cast, Nat.reduceBEq]
      rw [List.take_of_length_le (by simp)]
theorem Max_ok (l : List Int) (y : Int) (h0 : l[0]? = some y) (v : Value) (G : Nat → Option Obj) (hl : SlV G IE 1 v l) : FnS Try.prog 78 #[v] G (.int .i64 ((l.drop 1).foldl max y)) := by
  refine F78.fnS (by simp) (go_of ?_)
  obtain ⟨A, c, rfl, hc, hm, hA⟩ := hl
  have hpos := (List.getElem?_eq_some_iff.1 h0).1
  unfold c78
  (intros; try refine go_st ?_); refine go_r 0 0 (by decide) ?_; (refine sJ c78r0.eq_1 ?_; try with_reducible exact True.intro)
  (intros; try refine go_st ?_); refine go_r 5 7 (by decide) ?_; (refine sJ c78r1.eq_1 ?_; try with_reducible exact True.intro)
  (intros; try refine go_st ?_); refine go_c ?_; (refine sI ?_; try with_reducible exact True.intro)
  refine gb (fun h1 => by simp at h1; omega) (fun h1 => ?_)
  (repeat first | refine go_skip ?_ | refine go_b ?_)
  (intros; try refine go_st ?_); refine go_r 9 12 (by decide) ?_; (refine sJ c78r2.eq_1 ?_; try with_reducible exact True.intro)
  refine hA.x_l1 h0 rfl rfl ?_
  rintro a1 ha1 u1 ⟨hu, -⟩
  cases hu
  (refine sI ?_; try with_reducible exact True.intro)
  (intros; try refine go_st ?_); refine go_r 0 0 (by decide) ?_; (refine sJ c78r3.eq_1 ?_; try with_reducible exact True.intro)
  (intros; try refine go_st ?_)
  refine go_loop (fun e h => ∃ k : Nat, (0 < k ∧ k ≤ l.length) ∧ e 4 = .int .i64 k ∧ e 0 = .slice A l.length c ∧ e 3 = .int .i64 (((l.drop 1).take (k - 1)).foldl max y) ∧ h = ⟨G, [], []⟩) (fun e h => l.length - iv (e 4)) ?_ ?_
  · exact ⟨1, ⟨by omega, by omega⟩, by (refine sI ?_; try with_reducible exact True.intro); rfl, eE, by (refine sI ?_; try with_reducible exact True.intro); rfl, rfl⟩
  · rintro e h ⟨k, ⟨hk0, hk⟩, e4, e0, e3, rfl⟩
    refine go_keep [0, 3, 4] ?_
    (refine sJ3 @e0 @e3 @e4 ?_; try with_reducible exact True.intro)
    (intros; try refine go_st ?_); refine go_r 12 15 (by decide) ?_; (refine sJ c78r4.eq_1 ?_; try with_reducible exact True.intro)
    (intros; try refine go_st ?_); refine go_c ?_; (refine sI ?_; try with_reducible exact True.intro)
    refine gb (fun ht => ?_) (fun ht => ?_)
    · have hkl : k < l.length := by simpa using ht
      have hw3 := inc_i k c (by omega) hm
      obtain ⟨x, hx⟩ : ∃ x, l[k]? = some x := ⟨l[k], List.getElem?_eq_getElem (by omega)⟩
      (repeat first | refine go_skip ?_ | refine go_b ?_)
      (intros; try refine go_st ?_); refine go_r 18 24 (by decide) ?_; (refine sJ c78r5.eq_1 ?_; try with_reducible exact True.intro)
      refine hA.x_l1 hx rfl rfl ?_
      rintro a1 ha1 u1 ⟨hu, -⟩
      cases hu
      (refine sI ?_; try with_reducible exact True.intro)
      (intros; try refine go_st ?_); refine go_r 16 18 (by decide) ?_; (refine sJ2 c78r6.eq_1 @hw3 ?_; try with_reducible exact True.intro)
      (intros; try refine go_st ?_)
      refine go_l ⟨⟨k + 1, ⟨by omega, by omega⟩, eE, eE, by rw [Nat.add_sub_cancel, take1 h0 hx max hk0]; (refine sI ?_; try with_reducible exact True.intro), rfl⟩, ?_⟩
      (refine sI ?_; try with_reducible exact True.intro)
      omega
    · have hkl : k = l.length := by simp at ht; omega
      subst hkl
      refine go_exit ?_
      (refine sI ?_; try with_reducible exact True.intro)
      (intros; try refine go_st ?_); refine go_r 24 25 (by decide) ?_; (refine sJ c78r7.eq_1 ?_; try with_reducible exact True.intro)
      (intros; try refine go_st ?_)
      refine go_ret (retQ_v rfl ?_); simp only [push_cast, Nat.reduceBEq]
      rw [List.take_of_length_le (by simp)]
theorem min_all (m : Int) : ∀ (l : List Int) (y : Int), m ≤ l.foldl min y ↔ m ≤ y ∧ ∀ x ∈ l, m ≤ x
  | [], y => by simp
  | x :: l, y => by
    have h1 : m ≤ min y x ↔ m ≤ y ∧ m ≤ x := by omega
    rw [List.foldl_cons, min_all m l, h1, and_assoc]
    simp
theorem max_all (m : Int) : ∀ (l : List Int) (y : Int), l.foldl max y ≤ m ↔ y ≤ m ∧ ∀ x ∈ l, x ≤ m
  | [], y => by simp
  | x :: l, y => by
    have h1 : max y x ≤ m ↔ y ≤ m ∧ x ≤ m := by omega
    rw [List.foldl_cons, max_all m l, h1, and_assoc]
    simp
theorem within_all (m : Int) (l : List Int) (y : Int) : (decide (0 ≤ l.foldl min y) && decide (l.foldl max y ≤ m)) = (y :: l).all (rng m) := by
  rw [Bool.eq_iff_iff]
  simp only [Bool.and_eq_true, decide_eq_true_eq, min_all, max_all, List.all_eq_true, rng, List.mem_cons]
  constructor
  · rintro ⟨⟨h1, h2⟩, h3, h4⟩ x (rfl | hx)
    · exact ⟨h1, h3⟩
    · exact ⟨h2 x hx, h4 x hx⟩
  · intro h
    exact ⟨⟨(h y (.inl rfl)).1, fun x hx => (h x (.inr hx)).1⟩, (h y (.inl rfl)).2, fun x hx => (h x (.inr hx)).2⟩
theorem within_ok (m : Int) (y : Int) (l : List Int) (v : Value) (G : Nat → Option Obj) (hl : SlV G IE 1 v (y :: l)) : FnS Try.prog 59 #[.int .i64 m, v] G (.bool ((y :: l).all (rng m))) := by
  refine F59.fnS (by simp) (go_of ?_)
  rw [← within_all]
  unfold c59
  (intros; try refine go_st ?_); refine go_r 0 0 (by decide) ?_; (refine sJ c59r0.eq_1 ?_; try with_reducible exact True.intro)
  (intros; try refine go_st ?_); refine go_r 5 14 (by decide) ?_; (refine sJ c59r1.eq_1 ?_; try with_reducible exact True.intro)
  refine (Min_ok (y :: l) y rfl v G hl _ _).mono ?_; rintro _ _ ⟨rfl, rfl⟩; (refine sI ?_; try with_reducible exact True.intro)
  refine gd (fun h1 => ?_) (fun h1 => ?_)
  · (refine sI ?_; try with_reducible exact True.intro)
    refine (Max_ok (y :: l) y rfl v G hl _ _).mono ?_; rintro _ _ ⟨rfl, rfl⟩; (refine sI ?_; try with_reducible exact True.intro)
    (intros; try refine go_st ?_)
    refine go_ret (retQ_v rfl ?_); simp only [push_cast, Nat.reduceBEq]
    have h1 : 0 ≤ l.foldl min y := by simpa using h1
    simp [h1]
  · (refine sI ?_; try with_reducible exact True.intro)
    (intros; try refine go_st ?_)
    refine go_ret (retQ_v rfl ?_); simp only [push_cast, Nat.reduceBEq]
    have h1 : ¬ 0 ≤ l.foldl min y := by simpa using h1
    simp [h1]
end Go.Proofs.Ytfhheomeebejnaa

/- Bytes, part 10 of a proof: batches that have form. No condition. -/
set_option linter.unusedSimpArgs false
set_option linter.unusedVariables false
namespace Go.Proofs.Ytfhheomeebejnaa
open Go Go.Kx
theorem F47 : Fun Try.prog 47 131 v47 c47 o47 := Fun.mk' Try.func47 Try.ntmps47 (by kernel_rfl) (by kernel_rfl) s47 q47

structure Batch where
  base : Int
  last : Int
  src : Int
  epoch : Int
  pid : Int
  gen : Int
  seq : Int
  txn : Bool
  ctl : Int
  recs : List Rec
def cellH (x : Batch) (v : Value) : List Value := [.int .i64 x.base, .int .i64 x.last, .int .i64 x.src, .int .i64 x.epoch, .int .i64 x.pid, .int .i64 x.gen, .int .i64 x.seq, .bool x.txn, .int .i64 x.ctl, v]
def BE (G : Nat → Option Obj) (x : Batch) (cs : List Value) : Prop :=
  ∃ A c, cs = cellH x (.slice A x.recs.length c) ∧ (x.recs.length ≤ c ∧ c ≤ maxLen ∧ SlA G RR 5 A x.recs) ∧ I64 x.base ∧ I64 x.last ∧ I64 x.src ∧ I64 x.epoch ∧ I64 x.pid ∧ I64 x.gen ∧ I64 x.seq ∧ I64 x.ctl
theorem BE.le {G G' : Nat → Option Obj} (hg : Gle G G') {x : Batch} {cs : List Value} (h : BE G x cs) : BE G' x cs := by
  obtain ⟨A, c, h1, ⟨h2, h3, h4⟩, h5⟩ := h
  exact ⟨A, c, h1, ⟨h2, h3, h4.le hg fun _ _ h => h⟩, h5⟩
/-- Records in order, from an offset on, up to another one. -/
def rowF (last : Int) : Int → List Rec → Bool
  | _, [] => true
  | next, r :: rs => decide (chkR r = 0) && decide (next ≤ r.off) && decide (r.off ≤ last) && rowF last (r.off + 1) rs
def Form (b : Batch) : Prop :=
  (rng 1099511627776 b.base = true ∧ rng 1099511627776 b.last = true ∧ rng 1099511627776 b.src = true) ∧ (rng 1048576 b.epoch = true ∧ rng 1048576 b.gen = true ∧ rng 1048576 b.seq = true) ∧
    (b.base ≤ b.last ∧ b.last - b.base < 16 ∧ b.src + (b.last - b.base) ≤ 1099511627776 ∧ b.seq + (b.last - b.base) ≤ 1048576) ∧ (-1 ≤ b.pid ∧ b.pid ≤ 1099511627776) ∧ (b.pid = -1 → b.gen = 0 ∧ b.seq = 0 ∧ b.txn = false ∧ b.ctl = 0) ∧
    ((b.ctl = 0 ∧ rowF b.last b.base b.recs = true) ∨ ((b.ctl = 1 ∨ b.ctl = 2) ∧ b.last - b.base = 0 ∧ b.recs = [] ∧ b.txn = true))
instance decForm (b : Batch) : Decidable (Form b) := by
  unfold Form
  infer_instance
theorem within_row (m : Int) (y : Int) (l : List Int) (v : Value) (n : Nat) (ys : List Value) (hc : Cells IE 1 (y :: l) ys) (G : Nat → Option Obj) (L : List Kx.Item) (D : List Nat) :
    CallsH Try.prog 59 #[.int .i64 m, v] ⟨G, .row v 3 1 n ys :: L, D⟩ fun r h' => r = .bool ((y :: l).all (rng m)) ∧ h' = ⟨G, .row v 3 1 n ys :: L, D⟩ :=
  lend1 (E := IE) (xs := y :: l) (R := fun r => r = .bool ((y :: l).all (rng m))) F59.enters (by decide) hc fun G' hg hx => by
    have := within_ok m y l v G' hx L D
    simpa using this
theorem cells3 {a b c : Int} (ha : I64 a) (hb : I64 b) (hc : I64 c) : Cells IE 1 [a, b, c] [.int .i64 a, .int .i64 b, .int .i64 c] :=
  .cons (cs := [.int .i64 a]) ⟨rfl, ha⟩ rfl (.cons (cs := [.int .i64 b]) ⟨rfl, hb⟩ rfl (.one (cs := [.int .i64 c]) ⟨rfl, hc⟩ rfl))
theorem formed_ok (x : Batch) (cs : List Value) (G : Nat → Option Obj) (hx : BE G x cs) : FnS Try.prog 47 #[.agg cs.toArray] G (.bool (decide (Form x))) := by
  obtain ⟨A, c, rfl, ⟨hc, hm, hA⟩, i1, i2, i3, i4, i5, i6, i7, i8⟩ := hx
  refine F47.fnS (by simp) (go_of ?_)
  unfold c47 cellH
  (intros; try refine go_st ?_); refine go_r 0 0 (by decide) ?_; (refine sJ c47r0.eq_1 ?_; try with_reducible exact True.intro)
  have hbad : ∀ (fr : List Td) (e : Env) (L : List Kx.Item), ¬ Form x → go none Try.prog 131 v47.1 v47.2 (retQ o47 fun v h => v = .bool (decide (Form x))) (Td.s ((SC.reg false c47r2).seq .ret) :: fr) e ⟨G, L, []⟩ := fun fr e L hx => by
    (intros; try refine go_st ?_); refine go_r 0 0 (by decide) ?_; (refine sJ c47r2.eq_1 ?_; try with_reducible exact True.intro)
    (intros; try refine go_st ?_)
    refine go_ret (retQ_v rfl ?_); simp only [push_cast, Nat.reduceBEq]
    rw [decide_eq_false hx]
  (intros; try refine go_st ?_); refine go_r 8 26 (by decide) ?_; (refine sJ c47r1.eq_1 ?_; try with_reducible exact True.intro)
  intro b1 hb1
  refine (within_row 1099511627776 _ _ _ _ _ (cells3 i1 i2 i3) _ _ _).mono ?_; rintro _ _ ⟨rfl, rfl⟩; (refine sI ?_; try with_reducible exact True.intro)
  refine gd (fun h1 => ?_) (fun h1 => ?_)
  · (refine sI ?_; try with_reducible exact True.intro)
    (intros; try refine go_st ?_); refine go_c ?_; (refine sI ?_; try with_reducible exact True.intro)
    refine hbad _ _ _ fun h => ?_
    simp [h.1.1, h.1.2.1, h.1.2.2] at h1
  (refine sI ?_; try with_reducible exact True.intro)
  intro b2 hb2
  refine (within_row 1048576 _ _ _ _ _ (cells3 i4 i6 i7) _ _ _).mono ?_; rintro _ _ ⟨rfl, rfl⟩; (refine sI ?_; try with_reducible exact True.intro)
  (intros; try refine go_st ?_); refine go_c ?_; (refine sI ?_; try with_reducible exact True.intro)
  refine gb (fun h2 => ?_) (fun h2 => ?_)
  · refine hbad _ _ _ fun h => ?_
    simp [h.2.1.1, h.2.1.2.1, h.2.1.2.2] at h2
  have h1 : rng 1099511627776 x.base = true ∧ rng 1099511627776 x.last = true ∧ rng 1099511627776 x.src = true := by simpa using h1
  have h2 : rng 1048576 x.epoch = true ∧ rng 1048576 x.gen = true ∧ rng 1048576 x.seq = true := by simpa using h2
  have h1' := h1
  have h2' := h2
  simp [rng] at h1' h2'
  have w1 : IntKind.i64.wrap (x.last - x.base) = x.last - x.base := by rw [w64_id] <;> omega
  (repeat first | refine go_skip ?_ | refine go_b ?_)
  (intros; try refine go_st ?_); refine go_r 28 32 (by decide) ?_; (refine sJ2 c47r3.eq_1 @w1 ?_; try with_reducible exact True.intro)
  have hb5 : ∀ (fr : List Td) (e : Env) (L : List Kx.Item), ¬ Form x → go none Try.prog 131 v47.1 v47.2 (retQ o47 fun v h => v = .bool (decide (Form x))) (Td.s ((SC.reg false c47r5).seq .ret) :: fr) e ⟨G, L, []⟩ := fun fr e L hx => by
    (intros; try refine go_st ?_); refine go_r 0 0 (by decide) ?_; (refine sJ c47r5.eq_1 ?_; try with_reducible exact True.intro)
    (intros; try refine go_st ?_)
    refine go_ret (retQ_v rfl ?_); simp only [push_cast, Nat.reduceBEq]
    rw [decide_eq_false hx]
  have hb7 : ∀ (fr : List Td) (e : Env) (L : List Kx.Item), ¬ Form x → go none Try.prog 131 v47.1 v47.2 (retQ o47 fun v h => v = .bool (decide (Form x))) (Td.s ((SC.reg false c47r7).seq .ret) :: fr) e ⟨G, L, []⟩ := fun fr e L hx => by
    (intros; try refine go_st ?_); refine go_r 0 0 (by decide) ?_; (refine sJ c47r7.eq_1 ?_; try with_reducible exact True.intro)
    (intros; try refine go_st ?_)
    refine go_ret (retQ_v rfl ?_); simp only [push_cast, Nat.reduceBEq]
    rw [decide_eq_false hx]
  have hb9 : ∀ (fr : List Td) (e : Env) (L : List Kx.Item), ¬ Form x → go none Try.prog 131 v47.1 v47.2 (retQ o47 fun v h => v = .bool (decide (Form x))) (Td.s ((SC.reg false c47r9).seq .ret) :: fr) e ⟨G, L, []⟩ := fun fr e L hx => by
    (intros; try refine go_st ?_); refine go_r 0 0 (by decide) ?_; (refine sJ c47r9.eq_1 ?_; try with_reducible exact True.intro)
    (intros; try refine go_st ?_)
    refine go_ret (retQ_v rfl ?_); simp only [push_cast, Nat.reduceBEq]
    rw [decide_eq_false hx]
  have hb17 : ∀ (fr : List Td) (e : Env) (L : List Kx.Item), ¬ Form x → go none Try.prog 131 v47.1 v47.2 (retQ o47 fun v h => v = .bool (decide (Form x))) (Td.s ((SC.reg false c47r17).seq .ret) :: fr) e ⟨G, L, []⟩ := fun fr e L hx => by
    (intros; try refine go_st ?_); refine go_r 0 0 (by decide) ?_; (refine sJ c47r17.eq_1 ?_; try with_reducible exact True.intro)
    (intros; try refine go_st ?_)
    refine go_ret (retQ_v rfl ?_); simp only [push_cast, Nat.reduceBEq]
    rw [decide_eq_false hx]
  have w2 : ∀ (h : 0 ≤ x.last - x.base), IntKind.i64.wrap (x.src + (x.last - x.base)) = x.src + (x.last - x.base) := fun h => by rw [w64_id] <;> omega
  have w3 : ∀ (h : 0 ≤ x.last - x.base), IntKind.i64.wrap (x.seq + (x.last - x.base)) = x.seq + (x.last - x.base) := fun h => by rw [w64_id] <;> omega
  have w4 : IntKind.i64.wrap (x.gen + x.seq) = x.gen + x.seq := by rw [w64_id] <;> omega
  (intros; try refine go_st ?_); refine go_r 33 53 (by decide) ?_; (refine sJ c47r4.eq_1 ?_; try with_reducible exact True.intro)
  refine gd (fun h3 => ?_) (fun h3 => ?_)
  · (refine sI ?_; try with_reducible exact True.intro)
    (intros; try refine go_st ?_); refine go_c ?_; (refine sI ?_; try with_reducible exact True.intro)
    exact hb5 _ _ _ fun h => by have := of_decide_eq_true h3; have := h.2.2.1.1; omega
  have h3 := of_decide_eq_false h3
  (refine sI ?_; try with_reducible exact True.intro)
  refine gd (fun h4 => ?_) (fun h4 => ?_)
  · (refine sI ?_; try with_reducible exact True.intro)
    (intros; try refine go_st ?_); refine go_c ?_; (refine sI ?_; try with_reducible exact True.intro)
    exact hb5 _ _ _ fun h => by have := of_decide_eq_true h4; have := h.2.2.1.2.1; omega
  have h4 := of_decide_eq_false h4
  (refine sJ (w2 (by omega)) ?_; try with_reducible exact True.intro)
  refine gd (fun h5 => ?_) (fun h5 => ?_)
  · (refine sI ?_; try with_reducible exact True.intro)
    (intros; try refine go_st ?_); refine go_c ?_; (refine sI ?_; try with_reducible exact True.intro)
    exact hb5 _ _ _ fun h => by have := of_decide_eq_true h5; have := h.2.2.1.2.2.1; omega
  have h5 := of_decide_eq_false h5
  (refine sJ (w3 (by omega)) ?_; try with_reducible exact True.intro)
  (intros; try refine go_st ?_); refine go_c ?_; (refine sI ?_; try with_reducible exact True.intro)
  refine gb (fun h6 => ?_) (fun h6 => ?_)
  · exact hb5 _ _ _ fun h => by have := of_decide_eq_true h6; have := h.2.2.1.2.2.2; omega
  have h6 := of_decide_eq_false h6
  (intros; try refine go_st ?_); refine go_r 55 62 (by decide) ?_; (refine sJ c47r6.eq_1 ?_; try with_reducible exact True.intro)
  refine gd (fun h7 => ?_) (fun h7 => ?_)
  · (refine sI ?_; try with_reducible exact True.intro)
    (intros; try refine go_st ?_); refine go_c ?_; (refine sI ?_; try with_reducible exact True.intro)
    exact hb7 _ _ _ fun h => by have := of_decide_eq_true h7; have := h.2.2.2.1.1; omega
  have h7 := of_decide_eq_false h7
  (refine sI ?_; try with_reducible exact True.intro)
  (intros; try refine go_st ?_); refine go_c ?_; (refine sI ?_; try with_reducible exact True.intro)
  refine gb (fun h8 => ?_) (fun h8 => ?_)
  · exact hb7 _ _ _ fun h => by have := of_decide_eq_true h8; have := h.2.2.2.1.2; omega
  have h8 := of_decide_eq_false h8
  (intros; try refine go_st ?_); refine go_r 64 83 (by decide) ?_; (refine sJ c47r8.eq_1 ?_; try with_reducible exact True.intro)
  have hrest : ∀ (e : Env), (x.pid = -1 → x.gen = 0 ∧ x.seq = 0 ∧ x.txn = false ∧ x.ctl = 0) → e 3 = .int .i64 (x.last - x.base) →
      go none Try.prog 131 v47.1 v47.2 (retQ o47 fun v h => v = .bool (decide (Form x))) [Td.s (((SC.reg false c47r10).seq (SC.blk 1 ((SC.reg false c47r11).seq (SC.cond (O.t 85) ((SC.reg false c47r12).seq (((SC.reg false c47r13).seq (SC.blk 2 ((SC.reg false c47r14).seq ((SC.cond (O.t 93) SC.skip (SC.exit 2)).seq ((SC.blk 3 ((SC.reg false c47r15).seq (((SC.reg false c47r16).seq (SC.cond (O.t 111) ((SC.reg false c47r17).seq SC.ret) SC.skip)).seq (SC.reg false c47r18)))).seq (SC.reg false c47r19)))).loop)).seq ((SC.reg false c47r20).seq SC.ret))) (((SC.reg false c47r21).seq (SC.cond (O.t 116) SC.skip (SC.reg false c47r22))).seq (SC.cond (O.t 116) ((SC.reg false c47r23).seq SC.ret) SC.skip)))))).seq ((SC.reg false c47r24).seq SC.ret))] e ⟨G, [.reg 1 [.int .i64 x.base, .int .i64 x.last, .int .i64 x.src, .int .i64 x.epoch, .int .i64 x.pid, .int .i64 x.gen, .int .i64 x.seq, .bool x.txn, .int .i64 x.ctl, .slice A x.recs.length c]], []⟩ := fun e hpid e3 => by
    refine go_keep [3] ?_
    (refine sJ @e3 ?_; try with_reducible exact True.intro)
    (intros; try refine go_st ?_); refine go_r 0 0 (by decide) ?_; (refine sJ c47r10.eq_1 ?_; try with_reducible exact True.intro)
    (intros; try refine go_st ?_); refine go_r 86 87 (by decide) ?_; (refine sJ c47r11.eq_1 ?_; try with_reducible exact True.intro)
    (intros; try refine go_st ?_); refine go_c ?_; (refine sI ?_; try with_reducible exact True.intro)
    have hmk : ((x.ctl = 0 ∧ rowF x.last x.base x.recs = true) ∨ ((x.ctl = 1 ∨ x.ctl = 2) ∧ x.last - x.base = 0 ∧ x.recs = [] ∧ x.txn = true)) → Form x := fun h => ⟨h1, h2, ⟨by omega, by omega, by omega, by omega⟩, ⟨by omega, by omega⟩, hpid, h⟩
    refine gb (fun k1 => ?_) (fun k1 => ?_)
    · have k1 := of_decide_eq_true k1
      (intros; try refine go_st ?_); refine go_r 88 89 (by decide) ?_; (refine sJ c47r12.eq_1 ?_; try with_reducible exact True.intro)
      (intros; try refine go_st ?_); refine go_r 0 0 (by decide) ?_; (refine sJ c47r13.eq_1 ?_; try with_reducible exact True.intro)
      (intros; try refine go_st ?_)
      refine go_loop (fun e h => ∃ (k : Nat) (nx : Int), (k ≤ x.recs.length ∧ rowF x.last x.base x.recs = rowF x.last nx (x.recs.drop k)) ∧ e 92 = .int .i64 k ∧ e 91 = .int .i64 x.recs.length ∧ e 90 = .slice A x.recs.length c ∧ e 4 = .int .i64 nx ∧ h.G = G ∧ h.D = [] ∧ [.reg 1 [.int .i64 x.base, .int .i64 x.last, .int .i64 x.src, .int .i64 x.epoch, .int .i64 x.pid, .int .i64 x.gen, .int .i64 x.seq, .bool x.txn, .int .i64 x.ctl, .slice A x.recs.length c]].Sublist h.L) (fun e h => x.recs.length - iv (e 92)) ?_ ?_
      · exact ⟨0, x.base, ⟨Nat.zero_le _, rfl⟩, eE, eE, eE, eE, rfl, rfl, List.Sublist.refl _⟩
      · rintro e ⟨G', L, D⟩ ⟨k, nx, ⟨hk, hrow⟩, e92, e91, e90, e4, hG, hD, hL⟩
        dsimp only at hG hD hL
        subst hG hD
        refine go_ghost (ghost_sub hL) ?_
        refine go_keep [4, 90, 91, 92] ?_
        (refine sJ4 @e4 @e90 @e91 @e92 ?_; try with_reducible exact True.intro)
        (intros; try refine go_st ?_); refine go_r 0 0 (by decide) ?_; (refine sJ c47r14.eq_1 ?_; try with_reducible exact True.intro)
        (intros; try refine go_st ?_); refine go_c ?_; (refine sI ?_; try with_reducible exact True.intro)
        refine gb (fun ht => ?_) (fun ht => ?_)
        · have hkl : k < x.recs.length := by simpa using ht
          have hw3 := inc_i k c (by omega) hm
          obtain ⟨r, hr⟩ : ∃ r, x.recs[k]? = some r := ⟨x.recs[k], List.getElem?_eq_getElem (by omega)⟩
          have hdr : x.recs.drop k = r :: x.recs.drop (k + 1) := by
            have := List.getElem?_eq_some_iff.1 hr
            rw [List.drop_eq_getElem_cons hkl, this.2]
          rw [hdr] at hrow
          simp only [rowF] at hrow
          have hno : rowF x.last x.base x.recs = false → ¬ Form x := fun h h' => by
            rcases h'.2.2.2.2.2 with h9 | h9
            · rw [h] at h9; cases h9.2
            · omega
          (intros; try refine go_st ?_); refine go_r 94 96 (by decide) ?_; (refine sJ c47r15.eq_1 ?_; try with_reducible exact True.intro)
          refine hA.x_ld hr rfl rfl ?_
          rintro a1 ha1 cs ⟨rfl, ⟨j1, j2⟩, j3, j4⟩
          unfold cellR
          (refine sI ?_; try with_reducible exact True.intro)
          have hck := Check_ok r
          unfold cellR at hck
          (intros; try refine go_st ?_); refine go_r 96 111 (by decide) ?_; (refine sJ c47r16.eq_1 ?_; try with_reducible exact True.intro)
          refine (hck G' _ _).mono ?_; rintro _ _ ⟨rfl, rfl⟩; (refine sI ?_; try with_reducible exact True.intro)
          refine gd (fun k2 => ?_) (fun k2 => ?_)
          · (refine sI ?_; try with_reducible exact True.intro)
            (intros; try refine go_st ?_); refine go_c ?_; (refine sI ?_; try with_reducible exact True.intro)
            exact hb17 _ _ _ (hno (by rw [hrow]; simp at k2; simp [k2]))
          have k2 : chkR r = 0 := by simpa using k2
          (refine sI ?_; try with_reducible exact True.intro)
          refine gd (fun k3 => ?_) (fun k3 => ?_)
          · (refine sI ?_; try with_reducible exact True.intro)
            (intros; try refine go_st ?_); refine go_c ?_; (refine sI ?_; try with_reducible exact True.intro)
            exact hb17 _ _ _ (hno (by rw [hrow]; have := of_decide_eq_true k3; simp; omega))
          have k3 := of_decide_eq_false k3
          (refine sI ?_; try with_reducible exact True.intro)
          (intros; try refine go_st ?_); refine go_c ?_; (refine sI ?_; try with_reducible exact True.intro)
          refine gb (fun k4 => ?_) (fun k4 => ?_)
          · exact hb17 _ _ _ (hno (by rw [hrow]; have := of_decide_eq_true k4; simp; omega))
          have k4 := of_decide_eq_false k4
          have hoff := (chk_small k2).1.1
          simp [inO] at hoff
          have w5 : IntKind.i64.wrap (r.off + 1) = r.off + 1 := by rw [w64_id] <;> omega
          (repeat first | refine go_skip ?_ | refine go_b ?_)
          (intros; try refine go_st ?_); refine go_r 113 115 (by decide) ?_; (refine sJ2 c47r18.eq_1 @w5 ?_; try with_reducible exact True.intro)
          (intros; try refine go_st ?_); refine go_r 115 116 (by decide) ?_; (refine sJ2 c47r19.eq_1 @hw3 ?_; try with_reducible exact True.intro)
          (intros; try refine go_st ?_)
          refine go_l ⟨⟨k + 1, r.off + 1, ⟨by omega, by rw [hrow]; simp [k2]; omega⟩, eE, eE, eE, eE, rfl, rfl, .cons _ (List.Sublist.refl _)⟩, ?_⟩
          (refine sI ?_; try with_reducible exact True.intro)
          omega
        · have hkl : k = x.recs.length := by simp at ht; omega
          subst hkl
          refine go_exit ?_
          (refine sI ?_; try with_reducible exact True.intro)
          (intros; try refine go_st ?_); refine go_r 0 0 (by decide) ?_; (refine sJ c47r20.eq_1 ?_; try with_reducible exact True.intro)
          (intros; try refine go_st ?_)
          refine go_ret (retQ_v rfl ?_); simp only [push_cast, Nat.reduceBEq]
          rw [List.drop_length] at hrow
          rw [decide_eq_true (hmk (.inl ⟨k1, hrow⟩))]
    · have k1 := of_decide_eq_false k1
      have hb24 : ∀ (fr : List Td) (e : Env) (L : List Kx.Item), ¬ Form x → go none Try.prog 131 v47.1 v47.2 (retQ o47 fun v h => v = .bool (decide (Form x))) (Td.s ((SC.reg false c47r24).seq .ret) :: fr) e ⟨G, L, []⟩ := fun fr e L hx => by
        (intros; try refine go_st ?_); refine go_r 0 0 (by decide) ?_; (refine sJ c47r24.eq_1 ?_; try with_reducible exact True.intro)
        (intros; try refine go_st ?_)
        refine go_ret (retQ_v rfl ?_); simp only [push_cast, Nat.reduceBEq]
        rw [decide_eq_false hx]
      have hfin : ∀ (fr : List Td) (e : Env), (x.ctl = 1 ∨ x.ctl = 2) → e 3 = .int .i64 (x.last - x.base) → go none Try.prog 131 v47.1 v47.2 (retQ o47 fun v h => v = .bool (decide (Form x))) (Td.s ((SC.reg false c47r23).seq .ret) :: fr) e ⟨G, [.reg 1 [.int .i64 x.base, .int .i64 x.last, .int .i64 x.src, .int .i64 x.epoch, .int .i64 x.pid, .int .i64 x.gen, .int .i64 x.seq, .bool x.txn, .int .i64 x.ctl, .slice A x.recs.length c]], []⟩ := fun fr e hc12 e3 => by
        refine go_keep [3] ?_
        (refine sJ @e3 ?_; try with_reducible exact True.intro)
        have hnf : ∀ (_ : ¬ (x.last - x.base = 0 ∧ x.recs = [] ∧ x.txn = true)), decide (Form x) = false := fun hn => decide_eq_false fun h => by
          rcases h.2.2.2.2.2 with h9 | h9
          · exact k1 h9.1
          · exact hn h9.2
        (intros; try refine go_st ?_); refine go_r 119 131 (by decide) ?_; (refine sJ c47r23.eq_1 ?_; try with_reducible exact True.intro)
        refine gd (fun k2 => ?_) (fun k2 => ?_)
        · have k2 := of_decide_eq_true k2
          (refine sI ?_; try with_reducible exact True.intro)
          refine gd (fun k3 => ?_) (fun k3 => ?_)
          · have k3 : x.recs = [] := by have := of_decide_eq_true k3; exact List.eq_nil_of_length_eq_zero (by omega)
            (refine sI ?_; try with_reducible exact True.intro)
            (intros; try refine go_st ?_)
            refine go_ret (retQ_v rfl ?_); simp only [push_cast, Nat.reduceBEq]
            cases ht : x.txn with
            | false => rw [hnf fun h => by rw [ht] at h; cases h.2.2]
            | true => rw [decide_eq_true (hmk (.inr ⟨hc12, k2, k3, ht⟩))]
          · have k3 := of_decide_eq_false k3
            (refine sI ?_; try with_reducible exact True.intro)
            (intros; try refine go_st ?_)
            refine go_ret (retQ_v rfl ?_); simp only [push_cast, Nat.reduceBEq]
            rw [hnf fun h => k3 (by rw [h.2.1]; rfl)]
        · have k2 := of_decide_eq_false k2
          (refine sI ?_; try with_reducible exact True.intro)
          (intros; try refine go_st ?_)
          refine go_ret (retQ_v rfl ?_); simp only [push_cast, Nat.reduceBEq]
          rw [hnf fun h => k2 h.1]
      (intros; try refine go_st ?_); refine go_r 117 118 (by decide) ?_; (refine sJ c47r21.eq_1 ?_; try with_reducible exact True.intro)
      (intros; try refine go_st ?_); refine go_c ?_; (refine sI ?_; try with_reducible exact True.intro)
      refine gb (fun k2 => ?_) (fun k2 => ?_)
      · (repeat first | refine go_skip ?_ | refine go_b ?_)
        (intros; try refine go_st ?_); refine go_c ?_; (refine sI ?_; try with_reducible exact True.intro)
        refine gb (fun _ => ?_) (fun h => by rw [k2] at h; cases h)
        refine hfin _ _ (.inl (of_decide_eq_true k2)) ?_
        (refine sI ?_; try with_reducible exact True.intro)
      · have k2 := of_decide_eq_false k2
        (intros; try refine go_st ?_); refine go_r 118 119 (by decide) ?_; (refine sJ c47r22.eq_1 ?_; try with_reducible exact True.intro)
        (intros; try refine go_st ?_); refine go_c ?_; (refine sI ?_; try with_reducible exact True.intro)
        refine gb (fun k3 => ?_) (fun k3 => ?_)
        · refine hfin _ _ (.inr (of_decide_eq_true k3)) ?_
          (refine sI ?_; try with_reducible exact True.intro)
        · have k3 := of_decide_eq_false k3
          (repeat first | refine go_skip ?_ | refine go_b ?_)
          refine hb24 _ _ _ fun h => ?_
          rcases h.2.2.2.2.2 with h9 | h9
          · exact k1 h9.1
          · rcases h9.1 with h9 | h9
            · exact k2 h9
            · exact k3 h9
  refine gd (fun h9 => ?_) (fun h9 => ?_)
  · have h9 := of_decide_eq_true h9
    (refine sJ @w4 ?_; try with_reducible exact True.intro)
    refine gd (fun h10 => ?_) (fun h10 => ?_)
    · (refine sI ?_; try with_reducible exact True.intro)
      (intros; try refine go_st ?_); refine go_c ?_; (refine sI ?_; try with_reducible exact True.intro)
      exact hb9 _ _ _ fun h => by have := of_decide_eq_true h10; have := h.2.2.2.2.1 h9; omega
    have h10 := of_decide_eq_false h10
    (refine sI ?_; try with_reducible exact True.intro)
    refine gd (fun h11 => ?_) (fun h11 => ?_)
    · (refine sI ?_; try with_reducible exact True.intro)
      (intros; try refine go_st ?_); refine go_c ?_; (refine sI ?_; try with_reducible exact True.intro)
      exact hb9 _ _ _ fun h => by have := (h.2.2.2.2.1 h9).2.2.1; rw [h11] at this; cases this
    (refine sI ?_; try with_reducible exact True.intro)
    (intros; try refine go_st ?_); refine go_c ?_; (refine sI ?_; try with_reducible exact True.intro)
    refine gb (fun h12 => ?_) (fun h12 => ?_)
    · exact hb9 _ _ _ fun h => by have := of_decide_eq_true h12; have := (h.2.2.2.2.1 h9).2.2.2; omega
    have h12 := of_decide_eq_false h12
    (repeat first | refine go_skip ?_ | refine go_b ?_)
    refine go_ghost (ghost_sub (.cons _ (.cons _ (List.Sublist.refl _)))) ?_
    refine hrest _ (fun _ => ⟨by omega, by omega, h11, by omega⟩) ?_
    (refine sI ?_; try with_reducible exact True.intro)
  · have h9 := of_decide_eq_false h9
    (refine sI ?_; try with_reducible exact True.intro)
    (intros; try refine go_st ?_); refine go_c ?_; (refine sI ?_; try with_reducible exact True.intro)
    (repeat first | refine go_skip ?_ | refine go_b ?_)
    refine go_ghost (ghost_sub (.cons _ (.cons _ (List.Sublist.refl _)))) ?_
    refine hrest _ (fun h => absurd h h9) ?_
    (refine sI ?_; try with_reducible exact True.intro)
end Go.Proofs.Ytfhheomeebejnaa

/- Bytes, part 11 of a proof: batches that have form, by the document. No condition. -/
set_option linter.unusedSimpArgs false
set_option linter.unusedVariables false
namespace Go.Proofs.Ytfhheomeebejnaa
open Go Go.Kx
theorem F65 : Fun Try.prog 65 165 v65 c65 o65 := Fun.mk' Try.func65 Try.ntmps65 (by kernel_rfl) (by kernel_rfl) s65 q65
theorem rng_f {m n : Int} (h : (!rng m n) = true) : ¬ rng m n = true := by simpa using h
theorem rng_t {m n : Int} (h : (!rng m n) = false) : 0 ≤ n ∧ n ≤ m := by simpa [rng] using h
theorem rng_i {m n : Int} (h : 0 ≤ n ∧ n ≤ m) : rng m n = true := by simp [rng, h]
theorem form_ok (x : Batch) (cs : List Value) (G : Nat → Option Obj) (hx : BE G x cs) : FnS Try.prog 65 #[.agg cs.toArray] G (.bool (decide (Form x))) := by
  obtain ⟨A, c, rfl, ⟨hc, hm, hA⟩, i1, i2, i3, i4, i5, i6, i7, i8⟩ := hx
  refine F65.fnS (by simp) (go_of ?_)
  unfold c65 cellH
  (intros; try refine go_st ?_); refine go_r 0 0 (by decide) ?_; (refine sJ c65r0.eq_1 ?_; try with_reducible exact True.intro)
  have hb2 : ∀ (fr : List Td) (e : Env) (L : List Kx.Item), ¬ Form x → go none Try.prog 165 v65.1 v65.2 (retQ o65 fun v h => v = .bool (decide (Form x))) (Td.s ((SC.reg false c65r2).seq .ret) :: fr) e ⟨G, L, []⟩ := fun fr e L hx => by
    (intros; try refine go_st ?_); refine go_r 0 0 (by decide) ?_; (refine sJ c65r2.eq_1 ?_; try with_reducible exact True.intro)
    (intros; try refine go_st ?_)
    refine go_ret (retQ_v rfl ?_); simp only [push_cast, Nat.reduceBEq]
    rw [decide_eq_false hx]
  have hb5 : ∀ (fr : List Td) (e : Env) (L : List Kx.Item), ¬ Form x → go none Try.prog 165 v65.1 v65.2 (retQ o65 fun v h => v = .bool (decide (Form x))) (Td.s ((SC.reg false c65r5).seq .ret) :: fr) e ⟨G, L, []⟩ := fun fr e L hx => by
    (intros; try refine go_st ?_); refine go_r 0 0 (by decide) ?_; (refine sJ c65r5.eq_1 ?_; try with_reducible exact True.intro)
    (intros; try refine go_st ?_)
    refine go_ret (retQ_v rfl ?_); simp only [push_cast, Nat.reduceBEq]
    rw [decide_eq_false hx]
  have hb7 : ∀ (fr : List Td) (e : Env) (L : List Kx.Item), ¬ Form x → go none Try.prog 165 v65.1 v65.2 (retQ o65 fun v h => v = .bool (decide (Form x))) (Td.s ((SC.reg false c65r7).seq .ret) :: fr) e ⟨G, L, []⟩ := fun fr e L hx => by
    (intros; try refine go_st ?_); refine go_r 0 0 (by decide) ?_; (refine sJ c65r7.eq_1 ?_; try with_reducible exact True.intro)
    (intros; try refine go_st ?_)
    refine go_ret (retQ_v rfl ?_); simp only [push_cast, Nat.reduceBEq]
    rw [decide_eq_false hx]
  have hb15 : ∀ (fr : List Td) (e : Env) (L : List Kx.Item), ¬ Form x → go none Try.prog 165 v65.1 v65.2 (retQ o65 fun v h => v = .bool (decide (Form x))) (Td.s ((SC.reg false c65r15).seq .ret) :: fr) e ⟨G, L, []⟩ := fun fr e L hx => by
    (intros; try refine go_st ?_); refine go_r 0 0 (by decide) ?_; (refine sJ c65r15.eq_1 ?_; try with_reducible exact True.intro)
    (intros; try refine go_st ?_)
    refine go_ret (retQ_v rfl ?_); simp only [push_cast, Nat.reduceBEq]
    rw [decide_eq_false hx]
  (intros; try refine go_st ?_); refine go_r 8 37 (by decide) ?_; (refine sJ c65r1.eq_1 ?_; try with_reducible exact True.intro)
  refine (rin_ok x.base _ G _ _).mono ?_; rintro _ _ ⟨rfl, rfl⟩; (refine sI ?_; try with_reducible exact True.intro)
  refine gd (fun h1 => ?_) (fun h1 => ?_)
  · (refine sI ?_; try with_reducible exact True.intro)
    (intros; try refine go_st ?_); refine go_c ?_; (refine sI ?_; try with_reducible exact True.intro)
    exact hb2 _ _ _ fun h => by exact rng_f h1 h.1.1
  have h1 := rng_t h1
  (refine sI ?_; try with_reducible exact True.intro)
  refine (rin_ok x.last _ G _ _).mono ?_; rintro _ _ ⟨rfl, rfl⟩; (refine sI ?_; try with_reducible exact True.intro)
  refine gd (fun h2 => ?_) (fun h2 => ?_)
  · (refine sI ?_; try with_reducible exact True.intro)
    (intros; try refine go_st ?_); refine go_c ?_; (refine sI ?_; try with_reducible exact True.intro)
    exact hb2 _ _ _ fun h => by exact rng_f h2 h.1.2.1
  have h2 := rng_t h2
  (refine sI ?_; try with_reducible exact True.intro)
  refine (rin_ok x.src _ G _ _).mono ?_; rintro _ _ ⟨rfl, rfl⟩; (refine sI ?_; try with_reducible exact True.intro)
  refine gd (fun h3 => ?_) (fun h3 => ?_)
  · (refine sI ?_; try with_reducible exact True.intro)
    (intros; try refine go_st ?_); refine go_c ?_; (refine sI ?_; try with_reducible exact True.intro)
    exact hb2 _ _ _ fun h => by exact rng_f h3 h.1.2.2
  have h3 := rng_t h3
  have w1 : IntKind.i64.wrap (x.last - x.base) = x.last - x.base := by rw [w64_id] <;> omega
  (refine sI ?_; try with_reducible exact True.intro)
  refine gd (fun h4 => ?_) (fun h4 => ?_)
  · (refine sI ?_; try with_reducible exact True.intro)
    (intros; try refine go_st ?_); refine go_c ?_; (refine sI ?_; try with_reducible exact True.intro)
    exact hb2 _ _ _ fun h => by have := of_decide_eq_true h4; have := h.2.2.1.1; omega
  have h4 := of_decide_eq_false h4
  (refine sJ @w1 ?_; try with_reducible exact True.intro)
  (intros; try refine go_st ?_); refine go_c ?_; (refine sI ?_; try with_reducible exact True.intro)
  refine gb (fun h5 => ?_) (fun h5 => ?_)
  · exact hb2 _ _ _ fun h => by have := of_decide_eq_true h5; have := h.2.2.1.2.1; omega
  have h5 := of_decide_eq_false h5
  (repeat first | refine go_skip ?_ | refine go_b ?_)
  (intros; try refine go_st ?_); refine go_r 39 43 (by decide) ?_; (refine sJ2 c65r3.eq_1 @w1 ?_; try with_reducible exact True.intro)
  have w2 : IntKind.i64.wrap (x.src + (x.last - x.base)) = x.src + (x.last - x.base) := by rw [w64_id] <;> omega
  (intros; try refine go_st ?_); refine go_r 44 72 (by decide) ?_; (refine sJ2 c65r4.eq_1 @w2 ?_; try with_reducible exact True.intro)
  refine gd (fun h6 => ?_) (fun h6 => ?_)
  · (refine sI ?_; try with_reducible exact True.intro)
    (intros; try refine go_st ?_); refine go_c ?_; (refine sI ?_; try with_reducible exact True.intro)
    exact hb5 _ _ _ fun h => by have := of_decide_eq_true h6; have := h.2.2.1.2.2.1; omega
  have h6 := of_decide_eq_false h6
  (refine sI ?_; try with_reducible exact True.intro)
  refine (rin_ok x.epoch _ G _ _).mono ?_; rintro _ _ ⟨rfl, rfl⟩; (refine sI ?_; try with_reducible exact True.intro)
  refine gd (fun h7 => ?_) (fun h7 => ?_)
  · (refine sI ?_; try with_reducible exact True.intro)
    (intros; try refine go_st ?_); refine go_c ?_; (refine sI ?_; try with_reducible exact True.intro)
    exact hb5 _ _ _ fun h => by exact rng_f h7 h.2.1.1
  have h7 := rng_t h7
  (refine sI ?_; try with_reducible exact True.intro)
  refine (rin_ok x.gen _ G _ _).mono ?_; rintro _ _ ⟨rfl, rfl⟩; (refine sI ?_; try with_reducible exact True.intro)
  refine gd (fun h8 => ?_) (fun h8 => ?_)
  · (refine sI ?_; try with_reducible exact True.intro)
    (intros; try refine go_st ?_); refine go_c ?_; (refine sI ?_; try with_reducible exact True.intro)
    exact hb5 _ _ _ fun h => by exact rng_f h8 h.2.1.2.1
  have h8 := rng_t h8
  (refine sI ?_; try with_reducible exact True.intro)
  refine (rin_ok x.seq _ G _ _).mono ?_; rintro _ _ ⟨rfl, rfl⟩; (refine sI ?_; try with_reducible exact True.intro)
  refine gd (fun h9 => ?_) (fun h9 => ?_)
  · (refine sI ?_; try with_reducible exact True.intro)
    (intros; try refine go_st ?_); refine go_c ?_; (refine sI ?_; try with_reducible exact True.intro)
    exact hb5 _ _ _ fun h => by exact rng_f h9 h.2.1.2.2
  have h9 := rng_t h9
  have w3 : IntKind.i64.wrap (x.seq + (x.last - x.base)) = x.seq + (x.last - x.base) := by rw [w64_id] <;> omega
  (refine sJ @w3 ?_; try with_reducible exact True.intro)
  (intros; try refine go_st ?_); refine go_c ?_; (refine sI ?_; try with_reducible exact True.intro)
  refine gb (fun k1 => ?_) (fun k1 => ?_)
  · exact hb5 _ _ _ fun h => by have := of_decide_eq_true k1; have := h.2.2.1.2.2.2; omega
  have k1 := of_decide_eq_false k1
  (repeat first | refine go_skip ?_ | refine go_b ?_)
  have hrest : ∀ (e : Env), (x.pid = -1 → x.gen = 0 ∧ x.seq = 0 ∧ x.txn = false ∧ x.ctl = 0) → (-1 ≤ x.pid ∧ x.pid ≤ 1099511627776) → e 3 = .int .i64 (x.last - x.base) →
      go none Try.prog 165 v65.1 v65.2 (retQ o65 fun v h => v = .bool (decide (Form x))) [Td.s (((SC.reg false c65r8).seq (SC.cond (O.t 108) ((SC.reg false c65r9).seq SC.ret) SC.skip)).seq ((SC.reg false c65r10).seq (((SC.reg false c65r11).seq (SC.blk 0 ((SC.reg false c65r12).seq ((SC.cond (O.t 143) SC.skip (SC.exit 0)).seq ((SC.blk 1 ((SC.reg false c65r13).seq (((SC.reg false c65r14).seq (SC.cond (O.t 161) ((SC.reg false c65r15).seq SC.ret) SC.skip)).seq (SC.reg false c65r16)))).seq (SC.reg false c65r17)))).loop)).seq ((SC.reg false c65r18).seq SC.ret))))] e ⟨G, [.reg 1 [.int .i64 x.base, .int .i64 x.last, .int .i64 x.src, .int .i64 x.epoch, .int .i64 x.pid, .int .i64 x.gen, .int .i64 x.seq, .bool x.txn, .int .i64 x.ctl, .slice A x.recs.length c]], []⟩ := fun e hpid hpr e3 => by
    refine go_keep [3] ?_
    (refine sJ @e3 ?_; try with_reducible exact True.intro)
    have hmk : ((x.ctl = 0 ∧ rowF x.last x.base x.recs = true) ∨ ((x.ctl = 1 ∨ x.ctl = 2) ∧ x.last - x.base = 0 ∧ x.recs = [] ∧ x.txn = true)) → Form x := fun h => ⟨⟨rng_i h1, rng_i h2, rng_i h3⟩, ⟨rng_i h7, rng_i h8, rng_i h9⟩, ⟨by omega, by omega, by omega, by omega⟩, hpr, hpid, h⟩
    (intros; try refine go_st ?_); refine go_r 107 108 (by decide) ?_; (refine sJ c65r8.eq_1 ?_; try with_reducible exact True.intro)
    (intros; try refine go_st ?_); refine go_c ?_; (refine sI ?_; try with_reducible exact True.intro)
    refine gb (fun k2 => ?_) (fun k2 => ?_)
    · have k2 := of_decide_eq_true k2
      have hnf : ∀ (_ : ¬ ((x.ctl = 1 ∨ x.ctl = 2) ∧ x.last - x.base = 0 ∧ x.recs = [] ∧ x.txn = true)), decide (Form x) = false := fun hn => decide_eq_false fun h => by
        rcases h.2.2.2.2.2 with h9 | h9
        · exact k2 h9.1
        · exact hn h9
      have hp0 : 0 ≤ x.pid := by
        by_cases hp : x.pid = -1
        · exact absurd (hpid hp).2.2.2 k2
        · omega
      (intros; try refine go_st ?_); refine go_r 110 136 (by decide) ?_; (refine sJ c65r9.eq_1 ?_; try with_reducible exact True.intro)
      have hfin : ∀ (l : List SI), True := fun _ => trivial
      refine gd (fun k3 => ?_) (fun k3 => ?_)
      · have k3 := of_decide_eq_true k3
        (refine sI ?_; try with_reducible exact True.intro)
        refine gd (fun a1 => ?_) (fun a1 => ?_)
        · have a1 := of_decide_eq_true a1
          (refine sI ?_; try with_reducible exact True.intro)
          refine gd (fun a2 => ?_) (fun a2 => ?_)
          · have a2 : x.recs = [] := by have := of_decide_eq_true a2; exact List.eq_nil_of_length_eq_zero (by omega)
            (refine sI ?_; try with_reducible exact True.intro)
            refine gd (fun a3 => ?_) (fun a3 => ?_)
            · (refine sI ?_; try with_reducible exact True.intro)
              (intros; try refine go_st ?_)
              refine go_ret (retQ_v rfl ?_); simp only [push_cast, Nat.reduceBEq]
              rw [decide_eq_true hp0, decide_eq_true (hmk (.inr ⟨.inl k3, a1, a2, a3⟩))]
            · (refine sI ?_; try with_reducible exact True.intro)
              (intros; try refine go_st ?_)
              refine go_ret (retQ_v rfl ?_); simp only [push_cast, Nat.reduceBEq]
              rw [hnf fun h => by rw [a3] at h; cases h.2.2.2]
          · have a2 := of_decide_eq_false a2
            (refine sI ?_; try with_reducible exact True.intro)
            (intros; try refine go_st ?_)
            refine go_ret (retQ_v rfl ?_); simp only [push_cast, Nat.reduceBEq]
            rw [hnf fun h => a2 (by rw [h.2.2.1]; rfl)]
        · have a1 := of_decide_eq_false a1
          (refine sI ?_; try with_reducible exact True.intro)
          (intros; try refine go_st ?_)
          refine go_ret (retQ_v rfl ?_); simp only [push_cast, Nat.reduceBEq]
          rw [hnf fun h => a1 h.2.1]
      · have k3 := of_decide_eq_false k3
        (refine sI ?_; try with_reducible exact True.intro)
        refine gd (fun k4 => ?_) (fun k4 => ?_)
        · have k4 := of_decide_eq_true k4
          (refine sI ?_; try with_reducible exact True.intro)
          refine gd (fun a1 => ?_) (fun a1 => ?_)
          · have a1 := of_decide_eq_true a1
            (refine sI ?_; try with_reducible exact True.intro)
            refine gd (fun a2 => ?_) (fun a2 => ?_)
            · have a2 : x.recs = [] := by have := of_decide_eq_true a2; exact List.eq_nil_of_length_eq_zero (by omega)
              (refine sI ?_; try with_reducible exact True.intro)
              refine gd (fun a3 => ?_) (fun a3 => ?_)
              · (refine sI ?_; try with_reducible exact True.intro)
                (intros; try refine go_st ?_)
                refine go_ret (retQ_v rfl ?_); simp only [push_cast, Nat.reduceBEq]
                rw [decide_eq_true hp0, decide_eq_true (hmk (.inr ⟨.inr k4, a1, a2, a3⟩))]
              · (refine sI ?_; try with_reducible exact True.intro)
                (intros; try refine go_st ?_)
                refine go_ret (retQ_v rfl ?_); simp only [push_cast, Nat.reduceBEq]
                rw [hnf fun h => by rw [a3] at h; cases h.2.2.2]
            · have a2 := of_decide_eq_false a2
              (refine sI ?_; try with_reducible exact True.intro)
              (intros; try refine go_st ?_)
              refine go_ret (retQ_v rfl ?_); simp only [push_cast, Nat.reduceBEq]
              rw [hnf fun h => a2 (by rw [h.2.2.1]; rfl)]
          · have a1 := of_decide_eq_false a1
            (refine sI ?_; try with_reducible exact True.intro)
            (intros; try refine go_st ?_)
            refine go_ret (retQ_v rfl ?_); simp only [push_cast, Nat.reduceBEq]
            rw [hnf fun h => a1 h.2.1]
        · have k4 := of_decide_eq_false k4
          (refine sI ?_; try with_reducible exact True.intro)
          (intros; try refine go_st ?_)
          refine go_ret (retQ_v rfl ?_); simp only [push_cast, Nat.reduceBEq]
          rw [hnf fun h => by rcases h.1 with h | h; exact k3 h; exact k4 h]
    · have k2 : x.ctl = 0 := by simpa using k2
      have w4 : IntKind.i64.wrap (x.base - 1) = x.base - 1 := by rw [w64_id] <;> omega
      (repeat first | refine go_skip ?_ | refine go_b ?_)
      (intros; try refine go_st ?_); refine go_r 137 139 (by decide) ?_; (refine sJ2 c65r10.eq_1 @w4 ?_; try with_reducible exact True.intro)
      (intros; try refine go_st ?_); refine go_r 0 0 (by decide) ?_; (refine sJ c65r11.eq_1 ?_; try with_reducible exact True.intro)
      (intros; try refine go_st ?_)
      refine go_loop (fun e h => ∃ (k : Nat) (nx : Int), (k ≤ x.recs.length ∧ rowF x.last x.base x.recs = rowF x.last nx (x.recs.drop k)) ∧ e 142 = .int .i64 k ∧ e 141 = .int .i64 x.recs.length ∧ e 140 = .slice A x.recs.length c ∧ e 4 = .int .i64 (nx - 1) ∧ h.G = G ∧ h.D = [] ∧ [.reg 1 [.int .i64 x.base, .int .i64 x.last, .int .i64 x.src, .int .i64 x.epoch, .int .i64 x.pid, .int .i64 x.gen, .int .i64 x.seq, .bool x.txn, .int .i64 x.ctl, .slice A x.recs.length c]].Sublist h.L) (fun e h => x.recs.length - iv (e 142)) ?_ ?_
      · exact ⟨0, x.base, ⟨Nat.zero_le _, rfl⟩, eE, eE, eE, eE, rfl, rfl, List.Sublist.refl _⟩
      · rintro e ⟨G', L, D⟩ ⟨k, nx, ⟨hk, hrow⟩, e142, e141, e140, e4, hG, hD, hL⟩
        dsimp only at hG hD hL
        subst hG hD
        refine go_ghost (ghost_sub hL) ?_
        refine go_keep [4, 140, 141, 142] ?_
        (refine sJ4 @e4 @e140 @e141 @e142 ?_; try with_reducible exact True.intro)
        (intros; try refine go_st ?_); refine go_r 0 0 (by decide) ?_; (refine sJ c65r12.eq_1 ?_; try with_reducible exact True.intro)
        (intros; try refine go_st ?_); refine go_c ?_; (refine sI ?_; try with_reducible exact True.intro)
        refine gb (fun ht => ?_) (fun ht => ?_)
        · have hkl : k < x.recs.length := by simpa using ht
          have hw3 := inc_i k c (by omega) hm
          obtain ⟨r, hr⟩ : ∃ r, x.recs[k]? = some r := ⟨x.recs[k], List.getElem?_eq_getElem (by omega)⟩
          have hdr : x.recs.drop k = r :: x.recs.drop (k + 1) := by
            have := List.getElem?_eq_some_iff.1 hr
            rw [List.drop_eq_getElem_cons hkl, this.2]
          rw [hdr] at hrow
          simp only [rowF] at hrow
          have hno : rowF x.last x.base x.recs = false → ¬ Form x := fun h h' => by
            rcases h'.2.2.2.2.2 with h9 | h9
            · rw [h] at h9; cases h9.2
            · omega
          (intros; try refine go_st ?_); refine go_r 144 146 (by decide) ?_; (refine sJ c65r13.eq_1 ?_; try with_reducible exact True.intro)
          refine hA.x_ld hr rfl rfl ?_
          rintro a1 ha1 cs ⟨rfl, ⟨j1, j2⟩, j3, j4⟩
          unfold cellR
          (refine sI ?_; try with_reducible exact True.intro)
          have hck := RCheck_ok r
          unfold cellR at hck
          (intros; try refine go_st ?_); refine go_r 146 161 (by decide) ?_; (refine sJ c65r14.eq_1 ?_; try with_reducible exact True.intro)
          refine (hck G' _ _).mono ?_; rintro _ _ ⟨rfl, rfl⟩; (refine sI ?_; try with_reducible exact True.intro)
          refine gd (fun k3 => ?_) (fun k3 => ?_)
          · (refine sI ?_; try with_reducible exact True.intro)
            (intros; try refine go_st ?_); refine go_c ?_; (refine sI ?_; try with_reducible exact True.intro)
            exact hb15 _ _ _ (hno (by rw [hrow]; simp at k3; simp [k3]))
          have k3 : chkR r = 0 := by simpa using k3
          (refine sI ?_; try with_reducible exact True.intro)
          refine gd (fun k4 => ?_) (fun k4 => ?_)
          · (refine sI ?_; try with_reducible exact True.intro)
            (intros; try refine go_st ?_); refine go_c ?_; (refine sI ?_; try with_reducible exact True.intro)
            exact hb15 _ _ _ (hno (by rw [hrow]; have := of_decide_eq_true k4; simp; omega))
          have k4 := of_decide_eq_false k4
          (refine sI ?_; try with_reducible exact True.intro)
          (intros; try refine go_st ?_); refine go_c ?_; (refine sI ?_; try with_reducible exact True.intro)
          refine gb (fun k5 => ?_) (fun k5 => ?_)
          · exact hb15 _ _ _ (hno (by rw [hrow]; have := of_decide_eq_true k5; simp; omega))
          have k5 := of_decide_eq_false k5
          have hoff : r.off = r.off + 1 - 1 := by omega
          (repeat first | refine go_skip ?_ | refine go_b ?_)
          (intros; try refine go_st ?_); refine go_r 163 164 (by decide) ?_; (refine sJ c65r16.eq_1 ?_; try with_reducible exact True.intro)
          (intros; try refine go_st ?_); refine go_r 164 165 (by decide) ?_; (refine sJ2 c65r17.eq_1 @hw3 ?_; try with_reducible exact True.intro)
          (intros; try refine go_st ?_)
          refine go_l ⟨⟨k + 1, r.off + 1, ⟨by omega, by rw [hrow]; simp [k3]; omega⟩, eE, eE, eE, by rw [← hoff]; (refine sI ?_; try with_reducible exact True.intro), rfl, rfl, .cons _ (List.Sublist.refl _)⟩, ?_⟩
          (refine sI ?_; try with_reducible exact True.intro)
          omega
        · have hkl : k = x.recs.length := by simp at ht; omega
          subst hkl
          refine go_exit ?_
          (refine sI ?_; try with_reducible exact True.intro)
          (intros; try refine go_st ?_); refine go_r 0 0 (by decide) ?_; (refine sJ c65r18.eq_1 ?_; try with_reducible exact True.intro)
          (intros; try refine go_st ?_)
          refine go_ret (retQ_v rfl ?_); simp only [push_cast, Nat.reduceBEq]
          rw [List.drop_length] at hrow
          rw [decide_eq_true (hmk (.inl ⟨k2, hrow⟩))]
  (intros; try refine go_st ?_); refine go_r 74 105 (by decide) ?_; (refine sJ c65r6.eq_1 ?_; try with_reducible exact True.intro)
  refine gd (fun q1 => ?_) (fun q1 => ?_)
  · have q1 := of_decide_eq_true q1
    (refine sI ?_; try with_reducible exact True.intro)
    refine gd (fun q2 => ?_) (fun q2 => ?_)
    · (refine sI ?_; try with_reducible exact True.intro)
      (intros; try refine go_st ?_); refine go_c ?_; (refine sI ?_; try with_reducible exact True.intro)
      exact hb7 _ _ _ fun h => by have := of_decide_eq_true q2; exact this (h.2.2.2.2.1 q1).1
    have q2 := of_decide_eq_false q2
    (refine sI ?_; try with_reducible exact True.intro)
    refine gd (fun q3 => ?_) (fun q3 => ?_)
    · (refine sI ?_; try with_reducible exact True.intro)
      (intros; try refine go_st ?_); refine go_c ?_; (refine sI ?_; try with_reducible exact True.intro)
      exact hb7 _ _ _ fun h => by have := of_decide_eq_true q3; exact this (h.2.2.2.2.1 q1).2.1
    have q3 := of_decide_eq_false q3
    (refine sI ?_; try with_reducible exact True.intro)
    refine gd (fun q4 => ?_) (fun q4 => ?_)
    · (refine sI ?_; try with_reducible exact True.intro)
      (intros; try refine go_st ?_); refine go_c ?_; (refine sI ?_; try with_reducible exact True.intro)
      exact hb7 _ _ _ fun h => by have := (h.2.2.2.2.1 q1).2.2.1; rw [q4] at this; cases this
    (refine sI ?_; try with_reducible exact True.intro)
    refine gd (fun q5 => ?_) (fun q5 => ?_)
    · (refine sI ?_; try with_reducible exact True.intro)
      (intros; try refine go_st ?_); refine go_c ?_; (refine sI ?_; try with_reducible exact True.intro)
      exact hb7 _ _ _ fun h => by have := of_decide_eq_true q5; exact this (h.2.2.2.2.1 q1).2.2.2
    have q5 := of_decide_eq_false q5
    (refine sI ?_; try with_reducible exact True.intro)
    refine gd (fun q6 => ?_) (fun q6 => ?_)
    · exact absurd q1 (of_decide_eq_true q6)
    (refine sI ?_; try with_reducible exact True.intro)
    (intros; try refine go_st ?_); refine go_c ?_; (refine sI ?_; try with_reducible exact True.intro)
    (repeat first | refine go_skip ?_ | refine go_b ?_)
    refine hrest _ (fun _ => ⟨by omega, by omega, q4, by omega⟩) (by omega) ?_
    (refine sI ?_; try with_reducible exact True.intro)
  · have q1 := of_decide_eq_false q1
    (refine sI ?_; try with_reducible exact True.intro)
    refine gd (fun q6 => ?_) (fun q6 => ?_)
    · (refine sI ?_; try with_reducible exact True.intro)
      refine (rin_ok x.pid _ G _ _).mono ?_; rintro _ _ ⟨rfl, rfl⟩; (refine sI ?_; try with_reducible exact True.intro)
      (intros; try refine go_st ?_); refine go_c ?_; (refine sI ?_; try with_reducible exact True.intro)
      refine gb (fun q7 => ?_) (fun q7 => ?_)
      · refine hb7 _ _ _ fun h => rng_f q7 (rng_i ?_)
        have := h.2.2.2.1
        omega
      have q7 := rng_t q7
      (repeat first | refine go_skip ?_ | refine go_b ?_)
      refine hrest _ (fun h => absurd h q1) (by omega) ?_
      (refine sI ?_; try with_reducible exact True.intro)
    · exact absurd (of_decide_eq_false q6) (by simpa using q1)
end Go.Proofs.Ytfhheomeebejnaa

/- Bytes, part 5 of a proof: a sum's steps. No condition. -/
set_option linter.unusedSimpArgs false
set_option linter.unusedVariables false
namespace Go.Proofs.Ytfhheomeebejnaa
open Go Go.Kx

abbrev W32 := BitVec 32
def vW (v : W32) : Value := .int .u32 (v.toNat : Int)
def poly : W32 := 3988292384#32
def stp (v : W32) : W32 := (v >>> 1) ^^^ (if v.getLsbD 0 = true then poly else 0#32)
def stpN : Nat → W32 → W32
  | 0, v => v
  | n + 1, v => stp (stpN n v)
theorem stp_xor (a b : W32) : stp (a ^^^ b) = stp a ^^^ stp b := by
  unfold stp
  rw [BitVec.ushiftRight_xor_distrib, BitVec.getLsbD_xor]
  generalize a >>> 1 = x
  generalize b >>> 1 = y
  cases a.getLsbD 0 <;> cases b.getLsbD 0 <;> simp
  · rw [BitVec.xor_assoc]
  · rw [BitVec.xor_assoc, BitVec.xor_assoc, BitVec.xor_comm poly y]
  · rw [BitVec.xor_assoc, BitVec.xor_comm poly (y ^^^ poly), BitVec.xor_assoc, BitVec.xor_self, BitVec.xor_zero]
theorem stpN_xor (a b : W32) : ∀ n, stpN n (a ^^^ b) = stpN n a ^^^ stpN n b
  | 0 => rfl
  | n + 1 => by rw [stpN, stpN_xor a b n, stp_xor]; rfl
theorem stp_even {v : W32} (h : v.getLsbD 0 = false) : stp v = v >>> 1 := by rw [stp, if_neg (by rw [h]; simp), BitVec.xor_zero]
theorem stpN_low {v : W32} : ∀ n, (∀ i, i < n → v.getLsbD i = false) → stpN n v = v >>> n
  | 0, _ => by simp [stpN]
  | n + 1, h => by
    rw [stpN, stpN_low n fun i hi => h i (by omega), stp_even (by rw [BitVec.getLsbD_ushiftRight]; exact h _ (by omega))]
    rw [BitVec.shiftRight_add]
theorem stp_four (v : W32) : stpN 4 v = stpN 4 (v &&& 15#32) ^^^ (v >>> 4) := by
  have h1 : v = (v &&& 15#32) ^^^ (v &&& ~~~15#32) := by
    apply BitVec.eq_of_getLsbD_eq
    intro i hi
    simp only [BitVec.getLsbD_xor, BitVec.getLsbD_and, BitVec.getLsbD_not]
    cases v.getLsbD i <;> cases (15#32).getLsbD i <;> simp [hi]
  have h2 : stpN 4 (v &&& ~~~15#32) = v >>> 4 := by
    rw [stpN_low 4]
    · apply BitVec.eq_of_getLsbD_eq
      intro i hi
      simp only [BitVec.getLsbD_ushiftRight, BitVec.getLsbD_and, BitVec.getLsbD_not]
      by_cases h : 4 + i < 32
      · have : (15#32).getLsbD (4 + i) = false := by
          rw [BitVec.getLsbD_ofNat]
          have : Nat.testBit 15 (4 + i) = false := Nat.testBit_lt_two_pow (Nat.lt_of_lt_of_le (by decide : 15 < 2 ^ 4) (Nat.pow_le_pow_right (by decide) (by omega)))
          simp [this]
        rw [this]
        simp only [h, decide_true, Bool.not_false, Bool.and_true]
      · rw [BitVec.getLsbD_of_ge v (4 + i) (by omega)]
        simp
    · intro i hi
      have : (15#32).getLsbD i = true := by
        match i, hi with
        | 0, _ => rfl
        | 1, _ => rfl
        | 2, _ => rfl
        | 3, _ => rfl
      rw [BitVec.getLsbD_and, BitVec.getLsbD_not, this]
      simp
  conv => lhs; rw [h1, stpN_xor, h2]
theorem stpN_add (v : W32) : ∀ m n, stpN (m + n) v = stpN m (stpN n v)
  | 0, n => by rw [Nat.zero_add]; rfl
  | m + 1, n => by rw [Nat.succ_add, stpN, stpN_add v m n]; rfl
def ofB (b : UInt8) : W32 := BitVec.ofNat 32 b.toNat
/-- One byte. -/
def upd (v : W32) (c : UInt8) : W32 := stpN 8 (v ^^^ ofB c)
def half4 (v : W32) : W32 := stpN 4 (v &&& 15#32) ^^^ (v >>> 4)
theorem upd_eq (v : W32) (c : UInt8) : upd v c = half4 (half4 (v ^^^ ofB c)) := by
  rw [half4, ← stp_four, half4, ← stp_four, ← stpN_add]
  rfl
/-- A sum. -/
def crcB (l : List UInt8) : W32 := ~~~ (l.foldl upd 4294967295#32)
/-! The operations. -/
theorem ofW (a : W32) : BitVec.ofInt 32 (a.toNat : Int) = a := by
  rw [BitVec.ofInt_natCast, BitVec.ofNat_toNat]
  simp
theorem wrapW (a : W32) : IntKind.u32.wrap (a.toNat : Int) = (a.toNat : Int) := by
  have := a.isLt
  simp only [IntKind.wrap, IntKind.bits, IntKind.signed]
  simp
  omega
theorem bin_xorW (a b : W32) : binV .xor (vW a) (vW b) = some (vW (a ^^^ b)) := by
  simp only [binV, vW]
  rw [if_pos trivial]
  have : (BitVec.ofInt IntKind.u32.bits (a.toNat : Int) ^^^ BitVec.ofInt IntKind.u32.bits (b.toNat : Int)).toNat = (a ^^^ b).toNat := by
    show (BitVec.ofInt 32 (a.toNat : Int) ^^^ BitVec.ofInt 32 (b.toNat : Int)).toNat = _
    rw [ofW, ofW]
  rw [this, wrapW]
theorem bin_andW (a b : W32) : binV .and (vW a) (vW b) = some (vW (a &&& b)) := by
  simp only [binV, vW]
  rw [if_pos trivial]
  have : (BitVec.ofInt IntKind.u32.bits (a.toNat : Int) &&& BitVec.ofInt IntKind.u32.bits (b.toNat : Int)).toNat = (a &&& b).toNat := by
    show (BitVec.ofInt 32 (a.toNat : Int) &&& BitVec.ofInt 32 (b.toNat : Int)).toNat = _
    rw [ofW, ofW]
  rw [this, wrapW]
theorem bin_shrW (a : W32) (k : Nat) (hk : k ≤ 32) : binV .shr (vW a) (.int .u64 (k : Int)) = some (vW (a >>> k)) := by
  simp only [binV, vW]
  rw [if_pos (by omega)]
  congr 2
  have h1 : min ((k : Int)).toNat IntKind.u32.bits = k := by simp [IntKind.bits]; omega
  rw [h1, BitVec.toNat_ushiftRight, Nat.shiftRight_eq_div_pow]
  rw [Int.fdiv_eq_ediv_of_nonneg _ (by exact_mod_cast Nat.zero_le _)]
  exact_mod_cast rfl
theorem u8_32 (c : UInt8) : Value.int .u32 (IntKind.u32.wrap (c.toNat : Int)) = vW (ofB c) := by
  have h := c.toNat_lt
  have h2 : (ofB c).toNat = c.toNat := by simp [ofB]
  have := wrapW (ofB c)
  rw [h2] at this
  rw [vW, h2, this]
theorem F102 : Fun Try.prog 102 14 v102 c102 o102 := Fun.mk' Try.func102 Try.ntmps102 (by kernel_rfl) (by kernel_rfl) s102 q102
theorem F101 : Fun Try.prog 101 11 v101 c101 o101 := Fun.mk' Try.func101 Try.ntmps101 (by kernel_rfl) (by kernel_rfl) s101 q101
theorem F90 : Fun Try.prog 90 14 v90 c90 o90 := Fun.mk' Try.func90 Try.ntmps90 (by kernel_rfl) (by kernel_rfl) s90 q90
theorem bit0 (v : W32) : v.getLsbD 0 = true ↔ v.toNat % 2 = 1 := by
  rw [BitVec.getLsbD, Nat.testBit_zero]
  simp
theorem bin_quoW2 (v : W32) : binV .quo (vW v) (.int .u32 2) = some (vW (v >>> 1)) := by
  have h := v.isLt
  refine (bin_quo .u32 v.toNat 2 (by decide) (by simp [IntKind.max, IntKind.signed, IntKind.bits]; omega) rfl).trans ?_
  rw [vW, BitVec.toNat_ushiftRight, Nat.shiftRight_eq_div_pow]
theorem bin_remW2 (v : W32) : binV .rem (vW v) (.int .u32 2) = some (.int .u32 ((v.toNat % 2 : Nat) : Int)) := bin_rem .u32 v.toNat 2 (by decide)
theorem bin_xorP (v : W32) : binV .xor (vW v) (.int .u32 3988292384) = some (vW (v ^^^ poly)) := bin_xorW v poly
theorem bin_eql1 (n : Nat) : binV .eql (.int .u32 (n : Int)) (.int .u32 1) = some (.bool (decide (n = 1))) := by
  simp only [binV]
  rw [if_pos trivial]
  congr 2
  simp
  omega
theorem step_ok (v : W32) (G : Nat → Option Obj) : FnS Try.prog 101 #[vW v] G (vW (stp v)) := by
  refine F101.fnS (by simp) (go_of ?_)
  unfold c101
  (intros; try refine go_st ?_); refine go_r 0 0 (by decide) ?_; (refine sJ c101r0.eq_1 ?_; try with_reducible exact True.intro)
  have hr := bin_remW2 v
  generalize hn : v.toNat % 2 = n at hr
  (intros; try refine go_st ?_); refine go_r 3 5 (by decide) ?_; (refine sJ3 c101r1.eq_1 @hr @bin_eql1 ?_; try with_reducible exact True.intro)
  (intros; try refine go_st ?_); refine go_c ?_; (refine sI ?_; try with_reducible exact True.intro)
  refine gb (fun h1 => ?_) (fun h1 => ?_)
  · (intros; try refine go_st ?_); refine go_r 6 9 (by decide) ?_; (refine sJ3 c101r2.eq_1 @bin_quoW2 @bin_xorP ?_; try with_reducible exact True.intro)
    (intros; try refine go_st ?_)
    refine go_ret (retQ_v rfl ?_); simp only [push_cast, Nat.reduceBEq]
    rw [stp, if_pos ((bit0 v).2 (by rw [hn]; simpa using h1))]
  · (repeat first | refine go_skip ?_ | refine go_b ?_)
    (intros; try refine go_st ?_); refine go_r 9 11 (by decide) ?_; (refine sJ2 c101r3.eq_1 @bin_quoW2 ?_; try with_reducible exact True.intro)
    (intros; try refine go_st ?_)
    refine go_ret (retQ_v rfl ?_); simp only [push_cast, Nat.reduceBEq]
    rw [stp, if_neg (fun h => by have := (bit0 v).1 h; rw [hn] at this; simp [this] at h1), BitVec.xor_zero]
theorem steps_ok (v : W32) (n : Nat) (hn : n ≤ 1000) (G : Nat → Option Obj) : FnS Try.prog 90 #[vW v, .int .i64 (n : Int)] G (vW (stpN n v)) := by
  refine F90.fnS (by simp) (go_of ?_)
  unfold c90
  (intros; try refine go_st ?_); refine go_r 0 0 (by decide) ?_; (refine sJ c90r0.eq_1 ?_; try with_reducible exact True.intro)
  (intros; try refine go_st ?_); refine go_r 0 0 (by decide) ?_; (refine sJ c90r1.eq_1 ?_; try with_reducible exact True.intro)
  (intros; try refine go_st ?_)
  refine go_loop (fun e h => ∃ k : Nat, k ≤ n ∧ e 5 = .int .i64 k ∧ e 1 = .int .i64 n ∧ e 0 = vW (stpN k v) ∧ h = ⟨G, [], []⟩) (fun e h => n - iv (e 5)) ?_ ?_
  · exact ⟨0, Nat.zero_le _, eE, eE, by (refine sI ?_; try with_reducible exact True.intro); rfl, rfl⟩
  · rintro e h ⟨k, hk, e5, e1, e0, rfl⟩
    refine go_keep [0, 1, 5] ?_
    (refine sJ3 @e0 @e1 @e5 ?_; try with_reducible exact True.intro)
    (intros; try refine go_st ?_); refine go_r 6 8 (by decide) ?_; (refine sJ c90r2.eq_1 ?_; try with_reducible exact True.intro)
    (intros; try refine go_st ?_); refine go_c ?_; (refine sI ?_; try with_reducible exact True.intro)
    refine gb (fun h1 => ?_) (fun h1 => ?_)
    · have hkn : k < n := by simpa using h1
      have hw3 := inc_i k n (by omega) (by unfold maxLen; omega)
      (intros; try refine go_st ?_); refine go_r 11 13 (by decide) ?_; (refine sJ c90r3.eq_1 ?_; try with_reducible exact True.intro)
      refine (step_ok (stpN k v) G _ _).mono ?_; rintro _ _ ⟨rfl, rfl⟩; (refine sI ?_; try with_reducible exact True.intro)
      (intros; try refine go_st ?_); refine go_r 9 11 (by decide) ?_; (refine sJ2 c90r4.eq_1 @hw3 ?_; try with_reducible exact True.intro)
      (intros; try refine go_st ?_)
      refine go_l ⟨⟨k + 1, by omega, eE, eE, by (refine sI ?_; try with_reducible exact True.intro); rfl, rfl⟩, ?_⟩
      (refine sI ?_; try with_reducible exact True.intro)
      omega
    · have hkn : k = n := by simp at h1; omega
      subst hkn
      refine go_exit ?_
      (refine sI ?_; try with_reducible exact True.intro)
      (intros; try refine go_st ?_); refine go_r 13 14 (by decide) ?_; (refine sJ c90r5.eq_1 ?_; try with_reducible exact True.intro)
      (intros; try refine go_st ?_)
      refine go_ret (retQ_v rfl ?_); simp only [push_cast, Nat.reduceBEq]
end Go.Proofs.Ytfhheomeebejnaa

/- Bytes, part 6 of a proof: sums. No condition. -/
set_option linter.unusedSimpArgs false
set_option linter.unusedVariables false
namespace Go.Proofs.Ytfhheomeebejnaa
open Go Go.Kx
theorem F93 : Fun Try.prog 93 13 v93 c93 o93 := Fun.mk' Try.func93 Try.ntmps93 (by kernel_rfl) (by kernel_rfl) s93 q93
theorem F103 : Fun Try.prog 103 24 v103 c103 o103 := Fun.mk' Try.func103 Try.ntmps103 (by kernel_rfl) (by kernel_rfl) s103 q103
theorem F81 : Fun Try.prog 81 21 v81 c81 o81 := Fun.mk' Try.func81 Try.ntmps81 (by kernel_rfl) (by kernel_rfl) s81 q81
theorem F74 : Fun Try.prog 74 21 v74 c74 o74 := Fun.mk' Try.func74 Try.ntmps74 (by kernel_rfl) (by kernel_rfl) s74 q74

theorem bin_and1 (v : W32) : binV .and (vW v) (.int .u32 1) = some (vW (v &&& 1#32)) := bin_andW v 1#32
theorem bin_and15 (v : W32) : binV .and (vW v) (.int .u32 15) = some (vW (v &&& 15#32)) := bin_andW v 15#32
theorem bin_Pand (v : W32) : binV .and (.int .u32 3988292384) (vW v) = some (vW (poly &&& v)) := bin_andW poly v
theorem bin_shr1 (v : W32) : binV .shr (vW v) (.int .u64 1) = some (vW (v >>> 1)) := bin_shrW v 1 (by omega)
theorem bin_shr4 (v : W32) : binV .shr (vW v) (.int .u64 4) = some (vW (v >>> 4)) := bin_shrW v 4 (by omega)
theorem un_negW (v : W32) : unV .neg (vW v) = some (vW (-v)) := by
  have := v.isLt
  simp only [unV, vW]
  congr 2
  rw [BitVec.toNat_neg]
  simp only [IntKind.wrap, IntKind.bits, IntKind.signed]
  simp
  omega
theorem un_notW (v : W32) : unV .xor (vW v) = some (vW (~~~v)) := by
  simp only [unV, vW]
  have : (BitVec.ofInt IntKind.u32.bits (if IntKind.u32.signed = true then -1 else IntKind.u32.max) ^^^ BitVec.ofInt IntKind.u32.bits (v.toNat : Int)).toNat = (~~~v).toNat := by
    show (BitVec.ofInt 32 4294967295 ^^^ BitVec.ofInt 32 (v.toNat : Int)).toNat = _
    have h1 : BitVec.ofInt 32 4294967295 = BitVec.allOnes 32 := by decide
    rw [ofW, h1, BitVec.allOnes_xor]
  rw [this, wrapW]
theorem bin_notW (v : W32) : binV .xor (vW v) (.int .u32 4294967295) = some (vW (~~~v)) := by
  have h := bin_xorW v 4294967295#32
  have h1 : (4294967295#32 : W32) = BitVec.allOnes 32 := by decide
  rw [h1, BitVec.xor_allOnes] at h
  exact h
theorem stp_and (v : W32) : (v >>> 1) ^^^ (poly &&& -(v &&& 1#32)) = stp v := by
  have h1 : v &&& 1#32 = if v.getLsbD 0 = true then 1#32 else 0#32 := by
    apply BitVec.eq_of_toNat_eq
    rw [BitVec.toNat_and]
    have : (1#32).toNat = 1 := rfl
    rw [this, Nat.and_one_is_mod]
    by_cases h : v.getLsbD 0 = true
    · rw [if_pos h, (bit0 v).1 h]; rfl
    · rw [if_neg h]
      have h3 : ¬ v.toNat % 2 = 1 := fun h9 => h ((bit0 v).2 h9)
      have h2 : v.toNat % 2 = 0 := by omega
      rw [h2]
      rfl
  rw [h1, stp]
  by_cases h : v.getLsbD 0 = true
  · rw [if_pos h, if_pos h]
    have : poly &&& -1#32 = poly := by decide
    rw [this]
  · rw [if_neg h, if_neg h]
    have : poly &&& -0#32 = 0#32 := by decide
    rw [this]
theorem half_ok (v : W32) (G : Nat → Option Obj) : FnS Try.prog 102 #[vW v] G (vW (stpN 4 v)) := by
  refine F102.fnS (by simp) (go_of ?_)
  unfold c102
  (intros; try refine go_st ?_); refine go_r 0 0 (by decide) ?_; (refine sJ c102r0.eq_1 ?_; try with_reducible exact True.intro)
  (intros; try refine go_st ?_); refine go_r 0 0 (by decide) ?_; (refine sJ c102r1.eq_1 ?_; try with_reducible exact True.intro)
  (intros; try refine go_st ?_)
  refine go_loop (fun e h => ∃ k : Nat, k ≤ 4 ∧ e 3 = .int .i64 k ∧ e 0 = vW (stpN k v) ∧ h = ⟨G, [], []⟩) (fun e h => 4 - iv (e 3)) ?_ ?_
  · exact ⟨0, Nat.zero_le _, eE, by (refine sI ?_; try with_reducible exact True.intro); rfl, rfl⟩
  · rintro e h ⟨k, hk, e3, e0, rfl⟩
    refine go_keep [0, 3] ?_
    (refine sJ2 @e0 @e3 ?_; try with_reducible exact True.intro)
    (intros; try refine go_st ?_); refine go_r 0 0 (by decide) ?_; (refine sJ c102r2.eq_1 ?_; try with_reducible exact True.intro)
    (intros; try refine go_st ?_); refine go_c ?_; (refine sI ?_; try with_reducible exact True.intro)
    refine gb (fun h1 => ?_) (fun h1 => ?_)
    · have hkn : k < 4 := by simp at h1; omega
      have hw3 := inc_i k 4 (by omega) (by unfold maxLen; omega)
      (intros; try refine go_st ?_); refine go_r 5 12 (by decide) ?_; (refine sJ7 c102r3.eq_1 @bin_shr1 @bin_and1 @un_negW @bin_Pand @bin_xorW @stp_and ?_; try with_reducible exact True.intro)
      (intros; try refine go_st ?_); refine go_r 12 13 (by decide) ?_; (refine sJ2 c102r4.eq_1 @hw3 ?_; try with_reducible exact True.intro)
      (intros; try refine go_st ?_)
      refine go_l ⟨⟨k + 1, by omega, eE, by (refine sI ?_; try with_reducible exact True.intro); rfl, rfl⟩, ?_⟩
      (refine sI ?_; try with_reducible exact True.intro)
      omega
    · have hkn : k = 4 := by simp at h1; omega
      subst hkn
      refine go_exit ?_
      (refine sI ?_; try with_reducible exact True.intro)
      (intros; try refine go_st ?_); refine go_r 13 14 (by decide) ?_; (refine sJ c102r5.eq_1 ?_; try with_reducible exact True.intro)
      (intros; try refine go_st ?_)
      refine go_ret (retQ_v rfl ?_); simp only [push_cast, Nat.reduceBEq]
/-- The table. -/
def TabAt (G : Nat → Option Obj) (v : Value) : Prop := ∃ b, v = .pointer (some ⟨b, 0, none⟩) ∧ ∀ i : Nat, i < 16 → cellG G ⟨b, i, none⟩ = some (vW (stpN 4 (BitVec.ofNat 32 i)))
theorem TabAt.le {G G' : Nat → Option Obj} {v : Value} (h : TabAt G v) (hg : Gle G G') : TabAt G' v := by
  obtain ⟨b, h1, h2⟩ := h
  exact ⟨b, h1, fun i hi => cellG_le hg (h2 i hi)⟩
theorem and15 (v : W32) : (v &&& 15#32).toNat < 16 ∧ BitVec.ofNat 32 (v &&& 15#32).toNat = v &&& 15#32 := by
  refine ⟨?_, by simp⟩
  rw [BitVec.toNat_and]
  exact Nat.lt_of_le_of_lt Nat.and_le_right (by decide)
theorem ix_W {b n : Nat} {v : W32} (h : v.toNat < n) : ixPV n 1 (.pointer (some ⟨b, 0, none⟩)) (vW v) = some (.pointer (some ⟨b, v.toNat, none⟩)) := by
  simp only [ixPV, vW]
  rw [if_pos ⟨by omega, by omega⟩]
  simp [add_off]
theorem add_ok (v : W32) (c : UInt8) (p : Value) (G : Nat → Option Obj) (hp : TabAt G p) : FnS Try.prog 103 #[vW v, .int .u8 (c.toNat : Int), p] G (vW (upd v c)) := by
  obtain ⟨b, rfl, ht⟩ := hp
  refine F103.fnS (by simp) (go_of ?_)
  unfold c103
  (intros; try refine go_st ?_); refine go_r 0 0 (by decide) ?_; (refine sJ c103r0.eq_1 ?_; try with_reducible exact True.intro)
  (intros; try refine go_st ?_); refine go_r 6 10 (by decide) ?_; (refine sJ3 c103r1.eq_1 @u8_32 @bin_xorW ?_; try with_reducible exact True.intro)
  rw [upd_eq]
  generalize v ^^^ ofB c = x
  obtain ⟨g1, g2⟩ := and15 x
  (intros; try refine go_st ?_); refine go_r 10 17 (by decide) ?_; (try simp -implicitDefEqProofs only [kR_e, kQ_e, push_cast, Nat.reduceBEq, Nat.reduceAdd, Nat.reduceSub, Nat.reduceMul, Nat.reduceLT, Nat.reduceLeDiff, Nat.reduceEqDiff, reduceIte, Bool.not_true, Bool.not_false, true_and, and_true, Option.map_some, Option.bind_some, Int.toNat_natCast, c103r2, bin_and15, ix_W g1])
  refine ⟨_, ⟨_, rfl, .g (ht _ g1)⟩, ?_⟩
  rw [g2]
  (refine sJ2 @bin_shr4 @bin_xorW ?_; try with_reducible exact True.intro)
  rw [← half4]
  generalize half4 x = y
  obtain ⟨k1, k2⟩ := and15 y
  (intros; try refine go_st ?_); refine go_r 17 24 (by decide) ?_; (try simp -implicitDefEqProofs only [kR_e, kQ_e, push_cast, Nat.reduceBEq, Nat.reduceAdd, Nat.reduceSub, Nat.reduceMul, Nat.reduceLT, Nat.reduceLeDiff, Nat.reduceEqDiff, reduceIte, Bool.not_true, Bool.not_false, true_and, and_true, Option.map_some, Option.bind_some, Int.toNat_natCast, c103r3, bin_and15, ix_W k1])
  refine ⟨_, ⟨_, rfl, .g (ht _ k1)⟩, ?_⟩
  rw [k2]
  (refine sJ2 @bin_shr4 @bin_xorW ?_; try with_reducible exact True.intro)
  (intros; try refine go_st ?_)
  refine go_ret (retQ_v rfl ?_); simp only [push_cast, Nat.reduceBEq]
  rfl
theorem splice1 {cs : List Value} {o : Nat} (x : Value) (h : o < cs.length) : splice cs o [x] = cs.set o x := by
  rw [splice, List.set_eq_take_append_cons_drop, if_pos h]
  simp
theorem adder_ok (G : Nat → Option Obj) : FnD Try.prog 93 #[] G (fun G' r => ∃ p, r = .func (.func 103) #[] #[p] ∧ TabAt G' p) := by
  refine F93.fnD (by simp) (go_of ?_)
  unfold c93
  (intros; try refine go_st ?_); refine go_r 0 0 (by decide) ?_; (refine sJ c93r0.eq_1 ?_; try with_reducible exact True.intro)
  (intros; try refine go_st ?_); refine go_r 0 0 (by decide) ?_; (refine sJ c93r1.eq_1 ?_; try with_reducible exact True.intro)
  intro b hb
  (refine sI ?_; try with_reducible exact True.intro)
  (intros; try refine go_st ?_); refine go_r 0 0 (by decide) ?_; (refine sJ c93r2.eq_1 ?_; try with_reducible exact True.intro)
  (intros; try refine go_st ?_)
  refine go_loop (fun e h => ∃ (k : Nat) (cs : List Value), (k ≤ 16 ∧ cs.length = 16 ∧ ∀ i, i < k → cs[i]? = some (vW (stpN 4 (BitVec.ofNat 32 i)))) ∧ e 3 = .int .i64 k ∧ e 1 = .pointer (some ⟨b, 0, none⟩) ∧ h = ⟨G, [.blk b cs], []⟩) (fun e h => 16 - iv (e 3)) ?_ ?_
  · exact ⟨0, _, ⟨Nat.zero_le _, rfl, fun i hi => by omega⟩, eE, eE, rfl⟩
  · rintro e h ⟨k, cs, ⟨hk, hl, ht⟩, e3, e1, rfl⟩
    refine go_keep [1, 3] ?_
    (refine sJ2 @e1 @e3 ?_; try with_reducible exact True.intro)
    (intros; try refine go_st ?_); refine go_r 0 0 (by decide) ?_; (refine sJ c93r3.eq_1 ?_; try with_reducible exact True.intro)
    (intros; try refine go_st ?_); refine go_c ?_; (refine sI ?_; try with_reducible exact True.intro)
    refine gb (fun h1 => ?_) (fun h1 => ?_)
    · have hkn : k < 16 := by simp at h1; omega
      have hw3 := inc_i k 16 (by omega) (by unfold maxLen; omega)
      have hkw : Value.int .u32 (IntKind.u32.wrap (k : Int)) = vW (BitVec.ofNat 32 k) := by
        have h2 : (BitVec.ofNat 32 k).toNat = k := by simp; omega
        have := wrapW (BitVec.ofNat 32 k)
        rw [h2] at this
        rw [vW, h2, this]
      (intros; try refine go_st ?_); refine go_r 5 6 (by decide) ?_; (refine sJ c93r4.eq_1 ?_; try with_reducible exact True.intro)
      (intros; try refine go_st ?_); refine go_r 6 11 (by decide) ?_; (refine sJ2 c93r5.eq_1 @hkw ?_; try with_reducible exact True.intro)
      refine (half_ok (BitVec.ofNat 32 k) G _ _).mono ?_; rintro _ _ ⟨rfl, rfl⟩; (refine sI ?_; try with_reducible exact True.intro)
      refine ⟨by omega, ?_⟩
      refine stX_blk (xs := [vW (stpN 4 (BitVec.ofNat 32 k))]) [] [] rfl (by simp; omega) ⟨rfl, rfl⟩ ?_
      rw [splice1 _ (by omega), show 0 + k * 1 = k by omega]
      (refine sI ?_; try with_reducible exact True.intro)
      (intros; try refine go_st ?_); refine go_r 11 12 (by decide) ?_; (refine sJ2 c93r6.eq_1 @hw3 ?_; try with_reducible exact True.intro)
      (intros; try refine go_st ?_)
      refine go_l ⟨⟨k + 1, _, ⟨by omega, by simp [hl], fun i hi => ?_⟩, eE, eE, rfl⟩, ?_⟩
      · rw [List.getElem?_set]
        by_cases hik : k = i
        · rw [if_pos hik, if_pos (by omega), ← hik]
        · rw [if_neg hik]; exact ht i (by omega)
      · (refine sI ?_; try with_reducible exact True.intro)
        omega
    · have hkn : k = 16 := by simp at h1; omega
      subst hkn
      refine go_exit ?_
      (refine sI ?_; try with_reducible exact True.intro)
      (intros; try refine go_st ?_); refine go_r 12 13 (by decide) ?_; (refine sJ c93r7.eq_1 ?_; try with_reducible exact True.intro)
      (intros; try refine go_st ?_)
      refine go_gx (gx_blk_at [] []) ?_
      rintro h' ⟨G2, rfl, hg2, hc⟩
      refine go_ret (retQ_v rfl ?_); simp only [push_cast, Nat.reduceBEq]
      exact ⟨_, rfl, b, rfl, fun i hi => by simpa [add_off] using hc i _ (ht i hi)⟩
theorem fold_succ {l : List UInt8} {k : Nat} {x : UInt8} (hx : l[k]? = some x) (v : W32) : (l.take (k + 1)).foldl upd v = upd ((l.take k).foldl upd v) x := by
  have hk := List.getElem?_eq_some_iff.1 hx
  rw [List.take_succ_eq_append_getElem hk.1, hk.2]
  simp
theorem Sum_ok (l : List UInt8) (v : Value) (G : Nat → Option Obj) (hl : SB G v l) : FnD Try.prog 81 #[v] G (fun _ r => r = vW (crcB l)) := by
  refine F81.fnD (by simp) (go_of ?_)
  obtain ⟨A, c, rfl, hc, hm, hA⟩ := hl
  unfold c81
  (intros; try refine go_st ?_); refine go_r 0 0 (by decide) ?_; (refine sJ c81r0.eq_1 ?_; try with_reducible exact True.intro)
  (intros; try refine go_st ?_); refine go_r 7 8 (by decide) ?_; (refine sJ c81r1.eq_1 ?_; try with_reducible exact True.intro)
  refine (adder_ok G _ []).mono ?_
  rintro r h' ⟨G1, rfl, hg1, p, rfl, hp⟩
  (refine sI ?_; try with_reducible exact True.intro)
  have hA1 := hA.le hg1 (E' := UE) fun _ _ h => h
  (intros; try refine go_st ?_); refine go_r 0 0 (by decide) ?_; (refine sJ c81r2.eq_1 ?_; try with_reducible exact True.intro)
  (intros; try refine go_st ?_); refine go_r 0 0 (by decide) ?_; (refine sJ c81r3.eq_1 ?_; try with_reducible exact True.intro)
  (intros; try refine go_st ?_)
  refine go_loop (fun e h => ∃ k : Nat, k ≤ l.length ∧ e 10 = .int .i64 k ∧ e 9 = .int .i64 l.length ∧ e 8 = .slice A l.length c ∧ e 3 = .func (.func 103) #[] #[p] ∧ e 4 = vW ((l.take k).foldl upd 4294967295#32) ∧ h = ⟨G1, [], []⟩) (fun e h => l.length - iv (e 10)) ?_ ?_
  · exact ⟨0, Nat.zero_le _, eE, eE, eE, eE, by (refine sI ?_; try with_reducible exact True.intro); rfl, rfl⟩
  · rintro e h ⟨k, hk, e10, e9, e8, e3, e4, rfl⟩
    refine go_keep [3, 4, 8, 9, 10] ?_
    (refine sJ5 @e3 @e4 @e8 @e9 @e10 ?_; try with_reducible exact True.intro)
    (intros; try refine go_st ?_); refine go_r 0 0 (by decide) ?_; (refine sJ c81r4.eq_1 ?_; try with_reducible exact True.intro)
    (intros; try refine go_st ?_); refine go_c ?_; (refine sI ?_; try with_reducible exact True.intro)
    refine gb (fun h1 => ?_) (fun h1 => ?_)
    · have hkn : k < l.length := by simpa using h1
      have hw3 := inc_i k c (by omega) hm
      obtain ⟨x, hx⟩ : ∃ x, l[k]? = some x := ⟨l[k], List.getElem?_eq_getElem (by omega)⟩
      (intros; try refine go_st ?_); refine go_r 12 14 (by decide) ?_; (refine sJ c81r5.eq_1 ?_; try with_reducible exact True.intro)
      refine hA1.x_l1 hx rfl rfl ?_
      rintro a1 ha1 u1 hu
      cases hu
      (refine sI ?_; try with_reducible exact True.intro)
      (intros; try refine go_st ?_); refine go_r 14 18 (by decide) ?_; (refine sJ c81r6.eq_1 ?_; try with_reducible exact True.intro)
      refine .inl ⟨_, _, rfl, (add_ok _ x p G1 hp _ _).mono ?_⟩
      rintro _ _ ⟨rfl, rfl⟩
      (refine sI ?_; try with_reducible exact True.intro)
      (intros; try refine go_st ?_); refine go_r 18 19 (by decide) ?_; (refine sJ2 c81r7.eq_1 @hw3 ?_; try with_reducible exact True.intro)
      (intros; try refine go_st ?_)
      refine go_l ⟨⟨k + 1, by omega, eE, eE, eE, eE, by rw [fold_succ hx]; (refine sI ?_; try with_reducible exact True.intro), rfl⟩, ?_⟩
      (refine sI ?_; try with_reducible exact True.intro)
      omega
    · have hkn : k = l.length := by simp at h1; omega
      subst hkn
      refine go_exit ?_
      (refine sI ?_; try with_reducible exact True.intro)
      (intros; try refine go_st ?_); refine go_r 19 21 (by decide) ?_; (refine sJ2 c81r8.eq_1 @un_notW ?_; try with_reducible exact True.intro)
      (intros; try refine go_st ?_)
      refine go_ret (retQ_v rfl ?_); simp only [push_cast, Nat.reduceBEq]
      rw [List.take_length]
      rfl
theorem RSum_ok (l : List UInt8) (v : Value) (G : Nat → Option Obj) (hl : SB G v l) : FnS Try.prog 74 #[v] G (vW (crcB l)) := by
  refine F74.fnS (by simp) (go_of ?_)
  obtain ⟨A, c, rfl, hc, hm, hA⟩ := hl
  unfold c74
  (intros; try refine go_st ?_); refine go_r 0 0 (by decide) ?_; (refine sJ c74r0.eq_1 ?_; try with_reducible exact True.intro)
  (intros; try refine go_st ?_); refine go_r 0 0 (by decide) ?_; (refine sJ c74r1.eq_1 ?_; try with_reducible exact True.intro)
  (intros; try refine go_st ?_); refine go_r 0 0 (by decide) ?_; (refine sJ c74r2.eq_1 ?_; try with_reducible exact True.intro)
  (intros; try refine go_st ?_)
  refine go_loop (fun e h => ∃ k : Nat, k ≤ l.length ∧ e 4 = .int .i64 k ∧ e 0 = .slice A l.length c ∧ e 3 = vW ((l.take k).foldl upd 4294967295#32) ∧ h = ⟨G, [], []⟩) (fun e h => l.length - iv (e 4)) ?_ ?_
  · exact ⟨0, Nat.zero_le _, eE, eE, by (refine sI ?_; try with_reducible exact True.intro); rfl, rfl⟩
  · rintro e h ⟨k, hk, e4, e0, e3, rfl⟩
    refine go_keep [0, 3, 4] ?_
    (refine sJ3 @e0 @e3 @e4 ?_; try with_reducible exact True.intro)
    (intros; try refine go_st ?_); refine go_r 5 8 (by decide) ?_; (refine sJ c74r3.eq_1 ?_; try with_reducible exact True.intro)
    (intros; try refine go_st ?_); refine go_c ?_; (refine sI ?_; try with_reducible exact True.intro)
    refine gb (fun h1 => ?_) (fun h1 => ?_)
    · have hkn : k < l.length := by simpa using h1
      have hw3 := inc_i k c (by omega) hm
      obtain ⟨x, hx⟩ : ∃ x, l[k]? = some x := ⟨l[k], List.getElem?_eq_getElem (by omega)⟩
      (intros; try refine go_st ?_); refine go_r 11 19 (by decide) ?_; (refine sJ c74r4.eq_1 ?_; try with_reducible exact True.intro)
      refine hA.x_l1 hx rfl rfl ?_
      rintro a1 ha1 u1 hu
      cases hu
      (refine sJ2 @u8_32 @bin_xorW ?_; try with_reducible exact True.intro)
      refine (steps_ok _ 8 (by omega) G _ _).mono ?_; rintro _ _ ⟨rfl, rfl⟩; (refine sI ?_; try with_reducible exact True.intro)
      (intros; try refine go_st ?_); refine go_r 9 11 (by decide) ?_; (refine sJ2 c74r5.eq_1 @hw3 ?_; try with_reducible exact True.intro)
      (intros; try refine go_st ?_)
      refine go_l ⟨⟨k + 1, by omega, eE, eE, by rw [fold_succ hx]; (refine sI ?_; try with_reducible exact True.intro); rfl, rfl⟩, ?_⟩
      (refine sI ?_; try with_reducible exact True.intro)
      omega
    · have hkn : k = l.length := by simp at h1; omega
      subst hkn
      refine go_exit ?_
      (refine sI ?_; try with_reducible exact True.intro)
      (intros; try refine go_st ?_); refine go_r 19 21 (by decide) ?_; (refine sJ2 c74r6.eq_1 @bin_notW ?_; try with_reducible exact True.intro)
      (intros; try refine go_st ?_)
      refine go_ret (retQ_v rfl ?_); simp only [push_cast, Nat.reduceBEq]
      rw [List.take_length]
      rfl
end Go.Proofs.Ytfhheomeebejnaa

/- Bytes, part 7 of a proof: numbers of so many bytes, and seals. No condition. -/
set_option linter.unusedSimpArgs false
set_option linter.unusedVariables false
namespace Go.Proofs.Ytfhheomeebejnaa
open Go Go.Kx
theorem F64 : Fun Try.prog 64 33 v64 c64 o64 := Fun.mk' Try.func64 Try.ntmps64 (by kernel_rfl) (by kernel_rfl) s64 q64
theorem F69 : Fun Try.prog 69 41 v69 c69 o69 := Fun.mk' Try.func69 Try.ntmps69 (by kernel_rfl) (by kernel_rfl) s69 q69
theorem F73 : Fun Try.prog 73 15 v73 c73 o73 := Fun.mk' Try.func73 Try.ntmps73 (by kernel_rfl) (by kernel_rfl) s73 q73
theorem F63 : Fun Try.prog 63 9 v63 c63 o63 := Fun.mk' Try.func63 Try.ntmps63 (by kernel_rfl) (by kernel_rfl) s63 q63
theorem F68 : Fun Try.prog 68 10 v68 c68 o68 := Fun.mk' Try.func68 Try.ntmps68 (by kernel_rfl) (by kernel_rfl) s68 q68

/-- A number of so many bytes. -/
def putN (n k : Nat) : List UInt8 := (List.range k).map fun i => UInt8.ofNat (n / 256 ^ (k - 1 - i))
theorem putN_len (n k : Nat) : (putN n k).length = k := by simp [putN]
theorem putN_take {n k i : Nat} (h : i < k) : (putN n k).take (i + 1) = (putN n k).take i ++ [UInt8.ofNat (n / 256 ^ (k - 1 - i))] := by
  have hl : i < (putN n k).length := by rw [putN_len]; exact h
  rw [List.take_succ_eq_append_getElem hl]
  congr 2
  simp [putN]
def sealB (l : List UInt8) : List UInt8 := l ++ putN (crcB l).toNat 4
theorem bin_shrN (n s : Nat) (hs : s ≤ 64) : binV .shr (.int .u64 (n : Int)) (.int .i64 (s : Int)) = some (.int .u64 ((n / 2 ^ s : Nat) : Int)) := by
  simp only [binV]
  rw [if_pos (by omega)]
  congr 2
  have h1 : min ((s : Int)).toNat IntKind.u64.bits = s := by simp [IntKind.bits]; omega
  rw [h1, Int.fdiv_eq_ediv_of_nonneg _ (by exact_mod_cast Nat.zero_le _)]
  exact_mod_cast rfl
theorem OPut_ok (l : List UInt8) (n k : Nat) (hn : n < 18446744073709551616) (hk : 1 ≤ k ∧ k ≤ 8) (v : Value) (G : Nat → Option Obj) (hl : SB G v l) (hb : l.length ≤ 100000) :
    FnO Try.prog 64 #[v, .int .u64 (n : Int), .int .i64 (k : Int)] G [] (fun _ L' r => OwnB (l ++ putN n k) L' r) := by
  refine F64.fnO (by simp) noRegs_nil (go_of ?_)
  have hl0 := hl
  obtain ⟨A, c, rfl, hc, hm, hA⟩ := hl
  unfold c64
  (intros; try refine go_st ?_); refine go_r 0 0 (by decide) ?_; (refine sJ c64r0.eq_1 ?_; try with_reducible exact True.intro)
  (intros; try refine go_st ?_); refine go_r 9 11 (by decide) ?_; (refine sJ c64r1.eq_1 ?_; try with_reducible exact True.intro)
  refine (Clone_ok l _ G hl0 (by omega) _ []).mono ?_
  rintro r h' ⟨G1, L', rfl, hg1, ys, hys, rfl⟩
  (refine sI ?_; try with_reducible exact True.intro)
  (intros; try refine go_st ?_); refine go_r 11 16 (by decide) ?_; (refine sJ c64r2.eq_1 ?_; try with_reducible exact True.intro)
  refine gd (fun h1 => by simp at h1; omega) (fun h1 => ?_)
  (refine sI ?_; try with_reducible exact True.intro)
  (intros; try refine go_st ?_); refine go_c ?_; (refine sI ?_; try with_reducible exact True.intro)
  refine gb (fun h2 => by simp at h2; omega) (fun h2 => ?_)
  have w1 : IntKind.i64.wrap ((k : Int) - 1) = (k : Int) - 1 := by rw [w64_id] <;> omega
  have w2 : IntKind.i64.wrap (8 * ((k : Int) - 1)) = 8 * (k : Int) - 8 := by rw [w64_id] <;> omega
  (repeat first | refine go_skip ?_ | refine go_b ?_)
  (intros; try refine go_st ?_); refine go_r 18 21 (by decide) ?_; (refine sJ3 c64r4.eq_1 @w1 @w2 ?_; try with_reducible exact True.intro)
  (intros; try refine go_st ?_)
  refine go_loop (fun e h => ∃ (i : Nat) (zc : List Value) (u : Value), (i ≤ k ∧ Cells UE 1 (l ++ (putN n k).take i) zc) ∧ e 8 = .int .i64 (8 * (k : Int) - 8 - 8 * i) ∧ e 1 = .int .u64 (n : Int) ∧ e 7 = u ∧ h.G = G1 ∧ h.D = [] ∧ [Item.row u 5 1 (l ++ (putN n k).take i).length zc].Sublist h.L) (fun e h => iv1 (e 8)) ?_ ?_
  · exact ⟨0, ys, r, ⟨Nat.zero_le _, by simpa using hys⟩, by (refine sI ?_; try with_reducible exact True.intro); simp, eE, eE, rfl, rfl, by simp⟩
  · rintro e ⟨G', L, D⟩ ⟨i, zc, u, ⟨hi, hcs⟩, e8, e1, e7, hG, hD, hL⟩
    dsimp only at hG hD hL
    subst hG hD
    refine go_ghost (ghost_sub hL) ?_
    refine go_keep [1, 7, 8] ?_
    (refine sJ3 @e1 @e7 @e8 ?_; try with_reducible exact True.intro)
    (intros; try refine go_st ?_); refine go_r 21 22 (by decide) ?_; (refine sJ c64r5.eq_1 ?_; try with_reducible exact True.intro)
    (intros; try refine go_st ?_); refine go_c ?_; (refine sI ?_; try with_reducible exact True.intro)
    refine gb (fun ht => ?_) (fun ht => ?_)
    · have hik : i < k := by have := of_decide_eq_true ht; omega
      have htk := putN_take (n := n) hik
      have hsh : binV .shr (.int .u64 (n : Int)) (.int .i64 (8 * (k : Int) - 8 - 8 * i)) = some (.int .u64 ((n / 256 ^ (k - 1 - i) : Nat) : Int)) := by
        have e1 : 8 * (k : Int) - 8 - 8 * i = ((8 * (k - 1 - i) : Nat) : Int) := by omega
        rw [e1, bin_shrN n _ (by omega), Nat.pow_mul]
      generalize n / 256 ^ (k - 1 - i) = q at htk hsh
      have w3 : IntKind.i64.wrap (8 * (k : Int) - 8 - 8 * i - 8) = 8 * (k : Int) - 8 - 8 * ((i + 1 : Nat) : Int) := by rw [w64_id] <;> omega
      have hll : (l ++ (putN n k).take i).length ≤ 200000 := by simp [putN_len]; omega
      (intros; try refine go_st ?_); refine go_r 25 32 (by decide) ?_; (refine sJ3 c64r6.eq_1 @hsh @u8_nat ?_; try with_reducible exact True.intro)
      intro bk hbk
      refine app8 (L1 := []) (L2 := []) rfl rfl hcs (by omega) fun A' c' zc' hzc => ?_
      rw [List.append_assoc, ← htk] at hzc ⊢
      (refine sI ?_; try with_reducible exact True.intro)
      (intros; try refine go_st ?_); refine go_r 23 25 (by decide) ?_; (refine sJ2 c64r7.eq_1 @w3 ?_; try with_reducible exact True.intro)
      (intros; try refine go_st ?_)
      refine go_l ⟨⟨i + 1, zc', _, ⟨by omega, hzc⟩, eE, eE, eE, rfl, rfl, .cons _ (List.Sublist.refl _)⟩, ?_⟩
      (refine sJ @iv1_i ?_; try with_reducible exact True.intro)
      omega
    · have hik : i = k := by have := of_decide_eq_false ht; omega
      subst hik
      refine go_exit ?_
      (refine sI ?_; try with_reducible exact True.intro)
      (intros; try refine go_st ?_); refine go_r 32 33 (by decide) ?_; (refine sJ c64r8.eq_1 ?_; try with_reducible exact True.intro)
      (intros; try refine go_st ?_)
      rw [List.take_of_length_le (by rw [putN_len]; exact Nat.le_refl _)] at hcs ⊢
      refine go_ret (retQ_o _ rfl (List.Sublist.refl _) (noRegs_row noRegs_nil) ?_)
      exact ⟨zc, hcs, rfl⟩
theorem ROPut_ok (l : List UInt8) (n k : Nat) (hn : n < 18446744073709551616) (hk : 1 ≤ k ∧ k ≤ 8) (v : Value) (G : Nat → Option Obj) (hl : SB G v l) (hb : l.length ≤ 100000) :
    FnO Try.prog 69 #[v, .int .u64 (n : Int), .int .i64 (k : Int)] G [] (fun _ L' r => OwnB (l ++ putN n k) L' r) := by
  refine F69.fnO (by simp) noRegs_nil (go_of ?_)
  have hl0 := hl
  obtain ⟨A, c, rfl, hc, hm, hA⟩ := hl
  unfold c69
  (intros; try refine go_st ?_); refine go_r 0 0 (by decide) ?_; (refine sJ c69r0.eq_1 ?_; try with_reducible exact True.intro)
  (intros; try refine go_st ?_); refine go_r 10 12 (by decide) ?_; (refine sJ c69r1.eq_1 ?_; try with_reducible exact True.intro)
  refine (Copy_ok l _ G hl0 (by omega) _ []).mono ?_
  rintro r h' ⟨G1, L', rfl, hg1, ys, hys, rfl⟩
  (refine sI ?_; try with_reducible exact True.intro)
  (intros; try refine go_st ?_); refine go_r 12 17 (by decide) ?_; (refine sJ c69r2.eq_1 ?_; try with_reducible exact True.intro)
  refine gd (fun h1 => by simp at h1; omega) (fun h1 => ?_)
  (refine sI ?_; try with_reducible exact True.intro)
  (intros; try refine go_st ?_); refine go_c ?_; (refine sI ?_; try with_reducible exact True.intro)
  refine gb (fun h2 => by simp at h2; omega) (fun h2 => ?_)
  have w1 : IntKind.i64.wrap ((k : Int) - 1) = (k : Int) - 1 := by rw [w64_id] <;> omega
  (repeat first | refine go_skip ?_ | refine go_b ?_)
  (intros; try refine go_st ?_); refine go_r 0 0 (by decide) ?_; (refine sJ c69r4.eq_1 ?_; try with_reducible exact True.intro)
  (intros; try refine go_st ?_)
  refine go_loop (fun e h => ∃ (i : Nat) (zc : List Value) (u : Value), (i ≤ k ∧ Cells UE 1 (l ++ (putN n k).take i) zc) ∧ e 20 = .int .i64 i ∧ e 19 = .int .i64 k ∧ e 1 = .int .u64 (n : Int) ∧ e 2 = .int .i64 k ∧ e 7 = u ∧ h.G = G1 ∧ h.D = [] ∧ [Item.row u 5 1 (l ++ (putN n k).take i).length zc].Sublist h.L) (fun e h => k - iv (e 20)) ?_ ?_
  · exact ⟨0, ys, r, ⟨Nat.zero_le _, by simpa using hys⟩, eE, eE, eE, eE, eE, rfl, rfl, by simp⟩
  · rintro e ⟨G', L, D⟩ ⟨i, zc, u, ⟨hi, hcs⟩, e20, e19, e1, e2, e7, hG, hD, hL⟩
    dsimp only at hG hD hL
    subst hG hD
    refine go_ghost (ghost_sub hL) ?_
    refine go_keep [1, 2, 7, 19, 20] ?_
    (refine sJ5 @e1 @e2 @e7 @e19 @e20 ?_; try with_reducible exact True.intro)
    (intros; try refine go_st ?_); refine go_r 0 0 (by decide) ?_; (refine sJ c69r5.eq_1 ?_; try with_reducible exact True.intro)
    (intros; try refine go_st ?_); refine go_c ?_; (refine sI ?_; try with_reducible exact True.intro)
    refine gb (fun ht => ?_) (fun ht => ?_)
    · have hik : i < k := by have := of_decide_eq_true ht; omega
      have hw3 := inc_i i k hik (by unfold maxLen; omega)
      have w2 : IntKind.i64.wrap ((k : Int) - 1 - i) = ((k - 1 - i : Nat) : Int) := by rw [w64_id] <;> omega
      have htk := putN_take (n := n) hik
      have hll : (l ++ (putN n k).take i).length ≤ 200000 := by simp [putN_len]; omega
      generalize hmm : k - 1 - i = m at htk w2
      (repeat first | refine go_skip ?_ | refine go_b ?_)
      (intros; try refine go_st ?_); refine go_r 22 23 (by decide) ?_; (refine sJ c69r6.eq_1 ?_; try with_reducible exact True.intro)
      (intros; try refine go_st ?_); refine go_r 23 24 (by decide) ?_; (refine sJ c69r7.eq_1 ?_; try with_reducible exact True.intro)
      (intros; try refine go_st ?_); refine go_r 24 27 (by decide) ?_; (refine sJ3 c69r8.eq_1 @w1 @w2 ?_; try with_reducible exact True.intro)
      (intros; try refine go_st ?_)
      refine go_loop (fun e h => ∃ j : Nat, j ≤ m ∧ e 28 = .int .i64 j ∧ e 27 = .int .i64 m ∧ (∃ q : Nat, q = n / 256 ^ j ∧ e 9 = .int .u64 (q : Int)) ∧ e 1 = .int .u64 (n : Int) ∧ e 2 = .int .i64 k ∧ e 7 = u ∧ e 19 = .int .i64 k ∧ e 20 = .int .i64 i ∧ h = ⟨G', [.row u 5 1 (l ++ (putN n k).take i).length zc], []⟩) (fun e h => m - iv (e 28)) ?_ ?_
      · exact ⟨0, Nat.zero_le _, eE, eE, ⟨n, by simp, eE⟩, eE, eE, eE, eE, eE, rfl⟩
      · rintro e h ⟨j, hj, e28, e27, ⟨q, hq, e9⟩, e1, e2, e7, e19, e20, rfl⟩
        refine go_keep [1, 2, 7, 9, 19, 20, 27, 28] ?_
        (try simp -implicitDefEqProofs only [kR_e, kQ_e, push_cast, Nat.reduceBEq, Nat.reduceAdd, Nat.reduceSub, Nat.reduceMul, Nat.reduceLT, Nat.reduceLeDiff, Nat.reduceEqDiff, reduceIte, Bool.not_true, Bool.not_false, true_and, and_true, Option.map_some, Option.bind_some, Int.toNat_natCast, e1, e2, e7, e9, e19, e20, e27, e28])
        (intros; try refine go_st ?_); refine go_r 0 0 (by decide) ?_; (refine sJ c69r9.eq_1 ?_; try with_reducible exact True.intro)
        (intros; try refine go_st ?_); refine go_c ?_; (refine sI ?_; try with_reducible exact True.intro)
        have hqn : q ≤ n := by rw [hq]; exact Nat.div_le_self _ _
        refine gb (fun ht => ?_) (fun ht => ?_)
        · have hjm : j < m := by have := of_decide_eq_true ht; omega
          have hw4 := inc_i j m hjm (by unfold maxLen; omega)
          have hqq : binV .quo (.int .u64 (q : Int)) (.int .u64 256) = some (.int .u64 ((q / 256 : Nat) : Int)) := bin_quo .u64 q 256 (by decide) (by simp [IntKind.max, IntKind.signed, IntKind.bits]; omega) rfl
          have hq2 : q / 256 = n / 256 ^ (j + 1) := by rw [hq, Nat.div_div_eq_div_mul, Nat.pow_succ]
          generalize q / 256 = q2 at hqq hq2
          (repeat first | refine go_skip ?_ | refine go_b ?_)
          (intros; try refine go_st ?_); refine go_r 30 32 (by decide) ?_; (refine sJ2 c69r10.eq_1 @hqq ?_; try with_reducible exact True.intro)
          (intros; try refine go_st ?_); refine go_r 32 33 (by decide) ?_; (refine sJ2 c69r11.eq_1 @hw4 ?_; try with_reducible exact True.intro)
          (intros; try refine go_st ?_)
          refine go_l ⟨⟨j + 1, by omega, eE, eE, ⟨q2, hq2, eE⟩, eE, eE, eE, eE, eE, rfl⟩, ?_⟩
          (refine sI ?_; try with_reducible exact True.intro)
          omega
        · have hjm : j = m := by have := of_decide_eq_false ht; omega
          subst hjm
          rw [← hq] at htk
          have hr : binV .rem (.int .u64 (q : Int)) (.int .u64 256) = some (.int .u64 ((q % 256 : Nat) : Int)) := bin_rem .u64 q 256 (by decide)
          have hw : IntKind.u8.wrap ((q % 256 : Nat) : Int) = ((UInt8.ofNat q).toNat : Int) := by rw [u8_nat]; simp
          generalize q % 256 = q3 at hr hw
          refine go_exit ?_
          (refine sI ?_; try with_reducible exact True.intro)
          (intros; try refine go_st ?_); refine go_r 33 39 (by decide) ?_; (refine sJ2 c69r12.eq_1 @hr ?_; try with_reducible exact True.intro)
          intro bk hbk
          refine app8 (L1 := []) (L2 := []) rfl hw hcs (by omega) fun A' c' zc' hzc => ?_
          rw [List.append_assoc, ← htk] at hzc ⊢
          (refine sI ?_; try with_reducible exact True.intro)
          (intros; try refine go_st ?_); refine go_r 39 40 (by decide) ?_; (refine sJ2 c69r13.eq_1 @hw3 ?_; try with_reducible exact True.intro)
          (intros; try refine go_st ?_)
          refine go_l ⟨⟨i + 1, zc', _, ⟨by omega, hzc⟩, eE, eE, eE, eE, eE, rfl, rfl, .cons _ (List.Sublist.refl _)⟩, ?_⟩
          (refine sI ?_; try with_reducible exact True.intro)
          omega
    · have hik : i = k := by have := of_decide_eq_false ht; omega
      subst hik
      refine go_exit ?_
      (refine sI ?_; try with_reducible exact True.intro)
      (intros; try refine go_st ?_); refine go_r 40 41 (by decide) ?_; (refine sJ c69r14.eq_1 ?_; try with_reducible exact True.intro)
      (intros; try refine go_st ?_)
      rw [List.take_of_length_le (by rw [putN_len]; exact Nat.le_refl _)] at hcs ⊢
      refine go_ret (retQ_o _ rfl (List.Sublist.refl _) (noRegs_row noRegs_nil) ?_)
      exact ⟨zc, hcs, rfl⟩
end Go.Proofs.Ytfhheomeebejnaa

/- Bytes, part 8 of a proof: seals. No condition. -/
set_option linter.unusedSimpArgs false
set_option linter.unusedVariables false
namespace Go.Proofs.Ytfhheomeebejnaa
open Go Go.Kx
theorem sealB_len (l : List UInt8) : (sealB l).length = l.length + 4 := by simp [sealB, putN_len]
theorem u64_W (v : W32) : IntKind.u64.wrap (v.toNat : Int) = (v.toNat : Int) := by
  have := v.isLt
  simp only [IntKind.wrap, IntKind.bits, IntKind.signed]
  simp
  omega
theorem bin_quoW (v : W32) (b : Nat) (hb : b ≠ 0) : binV .quo (.int .u32 (v.toNat : Int)) (.int .u32 (b : Int)) = some (.int .u32 ((v.toNat / b : Nat) : Int)) := by
  have h := v.isLt
  exact bin_quo .u32 v.toNat b hb (by simp [IntKind.max, IntKind.signed, IntKind.bits]; omega) rfl
theorem four_ok (v : W32) (G : Nat → Option Obj) : FnO Try.prog 73 #[vW v] G [] (fun _ L' r => OwnB (putN v.toNat 4) L' r) := by
  refine F73.fnO (by simp) noRegs_nil (go_of ?_)
  unfold c73
  unfold vW
  (intros; try refine go_st ?_); refine go_r 0 0 (by decide) ?_; (refine sJ c73r0.eq_1 ?_; try with_reducible exact True.intro)
  have q1 : binV .quo (.int .u32 (v.toNat : Int)) (.int .u32 16777216) = some (.int .u32 ((v.toNat / 16777216 : Nat) : Int)) := bin_quoW v 16777216 (by decide)
  have q2 : binV .quo (.int .u32 (v.toNat : Int)) (.int .u32 65536) = some (.int .u32 ((v.toNat / 65536 : Nat) : Int)) := bin_quoW v 65536 (by decide)
  have q3 : binV .quo (.int .u32 (v.toNat : Int)) (.int .u32 256) = some (.int .u32 ((v.toNat / 256 : Nat) : Int)) := bin_quoW v 256 (by decide)
  have hput : putN v.toNat 4 = [UInt8.ofNat (v.toNat / 16777216), UInt8.ofNat (v.toNat / 65536), UInt8.ofNat (v.toNat / 256), UInt8.ofNat v.toNat] := by
    simp [putN, List.range_succ]
  rw [hput]
  generalize v.toNat / 16777216 = n1 at q1 ⊢
  generalize v.toNat / 65536 = n2 at q2 ⊢
  generalize v.toNat / 256 = n3 at q3 ⊢
  generalize v.toNat = n4 at *
  (intros; try refine go_st ?_); refine go_r 3 15 (by decide) ?_; (refine sJ5 c73r1.eq_1 @q1 @q2 @q3 @u8_nat ?_; try with_reducible exact True.intro)
  intro b hb
  (intros; try refine go_st ?_)
  refine go_ret (retQ_o _ rfl (List.Sublist.refl _) (noRegs_row noRegs_nil) ?_)
  exact ⟨_, cells_b [UInt8.ofNat n1, UInt8.ofNat n2, UInt8.ofNat n3, UInt8.ofNat n4], rfl⟩
theorem Seal_ok (l : List UInt8) (v : Value) (G : Nat → Option Obj) (hl : SB G v l) (hb : l.length ≤ 100000) : FnO Try.prog 63 #[v] G [] (fun _ L' r => OwnB (sealB l) L' r) := by
  refine F63.fnO (by simp) noRegs_nil (go_of ?_)
  unfold c63
  have hsum := Sum_ok l v G hl
  unfold sealB
  generalize crcB l = w at hsum ⊢
  (intros; try refine go_st ?_); refine go_r 0 0 (by decide) ?_; (refine sJ c63r0.eq_1 ?_; try with_reducible exact True.intro)
  (intros; try refine go_st ?_); refine go_r 3 9 (by decide) ?_; (refine sJ c63r1.eq_1 ?_; try with_reducible exact True.intro)
  refine apX_v (.inr ⟨⟨none, rfl⟩, rfl, rfl, rfl, rfl⟩) hl rfl UE1 (by unfold maxLen; omega) fun ys A c hc => ?_
  simp only [Nat.zero_add, List.nil_append]
  (refine sI ?_; try with_reducible exact True.intro)
  refine (hsum _ []).mono ?_
  rintro r h' ⟨G1, rfl, hg1, rfl⟩
  unfold vW
  (refine sJ @u64_W ?_; try with_reducible exact True.intro)
  refine callsH_gx F64.enters (gx_slv_at [] _ (by decide) hc) ?_
  rintro h' ⟨G2, rfl, hg2, hv2⟩
  refine (OPut_ok l w.toNat 4 (by have := w.isLt; omega) (by omega) _ G2 hv2 hb _ []).mono ?_
  rintro r h' ⟨G3, L', rfl, hg3, ys3, hys3, rfl⟩
  (refine sI ?_; try with_reducible exact True.intro)
  (intros; try refine go_st ?_)
  refine go_ret (retQ_o _ rfl (List.Sublist.refl _) (noRegs_row noRegs_nil) ?_)
  exact ⟨ys3, hys3, rfl⟩
theorem RSeal_ok (l : List UInt8) (v : Value) (G : Nat → Option Obj) (hl : SB G v l) (hb : l.length ≤ 100000) : FnO Try.prog 68 #[v] G [] (fun _ L' r => OwnB (sealB l) L' r) := by
  refine F68.fnO (by simp) noRegs_nil (go_of ?_)
  unfold c68
  have hsum := RSum_ok l v G hl
  unfold sealB
  generalize crcB l = w at hsum ⊢
  (intros; try refine go_st ?_); refine go_r 0 0 (by decide) ?_; (refine sJ c68r0.eq_1 ?_; try with_reducible exact True.intro)
  (intros; try refine go_st ?_); refine go_r 3 10 (by decide) ?_; (refine sJ c68r1.eq_1 ?_; try with_reducible exact True.intro)
  intro b0 hb0
  refine apX_v (.inr ⟨⟨_, rfl⟩, rfl, rfl, rfl, rfl⟩) hl rfl UE1 (by unfold maxLen; omega) fun ys A c hc => ?_
  simp only [Nat.zero_add, List.nil_append]
  (refine sI ?_; try with_reducible exact True.intro)
  refine (hsum _ _).mono ?_; rintro _ _ ⟨rfl, rfl⟩; (refine sI ?_; try with_reducible exact True.intro)
  refine (ownL_d (by decide) (four_ok w G) _ []).mono ?_
  rintro r h' ⟨G1, rfl, hg1, hv1⟩
  (refine sI ?_; try with_reducible exact True.intro)
  refine apX_v (L1 := []) (.inl rfl) hv1 rfl UE1 (by rw [putN_len]; unfold maxLen; omega) fun ys' A' c' hc' => ?_
  have hh := hc.app hc'
  (refine sI ?_; try with_reducible exact True.intro)
  (intros; try refine go_st ?_)
  refine go_ret (retQ_o _ rfl (List.Sublist.refl _) (noRegs_row noRegs_nil) ?_)
  rw [← List.length_append]
  exact ⟨_, hh, rfl⟩
end Go.Proofs.Ytfhheomeebejnaa

/- Bytes, part 12 of a proof: a batch's bytes, the form. No condition. -/
set_option linter.unusedSimpArgs false
set_option linter.unusedVariables false
namespace Go.Proofs.Ytfhheomeebejnaa
open Go Go.Kx
def headN (b : Batch) : List Int := [b.base, b.last - b.base, b.src, b.epoch, b.pid, b.gen, b.seq]
def headB (l : List Int) : List UInt8 := l.flatMap pvB
def markB (b : Batch) : UInt8 := UInt8.ofNat (b.ctl.toNat + if b.txn = true then 4 else 0)
/-- The records' bytes. -/
def recsB (base stamp : Int) (l : List Rec) : List UInt8 := l.flatMap fun r => prB r base stamp
def tailB (b : Batch) : List UInt8 := match b.recs with
  | [] => []
  | r :: rs => pvB r.stamp ++ recsB b.base r.stamp (r :: rs)
def bodyB (b : Batch) : List UInt8 := headB (headN b) ++ [markB b] ++ pvB b.recs.length ++ tailB b
def bytesB (b : Batch) : List UInt8 := putN (sealB (bodyB b)).length 4 ++ sealB (bodyB b)
theorem headB_len : ∀ (l : List Int), (headB l).length ≤ 10 * l.length
  | [] => by simp [headB]
  | n :: l => by
    have := headB_len l
    have h2 := pvB_len n
    simp [headB] at this ⊢
    omega
theorem headB_succ {l : List Int} {k : Nat} {n : Int} (h : l[k]? = some n) : headB (l.take (k + 1)) = headB (l.take k) ++ pvB n := by
  have hk := List.getElem?_eq_some_iff.1 h
  rw [List.take_succ_eq_append_getElem hk.1, hk.2]
  simp [headB]
theorem recsB_succ {base stamp : Int} {l : List Rec} {k : Nat} {r : Rec} (h : l[k]? = some r) : recsB base stamp (l.take (k + 1)) = recsB base stamp (l.take k) ++ prB r base stamp := by
  have hk := List.getElem?_eq_some_iff.1 h
  rw [List.take_succ_eq_append_getElem hk.1, hk.2]
  simp [recsB]
theorem prB_len {r : Rec} {base stamp : Int} (hk : r.key.size ≤ 64) (hv : r.val.size ≤ 64) : (prB r base stamp).length ≤ 169 := by
  have h1 := pvB_len (r.off - base)
  have h2 := pvB_len (r.stamp - stamp)
  have h3 := ptB_len r.key
  have h4 := ptB_len r.val
  simp [prB]
  omega
/-- Of records in order: that each may be, and how many there are. -/
theorem rowF_all : ∀ (l : List Rec) (last nx : Int), rowF last nx l = true → (∀ r ∈ l, chkR r = 0) ∧ nx + l.length ≤ max nx (last + 1)
  | [], last, nx, _ => ⟨by simp, by simp; omega⟩
  | r :: l, last, nx, h => by
    simp only [rowF, Bool.and_eq_true, decide_eq_true_eq] at h
    obtain ⟨⟨⟨h1, h2⟩, h3⟩, h4⟩ := h
    obtain ⟨h5, h6⟩ := rowF_all l last (r.off + 1) h4
    refine ⟨fun x hx => ?_, ?_⟩
    · rcases List.mem_cons.1 hx with rfl | hx
      · exact h1
      · exact h5 x hx
    · simp
      omega
theorem form_recs {b : Batch} (h : Form b) : (∀ r ∈ b.recs, chkR r = 0) ∧ b.recs.length ≤ 16 := by
  rcases h.2.2.2.2.2 with h9 | h9
  · obtain ⟨h1, h2⟩ := rowF_all _ _ _ h9.2
    have := h.2.2.1
    exact ⟨h1, by omega⟩
  · rw [h9.2.2.1]
    exact ⟨by simp, by simp⟩
end Go.Proofs.Ytfhheomeebejnaa

/- Bytes, part 13 of a proof: a batch, written. No condition. -/
set_option linter.unusedSimpArgs false
set_option linter.unusedVariables false
namespace Go.Proofs.Ytfhheomeebejnaa
open Go Go.Kx
theorem F48 : Fun Try.prog 48 91 v48 c48 o48 := Fun.mk' Try.func48 Try.ntmps48 (by kernel_rfl) (by kernel_rfl) s48 q48
theorem head_at {b : Batch} {k : Nat} {n : Int} (h : (headN b)[k]? = some n) : ixVV 7 1 none (.agg #[.int .i64 b.base, .int .i64 (b.last - b.base), .int .i64 b.src, .int .i64 b.epoch, .int .i64 b.pid, .int .i64 b.gen, .int .i64 b.seq]) (.int .i64 (k : Int)) = some (.int .i64 n) := by
  have hk := (List.getElem?_eq_some_iff.1 h).1
  simp [headN] at hk
  match k, h with
  | 0, h => cases h; rfl
  | 1, h => cases h; rfl
  | 2, h => cases h; rfl
  | 3, h => cases h; rfl
  | 4, h => cases h; rfl
  | 5, h => cases h; rfl
  | 6, h => cases h; rfl
theorem or_4 {n : Int} (h : n = 0 ∨ n = 1 ∨ n = 2) : binV .or (.int .u8 (IntKind.u8.wrap n)) (.int .u8 4) = some (.int .u8 ((UInt8.ofNat (n.toNat + 4)).toNat : Int)) := by
  rcases h with rfl | rfl | rfl <;> rfl
theorem mark_0 {n : Int} (h : n = 0 ∨ n = 1 ∨ n = 2) : IntKind.u8.wrap n = ((UInt8.ofNat n.toNat).toNat : Int) := by
  rcases h with rfl | rfl | rfl <;> rfl
theorem write_ok (x : Batch) (cs : List Value) (G : Nat → Option Obj) (hx : BE G x cs) (hf : Form x) : FnO Try.prog 48 #[.agg cs.toArray] G [] (fun _ L' r => OwnB (bytesB x) L' r) := by
  obtain ⟨A, c, rfl, ⟨hc, hm, hA⟩, i1, i2, i3, i4, i5, i6, i7, i8⟩ := hx
  have hf0 := hf
  obtain ⟨⟨f1, f2, f3⟩, ⟨f4, f5, f6⟩, ⟨f7, f8, f9, f10⟩, f11, f12, f13⟩ := hf
  simp [rng] at f1 f2 f3 f4 f5 f6
  refine F48.fnO (by simp) noRegs_nil (go_of ?_)
  unfold c48 cellH
  have w1 : IntKind.i64.wrap (x.last - x.base) = x.last - x.base := by rw [w64_id] <;> omega
  (intros; try refine go_st ?_); refine go_r 0 0 (by decide) ?_; (refine sJ c48r0.eq_1 ?_; try with_reducible exact True.intro)
  (intros; try refine go_st ?_); refine go_r 0 0 (by decide) ?_; (refine sJ c48r1.eq_1 ?_; try with_reducible exact True.intro)
  (intros; try refine go_st ?_); refine go_r 13 29 (by decide) ?_; (refine sJ2 c48r2.eq_1 @w1 ?_; try with_reducible exact True.intro)
  (intros; try refine go_st ?_)
  refine go_ghost (ghost_nil none 5 1) ?_
  refine go_loop (fun e h => ∃ (k : Nat) (G' : Nat → Option Obj) (u : Value) (zc : List Value), (k ≤ 7 ∧ Gle G G' ∧ Cells UE 1 (headB ((headN x).take k)) zc) ∧ e 30 = .int .i64 k ∧ e 29 = .agg #[.int .i64 x.base, .int .i64 (x.last - x.base), .int .i64 x.src, .int .i64 x.epoch, .int .i64 x.pid, .int .i64 x.gen, .int .i64 x.seq] ∧ e 3 = u ∧ h.G = G' ∧ h.D = [] ∧ [.row u 5 1 (headB ((headN x).take k)).length zc, .reg 1 [.int .i64 x.base, .int .i64 x.last, .int .i64 x.src, .int .i64 x.epoch, .int .i64 x.pid, .int .i64 x.gen, .int .i64 x.seq, .bool x.txn, .int .i64 x.ctl, .slice A x.recs.length c]].Sublist h.L) (fun e h => 7 - iv (e 30)) ?_ ?_
  · exact ⟨0, G, _, [], ⟨Nat.zero_le _, .refl _, .nil⟩, eE, eE, eE, rfl, rfl, List.Sublist.refl _⟩
  · rintro e ⟨G', L, D⟩ ⟨k, G2, u, zc, ⟨hk, hgg, hcs⟩, e30, e29, e3, hG, hD, hL⟩
    dsimp only at hG hD hL
    subst hG hD
    refine go_ghost (ghost_sub hL) ?_
    refine go_keep [3, 29, 30] ?_
    (refine sJ3 @e3 @e29 @e30 ?_; try with_reducible exact True.intro)
    have hhl := headB_len ((headN x).take k)
    have hh7 : ((headN x).take k).length ≤ 7 := by simp [headN]; omega
    (intros; try refine go_st ?_); refine go_r 0 0 (by decide) ?_; (refine sJ c48r3.eq_1 ?_; try with_reducible exact True.intro)
    (intros; try refine go_st ?_); refine go_c ?_; (refine sI ?_; try with_reducible exact True.intro)
    refine gb (fun ht => ?_) (fun ht => ?_)
    · have hkl : k < 7 := by simp at ht; omega
      have hw3 := inc_i k 7 (by omega) (by unfold maxLen; omega)
      obtain ⟨n, hn⟩ : ∃ n, (headN x)[k]? = some n := ⟨(headN x)[k]'(by simp [headN]; omega), List.getElem?_eq_getElem _⟩
      have hin : I64 n := by
        have := List.mem_of_getElem? hn
        simp [headN] at this
        unfold I64 at *
        omega
      have hix := head_at hn
      have hsucc := headB_succ hn
      (repeat first | refine go_skip ?_ | refine go_b ?_)
      (intros; try refine go_st ?_); refine go_r 32 33 (by decide) ?_; (refine sJ2 c48r4.eq_1 @hix ?_; try with_reducible exact True.intro)
      (intros; try refine go_st ?_); refine go_r 33 36 (by decide) ?_; (refine sJ c48r5.eq_1 ?_; try with_reducible exact True.intro)
      refine callsH_gx F61.enters (gx_slv_at [] _ (by decide) hcs) ?_
      rintro h' ⟨G3, rfl, hg3, hv3⟩
      refine (PutVar_ok _ n hin _ G3 hv3 (by omega) _ []).mono ?_
      rintro r h' ⟨G4, L', rfl, hg4, ys, hys, rfl⟩
      rw [← hsucc] at hys ⊢
      (refine sI ?_; try with_reducible exact True.intro)
      (intros; try refine go_st ?_); refine go_r 36 37 (by decide) ?_; (refine sJ2 c48r6.eq_1 @hw3 ?_; try with_reducible exact True.intro)
      (intros; try refine go_st ?_)
      refine go_l ⟨⟨k + 1, G4, _, ys, ⟨by omega, hgg.trans (hg3.trans hg4), hys⟩, eE, eE, eE, rfl, rfl, List.Sublist.refl _⟩, ?_⟩
      (refine sI ?_; try with_reducible exact True.intro)
      omega
    · have hkl : k = 7 := by simp at ht; omega
      subst hkl
      rw [show (headN x).take 7 = headN x from rfl] at hcs hhl ⊢
      have hmx := form_recs hf0
      have hh8 : (headN x).length = 7 := rfl
      refine go_exit ?_
      (refine sI ?_; try with_reducible exact True.intro)
      (intros; try refine go_st ?_); refine go_r 38 40 (by decide) ?_; (refine sJ c48r7.eq_1 ?_; try with_reducible exact True.intro)
      have hend : ∀ (e : Env) (G6 : Nat → Option Obj) (u : Value) (zc : List Value), Cells UE 1 (bodyB x) zc → (bodyB x).length ≤ 5000 → e 3 = u →
          go none Try.prog 91 v48.1 v48.2 (retQ o48 fun v h => OwnB (bytesB x) h.L v) [Td.s ((SC.reg false c48r20).seq ((SC.reg false c48r21).seq SC.ret))] e ⟨G6, [.row u 5 1 (bodyB x).length zc, .reg 1 [.int .i64 x.base, .int .i64 x.last, .int .i64 x.src, .int .i64 x.epoch, .int .i64 x.pid, .int .i64 x.gen, .int .i64 x.seq, .bool x.txn, .int .i64 x.ctl, .slice A x.recs.length c]], []⟩ := fun e G6 u zc hzc hbl e3 => by
        refine go_keep [3] ?_
        (refine sJ @e3 ?_; try with_reducible exact True.intro)
        (intros; try refine go_st ?_); refine go_r 83 85 (by decide) ?_; (refine sJ c48r20.eq_1 ?_; try with_reducible exact True.intro)
        refine callsH_gx F63.enters (gx_slv_at [] _ (by decide) hzc) ?_
        rintro h' ⟨G7, rfl, hg7, hv7⟩
        refine (Seal_ok _ _ G7 hv7 (by omega) _ []).mono ?_
        rintro r h' ⟨G8, L', rfl, hg8, ys, hys, rfl⟩
        (refine sI ?_; try with_reducible exact True.intro)
        intro _
        have hsl := sealB_len (bodyB x)
        refine go_gx (gx_slv_at [] _ (by decide) hys) ?_
        rintro h' ⟨G9, rfl, hg9, hv9⟩
        obtain ⟨As, cs', rfl, -, -, -⟩ := id hv9
        have hwl : IntKind.u64.wrap ((sealB (bodyB x)).length : Int) = ((sealB (bodyB x)).length : Int) := by rw [IntKind.wrap_u64]; omega
        (intros; try refine go_st ?_); refine go_r 85 91 (by decide) ?_; (refine sJ2 c48r21.eq_1 @hwl ?_; try with_reducible exact True.intro)
        refine (OPut_ok [] (sealB (bodyB x)).length 4 (by omega) (by omega) _ G9 SB.nil (by simp) _ []).mono ?_
        rintro r h' ⟨G10, L', rfl, hg10, ys2, hys2, rfl⟩
        simp only [List.nil_append] at hys2 ⊢
        (refine sI ?_; try with_reducible exact True.intro)
        refine apX_v (L1 := []) (.inl rfl) (SB.le hv9 hg10) rfl UE1 (by rw [putN_len]; unfold maxLen; omega) fun ys' A' c' hc' => ?_
        have hh := hys2.app hc'
        (refine sI ?_; try with_reducible exact True.intro)
        (intros; try refine go_st ?_)
        refine go_ret (retQ_o _ rfl (.cons_cons _ (List.nil_sublist _)) (noRegs_row noRegs_nil) ?_)
        rw [← List.length_append]
        exact ⟨_, hh, rfl⟩
      have hrest : ∀ (e : Env), e 3 = u → e 6 = .int .u8 ((markB x).toNat : Int) →
          go none Try.prog 91 v48.1 v48.2 (retQ o48 fun v h => OwnB (bytesB x) h.L v) [Td.s ((SC.rgX c48r10).seq (((SC.reg false c48r11).seq (SC.cond (O.t 55) ((SC.reg false c48r12).seq ((SC.reg false c48r13).seq ((SC.reg false c48r14).seq (SC.blk 2 ((SC.reg false c48r15).seq ((SC.cond (O.t 68) SC.skip (SC.exit 2)).seq ((SC.blk 3 ((SC.reg false c48r16).seq ((SC.reg false c48r17).seq (SC.reg false c48r18)))).seq (SC.reg false c48r19)))).loop)))) SC.skip)).seq ((SC.reg false c48r20).seq ((SC.reg false c48r21).seq SC.ret))))] e ⟨G', [.row u 5 1 (headB (headN x)).length zc, .reg 1 [.int .i64 x.base, .int .i64 x.last, .int .i64 x.src, .int .i64 x.epoch, .int .i64 x.pid, .int .i64 x.gen, .int .i64 x.seq, .bool x.txn, .int .i64 x.ctl, .slice A x.recs.length c]], []⟩ := fun e e3 e6 => by
        refine go_keep [3, 6] ?_
        (refine sJ2 @e3 @e6 ?_; try with_reducible exact True.intro)
        (intros; try refine go_st ?_); refine go_x _ (.cons _ (List.Sublist.refl _)) (by decide) ?_; (refine sJ c48r10.eq_1 ?_; try with_reducible exact True.intro)
        intro bk hbk
        refine ⟨grow_L (fun _ _ h => h) (.cons _ (.cons _ (List.Sublist.refl _))), ?_⟩
        (refine sI ?_; try with_reducible exact True.intro)
        refine app8 (L1 := []) (L2 := [_]) (x := markB x) rfl rfl hcs (by omega) fun A' c' zc' hzc => ?_
        (refine sI ?_; try with_reducible exact True.intro)
        refine ⟨grow_L (fun _ _ h => h) (.cons _ (.cons _ (List.Sublist.refl _))), ?_⟩
        (refine sI ?_; try with_reducible exact True.intro)
        refine callsH_gx F61.enters (gx_slv_at [_] _ (by decide) hzc) ?_
        rintro h' ⟨G4, rfl, hg4, hv4⟩
        refine (PutVar_ok _ x.recs.length (by unfold I64; omega) _ G4 hv4 (by simp; omega) _ []).mono ?_
        rintro r h' ⟨G5, L', rfl, hg5, ys5, hys5, rfl⟩
        refine ⟨grow_L (hg4.trans hg5) (.cons _ (.cons _ (List.Sublist.refl _))), ?_⟩
        (refine sI ?_; try with_reducible exact True.intro)
        have hpl := pvB_len x.recs.length
        (repeat first | (with_reducible intro _) | refine go_seq ?_)
        refine go_ghost (ghost_sub (L' := [.row r 5 1 (headB (headN x) ++ [markB x] ++ pvB x.recs.length).length ys5, .reg 1 [.int .i64 x.base, .int .i64 x.last, .int .i64 x.src, .int .i64 x.epoch, .int .i64 x.pid, .int .i64 x.gen, .int .i64 x.seq, .bool x.txn, .int .i64 x.ctl, .slice A x.recs.length c]]) ?hsub) ?_
        case hsub => exact .cons_cons _ (.cons _ (List.Sublist.refl _))
        (intros; try refine go_st ?_); refine go_r 53 55 (by decide) ?_; (refine sJ c48r11.eq_1 ?_; try with_reducible exact True.intro)
        (intros; try refine go_st ?_); refine go_c ?_; (refine sI ?_; try with_reducible exact True.intro)
        refine gb (fun k1 => ?_) (fun k1 => ?_)
        · have hpos : 0 < x.recs.length := by simpa using k1
          obtain ⟨r0, h0⟩ : ∃ r0, x.recs[0]? = some r0 := ⟨x.recs[0], List.getElem?_eq_getElem hpos⟩
          have hg5 := hgg.trans (hg4.trans hg5)
          have hA5 := hA.le hg5 (E' := RR) fun _ _ h => h
          (intros; try refine go_st ?_); refine go_r 57 61 (by decide) ?_; (refine sJ c48r12.eq_1 ?_; try with_reducible exact True.intro)
          refine hA5.x_lf h0 rfl rfl (fun cs h => by rw [h.1]; rfl) fun a ha => ?_
          (refine sI ?_; try with_reducible exact True.intro)
          have hck0 := hmx.1 r0 (List.mem_of_getElem? h0)
          obtain ⟨⟨-, q0⟩, -, -⟩ := chk_small hck0
          have q0' := q0
          simp [inO] at q0'
          have hst : I64 r0.stamp := by unfold I64; omega
          (intros; try refine go_st ?_); refine go_r 61 64 (by decide) ?_; (refine sJ c48r13.eq_1 ?_; try with_reducible exact True.intro)
          refine callsH_gx F61.enters (gx_slv_at [] _ (by decide) hys5) ?_
          rintro h' ⟨G6, rfl, hg6, hv6⟩
          refine (PutVar_ok _ r0.stamp hst _ G6 hv6 (by simp; omega) _ []).mono ?_
          rintro r h' ⟨G7, L', rfl, hg7, ys7, hys7, rfl⟩
          have hp7 := pvB_len r0.stamp
          (refine sI ?_; try with_reducible exact True.intro)
          have hA7 := hA5.le (hg6.trans hg7) (E' := RR) fun _ _ h => h
          have hst0 : tailB x = pvB r0.stamp ++ recsB x.base r0.stamp x.recs := by
            match hr : x.recs, h0 with
            | r :: rs, h0 => simp [hr] at h0; subst h0; rw [tailB, hr]
          generalize hP : headB (headN x) ++ [markB x] ++ pvB x.recs.length ++ pvB r0.stamp = P at hys7 ⊢
          have hPl : P.length ≤ 100 := by rw [← hP]; simp; omega
          (intros; try refine go_st ?_); refine go_r 0 0 (by decide) ?_; (refine sJ c48r14.eq_1 ?_; try with_reducible exact True.intro)
          (intros; try refine go_st ?_)
          refine go_loop (fun e h => ∃ (k : Nat) (G' : Nat → Option Obj) (u : Value) (zc : List Value), (k ≤ x.recs.length ∧ Gle G7 G' ∧ Cells UE 1 (P ++ recsB x.base r0.stamp (x.recs.take k)) zc ∧ (recsB x.base r0.stamp (x.recs.take k)).length ≤ 169 * k) ∧ e 67 = .int .i64 k ∧ e 66 = .int .i64 x.recs.length ∧ e 65 = .slice A x.recs.length c ∧ e 7 = .int .i64 r0.stamp ∧ e 3 = u ∧ h.G = G' ∧ h.D = [] ∧ [.row u 5 1 (P ++ recsB x.base r0.stamp (x.recs.take k)).length zc, .reg 1 [.int .i64 x.base, .int .i64 x.last, .int .i64 x.src, .int .i64 x.epoch, .int .i64 x.pid, .int .i64 x.gen, .int .i64 x.seq, .bool x.txn, .int .i64 x.ctl, .slice A x.recs.length c]].Sublist h.L) (fun e h => x.recs.length - iv (e 67)) ?_ ?_
          · exact ⟨0, G7, r, ys7, ⟨Nat.zero_le _, .refl _, by simpa [recsB] using hys7, by simp [recsB]⟩, eE, eE, eE, eE, eE, rfl, rfl, by simp [recsB]⟩
          · rintro e ⟨G', L, D⟩ ⟨k, G2, u, zc, ⟨hk, hgg, hcs, hrl⟩, e67, e66, e65, e7, e3, hG, hD, hL⟩
            dsimp only at hG hD hL
            subst hG hD
            refine go_ghost (ghost_sub hL) ?_
            refine go_keep [3, 7, 65, 66, 67] ?_
            (refine sJ5 @e3 @e7 @e65 @e66 @e67 ?_; try with_reducible exact True.intro)
            (intros; try refine go_st ?_); refine go_r 0 0 (by decide) ?_; (refine sJ c48r15.eq_1 ?_; try with_reducible exact True.intro)
            (intros; try refine go_st ?_); refine go_c ?_; (refine sI ?_; try with_reducible exact True.intro)
            refine gb (fun ht => ?_) (fun ht => ?_)
            · have hkl : k < x.recs.length := by simpa using ht
              have hw3 := inc_i k c (by omega) hm
              obtain ⟨r, hr⟩ : ∃ r, x.recs[k]? = some r := ⟨x.recs[k], List.getElem?_eq_getElem (by omega)⟩
              have hsucc := recsB_succ (base := x.base) (stamp := r0.stamp) hr
              have hckr := hmx.1 r (List.mem_of_getElem? hr)
              have hcs' := chk_small hckr
              have hpl := prB_len (base := x.base) (stamp := r0.stamp) hcs'.2.1 hcs'.2.2
              have hput : putR r x.base r0.stamp = (prB r x.base r0.stamp, 0) := by
                rw [putR, if_neg (by simp [hckr]), if_neg (by simp [inO, f1, q0'])]
              have hAk := hA7.le hgg (E' := RR) fun _ _ h => h
              (repeat first | (with_reducible intro _) | refine go_skip ?_ | refine go_b ?_)
              (intros; try refine go_st ?_); refine go_r 69 71 (by decide) ?_; (refine sJ c48r16.eq_1 ?_; try with_reducible exact True.intro)
              refine hAk.x_ld hr rfl rfl ?_
              rintro a1 ha1 cs ⟨rfl, -⟩
              have hPut := Put_ok r x.base r0.stamp
              unfold cellR at hPut ⊢
              (refine sI ?_; try with_reducible exact True.intro)
              (intros; try refine go_st ?_); refine go_r 71 79 (by decide) ?_; (refine sJ c48r17.eq_1 ?_; try with_reducible exact True.intro)
              refine (hPut G' _ []).mono ?_
              rintro v h' ⟨G8, L', rfl, hg8, w, rfl, ys8, hys8, rfl⟩
              rw [hput] at hys8 ⊢
              (refine sI ?_; try with_reducible exact True.intro)
              intro _
              refine go_gx (gx_slv_at [] _ (by decide) hys8) ?_
              rintro h' ⟨G9, rfl, hg9, hv9⟩
              (intros; try refine go_st ?_); refine go_r 79 82 (by decide) ?_; (refine sJ c48r18.eq_1 ?_; try with_reducible exact True.intro)
              refine apX_v (L1 := [_]) (.inl rfl) hv9 rfl UE1 (by simp; unfold maxLen; omega) fun ys' A' c' hc' => ?_
              have hh := hcs.app hc'
              rw [List.append_assoc, ← hsucc] at hh
              rw [← List.length_append, List.append_assoc, ← hsucc]
              (refine sI ?_; try with_reducible exact True.intro)
              (intros; try refine go_st ?_); refine go_r 82 83 (by decide) ?_; (refine sJ2 c48r19.eq_1 @hw3 ?_; try with_reducible exact True.intro)
              (intros; try refine go_st ?_)
              refine go_l ⟨⟨k + 1, G9, _, _, ⟨by omega, hgg.trans (hg8.trans hg9), hh, by rw [hsucc, List.length_append]; omega⟩, eE, eE, eE, eE, eE, rfl, rfl, .cons _ (List.Sublist.refl _)⟩, ?_⟩
              (refine sI ?_; try with_reducible exact True.intro)
              omega
            · have hkl : k = x.recs.length := by simp at ht; omega
              subst hkl
              rw [List.take_length] at hcs hrl
              have hbody : bodyB x = P ++ recsB x.base r0.stamp x.recs := by rw [bodyB, hst0, ← hP]; simp
              refine go_exit ?_
              (refine sI ?_; try with_reducible exact True.intro)
              rw [List.take_length, ← hbody]
              rw [← hbody] at hcs
              refine hend _ G' _ zc hcs (by rw [hbody]; simp; omega) ?_
              (refine sI ?_; try with_reducible exact True.intro)
        · have hnil : x.recs = [] := by have := of_decide_eq_false k1; exact List.eq_nil_of_length_eq_zero (by omega)
          have htl : tailB x = [] := by rw [tailB, hnil]
          have hbody : bodyB x = headB (headN x) ++ [markB x] ++ pvB x.recs.length := by rw [bodyB, htl, List.append_nil]
          rw [← hbody] at hys5 ⊢
          (repeat first | refine go_skip ?_ | refine go_b ?_)
          refine hend _ G5 _ ys5 hys5 (by rw [hbody]; simp; omega) ?_
          (refine sI ?_; try with_reducible exact True.intro)
      have hctl : x.ctl = 0 ∨ x.ctl = 1 ∨ x.ctl = 2 := by
        rcases f13 with h | h
        · exact .inl h.1
        · exact .inr h.1
      (intros; try refine go_st ?_); refine go_r 0 0 (by decide) ?_; (refine sJ c48r8.eq_1 ?_; try with_reducible exact True.intro)
      (intros; try refine go_st ?_); refine go_c ?_; (refine sI ?_; try with_reducible exact True.intro)
      refine gb (fun k1 => ?_) (fun k1 => ?_)
      · have hm4 := or_4 hctl
        (intros; try refine go_st ?_); refine go_r 42 44 (by decide) ?_; (refine sJ2 c48r9.eq_1 @hm4 ?_; try with_reducible exact True.intro)
        intro _
        (repeat first | refine go_skip ?_ | refine go_b ?_)
        refine hrest _ ?_ ?_ <;> (refine sI ?_; try with_reducible exact True.intro)
        rw [markB, if_pos k1]
      · (repeat first | refine go_skip ?_ | refine go_b ?_)
        refine hrest _ ?_ ?_ <;> (refine sI ?_; try with_reducible exact True.intro)
        rw [markB, if_neg (by rw [k1]; simp), mark_0 hctl]
        rfl
end Go.Proofs.Ytfhheomeebejnaa

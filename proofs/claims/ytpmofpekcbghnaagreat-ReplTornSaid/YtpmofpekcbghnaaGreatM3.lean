/- Parts of a proof, 9 texts in one file. No condition. -/
import Derived.Test.YtpmofpekcbghnaaGreatRows
import Derived.Test.YtpmofpekcbghnaaGreatM1
import Derived.Test.YtpmofpekcbghnaaGreatM2
set_option linter.unusedSimpArgs false
set_option linter.unusedVariables false
namespace Go.Proofs.YtpmofpekcbghnaaGreat
open Go Go.Kx Go.Kx.SOp
instance:Coe SOp SI:=⟨fun o=>⟨none,o,none,0⟩⟩
abbrev Y_(g:Nat)(s:SOp)(k:Nat):SI:=⟨some (g,true),s,none,k⟩
abbrev X_(g:Nat)(s:SOp)(k:Nat):SI:=⟨some (g,false),s,none,k⟩
abbrev T_(g b:Nat):SI:=⟨some (g,true),.nop,some b,99999⟩
abbrev F_(g b:Nat):SI:=⟨some (g,false),.nop,some b,99999⟩
def c8r0:List SI:=[
 bxR 3 (.t 0),
 mv 6 (.b false)]
def c8r1:List SI:=[
 call 15 11 [],
 mv 7 (.t 15)]
def c8r2:List SI:=[
 ⟨none,.ldR 16 3 0 (some 5),none,0⟩,
 ⟨none,.call 17 12 [(.t 16)],none,0⟩,
 ⟨none,.un 18 .not (.t 17),none,0⟩,
 ⟨none,.mv 19 (.t 18),none,0⟩,
 X_ 19 (.ldR 20 3 0 (some 5)) 20,
 X_ 19 (.call 21 18 [(.t 20)]) 21,
 X_ 19 (.bin 22 .neq (.t 21) (.i 0)) 22,
 ⟨none,.pick 23 (.t 19) (.b true) (.t 22),none,0⟩]
def c8r3:List SI:=[
 mv 24 (.t 7),
 mv 6 (.t 24)]
def c8r4:List SI:=[
 ldR 26 3 0 (some 5),
 mv 27 (.t 1),
 mv 28 (.t 2),
 call 29 35 [(.t 26),(.t 27),(.t 28)],
 mv 25 (.t 29),
 ext 30 (.t 25) 0,
 ext 31 (.t 25) 1,
 alR 8 [(.int .i64 0),(.int .i64 0),(.int .i64 0),(.slice none 0 0),(.slice none 0 0)],
 stR 8 0 5 (.t 30),
 mv 9 (.t 31)]
def c8r5:List SI:=[
 ldR 33 8 0 (some 5),
 mv 34 (.t 1),
 call 35 36 [(.t 33),(.t 34)],
 mv 32 (.t 35),
 ext 36 (.t 32) 0,
 ext 37 (.t 32) 1,
 alR 10 [(.int .i64 0),(.int .i64 0),(.int .i64 0),(.slice none 0 0),(.slice none 0 0)],
 stR 10 0 5 (.t 36),
 mv 11 (.t 37)]
def c8r6:List SI:=[
 mv 38 (.t 9),
 bin 39 .neq (.t 38) (.i 0)]
def c8r7:List SI:=[
 ⟨none,.mv 40 (.t 7),none,0⟩,
 ⟨none,.mv 41 (.t 40),none,0⟩,
 T_ 41 8,
 Y_ 41 (.ldR 43 8 4 none) 43,
 Y_ 41 (.len 44 false (.t 43)) 44,
 Y_ 41 (.bin 45 .eql (.t 44) (.i 0)) 45,
 ⟨none,.pick 46 (.t 41) (.t 45) (.b false),none,0⟩,
 ⟨none,.mv 6 (.t 46),none,0⟩]
def c8r8:List SI:=[
 ⟨none,.mv 47 (.t 11),none,0⟩,
 ⟨none,.bin 48 .neq (.t 47) (.i 0),none,0⟩,
 ⟨none,.mv 49 (.t 48),none,0⟩,
 F_ 49 10,
 X_ 49 (.ldR 51 10 4 none) 51,
 X_ 49 (.len 52 false (.t 51)) 52,
 F_ 49 3,
 X_ 49 (.ldR 54 3 4 none) 54,
 X_ 49 (.len 55 false (.t 54)) 55,
 X_ 49 (.bin 56 .neq (.t 52) (.t 55)) 56,
 ⟨none,.pick 57 (.t 49) (.b true) (.t 56),none,0⟩,
 ⟨none,.mv 58 (.t 57),none,0⟩,
 F_ 58 3,
 X_ 58 (.ldR 60 3 1 none) 60,
 X_ 58 (.mv 61 (.t 1)) 61,
 X_ 58 (.bin 62 .eql (.t 60) (.t 61)) 62,
 X_ 58 (.mv 63 (.t 62)) 63,
 T_ 63 10,
 Y_ 63 (.ldR 65 10 1 none) 65,
 Y_ 63 (.bin 66 .neq (.t 65) (.i (-1))) 66,
 X_ 58 (.pick 67 (.t 63) (.t 66) (.b false)) 67,
 ⟨none,.pick 68 (.t 58) (.b true) (.t 67),none,0⟩]
def c8r9:List SI:=[
 mv 6 (.b false)]
def c8r10:List SI:=[
 mv 12 (.i 0)]
def c8r11:List SI:=[
 ⟨none,.mv 69 (.t 12),none,0⟩,
 ⟨none,.nop,(some 3),0⟩,
 ⟨none,.ldR 71 3 4 none,none,0⟩,
 ⟨none,.len 72 false (.t 71),none,0⟩,
 ⟨none,.bin 73 .lss (.t 69) (.t 72),none,0⟩]
def c8r12:List SI:=[
 ⟨none,.nop,(some 3),0⟩,
 ⟨none,.ldR 77 3 4 none,none,0⟩,
 ⟨none,.mv 78 (.t 12),none,0⟩,
 ⟨none,.ixA 79 (.t 77) (.t 78) 7,none,0⟩,
 ⟨none,.flA 80 (.t 79) 2,none,0⟩,
 ⟨none,.ld 81 (.t 80) (some 3),none,0⟩,
 ⟨none,.call 82 27 [(.t 81)],none,0⟩,
 ⟨none,.mv 13 (.t 82),none,0⟩]
def c8r13:List SI:=[
 ⟨none,.nop,(some 10),0⟩,
 ⟨none,.ldR 84 10 4 none,none,0⟩,
 ⟨none,.mv 85 (.t 12),none,0⟩,
 ⟨none,.ixA 86 (.t 84) (.t 85) 7,none,0⟩,
 ⟨none,.flA 87 (.t 86) 2,none,0⟩,
 ⟨none,.ld 88 (.t 87) (some 3),none,0⟩,
 ⟨none,.call 89 27 [(.t 88)],none,0⟩,
 ⟨none,.mv 14 (.t 89),none,0⟩]
def c8r14:List SI:=[
 ⟨none,.nop,(some 3),0⟩,
 ⟨none,.ldR 91 3 4 none,none,0⟩,
 ⟨none,.mv 92 (.t 12),none,0⟩,
 ⟨none,.ixA 93 (.t 91) (.t 92) 7,none,0⟩,
 ⟨none,.flA 94 (.t 93) 0,none,0⟩,
 ⟨none,.ld 95 (.t 94) none,none,0⟩,
 ⟨none,.mv 96 (.t 1),none,0⟩,
 ⟨none,.bin 97 .neq (.t 95) (.t 96),none,0⟩]
def c8r15:List SI:=[
 ⟨none,.nop,(some 3),0⟩,
 ⟨none,.ldR 99 3 4 none,none,0⟩,
 ⟨none,.mv 100 (.t 12),none,0⟩,
 ⟨none,.ixA 101 (.t 99) (.t 100) 7,none,0⟩,
 ⟨none,.flA 102 (.t 101) 1,none,0⟩,
 ⟨none,.ld 103 (.t 102) none,none,0⟩,
 ⟨none,.mv 104 (.t 103),none,0⟩,
 Y_ 104 (.mv 105 (.t 13)) 105,
 Y_ 104 (.mv 106 (.t 14)) 106,
 Y_ 104 (.call 107 29 [(.t 105),(.t 106)]) 107,
 Y_ 104 (.un 108 .not (.t 107)) 108,
 ⟨none,.pick 109 (.t 104) (.t 108) (.b false),none,0⟩]
def c8r16:List SI:=[
 mv 6 (.b false)]
def c8r17:List SI:=[
 ⟨none,.nop,(some 10),0⟩,
 ⟨none,.ldR 111 10 4 none,none,0⟩,
 ⟨none,.mv 112 (.t 12),none,0⟩,
 ⟨none,.ixA 113 (.t 111) (.t 112) 7,none,0⟩,
 ⟨none,.flA 114 (.t 113) 1,none,0⟩,
 ⟨none,.ld 115 (.t 114) none,none,0⟩,
 ⟨none,.un 116 .not (.t 115),none,0⟩,
 ⟨none,.mv 117 (.t 116),none,0⟩,
 X_ 117 (.mv 118 (.t 14)) 118,
 X_ 117 (.len 119 false (.t 118)) 119,
 X_ 117 (.mv 120 (.t 13)) 120,
 X_ 117 (.len 121 false (.t 120)) 121,
 X_ 117 (.bin 122 .gtr (.t 119) (.t 121)) 122,
 ⟨none,.pick 123 (.t 117) (.b true) (.t 122),none,0⟩,
 ⟨none,.mv 124 (.t 123),none,0⟩,
 X_ 124 (.mv 125 (.t 2)) 125,
 X_ 124 (.bin 126 .eql (.t 125) (.i 0)) 126,
 X_ 124 (.mv 127 (.t 126)) 127,
 Y_ 127 (.mv 128 (.t 14)) 128,
 Y_ 127 (.len 129 false (.t 128)) 129,
 Y_ 127 (.mv 130 (.t 13)) 130,
 Y_ 127 (.len 131 false (.t 130)) 131,
 Y_ 127 (.bin 132 .lss (.t 129) (.t 131)) 132,
 X_ 124 (.pick 133 (.t 127) (.t 132) (.b false)) 133,
 ⟨none,.pick 134 (.t 124) (.b true) (.t 133),none,0⟩,
 ⟨none,.mv 135 (.t 134),none,0⟩,
 X_ 135 (.mv 136 (.t 14)) 136,
 X_ 135 (.mv 137 (.t 13)) 137,
 X_ 135 (.mv 138 (.t 14)) 138,
 X_ 135 (.len 139 false (.t 138)) 139,
 X_ 135 (.sl 140 (.t 137) none (some (.t 139)) none 10) 140,
 X_ 135 (.call 141 29 [(.t 136),(.t 140)]) 141,
 X_ 135 (.un 142 .not (.t 141)) 142,
 ⟨none,.pick 143 (.t 135) (.b true) (.t 142),none,0⟩]
def c8r18:List SI:=[
 mv 6 (.b false)]
def c8r19:List SI:=[
 mv 74 (.t 12),
 bin 75 .add (.t 74) (.i 1),
 mv 12 (.t 75)]
def c8r20:List SI:=[
 mv 144 (.t 7),
 mv 6 (.t 144)]
def c8:SC :=
 (.seq (.reg false c8r0)
 (.seq (.reg false c8r1)
 (.seq (.seq (.reg false c8r2)
 (.cond (.t 23)
  (.seq (.reg false c8r3)
  .ret)
  .skip))
 (.seq (.reg false c8r4)
 (.seq (.reg false c8r5)
 (.seq (.seq (.reg false c8r6)
 (.cond (.t 39)
  (.seq (.reg false c8r7)
  .ret)
  .skip))
 (.seq (.seq (.reg false c8r8)
 (.cond (.t 68)
  (.seq (.reg false c8r9)
  .ret)
  .skip))
 (.seq (.seq (.reg false c8r10)
 (.blk 0 (.loop (.seq (.seq (.reg false c8r11)
   (.cond (.t 73)
    .skip
    (.exit 0)))
   (.seq (.blk 1 (.seq (.reg false c8r12)
    (.seq (.reg false c8r13)
    (.seq (.seq (.reg false c8r14)
    (.cond (.t 97)
     (.seq (.seq (.reg false c8r15)
     (.cond (.t 109)
      (.seq (.reg false c8r16)
      .ret)
      .skip))
     (.exit 1))
     .skip))
    (.seq (.reg false c8r17)
    (.cond (.t 143)
     (.seq (.reg false c8r18)
     .ret)
     .skip))))))
   (.reg false c8r19))))))
 (.seq (.reg false c8r20)
 .ret)))))))))
def v8:List Nat × List Nat:=([3,8,10],[3,8,10,42,50,53,59,64,70,76,83,90,98,110])
def o8:List RS:=[.t 6]
def c11r0:List SI:=[
 mv 0 (.b false)]
def c11r1:List SI:=[
 bls 26 3 3 1 [(.int .i64 0),(.int .i64 0),(.int .i64 0)] [(0,1,(.i 0)),(1,1,(.i 1)),(2,1,(.i 2))],
 call 27 13 [(.t 26),(.i 4096),(.i 1)],
 mv 25 (.t 27),
 ext 28 (.t 25) 0,
 ext 29 (.t 25) 1,
 alR 1 [(.int .i64 0),(.int .i64 0),(.int .i64 0),(.slice none 0 0),(.slice none 0 0)],
 stR 1 0 5 (.t 28),
 mv 2 (.t 29)]
def c11r2:RX:=.br [(true,N_ (.ldR 31 1 0 (some 5)))]
 ⟨none,.call 32 43 [],none,0⟩
 (.br []
 ⟨none,.call 33 25 [(.t 31),(.t 32)],none,0⟩
 (.leaf [(true,N_ (.mv 30 (.t 33))),
 (true,N_ (.ext 34 (.t 30) 0)),
 (true,N_ (.ext 35 (.t 30) 1)),
 (true,N_ (.ext 36 (.t 30) 2)),
 (false,N_ (.al 3 [(.int .i64 0),(.int .i64 0),(.int .i64 0),(.slice none 0 0),(.slice none 0 0)])),
 (false,N_ (.st (.t 3) 5 (.t 34))),
 (true,N_ (.mv 4 (.t 35))),
 (true,N_ (.mv 5 (.t 36)))])
 ⟨none,.al 3 [(.int .i64 0),(.int .i64 0),(.int .i64 0),(.slice none 0 0),(.slice none 0 0)],none,0⟩
 (.leaf [(false,N_ (.call 33 25 [(.t 31),(.t 32)])),
 (true,N_ (.mv 30 (.t 33))),
 (true,N_ (.ext 34 (.t 30) 0)),
 (true,N_ (.ext 35 (.t 30) 1)),
 (true,N_ (.ext 36 (.t 30) 2)),
 (false,N_ (.st (.t 3) 5 (.t 34))),
 (true,N_ (.mv 4 (.t 35))),
 (true,N_ (.mv 5 (.t 36)))]))
 ⟨none,.al 3 [(.int .i64 0),(.int .i64 0),(.int .i64 0),(.slice none 0 0),(.slice none 0 0)],none,0⟩
 (.leaf [(false,N_ (.call 32 43 [])),
 (false,N_ (.call 33 25 [(.t 31),(.t 32)])),
 (true,N_ (.mv 30 (.t 33))),
 (true,N_ (.ext 34 (.t 30) 0)),
 (true,N_ (.ext 35 (.t 30) 1)),
 (true,N_ (.ext 36 (.t 30) 2)),
 (false,N_ (.st (.t 3) 5 (.t 34))),
 (true,N_ (.mv 4 (.t 35))),
 (true,N_ (.mv 5 (.t 36)))])
def c11r3:List SI:=[
 ld 38 (.t 3) (some 5),
 call 39 33 [(.t 38),(.i 1)],
 mv 37 (.t 39),
 ext 40 (.t 37) 0,
 ext 41 (.t 37) 1,
 alR 6 [(.int .i64 0),(.int .i64 0),(.int .i64 0),(.slice none 0 0),(.slice none 0 0)],
 stR 6 0 5 (.t 40),
 mv 7 (.t 41)]
def c11r4:List SI:=[
 ldR 43 6 0 (some 5),
 call 44 44 [(.t 43),(.i 2)],
 mv 42 (.t 44),
 ext 45 (.t 42) 0,
 ext 46 (.t 42) 1,
 alR 8 [(.int .i64 0),(.int .i64 0),(.int .i64 0),(.slice none 0 0),(.slice none 0 0)],
 stR 8 0 5 (.t 45),
 mv 9 (.t 46)]
def c11r5:List SI:=[
 ldR 48 8 0 (some 5),
 call 49 35 [(.t 48),(.i 0),(.i 0)],
 mv 47 (.t 49),
 ext 50 (.t 47) 0,
 ext 51 (.t 47) 1,
 alR 10 [(.int .i64 0),(.int .i64 0),(.int .i64 0),(.slice none 0 0),(.slice none 0 0)],
 stR 10 0 5 (.t 50),
 mv 11 (.t 51)]
def c11r6:RX:=.br [(true,N_ (.ldR 53 10 0 (some 5)))]
 ⟨none,.call 54 43 [],none,0⟩
 (.br []
 ⟨none,.call 55 25 [(.t 53),(.t 54)],none,0⟩
 (.leaf [(true,N_ (.mv 52 (.t 55))),
 (true,N_ (.ext 56 (.t 52) 0)),
 (true,N_ (.ext 57 (.t 52) 1)),
 (true,N_ (.ext 58 (.t 52) 2)),
 (false,N_ (.al 12 [(.int .i64 0),(.int .i64 0),(.int .i64 0),(.slice none 0 0),(.slice none 0 0)])),
 (false,N_ (.st (.t 12) 5 (.t 56))),
 (true,N_ (.mv 13 (.t 57))),
 (true,N_ (.mv 14 (.t 58)))])
 ⟨none,.al 12 [(.int .i64 0),(.int .i64 0),(.int .i64 0),(.slice none 0 0),(.slice none 0 0)],none,0⟩
 (.leaf [(false,N_ (.call 55 25 [(.t 53),(.t 54)])),
 (true,N_ (.mv 52 (.t 55))),
 (true,N_ (.ext 56 (.t 52) 0)),
 (true,N_ (.ext 57 (.t 52) 1)),
 (true,N_ (.ext 58 (.t 52) 2)),
 (false,N_ (.st (.t 12) 5 (.t 56))),
 (true,N_ (.mv 13 (.t 57))),
 (true,N_ (.mv 14 (.t 58)))]))
 ⟨none,.al 12 [(.int .i64 0),(.int .i64 0),(.int .i64 0),(.slice none 0 0),(.slice none 0 0)],none,0⟩
 (.leaf [(false,N_ (.call 54 43 [])),
 (false,N_ (.call 55 25 [(.t 53),(.t 54)])),
 (true,N_ (.mv 52 (.t 55))),
 (true,N_ (.ext 56 (.t 52) 0)),
 (true,N_ (.ext 57 (.t 52) 1)),
 (true,N_ (.ext 58 (.t 52) 2)),
 (false,N_ (.st (.t 12) 5 (.t 56))),
 (true,N_ (.mv 13 (.t 57))),
 (true,N_ (.mv 14 (.t 58)))])
def c11r7:List SI:=[
 ldR 60 10 0 (some 5),
 call 61 37 [(.t 60),(.i 2)],
 mv 59 (.t 61),
 ext 62 (.t 59) 0,
 ext 63 (.t 59) 1,
 alR 15 [(.int .i64 0),(.int .i64 0),(.int .i64 0),(.slice none 0 0),(.slice none 0 0)],
 stR 15 0 5 (.t 62),
 mv 16 (.t 63)]
def c11r8:List SI:=[
 ldR 65 10 0 (some 5),
 call 66 37 [(.t 65),(.i 1)],
 mv 64 (.t 66),
 ext 67 (.t 64) 0,
 ext 68 (.t 64) 1,
 alR 17 [(.int .i64 0),(.int .i64 0),(.int .i64 0),(.slice none 0 0),(.slice none 0 0)],
 stR 17 0 5 (.t 67),
 mv 18 (.t 68)]
def c11r9:List SI:=[
 ldR 70 17 0 (some 5),
 call 71 15 [(.t 70)],
 mv 69 (.t 71),
 ext 72 (.t 69) 0,
 ext 73 (.t 69) 1,
 alR 19 [(.int .i64 0),(.int .i64 0),(.slice none 0 0)],
 stR 19 0 3 (.t 72),
 mv 20 (.t 73)]
def c11r10:List SI:=[
 ldR 75 17 0 (some 5),
 call 76 36 [(.t 75),(.i 0)],
 mv 74 (.t 76),
 ext 77 (.t 74) 0,
 ext 78 (.t 74) 1,
 alR 21 [(.int .i64 0),(.int .i64 0),(.int .i64 0),(.slice none 0 0),(.slice none 0 0)],
 stR 21 0 5 (.t 77),
 mv 22 (.t 78)]
def c11r11:List SI:=[
 ldR 80 21 0 (some 5),
 call 81 36 [(.t 80),(.i 0)],
 mv 79 (.t 81),
 ext 82 (.t 79) 0,
 ext 83 (.t 79) 1,
 alR 23 [(.int .i64 0),(.int .i64 0),(.int .i64 0),(.slice none 0 0),(.slice none 0 0)],
 stR 23 0 5 (.t 82),
 mv 24 (.t 83)]
def c11r12:List SI:=[
 ⟨none,.mv 84 (.t 2),none,0⟩,
 ⟨none,.bin 85 .neq (.t 84) (.i 0),none,0⟩,
 ⟨none,.mv 86 (.t 85),none,0⟩,
 X_ 86 (.mv 87 (.t 5)) 87,
 X_ 86 (.bin 88 .neq (.t 87) (.i 0)) 88,
 ⟨none,.pick 89 (.t 86) (.b true) (.t 88),none,0⟩,
 ⟨none,.mv 90 (.t 89),none,0⟩,
 X_ 90 (.mv 91 (.t 7)) 91,
 X_ 90 (.bin 92 .neq (.t 91) (.i 0)) 92,
 ⟨none,.pick 93 (.t 90) (.b true) (.t 92),none,0⟩,
 ⟨none,.mv 94 (.t 93),none,0⟩,
 X_ 94 (.mv 95 (.t 9)) 95,
 X_ 94 (.bin 96 .neq (.t 95) (.i 0)) 96,
 ⟨none,.pick 97 (.t 94) (.b true) (.t 96),none,0⟩,
 ⟨none,.mv 98 (.t 97),none,0⟩,
 X_ 98 (.mv 99 (.t 11)) 99,
 X_ 98 (.bin 100 .neq (.t 99) (.i 0)) 100,
 ⟨none,.pick 101 (.t 98) (.b true) (.t 100),none,0⟩,
 ⟨none,.mv 102 (.t 101),none,0⟩,
 X_ 102 (.mv 103 (.t 18)) 103,
 X_ 102 (.bin 104 .neq (.t 103) (.i 0)) 104,
 ⟨none,.pick 105 (.t 102) (.b true) (.t 104),none,0⟩,
 ⟨none,.mv 106 (.t 105),none,0⟩,
 X_ 106 (.mv 107 (.t 20)) 107,
 X_ 106 (.bin 108 .neq (.t 107) (.i 0)) 108,
 ⟨none,.pick 109 (.t 106) (.b true) (.t 108),none,0⟩,
 ⟨none,.mv 110 (.t 109),none,0⟩,
 X_ 110 (.mv 111 (.t 22)) 111,
 X_ 110 (.bin 112 .neq (.t 111) (.i 0)) 112,
 ⟨none,.pick 113 (.t 110) (.b true) (.t 112),none,0⟩,
 ⟨none,.mv 114 (.t 113),none,0⟩,
 F_ 114 17,
 X_ 114 (.ldR 116 17 3 none) 116,
 X_ 114 (.len 117 false (.t 116)) 117,
 X_ 114 (.bin 118 .neq (.t 117) (.i 1)) 118,
 ⟨none,.pick 119 (.t 114) (.b true) (.t 118),none,0⟩]
def c11r13:List SI:=[
 mv 0 (.b false)]
def c11r14:List SI:=[
 ⟨none,.mv 120 (.t 4),none,0⟩,
 ⟨none,.bin 121 .eql (.t 120) (.i 0),none,0⟩,
 ⟨none,.mv 122 (.t 121),none,0⟩,
 Y_ 122 (.ld 123 (.t 3) (some 5)) 123,
 Y_ 122 (.call 124 20 [(.t 123)]) 124,
 Y_ 122 (.bin 125 .eql (.t 124) (.i 0)) 125,
 ⟨none,.pick 126 (.t 122) (.t 125) (.b false),none,0⟩,
 ⟨none,.mv 127 (.t 126),none,0⟩,
 Y_ 127 (.ldR 128 6 0 (some 5)) 128,
 Y_ 127 (.call 129 20 [(.t 128)]) 129,
 Y_ 127 (.bin 130 .eql (.t 129) (.i 0)) 130,
 ⟨none,.pick 131 (.t 127) (.t 130) (.b false),none,0⟩,
 ⟨none,.mv 132 (.t 131),none,0⟩,
 Y_ 132 (.ldR 133 8 0 (some 5)) 133,
 Y_ 132 (.call 134 20 [(.t 133)]) 134,
 Y_ 132 (.bin 135 .eql (.t 134) (.i 2)) 135,
 ⟨none,.pick 136 (.t 132) (.t 135) (.b false),none,0⟩,
 ⟨none,.mv 137 (.t 136),none,0⟩,
 T_ 137 10,
 Y_ 137 (.ldR 139 10 1 none) 139,
 Y_ 137 (.bin 140 .eql (.t 139) (.i (-1))) 140,
 ⟨none,.pick 141 (.t 137) (.t 140) (.b false),none,0⟩,
 ⟨none,.mv 142 (.t 141),none,0⟩,
 Y_ 142 (.mv 143 (.t 14)) 143,
 Y_ 142 (.bin 144 .eql (.t 143) (.i 180)) 144,
 ⟨none,.pick 145 (.t 142) (.t 144) (.b false),none,0⟩,
 ⟨none,.mv 146 (.t 145),none,0⟩,
 Y_ 146 (.mv 147 (.t 16)) 147,
 Y_ 146 (.bin 148 .eql (.t 147) (.i 181)) 148,
 ⟨none,.pick 149 (.t 146) (.t 148) (.b false),none,0⟩,
 ⟨none,.mv 150 (.t 149),none,0⟩,
 T_ 150 17,
 Y_ 150 (.ldR 152 17 0 none) 152,
 Y_ 150 (.bin 153 .eql (.t 152) (.i 2)) 153,
 ⟨none,.pick 154 (.t 150) (.t 153) (.b false),none,0⟩,
 ⟨none,.mv 155 (.t 154),none,0⟩,
 T_ 155 17,
 Y_ 155 (.ldR 157 17 1 none) 157,
 Y_ 155 (.bin 158 .eql (.t 157) (.i 1)) 158,
 ⟨none,.pick 159 (.t 155) (.t 158) (.b false),none,0⟩,
 ⟨none,.mv 160 (.t 159),none,0⟩,
 T_ 160 17,
 Y_ 160 (.ldR 162 17 3 none) 162,
 Y_ 160 (.ixA 163 (.t 162) (.i 0) 1) 163,
 Y_ 160 (.ld 164 (.t 163) none) 164,
 Y_ 160 (.bin 165 .eql (.t 164) (.i 1)) 165,
 ⟨none,.pick 166 (.t 160) (.t 165) (.b false),none,0⟩,
 ⟨none,.mv 167 (.t 166),none,0⟩,
 Y_ 167 (.ldR 168 17 0 (some 5)) 168,
 Y_ 167 (.call 169 20 [(.t 168)]) 169,
 Y_ 167 (.bin 170 .eql (.t 169) (.i 2)) 170,
 ⟨none,.pick 171 (.t 167) (.t 170) (.b false),none,0⟩,
 ⟨none,.mv 172 (.t 171),none,0⟩,
 Y_ 172 (.ldR 173 19 0 (some 3)) 173,
 Y_ 172 (.call 174 22 [(.t 173)]) 174,
 Y_ 172 (.bin 175 .eql (.t 174) (.i 2)) 175,
 ⟨none,.pick 176 (.t 172) (.t 175) (.b false),none,0⟩,
 ⟨none,.mv 177 (.t 176),none,0⟩,
 Y_ 177 (.mv 178 (.t 24)) 178,
 Y_ 177 (.bin 179 .eql (.t 178) (.i 150)) 179,
 ⟨none,.pick 180 (.t 177) (.t 179) (.b false),none,0⟩,
 ⟨none,.mv 181 (.t 180),none,0⟩,
 Y_ 181 (.ldR 182 21 0 (some 5)) 182,
 Y_ 181 (.call 183 18 [(.t 182)]) 183,
 Y_ 181 (.bin 184 .eql (.t 183) (.i 0)) 184,
 ⟨none,.pick 185 (.t 181) (.t 184) (.b false),none,0⟩,
 ⟨none,.mv 186 (.t 185),none,0⟩,
 Y_ 186 (.bld 187 [(.int .i64 0),(.int .i64 0),(.int .i64 0),(.slice none 0 0),(.slice none 0 0)] []) 187,
 Y_ 186 (.call 188 18 [(.t 187)]) 188,
 Y_ 186 (.bin 189 .eql (.t 188) (.i 1)) 189,
 ⟨none,.pick 190 (.t 186) (.t 189) (.b false),none,0⟩,
 ⟨none,.mv 0 (.t 190),none,0⟩]
def c11:SC :=
 (.seq (.reg false c11r0)
 (.seq (.reg false c11r1)
 (.seq (.rgZ c11r2)
 (.seq (.reg false c11r3)
 (.seq (.reg false c11r4)
 (.seq (.reg false c11r5)
 (.seq (.rgZ c11r6)
 (.seq (.reg false c11r7)
 (.seq (.reg false c11r8)
 (.seq (.reg false c11r9)
 (.seq (.reg false c11r10)
 (.seq (.reg false c11r11)
 (.seq (.seq (.reg false c11r12)
 (.cond (.t 119)
  (.seq (.reg false c11r13)
  .ret)
  .skip))
 (.seq (.reg false c11r14)
 .ret))))))))))))))
def v11:List Nat × List Nat:=([1,6,8,10,15,17,19,21,23],[1,6,8,10,15,17,19,21,23,115,138,151,156,161])
def o11:List RS:=[.t 0]
def c12r0:List SI:=[
 bxR 1 (.t 0),
 mv 2 (.b false)]
def c12r1:List SI:=[
 mv 3 (.i 0)]
def c12r2:List SI:=[
 ⟨none,.mv 4 (.t 3),none,0⟩,
 ⟨none,.nop,(some 1),0⟩,
 ⟨none,.ldR 6 1 4 none,none,0⟩,
 ⟨none,.len 7 false (.t 6),none,0⟩,
 ⟨none,.bin 8 .lss (.t 4) (.t 7),none,0⟩,
 ⟨none,.mv 9 (.t 8),none,0⟩,
 Y_ 9 (.mv 10 (.t 3)) 10,
 Y_ 9 (.bin 11 .lss (.t 10) (.i 10)) 11,
 ⟨none,.pick 12 (.t 9) (.t 11) (.b false),none,0⟩]
def c12r3:List SI:=[
 ⟨none,.nop,(some 1),0⟩,
 ⟨none,.ldR 16 1 4 none,none,0⟩,
 ⟨none,.mv 17 (.t 3),none,0⟩,
 ⟨none,.ixA 18 (.t 16) (.t 17) 7,none,0⟩,
 ⟨none,.flA 19 (.t 18) 2,none,0⟩,
 ⟨none,.ld 20 (.t 19) (some 3),none,0⟩,
 ⟨none,.call 21 45 [(.t 20)],none,0⟩,
 ⟨none,.un 22 .not (.t 21),none,0⟩,
 ⟨none,.mv 23 (.t 22),none,0⟩,
 F_ 23 1,
 X_ 23 (.ldR 25 1 4 none) 25,
 X_ 23 (.mv 26 (.t 3)) 26,
 X_ 23 (.ixA 27 (.t 25) (.t 26) 7) 27,
 X_ 23 (.flA 28 (.t 27) 5) 28,
 X_ 23 (.ld 29 (.t 28) none) 29,
 X_ 23 (.len 30 false (.t 29)) 30,
 X_ 23 (.bin 31 .gtr (.t 30) (.i 60)) 31,
 ⟨none,.pick 32 (.t 23) (.b true) (.t 31),none,0⟩]
def c12r4:List SI:=[
 mv 2 (.b false)]
def c12r5:List SI:=[
 mv 13 (.t 3),
 bin 14 .add (.t 13) (.i 1),
 mv 3 (.t 14)]
def c12r6:List SI:=[
 ⟨none,.nop,(some 1),0⟩,
 ⟨none,.ldR 34 1 4 none,none,0⟩,
 ⟨none,.len 35 false (.t 34),none,0⟩,
 ⟨none,.bin 36 .leq (.t 35) (.i 8),none,0⟩,
 ⟨none,.mv 37 (.t 36),none,0⟩,
 T_ 37 1,
 Y_ 37 (.ldR 39 1 3 none) 39,
 Y_ 37 (.len 40 false (.t 39)) 40,
 Y_ 37 (.bin 41 .leq (.t 40) (.i 30)) 41,
 ⟨none,.pick 42 (.t 37) (.t 41) (.b false),none,0⟩,
 ⟨none,.mv 2 (.t 42),none,0⟩]
def c12:SC :=
 (.seq (.reg false c12r0)
 (.seq (.seq (.reg false c12r1)
 (.blk 0 (.loop (.seq (.seq (.reg false c12r2)
   (.cond (.t 12)
    .skip
    (.exit 0)))
   (.seq (.blk 1 (.seq (.reg false c12r3)
    (.cond (.t 32)
     (.seq (.reg false c12r4)
     .ret)
     .skip)))
   (.reg false c12r5))))))
 (.seq (.reg false c12r6)
 .ret)))
def v12:List Nat × List Nat:=([1],[1,5,15,24,33,38])
def o12:List RS:=[.t 2]
def c13r0:List SI:=[
 alR 6 [(.int .i64 0),(.int .i64 0),(.int .i64 0),(.slice none 0 0),(.slice none 0 0)],
 mv 7 (.i 0)]
def c13r1:List SI:=[
 mv 14 (.t 1),
 call 15 46 [(.t 14),(.i 0)],
 mv 13 (.t 15),
 ext 16 (.t 13) 0,
 ext 17 (.t 13) 1,
 alR 8 [(.int .i64 0),(.int .i64 0),(.slice none 0 0)],
 stR 8 0 3 (.t 16),
 mv 9 (.t 17)]
def c13r2:List SI:=[
 ⟨none,.mv 18 (.t 9),none,0⟩,
 ⟨none,.bin 19 .neq (.t 18) (.i 0),none,0⟩,
 ⟨none,.mv 20 (.t 19),none,0⟩,
 X_ 20 (.mv 21 (.t 0)) 21,
 X_ 20 (.call 22 47 [(.t 21)]) 22,
 X_ 20 (.un 23 .not (.t 22)) 23,
 ⟨none,.pick 24 (.t 20) (.b true) (.t 23),none,0⟩,
 ⟨none,.mv 25 (.t 24),none,0⟩,
 X_ 25 (.mv 26 (.t 0)) 26,
 X_ 25 (.len 27 false (.t 26)) 27,
 X_ 25 (.bin 28 .gtr (.t 27) (.i 5)) 28,
 ⟨none,.pick 29 (.t 25) (.b true) (.t 28),none,0⟩,
 ⟨none,.mv 30 (.t 29),none,0⟩,
 X_ 30 (.mv 31 (.t 2)) 31,
 X_ 30 (.bin 32 .lss (.t 31) (.i 1)) 32,
 ⟨none,.pick 33 (.t 30) (.b true) (.t 32),none,0⟩,
 ⟨none,.mv 34 (.t 33),none,0⟩,
 X_ 34 (.mv 35 (.t 2)) 35,
 X_ 34 (.mv 36 (.t 0)) 36,
 X_ 34 (.len 37 false (.t 36)) 37,
 X_ 34 (.bin 38 .gtr (.t 35) (.t 37)) 38,
 ⟨none,.pick 39 (.t 34) (.b true) (.t 38),none,0⟩]
def c13r3:List SI:=[
 bld 40 [(.int .i64 0),(.int .i64 0),(.int .i64 0),(.slice none 0 0),(.slice none 0 0)] [],
 stR 6 0 5 (.t 40),
 mv 7 (.i 1)]
def c13r4:RX:=.br [(true,N_ (.mv 41 (.t 0))),
 (true,N_ (.ixA 42 (.t 41) (.i 0) 1)),
 (true,N_ (.ld 43 (.t 42) none)),
 (true,N_ (.mv 44 (.t 2))),
 (true,N_ (.mv 45 (.t 0)))]
 ⟨none,.call 46 48 [(.t 45)],none,0⟩
 (.leaf [(true,N_ (.bld 47 [(.int .i64 0),(.int .i64 0),(.int .i64 0),(.slice none 0 0),(.slice none 0 0)] [(0,1,(.i 1)),(1,1,(.t 43)),(2,1,(.t 44)),(3,1,(.t 46))])),
 (false,N_ (.al 10 [(.int .i64 0),(.int .i64 0),(.int .i64 0),(.slice none 0 0),(.slice none 0 0)])),
 (false,N_ (.st (.t 10) 5 (.t 47)))])
 ⟨none,.al 10 [(.int .i64 0),(.int .i64 0),(.int .i64 0),(.slice none 0 0),(.slice none 0 0)],none,0⟩
 (.leaf [(false,N_ (.call 46 48 [(.t 45)])),
 (true,N_ (.bld 47 [(.int .i64 0),(.int .i64 0),(.int .i64 0),(.slice none 0 0),(.slice none 0 0)] [(0,1,(.i 1)),(1,1,(.t 43)),(2,1,(.t 44)),(3,1,(.t 46))])),
 (false,N_ (.st (.t 10) 5 (.t 47)))])
def c13r5:List SI:=[
 mv 48 (.t 0),
 len 49 false (.t 48),
 mv 50 (.i 0)]
def c13r6:List SI:=[
 bin 51 .lss (.t 50) (.t 49)]
def c13r7:List SI:=[
 ixA 52 (.t 48) (.t 50) 1,
 ld 53 (.t 52) none,
 mv 12 (.t 53)]
def c13r8:List SI:=[
 flA 54 (.t 10) 4,
 ld 55 (.t 54) none,
 mv 56 (.t 12),
 ldR 57 8 0 (some 3),
 bld 58 [(.int .i64 0),(.bool false),(.int .i64 0),(.int .i64 0),(.slice none 0 0),(.slice none 0 0),(.int .i64 0)] [(0,1,(.t 56)),(1,1,(.b true)),(2,3,(.t 57))],
 bls 59 50 1 7 [(.int .i64 0),(.bool false),(.int .i64 0),(.int .i64 0),(.slice none 0 0),(.slice none 0 0),(.int .i64 0)] [(0,7,(.t 58))],
 app 60 (.t 55) (.t 59) 50 7 88,
 flA 61 (.t 10) 4,
 st (.t 61) 1 (.t 60)]
def c13r9:List SI:=[
 bin 62 .add (.t 50) (.i 1),
 mv 50 (.t 62)]
def c13r10:List SI:=[
 ld 63 (.t 10) (some 5),
 stR 6 0 5 (.t 63),
 mv 7 (.i 0)]
def c13:SC :=
 (.seq (.reg false c13r0)
 (.seq (.reg false c13r1)
 (.seq (.seq (.reg false c13r2)
 (.cond (.t 39)
  (.seq (.reg false c13r3)
  .ret)
  .skip))
 (.seq (.rgZ c13r4)
 (.seq (.seq (.reg false c13r5)
 (.blk 0 (.loop (.seq (.reg false c13r6)
   (.seq (.cond (.t 51)
    .skip
    (.exit 0))
   (.seq (.blk 1 (.seq (.reg false c13r7)
    (.reg false c13r8)))
   (.reg false c13r9)))))))
 (.seq (.reg false c13r10)
 .ret))))))
def v13:List Nat × List Nat:=([6,8],[6,8])
def o13:List RS:=[.r 6 (some 5),.t 7]
def c15r0:List SI:=[
 bxR 1 (.t 0),
 alR 2 [(.int .i64 0),(.int .i64 0),(.slice none 0 0)],
 mv 3 (.i 0)]
def c15r1:List SI:=[
 ldR 6 1 0 (some 5),
 call 7 18 [(.t 6)],
 mv 4 (.t 7)]
def c15r2:List SI:=[
 mv 8 (.t 4),
 bin 9 .neq (.t 8) (.i 0)]
def c15r3:List SI:=[
 bld 10 [(.int .i64 0),(.int .i64 0),(.slice none 0 0)] [],
 mv 11 (.t 4),
 stR 2 0 3 (.t 10),
 mv 3 (.t 11)]
def c15r4:List SI:=[
 ⟨none,.nop,(some 1),0⟩,
 ⟨none,.ldR 13 1 1 none,none,0⟩,
 ⟨none,.bin 14 .lss (.t 13) (.i 0),none,0⟩]
def c15r5:List SI:=[
 bld 15 [(.int .i64 0),(.int .i64 0),(.slice none 0 0)] [],
 stR 2 0 3 (.t 15),
 mv 3 (.i 180)]
def c15r6:List SI:=[
 ldR 16 1 0 (some 5),
 bld 17 [(.int .i64 0),(.int .i64 0),(.int .i64 0),(.slice none 0 0),(.slice none 0 0)] [(0,5,(.t 16))],
 bx 18 (.t 17),
 mv 5 (.t 18)]
def c15r7:List SI:=[
 ⟨none,.mv 19 (.t 5),none,0⟩,
 ⟨none,.nop,(some 1),0⟩,
 ⟨none,.ldR 21 1 1 none,none,0⟩,
 ⟨none,.call 22 51 [(.t 19),(.t 21)],none,0⟩,
 ⟨none,.nck 23 (.t 22),none,0⟩,
 ⟨none,.flA 24 (.t 23) 2,none,0⟩,
 ⟨none,.ld 25 (.t 24) (some 3),none,0⟩,
 ⟨none,.stR 2 0 3 (.t 25),none,0⟩,
 ⟨none,.mv 3 (.i 0),none,0⟩]
def c15:SC :=
 (.seq (.reg false c15r0)
 (.seq (.seq (.reg false c15r1)
 (.seq (.reg false c15r2)
 (.cond (.t 9)
  (.seq (.reg false c15r3)
  .ret)
  .skip)))
 (.seq (.seq (.reg false c15r4)
 (.cond (.t 14)
  (.seq (.reg false c15r5)
  .ret)
  .skip))
 (.seq (.reg false c15r6)
 (.seq (.reg false c15r7)
 .ret)))))
def v15:List Nat × List Nat:=([1,2],[1,2,12,20])
def o15:List RS:=[.r 2 (some 3),.t 3]
def c18r0:List SI:=[
 bxR 1 (.t 0),
 mv 2 (.i 0)]
def c18r1:List SI:=[
 al 3 [(.slice none 0 0)]]
def c18r2:List SI:=[
 ⟨none,.nop,(some 1),0⟩,
 ⟨none,.ldR 8 1 4 none,none,0⟩,
 ⟨none,.len 9 false (.t 8),none,0⟩,
 ⟨none,.mv 10 (.i 0),none,0⟩]
def c18r3:List SI:=[
 bin 11 .lss (.t 10) (.t 9)]
def c18r4:List SI:=[
 ixA 12 (.t 8) (.t 10) 7,
 ld 13 (.t 12) (some 7),
 alR 5 [(.int .i64 0),(.bool false),(.int .i64 0),(.int .i64 0),(.slice none 0 0),(.slice none 0 0),(.int .i64 0)],
 stR 5 0 7 (.t 13)]
def c18r5:List SI:=[
 ⟨none,.ld 14 (.t 3) none,none,0⟩,
 ⟨none,.nop,(some 5),0⟩,
 ⟨none,.ldR 16 5 0 none,none,0⟩,
 ⟨none,.bls 17 3 1 1 [(.int .i64 0)] [(0,1,(.t 16))],none,0⟩,
 ⟨none,.app 18 (.t 14) (.t 17) 3 1 8,none,0⟩,
 ⟨none,.st (.t 3) 1 (.t 18),none,0⟩]
def c18r6:List SI:=[
 bin 19 .add (.t 10) (.i 1),
 mv 10 (.t 19)]
def c18r7:List SI:=[
 ⟨none,.nop,(some 1),0⟩,
 ⟨none,.ldR 21 1 0 none,none,0⟩,
 ⟨none,.call 22 53 [(.t 21)],none,0⟩,
 ⟨none,.un 23 .not (.t 22),none,0⟩,
 ⟨none,.mv 24 (.t 23),none,0⟩,
 X_ 24 (.ld 25 (.t 3) none) 25,
 X_ 24 (.call 26 47 [(.t 25)]) 26,
 X_ 24 (.un 27 .not (.t 26)) 27,
 ⟨none,.pick 28 (.t 24) (.b true) (.t 27),none,0⟩,
 ⟨none,.mv 29 (.t 28),none,0⟩,
 X_ 29 (.ld 30 (.t 3) none) 30,
 X_ 29 (.len 31 false (.t 30)) 31,
 X_ 29 (.bin 32 .gtr (.t 31) (.i 5)) 32,
 ⟨none,.pick 33 (.t 29) (.b true) (.t 32),none,0⟩,
 ⟨none,.mv 34 (.t 33),none,0⟩,
 F_ 34 1,
 X_ 34 (.ldR 36 1 2 none) 36,
 X_ 34 (.bin 37 .lss (.t 36) (.i 1)) 37,
 ⟨none,.pick 38 (.t 34) (.b true) (.t 37),none,0⟩,
 ⟨none,.mv 39 (.t 38),none,0⟩,
 F_ 39 1,
 X_ 39 (.ldR 41 1 2 none) 41,
 X_ 39 (.ld 42 (.t 3) none) 42,
 X_ 39 (.len 43 false (.t 42)) 43,
 X_ 39 (.bin 44 .gtr (.t 41) (.t 43)) 44,
 ⟨none,.pick 45 (.t 39) (.b true) (.t 44),none,0⟩,
 ⟨none,.mv 46 (.t 45),none,0⟩,
 F_ 46 1,
 X_ 46 (.ldR 48 1 4 none) 48,
 X_ 46 (.call 49 54 [(.t 48),(.v (.func (.func 55) #[] #[]))]) 49,
 ⟨none,.pick 50 (.t 46) (.b true) (.t 49),none,0⟩]
def c18r8:List SI:=[
 mv 2 (.i 1)]
def c18r9:List SI:=[
 ⟨none,.nop,(some 1),0⟩,
 ⟨none,.ldR 52 1 3 none,none,0⟩,
 ⟨none,.call 53 47 [(.t 52)],none,0⟩,
 ⟨none,.un 54 .not (.t 53),none,0⟩,
 ⟨none,.mv 55 (.t 54),none,0⟩,
 F_ 55 1,
 X_ 55 (.ldR 57 1 3 none) 57,
 X_ 55 (.mkf 58 (.func 57) [(.t 3)]) 58,
 X_ 55 (.call 59 56 [(.t 57),(.t 58)]) 59,
 ⟨none,.pick 60 (.t 55) (.b true) (.t 59),none,0⟩]
def c18r10:List SI:=[
 mv 2 (.i 1)]
def c18r11:List SI:=[
 ⟨none,.nop,(some 1),0⟩,
 ⟨none,.ldR 62 1 1 none,none,0⟩,
 ⟨none,.bin 63 .eql (.t 62) (.i (-1)),none,0⟩]
def c18r12:List SI:=[
 mv 2 (.i 0)]
def c18r13:List SI:=[
 ⟨none,.ld 64 (.t 3) none,none,0⟩,
 ⟨none,.nop,(some 1),0⟩,
 ⟨none,.ldR 66 1 1 none,none,0⟩,
 ⟨none,.call 67 59 [(.t 64),(.t 66)],none,0⟩,
 ⟨none,.mv 6 (.t 67),none,0⟩]
def c18r14:List SI:=[
 ⟨none,.mv 68 (.t 6),none,0⟩,
 ⟨none,.bin 69 .lss (.t 68) (.i 0),none,0⟩,
 ⟨none,.mv 70 (.t 69),none,0⟩,
 F_ 70 1,
 X_ 70 (.ldR 72 1 4 none) 72,
 X_ 70 (.mv 73 (.t 6)) 73,
 X_ 70 (.ixA 74 (.t 72) (.t 73) 7) 74,
 X_ 70 (.flA 75 (.t 74) 1) 75,
 X_ 70 (.ld 76 (.t 75) none) 76,
 X_ 70 (.un 77 .not (.t 76)) 77,
 ⟨none,.pick 78 (.t 70) (.b true) (.t 77),none,0⟩,
 ⟨none,.mv 79 (.t 78),none,0⟩,
 F_ 79 1,
 X_ 79 (.ldR 81 1 3 none) 81,
 F_ 79 1,
 X_ 79 (.ldR 83 1 1 none) 83,
 X_ 79 (.call 84 58 [(.t 81),(.t 83)]) 84,
 X_ 79 (.un 85 .not (.t 84)) 85,
 ⟨none,.pick 86 (.t 79) (.b true) (.t 85),none,0⟩]
def c18r15:List SI:=[
 mv 2 (.i 1)]
def c18r16:List SI:=[
 mv 2 (.i 0)]
def c18:SC :=
 (.seq (.reg false c18r0)
 (.seq (.reg false c18r1)
 (.seq (.seq (.reg false c18r2)
 (.blk 0 (.loop (.seq (.reg false c18r3)
   (.seq (.cond (.t 11)
    .skip
    (.exit 0))
   (.seq (.blk 1 (.seq (.reg false c18r4)
    (.reg false c18r5)))
   (.reg false c18r6)))))))
 (.seq (.seq (.reg false c18r7)
 (.cond (.t 50)
  (.seq (.reg false c18r8)
  .ret)
  .skip))
 (.seq (.seq (.reg false c18r9)
 (.cond (.t 60)
  (.seq (.reg false c18r10)
  .ret)
  .skip))
 (.seq (.seq (.reg false c18r11)
 (.cond (.t 63)
  (.seq (.reg false c18r12)
  .ret)
  .skip))
 (.seq (.reg false c18r13)
 (.seq (.seq (.reg false c18r14)
 (.cond (.t 86)
  (.seq (.reg false c18r15)
  .ret)
  .skip))
 (.seq (.reg false c18r16)
 .ret)))))))))
def v18:List Nat × List Nat:=([1,5],[1,5,7,15,20,35,40,47,51,56,61,65,71,80,82])
def o18:List RS:=[.t 2]
def c20r0:List SI:=[
 bx 1 (.t 0),
 mv 2 (.i 0)]
def c20r1:List SI:=[
 ld 6 (.t 1) (some 5),
 call 7 18 [(.t 6)],
 bin 8 .neq (.t 7) (.i 0)]
def c20r2:List SI:=[
 mv 2 (.i 0)]
def c20r3:List SI:=[
 ld 9 (.t 1) (some 5),
 bld 10 [(.int .i64 0),(.int .i64 0),(.int .i64 0),(.slice none 0 0),(.slice none 0 0)] [(0,5,(.t 9))],
 bx 11 (.t 10),
 mv 3 (.t 11)]
def c20r4:List SI:=[
 flA 12 (.t 1) 1,
 ld 13 (.t 12) none,
 bin 14 .geq (.t 13) (.i 0)]
def c20r5:List SI:=[
 mv 15 (.t 3),
 flA 16 (.t 1) 1,
 ld 17 (.t 16) none,
 call 18 51 [(.t 15),(.t 17)],
 nck 19 (.t 18),
 flA 20 (.t 19) 6,
 ld 21 (.t 20) none,
 mv 2 (.t 21)]
def c20r6:List SI:=[
 al 4 [(.int .i64 0)],
 st (.t 4) 1 (.i 0)]
def c20r7:List SI:=[
 mv 22 (.t 3),
 call 23 61 [(.t 22)]]
def c20r8:List SI:=[
 mv 5 (.t 24)]
def c20r9:List SI:=[
 ld 25 (.t 4) none,
 mv 26 (.t 5),
 nck 27 (.t 26),
 flA 28 (.t 27) 6,
 ld 29 (.t 28) none,
 mm 30 true (.t 25) (.t 29)]
def c20r10:List SI:=[
 st (.t 4) 1 (.t 30)]
def c20r11:List SI:=[
 ld 31 (.t 4) none,
 mv 2 (.t 31)]
def c20:SC :=
 (.seq (.reg false c20r0)
 (.seq (.seq (.reg false c20r1)
 (.cond (.t 8)
  (.seq (.reg false c20r2)
  .ret)
  .skip))
 (.seq (.reg false c20r3)
 (.seq (.seq (.reg false c20r4)
 (.cond (.t 14)
  (.seq (.reg false c20r5)
  .ret)
  .skip))
 (.seq (.reg false c20r6)
 (.seq (.seq (.reg false c20r7)
 (.blk 0 (.rf (.t 23) [24] (.reg false c20r8)
   (.blk 1 (.rgT c20r9 c20r10)))))
 (.seq (.reg false c20r11)
 .ret)))))))
def v20:List Nat × List Nat:=([],[])
def o20:List RS:=[.t 2]
def c22r0:List SI:=[
 bxR 1 (.t 0),
 mv 2 (.i 0)]
def c22r1:List SI:=[
 ldR 3 1 0 (some 3),
 call 4 62 [(.t 3)],
 bin 5 .neq (.t 4) (.i 0)]
def c22r2:List SI:=[
 mv 2 (.i 0)]
def c22r3:List SI:=[
 ldR 6 1 0 (some 3),
 call 7 63 [(.t 6)],
 mv 2 (.t 7)]
def c22:SC :=
 (.seq (.reg false c22r0)
 (.seq (.seq (.reg false c22r1)
 (.cond (.t 5)
  (.seq (.reg false c22r2)
  .ret)
  .skip))
 (.seq (.reg false c22r3)
 .ret)))
def v22:List Nat × List Nat:=([1],[1])
def o22:List RS:=[.t 2]
def c25r0:List SI:=[
 bxR 2 (.t 0),
 bx 3 (.t 1),
 alR 4 [(.int .i64 0),(.int .i64 0),(.int .i64 0),(.slice none 0 0),(.slice none 0 0)],
 al 5 [(.int .i64 0)],
 mv 6 (.i 0)]
def c25r1:List SI:=[
 ldR 8 2 0 (some 5),
 mkf 9 (.func 66) [(.t 3),(.t 5)],
 call 10 65 [(.t 8),(.t 9)],
 mv 7 (.t 10),
 ext 11 (.t 7) 0,
 ext 12 (.t 7) 1,
 stR 4 0 5 (.t 11),
 mv 6 (.t 12)]
def c25r2:List SI:=[
 mv 13 (.t 6),
 bin 14 .neq (.t 13) (.i 0)]
def c25r3:List SI:=[
 bld 15 [(.int .i64 0),(.int .i64 0),(.int .i64 0),(.slice none 0 0),(.slice none 0 0)] [],
 mv 16 (.t 6),
 stR 4 0 5 (.t 15),
 st (.t 5) 1 (.i 0),
 mv 6 (.t 16)]
def c25r4:List WI:=[
 (true,false,⟨none,.ldR 17 4 0 (some 5),none,0⟩),
 (true,false,⟨none,.ld 18 (.t 5) none,none,0⟩),
 (false,false,⟨none,.stR 4 0 5 (.t 17),none,0⟩),
 (false,true,⟨none,.st (.t 5) 1 (.t 18),none,0⟩),
 (true,false,⟨none,.mv 6 (.i 0),none,0⟩)]
def c25:SC :=
 (.seq (.reg false c25r0)
 (.seq (.reg false c25r1)
 (.seq (.seq (.reg false c25r2)
 (.cond (.t 14)
  (.seq (.reg false c25r3)
  .ret)
  .skip))
 (.seq (.rgW c25r4)
 .ret))))
def v25:List Nat × List Nat:=([2,4],[2,4])
def o25:List RS:=[.r 4 (some 5),.c 5 none,.t 6]
def c27r0:List SI:=[
 bxR 1 (.t 0),
 mv 2 (.v (.slice none 0 0))]
def c27r1:List SI:=[
 ldR 3 1 0 (some 3),
 call 4 62 [(.t 3)],
 bin 5 .neq (.t 4) (.i 0)]
def c27r2:List SI:=[
 mv 2 (.v (.slice none 0 0))]
def c27r3:List SI:=[
 ⟨none,.ldR 6 1 0 (some 3),none,0⟩,
 ⟨none,.nop,(some 1),0⟩,
 ⟨none,.ldR 8 1 1 none,none,0⟩,
 ⟨none,.call 9 76 [(.t 6),(.t 8)],none,0⟩,
 ⟨none,.call 10 75 [(.t 9)],none,0⟩,
 ⟨none,.mv 2 (.t 10),none,0⟩]
def c27:SC :=
 (.seq (.reg false c27r0)
 (.seq (.seq (.reg false c27r1)
 (.cond (.t 5)
  (.seq (.reg false c27r2)
  .ret)
  .skip))
 (.seq (.reg false c27r3)
 .ret)))
def v27:List Nat × List Nat:=([1],[1,7])
def o27:List RS:=[.t 2]
def c29r0:List SI:=[
 mv 4 (.b false)]
def c29r1:List SI:=[
 mv 6 (.t 0),
 len 7 false (.t 6),
 mv 8 (.t 1),
 len 9 false (.t 8),
 bin 10 .neq (.t 7) (.t 9)]
def c29r2:List SI:=[
 mv 4 (.b false)]
def c29r3:List SI:=[
 mv 11 (.t 0),
 len 12 false (.t 11),
 mv 13 (.i 0)]
def c29r4:List SI:=[
 bin 14 .lss (.t 13) (.t 12)]
def c29r5:List SI:=[
 mv 15 (.t 13),
 mv 5 (.t 15)]
def c29r6:List (Bool × SI):=[
 (true,N_ (.mv 16 (.t 0))),
 (true,N_ (.mv 17 (.t 5))),
 (true,N_ (.ixA 18 (.t 16) (.t 17) 10)),
 (true,N_ (.ld 19 (.t 18) (some 10))),
 (true,N_ (.mv 20 (.t 1))),
 (true,N_ (.mv 21 (.t 5))),
 (true,N_ (.ixA 22 (.t 20) (.t 21) 10)),
 (true,N_ (.ld 23 (.t 22) (some 10))),
 (false,N_ (.call 24 79 [(.t 19),(.t 23)])),
 (true,N_ (.un 25 .not (.t 24)))]
def c29r7:List SI:=[
 mv 4 (.b false)]
def c29r8:List SI:=[
 bin 26 .add (.t 13) (.i 1),
 mv 13 (.t 26)]
def c29r9:List SI:=[
 mv 4 (.b true)]
def c29:SC :=
 (.seq (.reg false c29r0)
 (.seq (.seq (.reg false c29r1)
 (.cond (.t 10)
  (.seq (.reg false c29r2)
  .ret)
  .skip))
 (.seq (.seq (.reg false c29r3)
 (.blk 0 (.loop (.seq (.reg false c29r4)
   (.seq (.cond (.t 14)
    .skip
    (.exit 0))
   (.seq (.blk 1 (.seq (.reg false c29r5)
    (.seq (.rgX c29r6)
    (.cond (.t 25)
     (.seq (.reg false c29r7)
     .ret)
     .skip))))
   (.reg false c29r8)))))))
 (.seq (.reg false c29r9)
 .ret))))
def v29:List Nat × List Nat:=([],[])
def o29:List RS:=[.t 4]
def c33r0:List SI:=[
 bxR 2 (.t 0),
 bx 3 (.t 1),
 alR 4 [(.int .i64 0),(.int .i64 0),(.int .i64 0),(.slice none 0 0),(.slice none 0 0)],
 mv 5 (.i 0)]
def c33r1:List SI:=[
 ldR 6 2 0 (some 5),
 ld 7 (.t 3) none,
 mkf 8 (.func 81) [(.t 3)],
 call 9 80 [(.t 6),(.t 7),(.t 8)],
 ext 10 (.t 9) 0,
 ext 11 (.t 9) 1,
 stR 4 0 5 (.t 10),
 mv 5 (.t 11)]
def c33:SC :=
 (.seq (.reg false c33r0)
 (.seq (.reg false c33r1)
 .ret))
def v33:List Nat × List Nat:=([2,4],[2,4])
def o33:List RS:=[.r 4 (some 5),.t 5]
def c35r0:List SI:=[
 bxR 3 (.t 0),
 bx 4 (.t 1),
 bx 5 (.t 2),
 alR 6 [(.int .i64 0),(.int .i64 0),(.int .i64 0),(.slice none 0 0),(.slice none 0 0)],
 mv 7 (.i 0)]
def c35r1:List SI:=[
 ldR 8 3 0 (some 5),
 ld 9 (.t 4) none,
 mkf 10 (.func 85) [(.t 5),(.t 4)],
 call 11 80 [(.t 8),(.t 9),(.t 10)],
 ext 12 (.t 11) 0,
 ext 13 (.t 11) 1,
 stR 6 0 5 (.t 12),
 mv 7 (.t 13)]
def c35:SC :=
 (.seq (.reg false c35r0)
 (.seq (.reg false c35r1)
 .ret))
def v35:List Nat × List Nat:=([3,6],[3,6])
def o35:List RS:=[.r 6 (some 5),.t 7]
def c36r0:List SI:=[
 bxR 2 (.t 0),
 alR 4 [(.int .i64 0),(.int .i64 0),(.int .i64 0),(.slice none 0 0),(.slice none 0 0)],
 mv 5 (.i 0)]
def c36r1:List SI:=[
 ldR 6 2 0 (some 5),
 mv 7 (.t 1),
 call 8 80 [(.t 6),(.t 7),(.v (.func (.func 88) #[] #[]))],
 ext 9 (.t 8) 0,
 ext 10 (.t 8) 1,
 stR 4 0 5 (.t 9),
 mv 5 (.t 10)]
def c36:SC :=
 (.seq (.reg false c36r0)
 (.seq (.reg false c36r1)
 .ret))
def v36:List Nat × List Nat:=([2,4],[2,4])
def o36:List RS:=[.r 4 (some 5),.t 5]
def c37r0:List SI:=[
 bxR 2 (.t 0),
 bx 3 (.t 1),
 alR 4 [(.int .i64 0),(.int .i64 0),(.int .i64 0),(.slice none 0 0),(.slice none 0 0)],
 mv 5 (.i 0)]
def c37r1:List SI:=[
 ldR 6 2 0 (some 5),
 ld 7 (.t 3) none,
 mkf 8 (.func 91) [(.t 3)],
 call 9 80 [(.t 6),(.t 7),(.t 8)],
 ext 10 (.t 9) 0,
 ext 11 (.t 9) 1,
 stR 4 0 5 (.t 10),
 mv 5 (.t 11)]
def c37:SC :=
 (.seq (.reg false c37r0)
 (.seq (.reg false c37r1)
 .ret))
def v37:List Nat × List Nat:=([2,4],[2,4])
def o37:List RS:=[.r 4 (some 5),.t 5]
def c43r0:List SI:=[
 alR 0 [(.int .i64 0),(.int .i64 0),(.int .i64 0),(.int .i64 0),(.int .i64 0),(.int .i64 0),(.int .i64 0),(.bool false),(.int .i64 0),(.slice none 0 0)]]
def c43r1:List SI:=[
 bld 1 [(.int .i64 0),(.string ⟨#[]⟩),(.string ⟨#[]⟩),(.bool false),(.int .i64 0)] [(2,1,(.v (.string ⟨#[118]⟩)))],
 bld 2 [(.int .i64 0),(.string ⟨#[]⟩),(.string ⟨#[]⟩),(.bool false),(.int .i64 0)] [(0,1,(.i 1)),(2,1,(.v (.string ⟨#[119]⟩)))],
 bls 3 103 2 5 [(.int .i64 0),(.string ⟨#[]⟩),(.string ⟨#[]⟩),(.bool false),(.int .i64 0),(.int .i64 0),(.string ⟨#[]⟩),(.string ⟨#[]⟩),(.bool false),(.int .i64 0)] [(0,5,(.t 1)),(5,5,(.t 2))],
 bld 4 [(.int .i64 0),(.int .i64 0),(.int .i64 0),(.int .i64 0),(.int .i64 0),(.int .i64 0),(.int .i64 0),(.bool false),(.int .i64 0),(.slice none 0 0)] [(1,1,(.i 1)),(4,1,(.i (-1))),(9,1,(.t 3))],
 stR 0 0 10 (.t 4)]
def c43:SC :=
 (.seq (.reg false c43r0)
 (.seq (.reg false c43r1)
 .ret))
def v43:List Nat × List Nat:=([0],[0])
def o43:List RS:=[.r 0 (some 10)]
def c44r0:List SI:=[
 bxR 2 (.t 0),
 bx 3 (.t 1),
 alR 4 [(.int .i64 0),(.int .i64 0),(.int .i64 0),(.slice none 0 0),(.slice none 0 0)],
 mv 5 (.i 0)]
def c44r1:List SI:=[
 ldR 6 2 0 (some 5),
 ld 7 (.t 3) none,
 mkf 8 (.func 102) [(.t 3)],
 call 9 80 [(.t 6),(.t 7),(.t 8)],
 ext 10 (.t 9) 0,
 ext 11 (.t 9) 1,
 stR 4 0 5 (.t 10),
 mv 5 (.t 11)]
def c44:SC :=
 (.seq (.reg false c44r0)
 (.seq (.reg false c44r1)
 .ret))
def v44:List Nat × List Nat:=([2,4],[2,4])
def o44:List RS:=[.r 4 (some 5),.t 5]
def c45r0:List SI:=[
 bxR 1 (.t 0),
 mv 2 (.b false)]
def c45r1:List SI:=[
 mv 3 (.i 0)]
def c45r2:List SI:=[
 ⟨none,.mv 4 (.t 3),none,0⟩,
 ⟨none,.nop,(some 1),0⟩,
 ⟨none,.ldR 6 1 2 none,none,0⟩,
 ⟨none,.len 7 false (.t 6),none,0⟩,
 ⟨none,.bin 8 .lss (.t 4) (.t 7),none,0⟩,
 ⟨none,.mv 9 (.t 8),none,0⟩,
 Y_ 9 (.mv 10 (.t 3)) 10,
 Y_ 9 (.bin 11 .lss (.t 10) (.i 300)) 11,
 ⟨none,.pick 12 (.t 9) (.t 11) (.b false),none,0⟩]
def c45r3:List SI:=[
 ⟨none,.nop,(some 1),0⟩,
 ⟨none,.ldR 16 1 2 none,none,0⟩,
 ⟨none,.mv 17 (.t 3),none,0⟩,
 ⟨none,.ixA 18 (.t 16) (.t 17) 2,none,0⟩,
 ⟨none,.flA 19 (.t 18) 1,none,0⟩,
 ⟨none,.ld 20 (.t 19) none,none,0⟩,
 ⟨none,.len 21 false (.t 20),none,0⟩,
 ⟨none,.bin 22 .gtr (.t 21) (.i 5000),none,0⟩]
def c45r4:List SI:=[
 mv 2 (.b false)]
def c45r5:List SI:=[
 mv 13 (.t 3),
 bin 14 .add (.t 13) (.i 1),
 mv 3 (.t 14)]
def c45r6:List SI:=[
 ⟨none,.nop,(some 1),0⟩,
 ⟨none,.ldR 24 1 2 none,none,0⟩,
 ⟨none,.len 25 false (.t 24),none,0⟩,
 ⟨none,.bin 26 .leq (.t 25) (.i 12),none,0⟩,
 ⟨none,.mv 2 (.t 26),none,0⟩]
def c45:SC :=
 (.seq (.reg false c45r0)
 (.seq (.seq (.reg false c45r1)
 (.blk 0 (.loop (.seq (.seq (.reg false c45r2)
   (.cond (.t 12)
    .skip
    (.exit 0)))
   (.seq (.blk 1 (.seq (.reg false c45r3)
    (.cond (.t 22)
     (.seq (.reg false c45r4)
     .ret)
     .skip)))
   (.reg false c45r5))))))
 (.seq (.reg false c45r6)
 .ret)))
def v45:List Nat × List Nat:=([1],[1,5,15,23])
def o45:List RS:=[.t 2]
def c46r0:List SI:=[
 alR 4 [(.int .i64 0),(.int .i64 0),(.slice none 0 0)],
 mv 5 (.i 0)]
def c46r1:List SI:=[
 mv 6 (.t 0),
 mv 7 (.t 1),
 call 8 103 [(.t 6),(.t 7)],
 un 9 .not (.t 8)]
def c46r2:List SI:=[
 bld 10 [(.int .i64 0),(.int .i64 0),(.slice none 0 0)] [],
 stR 4 0 3 (.t 10),
 mv 5 (.i 1)]
def c46r3:List SI:=[
 mv 11 (.t 0),
 mv 12 (.t 1),
 mv 13 (.t 1),
 bld 14 [(.int .i64 0),(.slice none 0 0)] [(0,1,(.t 13))],
 bls 15 120 1 2 [(.int .i64 0),(.slice none 0 0)] [(0,2,(.t 14))],
 bld 16 [(.int .i64 0),(.int .i64 0),(.slice none 0 0)] [(0,1,(.t 11)),(1,1,(.t 12)),(2,1,(.t 15))],
 stR 4 0 3 (.t 16),
 mv 5 (.i 0)]
def c46:SC :=
 (.seq (.reg false c46r0)
 (.seq (.seq (.reg false c46r1)
 (.cond (.t 9)
  (.seq (.reg false c46r2)
  .ret)
  .skip))
 (.seq (.reg false c46r3)
 .ret)))
def v46:List Nat × List Nat:=([4],[4])
def o46:List RS:=[.r 4 (some 3),.t 5]
def c47r0:List SI:=[
 mv 2 (.b false)]
def c47r1:List SI:=[
 mv 5 (.t 0),
 len 6 false (.t 5),
 mv 7 (.i 0)]
def c47r2:List SI:=[
 bin 8 .lss (.t 7) (.t 6)]
def c47r3:List SI:=[
 mv 9 (.t 7),
 ixA 10 (.t 5) (.t 7) 1,
 ld 11 (.t 10) none,
 mv 3 (.t 9),
 mv 4 (.t 11)]
def c47r4:List SI:=[
 ⟨none,.mv 12 (.t 4),none,0⟩,
 ⟨none,.call 13 53 [(.t 12)],none,0⟩,
 ⟨none,.un 14 .not (.t 13),none,0⟩,
 ⟨none,.mv 15 (.t 14),none,0⟩,
 X_ 15 (.mv 16 (.t 3)) 16,
 X_ 15 (.bin 17 .gtr (.t 16) (.i 0)) 17,
 X_ 15 (.mv 18 (.t 17)) 18,
 Y_ 18 (.mv 19 (.t 0)) 19,
 Y_ 18 (.mv 20 (.t 3)) 20,
 Y_ 18 (.bin 21 .sub (.t 20) (.i 1)) 21,
 Y_ 18 (.ixA 22 (.t 19) (.t 21) 1) 22,
 Y_ 18 (.ld 23 (.t 22) none) 23,
 Y_ 18 (.mv 24 (.t 4)) 24,
 Y_ 18 (.bin 25 .geq (.t 23) (.t 24)) 25,
 X_ 15 (.pick 26 (.t 18) (.t 25) (.b false)) 26,
 ⟨none,.pick 27 (.t 15) (.b true) (.t 26),none,0⟩]
def c47r5:List SI:=[
 mv 2 (.b false)]
def c47r6:List SI:=[
 bin 28 .add (.t 7) (.i 1),
 mv 7 (.t 28)]
def c47r7:List SI:=[
 mv 29 (.t 0),
 len 30 false (.t 29),
 bin 31 .gtr (.t 30) (.i 0),
 mv 2 (.t 31)]
def c47:SC :=
 (.seq (.reg false c47r0)
 (.seq (.seq (.reg false c47r1)
 (.blk 0 (.loop (.seq (.reg false c47r2)
   (.seq (.cond (.t 8)
    .skip
    (.exit 0))
   (.seq (.blk 1 (.seq (.reg false c47r3)
    (.seq (.reg false c47r4)
    (.cond (.t 27)
     (.seq (.reg false c47r5)
     .ret)
     .skip))))
   (.reg false c47r6)))))))
 (.seq (.reg false c47r7)
 .ret)))
def v47:List Nat × List Nat:=([],[])
def o47:List RS:=[.t 2]
def c48r0:List SI:=[
 mv 2 (.v (.slice none 0 0))]
def c48r1:List SI:=[
 mv 3 (.t 0),
 isn 4 false (.t 3)]
def c48r2:List SI:=[
 mv 2 (.v (.slice none 0 0))]
def c48r3:List SI:=[
 bl0 5,
 mv 6 (.t 0),
 app 7 (.t 5) (.t 6) 3 1 8,
 mv 2 (.t 7)]
def c48:SC :=
 (.seq (.reg false c48r0)
 (.seq (.seq (.reg false c48r1)
 (.cond (.t 4)
  (.seq (.reg false c48r2)
  .ret)
  .skip))
 (.seq (.reg false c48r3)
 .ret)))
def v48:List Nat × List Nat:=([],[])
def o48:List RS:=[.t 2]
def c51r0:List SI:=[
 mv 4 (.v (.pointer none))]
def c51r1:List SI:=[
 mv 8 (.t 0),
 nck 9 (.t 8),
 flA 10 (.t 9) 0,
 flA 11 (.t 10) 4,
 ld 12 (.t 11) none,
 mv 13 (.t 1),
 call 14 105 [(.t 12),(.t 13),(.v (.func (.func 106) #[] #[]))],
 mv 7 (.t 14),
 ext 15 (.t 7) 0,
 ext 16 (.t 7) 1,
 mv 5 (.t 15),
 mv 6 (.t 16)]
def c51r2:List SI:=[
 mv 17 (.t 6),
 un 18 .not (.t 17)]
def c51r3:List SI:=[
 mv 4 (.v (.pointer none))]
def c51r4:List SI:=[
 mv 19 (.t 0),
 nck 20 (.t 19),
 flA 21 (.t 20) 0,
 flA 22 (.t 21) 4,
 ld 23 (.t 22) none,
 mv 24 (.t 5),
 ixA 25 (.t 23) (.t 24) 7,
 mv 4 (.t 25)]
def c51:SC :=
 (.seq (.reg false c51r0)
 (.seq (.reg false c51r1)
 (.seq (.seq (.reg false c51r2)
 (.cond (.t 18)
  (.seq (.reg false c51r3)
  .ret)
  .skip))
 (.seq (.reg false c51r4)
 .ret))))
def v51:List Nat × List Nat:=([],[])
def o51:List RS:=[.t 4]
def c53r0:List SI:=[
 mv 2 (.b false)]
def c53r1:List SI:=[
 ⟨none,.mv 3 (.t 0),none,0⟩,
 ⟨none,.bin 4 .geq (.t 3) (.i 0),none,0⟩,
 ⟨none,.mv 5 (.t 4),none,0⟩,
 Y_ 5 (.mv 6 (.t 0)) 6,
 Y_ 5 (.bin 7 .leq (.t 6) (.i 1048576)) 7,
 ⟨none,.pick 8 (.t 5) (.t 7) (.b false),none,0⟩,
 ⟨none,.mv 2 (.t 8),none,0⟩]
def c53:SC :=
 (.seq (.reg false c53r0)
 (.seq (.reg false c53r1)
 .ret))
def v53:List Nat × List Nat:=([],[])
def o53:List RS:=[.t 2]
def c54r0:List SI:=[
 mv 4 (.b false)]
def c54r1:List SI:=[
 mv 5 (.t 0),
 mv 6 (.t 1),
 call 7 107 [(.t 5),(.t 6)],
 bin 8 .geq (.t 7) (.i 0),
 mv 4 (.t 8)]
def c54:SC :=
 (.seq (.reg false c54r0)
 (.seq (.reg false c54r1)
 .ret))
def v54:List Nat × List Nat:=([],[])
def o54:List RS:=[.t 4]
def c55r0:List SI:=[
 bxR 1 (.t 0),
 mv 2 (.b false)]
def c55r1:List SI:=[
 ⟨none,.nop,(some 1),0⟩,
 ⟨none,.ldR 5 1 0 none,none,0⟩,
 ⟨none,.call 6 53 [(.t 5)],none,0⟩,
 ⟨none,.un 7 .not (.t 6),none,0⟩,
 ⟨none,.mv 8 (.t 7),none,0⟩,
 F_ 8 1,
 X_ 8 (.ldR 10 1 5 none) 10,
 X_ 8 (.call 11 108 [(.t 10)]) 11,
 X_ 8 (.bin 12 .neq (.t 11) (.i 0)) 12,
 ⟨none,.pick 13 (.t 8) (.b true) (.t 12),none,0⟩,
 ⟨none,.mv 14 (.t 13),none,0⟩,
 F_ 14 1,
 X_ 14 (.ldR 16 1 6 none) 16,
 X_ 14 (.bin 17 .lss (.t 16) (.i 0)) 17,
 ⟨none,.pick 18 (.t 14) (.b true) (.t 17),none,0⟩,
 ⟨none,.mv 19 (.t 18),none,0⟩,
 F_ 19 1,
 X_ 19 (.ldR 21 1 6 none) 21,
 X_ 19 (.bin 22 .gtr (.t 21) (.i 1099511627777)) 22,
 ⟨none,.pick 23 (.t 19) (.b true) (.t 22),none,0⟩]
def c55r2:List SI:=[
 mv 2 (.b true)]
def c55r3:List SI:=[
 ⟨none,.nop,(some 1),0⟩,
 ⟨none,.ldR 25 1 2 (some 3),none,0⟩,
 ⟨none,.alR 3 [(.int .i64 0),(.int .i64 0),(.slice none 0 0)],none,0⟩,
 ⟨none,.stR 3 0 3 (.t 25),none,0⟩]
def c55r4:List SI:=[
 ⟨none,.nop,(some 1),0⟩,
 ⟨none,.ldR 27 1 1 none,none,0⟩,
 ⟨none,.un 28 .not (.t 27),none,0⟩]
def c55r5:List SI:=[
 ldR 30 3 0 (some 3),
 call 31 89 [(.t 30)],
 mv 29 (.t 31),
 ext 32 (.t 29) 0,
 ext 33 (.t 29) 1,
 stR 3 0 3 (.t 32)]
def c55r6:List (Bool × SI):=[
 (true,N_ (.ldR 34 3 0 (some 3))),
 (false,N_ (.call 35 62 [(.t 34)])),
 (true,N_ (.bin 36 .neq (.t 35) (.i 0))),
 (true,N_ (.mv 37 (.t 36))),
 (true,F_ 37 1),
 (true,X_ 37 (.ldR 39 1 1 none) 39),
 (true,X_ 37 (.mv 40 (.t 39)) 40),
 (true,T_ 40 1),
 (true,Y_ 40 (.ldR 42 1 6 none) 42),
 (true,Y_ 40 (.ldR 43 1 0 (some 7)) 43),
 (false,Y_ 40 (.call 44 68 [(.t 43)]) 44),
 (true,Y_ 40 (.bin 45 .gtr (.t 42) (.t 44)) 45),
 (true,X_ 37 (.pick 46 (.t 40) (.t 45) (.b false)) 46),
 (true,N_ (.pick 47 (.t 37) (.b true) (.t 46))),
 (true,N_ (.mv 2 (.t 47)))]
def c55:SC :=
 (.seq (.reg false c55r0)
 (.seq (.seq (.reg false c55r1)
 (.cond (.t 23)
  (.seq (.reg false c55r2)
  .ret)
  .skip))
 (.seq (.reg false c55r3)
 (.seq (.seq (.reg false c55r4)
 (.cond (.t 28)
  (.reg false c55r5)
  .skip))
 (.seq (.rgX c55r6)
 .ret)))))
def v55:List Nat × List Nat:=([1,3],[1,3,4,9,15,20,24,26,38,41])
def o55:List RS:=[.t 2]
def c56r0:List SI:=[
 mv 4 (.b false)]
def c56r1:List SI:=[
 mv 5 (.t 0),
 mv 6 (.t 1),
 call 7 109 [(.t 5),(.t 6)],
 bin 8 .geq (.t 7) (.i 0),
 mv 4 (.t 8)]
def c56:SC :=
 (.seq (.reg false c56r0)
 (.seq (.reg false c56r1)
 .ret))
def v56:List Nat × List Nat:=([],[])
def o56:List RS:=[.t 4]
def c57r0:List SI:=[
 mv 3 (.b false)]
def c57r1:List SI:=[
 ld 4 (.t 1) none,
 mv 5 (.t 0),
 call 6 58 [(.t 4),(.t 5)],
 un 7 .not (.t 6),
 mv 3 (.t 7)]
def c57:SC :=
 (.seq (.reg false c57r0)
 (.seq (.reg false c57r1)
 .ret))
def v57:List Nat × List Nat:=([],[])
def o57:List RS:=[.t 3]
def c58r0:List SI:=[
 mv 4 (.b false)]
def c58r1:List SI:=[
 mv 5 (.t 0),
 mv 6 (.t 1),
 call 7 59 [(.t 5),(.t 6)],
 bin 8 .geq (.t 7) (.i 0),
 mv 4 (.t 8)]
def c58:SC :=
 (.seq (.reg false c58r0)
 (.seq (.reg false c58r1)
 .ret))
def v58:List Nat × List Nat:=([],[])
def o58:List RS:=[.t 4]
def c59r0:List SI:=[
 mv 4 (.i 0)]
def c59r1:List SI:=[
 mv 6 (.t 0),
 len 7 false (.t 6),
 mv 8 (.i 0)]
def c59r2:List SI:=[
 bin 9 .lss (.t 8) (.t 7)]
def c59r3:List SI:=[
 mv 10 (.t 8),
 mv 5 (.t 10)]
def c59r4:List SI:=[
 mv 11 (.t 1),
 mv 12 (.t 0),
 mv 13 (.t 5),
 ixA 14 (.t 12) (.t 13) 1,
 ld 15 (.t 14) none,
 bin 16 .eql (.t 11) (.t 15)]
def c59r5:List SI:=[
 mv 17 (.t 5),
 mv 4 (.t 17)]
def c59r6:List SI:=[
 bin 18 .add (.t 8) (.i 1),
 mv 8 (.t 18)]
def c59r7:List SI:=[
 mv 4 (.i (-1))]
def c59:SC :=
 (.seq (.reg false c59r0)
 (.seq (.seq (.reg false c59r1)
 (.blk 0 (.loop (.seq (.reg false c59r2)
   (.seq (.cond (.t 9)
    .skip
    (.exit 0))
   (.seq (.blk 1 (.seq (.reg false c59r3)
    (.seq (.reg false c59r4)
    (.cond (.t 16)
     (.seq (.reg false c59r5)
     .ret)
     .skip))))
   (.reg false c59r6)))))))
 (.seq (.reg false c59r7)
 .ret)))
def v59:List Nat × List Nat:=([],[])
def o59:List RS:=[.t 4]
def c61r0:List SI:=[
 bx 1 (.t 0),
 mv 2 (.v .nilFunc)]
def c61r1:List SI:=[
 mkf 3 (.func 111) [(.t 1)],
 mv 2 (.t 3)]
def c61:SC :=
 (.seq (.reg false c61r0)
 (.seq (.reg false c61r1)
 .ret))
def v61:List Nat × List Nat:=([],[])
def o61:List RS:=[.t 2]
def c62r0:List SI:=[
 bxR 1 (.t 0),
 mv 2 (.i 0)]
def c62r1:List SI:=[
 ⟨none,.nop,(some 1),0⟩,
 ⟨none,.ldR 6 1 0 none,none,0⟩,
 ⟨none,.nop,(some 1),0⟩,
 ⟨none,.ldR 8 1 1 none,none,0⟩,
 ⟨none,.call 9 103 [(.t 6),(.t 8)],none,0⟩,
 ⟨none,.un 10 .not (.t 9),none,0⟩,
 ⟨none,.mv 11 (.t 10),none,0⟩,
 F_ 11 1,
 X_ 11 (.ldR 13 1 2 none) 13,
 X_ 11 (.len 14 false (.t 13)) 14,
 X_ 11 (.bin 15 .eql (.t 14) (.i 0)) 15,
 ⟨none,.pick 16 (.t 11) (.b true) (.t 15),none,0⟩]
def c62r2:List SI:=[
 mv 2 (.i 1)]
def c62r3:List SI:=[
 ⟨none,.nop,(some 1),0⟩,
 ⟨none,.ldR 18 1 2 none,none,0⟩,
 ⟨none,.len 19 false (.t 18),none,0⟩,
 ⟨none,.mv 20 (.i 0),none,0⟩]
def c62r4:List SI:=[
 bin 21 .lss (.t 20) (.t 19)]
def c62r5:List SI:=[
 mv 22 (.t 20),
 ixA 23 (.t 18) (.t 20) 2,
 ld 24 (.t 23) (some 2),
 alR 4 [(.int .i64 0),(.slice none 0 0)],
 mv 3 (.t 22),
 stR 4 0 2 (.t 24)]
def c62r6:List (Bool × SI):=[
 (true,⟨none,.nop,(some 4),0⟩),
 (true,N_ (.ldR 26 4 1 none)),
 (true,N_ (.len 27 false (.t 26))),
 (true,⟨none,.nop,(some 1),0⟩),
 (true,N_ (.ldR 29 1 0 none)),
 (true,N_ (.bin 30 .gtr (.t 27) (.t 29))),
 (true,N_ (.mv 31 (.t 30))),
 (true,X_ 31 (.ldR 32 4 0 (some 2)) 32),
 (false,X_ 31 (.call 33 112 [(.t 32)]) 33),
 (true,X_ 31 (.un 34 .not (.t 33)) 34),
 (true,N_ (.pick 35 (.t 31) (.b true) (.t 34))),
 (true,N_ (.mv 36 (.t 35))),
 (true,X_ 36 (.mv 37 (.t 3)) 37),
 (true,X_ 36 (.bin 38 .gtr (.t 37) (.i 0)) 38),
 (true,X_ 36 (.mv 39 (.t 38)) 39),
 (true,T_ 39 1),
 (true,Y_ 39 (.ldR 41 1 2 none) 41),
 (true,Y_ 39 (.mv 42 (.t 3)) 42),
 (true,Y_ 39 (.bin 43 .sub (.t 42) (.i 1)) 43),
 (true,Y_ 39 (.ixA 44 (.t 41) (.t 43) 2) 44),
 (true,Y_ 39 (.ld 45 (.t 44) (some 2)) 45),
 (true,Y_ 39 (.ldR 46 4 0 (some 2)) 46),
 (false,Y_ 39 (.call 47 113 [(.t 45),(.t 46)]) 47),
 (true,Y_ 39 (.un 48 .not (.t 47)) 48),
 (true,X_ 36 (.pick 49 (.t 39) (.t 48) (.b false)) 49),
 (true,N_ (.pick 50 (.t 36) (.b true) (.t 49)))]
def c62r7:List SI:=[
 mv 2 (.i 1)]
def c62r8:List SI:=[
 bin 51 .add (.t 20) (.i 1),
 mv 20 (.t 51)]
def c62r9:List SI:=[
 ⟨none,.nop,(some 1),0⟩,
 ⟨none,.ldR 53 1 2 none,none,0⟩,
 ⟨none,.len 54 false (.t 53),none,0⟩,
 ⟨none,.bin 55 .gtr (.t 54) (.i 256),none,0⟩]
def c62r10:List SI:=[
 mv 2 (.i 2)]
def c62r11:List SI:=[
 mv 2 (.i 0)]
def c62:SC :=
 (.seq (.reg false c62r0)
 (.seq (.seq (.reg false c62r1)
 (.cond (.t 16)
  (.seq (.reg false c62r2)
  .ret)
  .skip))
 (.seq (.seq (.reg false c62r3)
 (.blk 0 (.loop (.seq (.reg false c62r4)
   (.seq (.cond (.t 21)
    .skip
    (.exit 0))
   (.seq (.blk 1 (.seq (.reg false c62r5)
    (.seq (.rgX c62r6)
    (.cond (.t 50)
     (.seq (.reg false c62r7)
     .ret)
     .skip))))
   (.reg false c62r8)))))))
 (.seq (.seq (.reg false c62r9)
 (.cond (.t 55)
  (.seq (.reg false c62r10)
  .ret)
  .skip))
 (.seq (.reg false c62r11)
 .ret)))))
def v62:List Nat × List Nat:=([1,4],[1,4,5,7,12,17,25,28,40,52])
def o62:List RS:=[.t 2]
def c63r0:List SI:=[
 bxR 1 (.t 0),
 mv 2 (.i 0)]
def c63r1:List (Bool × SI):=[
 (true,⟨none,.nop,(some 1),0⟩),
 (true,N_ (.ldR 4 1 1 none)),
 (true,⟨none,.nop,(some 1),0⟩),
 (true,N_ (.ldR 6 1 2 none)),
 (true,N_ (.ldR 7 1 0 (some 3))),
 (false,N_ (.call 8 115 [(.t 7)])),
 (true,N_ (.ixA 9 (.t 6) (.t 8) 2)),
 (true,N_ (.ld 10 (.t 9) (some 2))),
 (false,N_ (.call 11 114 [(.t 10)])),
 (true,N_ (.mm 12 true (.t 4) (.t 11))),
 (true,N_ (.mv 2 (.t 12)))]
def c63:SC :=
 (.seq (.reg false c63r0)
 (.seq (.rgX c63r1)
 .ret))
def v63:List Nat × List Nat:=([1],[1,3,5])
def o63:List RS:=[.t 2]
def c65r0:List SI:=[
 bxR 2 (.t 0),
 alR 4 [(.int .i64 0),(.int .i64 0),(.int .i64 0),(.slice none 0 0),(.slice none 0 0)],
 mv 5 (.i 0)]
def c65r1:List SI:=[
 ldR 9 2 0 (some 5),
 call 10 18 [(.t 9)],
 mv 6 (.t 10)]
def c65r2:List SI:=[
 mv 11 (.t 6),
 bin 12 .neq (.t 11) (.i 0)]
def c65r3:List SI:=[
 bld 13 [(.int .i64 0),(.int .i64 0),(.int .i64 0),(.slice none 0 0),(.slice none 0 0)] [],
 mv 14 (.t 6),
 stR 4 0 5 (.t 13),
 mv 5 (.t 14)]
def c65r4:List (Bool × SI):=[
 (true,⟨none,.nop,(some 2),0⟩),
 (true,N_ (.ldR 16 2 4 none)),
 (true,⟨none,.nop,(some 2),0⟩),
 (true,N_ (.ldR 19 2 3 none)),
 (false,N_ (.call 17 116 [(.t 16)])),
 (true,⟨none,.nop,(some 2),0⟩),
 (false,N_ (.call 20 48 [(.t 19)]))]
def c65r5:List SI:=[
 ⟨none,.stR 2 4 1 (.t 17),none,0⟩,
 ⟨none,.nop,(some 2),0⟩,
 ⟨none,.stR 2 3 1 (.t 20),none,0⟩]
def c65r6:List SI:=[
 ldR 23 2 0 (some 5),
 bld 24 [(.int .i64 0),(.int .i64 0),(.int .i64 0),(.slice none 0 0),(.slice none 0 0)] [(0,5,(.t 23))],
 bx 25 (.t 24),
 mv 7 (.t 25)]
def c65r7:List SI:=[
 mv 26 (.t 1),
 mv 27 (.t 7),
 cav 28 (.t 26) [(.t 27)],
 mv 8 (.t 28)]
def c65r8:List SI:=[
 mv 29 (.t 8),
 bin 30 .neq (.t 29) (.i 0)]
def c65r9:List SI:=[
 bld 31 [(.int .i64 0),(.int .i64 0),(.int .i64 0),(.slice none 0 0),(.slice none 0 0)] [],
 mv 32 (.t 8),
 stR 4 0 5 (.t 31),
 mv 5 (.t 32)]
def c65r10:List SI:=[
 mv 33 (.t 7),
 nck 34 (.t 33),
 flA 35 (.t 34) 0,
 ld 36 (.t 35) (some 5),
 stR 4 0 5 (.t 36),
 mv 5 (.i 0)]
def c65:SC :=
 (.seq (.reg false c65r0)
 (.seq (.seq (.reg false c65r1)
 (.seq (.reg false c65r2)
 (.cond (.t 12)
  (.seq (.reg false c65r3)
  .ret)
  .skip)))
 (.seq (.rgY c65r4 c65r5)
 (.seq (.reg false c65r6)
 (.seq (.seq (.reg false c65r7)
 (.seq (.reg false c65r8)
 (.cond (.t 30)
  (.seq (.reg false c65r9)
  .ret)
  .skip)))
 (.seq (.reg false c65r10)
 .ret))))))
def v65:List Nat × List Nat:=([2,4],[2,4,15,18,21,22])
def o65:List RS:=[.r 4 (some 5),.t 5]
def c66r0:List SI:=[
 mv 4 (.i 0)]
def c66r1:List SI:=[
 mv 8 (.t 0),
 nck 9 (.t 8),
 flA 10 (.t 9) 0,
 flA 11 (.t 10) 1,
 ld 12 (.t 11) none,
 bin 13 .lss (.t 12) (.i 0)]
def c66r2:List SI:=[
 mv 4 (.i 180)]
def c66r3:List SI:=[
 mv 14 (.t 0),
 nck 15 (.t 14),
 flA 16 (.t 15) 0,
 flA 17 (.t 16) 3,
 ld 18 (.t 17) none,
 len 19 false (.t 18),
 mv 20 (.t 0),
 nck 21 (.t 20),
 flA 22 (.t 21) 0,
 flA 23 (.t 22) 2,
 ld 24 (.t 23) none,
 bin 25 .lss (.t 19) (.t 24)]
def c66r4:List SI:=[
 mv 4 (.i 181)]
def c66r5:List SI:=[
 mv 26 (.t 0),
 mv 27 (.t 0),
 nck 28 (.t 27),
 flA 29 (.t 28) 0,
 flA 30 (.t 29) 1,
 ld 31 (.t 30) none,
 call 32 51 [(.t 26),(.t 31)],
 mv 5 (.t 32)]
def c66r6:RX:=.br [(true,N_ (.ld 34 (.t 1) (some 10))),
 (true,N_ (.mv 35 (.t 5))),
 (true,N_ (.nck 36 (.t 35))),
 (true,N_ (.ld 37 (.t 36) (some 7)))]
 ⟨none,.call 38 68 [(.t 37)],none,0⟩
 (.br []
 ⟨none,.call 39 67 [(.t 34),(.t 38)],none,0⟩
 (.leaf [(true,N_ (.mv 33 (.t 39))),
 (true,N_ (.ext 40 (.t 33) 0)),
 (true,N_ (.ext 41 (.t 33) 1)),
 (false,N_ (.al 6 [(.int .i64 0),(.int .i64 0),(.int .i64 0),(.int .i64 0),(.int .i64 0),(.int .i64 0),(.int .i64 0),(.bool false),(.int .i64 0),(.slice none 0 0)])),
 (false,N_ (.st (.t 6) 10 (.t 40))),
 (true,N_ (.mv 7 (.t 41)))])
 ⟨none,.al 6 [(.int .i64 0),(.int .i64 0),(.int .i64 0),(.int .i64 0),(.int .i64 0),(.int .i64 0),(.int .i64 0),(.bool false),(.int .i64 0),(.slice none 0 0)],none,0⟩
 (.leaf [(false,N_ (.call 39 67 [(.t 34),(.t 38)])),
 (true,N_ (.mv 33 (.t 39))),
 (true,N_ (.ext 40 (.t 33) 0)),
 (true,N_ (.ext 41 (.t 33) 1)),
 (false,N_ (.st (.t 6) 10 (.t 40))),
 (true,N_ (.mv 7 (.t 41)))]))
 ⟨none,.al 6 [(.int .i64 0),(.int .i64 0),(.int .i64 0),(.int .i64 0),(.int .i64 0),(.int .i64 0),(.int .i64 0),(.bool false),(.int .i64 0),(.slice none 0 0)],none,0⟩
 (.leaf [(false,N_ (.call 38 68 [(.t 37)])),
 (false,N_ (.call 39 67 [(.t 34),(.t 38)])),
 (true,N_ (.mv 33 (.t 39))),
 (true,N_ (.ext 40 (.t 33) 0)),
 (true,N_ (.ext 41 (.t 33) 1)),
 (false,N_ (.st (.t 6) 10 (.t 40))),
 (true,N_ (.mv 7 (.t 41)))])
def c66r7:List SI:=[
 mv 42 (.t 7),
 bin 43 .neq (.t 42) (.i 0)]
def c66r8:List SI:=[
 mv 44 (.t 7),
 mv 4 (.t 44)]
def c66r9:List (Bool × SI):=[
 (true,N_ (.mv 45 (.t 0))),
 (true,N_ (.nck 46 (.t 45))),
 (true,N_ (.flA 47 (.t 46) 0)),
 (true,N_ (.flA 48 (.t 47) 0)),
 (true,N_ (.ld 49 (.t 48) none)),
 (true,N_ (.flA 50 (.t 6) 0)),
 (true,N_ (.ld 51 (.t 50) none)),
 (true,N_ (.flA 52 (.t 6) 3))]
def c66r10:List SI:=[
 st (.t 52) 1 (.t 49),
 st (.t 2) 1 (.t 51)]
def c66r11:List WI:=[
 (true,false,⟨none,.mv 54 (.t 5),none,0⟩),
 (true,false,⟨none,.mv 55 (.t 5),none,0⟩),
 (true,false,⟨none,.nck 56 (.t 55),none,0⟩),
 (true,false,⟨none,.flA 57 (.t 56) 2,none,0⟩),
 (true,false,⟨none,.ld 58 (.t 57) (some 3),none,0⟩),
 (true,false,⟨none,.ld 59 (.t 6) (some 10),none,0⟩),
 (false,true,⟨none,.call 60 69 [(.t 58),(.t 59)],none,0⟩),
 (true,false,⟨none,.mv 53 (.t 60),none,0⟩),
 (true,false,⟨none,.ext 61 (.t 53) 0,none,0⟩),
 (true,false,⟨none,.ext 62 (.t 53) 1,none,0⟩),
 (true,false,⟨none,.nck 63 (.t 54),none,0⟩),
 (true,false,⟨none,.flA 64 (.t 63) 2,none,0⟩),
 (false,true,⟨none,.st (.t 64) 3 (.t 61),none,0⟩),
 (true,false,⟨none,.mv 7 (.t 62),none,0⟩)]
def c66r12:List SI:=[
 mv 65 (.t 7),
 bin 66 .neq (.t 65) (.i 0)]
def c66r13:List SI:=[
 mv 67 (.t 7),
 mv 4 (.t 67)]
def c66r14:List WI:=[
 (true,false,⟨none,.mv 69 (.t 5),none,0⟩),
 (true,false,⟨none,.mv 70 (.t 5),none,0⟩),
 (true,false,⟨none,.nck 71 (.t 70),none,0⟩),
 (true,false,⟨none,.flA 72 (.t 71) 5,none,0⟩),
 (true,false,⟨none,.ld 73 (.t 72) none,none,0⟩),
 (true,false,⟨none,.mv 74 (.t 0),none,0⟩),
 (true,false,⟨none,.nck 75 (.t 74),none,0⟩),
 (true,false,⟨none,.flA 76 (.t 75) 0,none,0⟩),
 (true,false,⟨none,.flA 77 (.t 76) 0,none,0⟩),
 (true,false,⟨none,.ld 78 (.t 77) none,none,0⟩),
 (true,false,⟨none,.ld 79 (.t 2) none,none,0⟩),
 (false,true,⟨none,.call 80 70 [(.t 73),(.t 78),(.t 79)],none,0⟩),
 (true,false,⟨none,.mv 68 (.t 80),none,0⟩),
 (true,false,⟨none,.ext 81 (.t 68) 0,none,0⟩),
 (true,false,⟨none,.ext 82 (.t 68) 1,none,0⟩),
 (true,false,⟨none,.nck 83 (.t 69),none,0⟩),
 (true,false,⟨none,.flA 84 (.t 83) 5,none,0⟩),
 (false,true,⟨none,.st (.t 84) 1 (.t 81),none,0⟩),
 (true,false,⟨none,.mv 7 (.t 82),none,0⟩)]
def c66r15:List SI:=[
 mv 85 (.t 7),
 bin 86 .neq (.t 85) (.i 0)]
def c66r16:List SI:=[
 mv 87 (.t 7),
 mv 4 (.t 87)]
def c66r17:List SI:=[
 mv 88 (.t 0),
 call 89 71 [(.t 88)]]
def c66r18:List SI:=[
 mv 4 (.i 0)]
def c66:SC :=
 (.seq (.reg false c66r0)
 (.seq (.seq (.reg false c66r1)
 (.cond (.t 13)
  (.seq (.reg false c66r2)
  .ret)
  .skip))
 (.seq (.seq (.reg true c66r3)
 (.cond (.t 25)
  (.seq (.reg false c66r4)
  .ret)
  .skip))
 (.seq (.reg false c66r5)
 (.seq (.rgZ c66r6)
 (.seq (.seq (.reg false c66r7)
 (.cond (.t 43)
  (.seq (.reg false c66r8)
  .ret)
  .skip))
 (.seq (.rgY c66r9 c66r10)
 (.seq (.seq (.rgW c66r11)
 (.seq (.reg false c66r12)
 (.cond (.t 66)
  (.seq (.reg false c66r13)
  .ret)
  .skip)))
 (.seq (.seq (.rgW c66r14)
 (.seq (.reg false c66r15)
 (.cond (.t 86)
  (.seq (.reg false c66r16)
  .ret)
  .skip)))
 (.seq (.reg false c66r17)
 (.seq (.reg false c66r18)
 .ret)))))))))))
def v66:List Nat × List Nat:=([],[])
def o66:List RS:=[.t 4]
def c67r0:List SI:=[
 bxR 2 (.t 0),
 alR 4 [(.int .i64 0),(.int .i64 0),(.int .i64 0),(.int .i64 0),(.int .i64 0),(.int .i64 0),(.int .i64 0),(.bool false),(.int .i64 0),(.slice none 0 0)],
 mv 5 (.i 0)]
def c67r1:List SI:=[
 mv 10 (.t 1),
 bls 11 3 1 1 [(.int .i64 0)] [(0,1,(.t 10))],
 call 12 117 [(.i 1099511627776),(.t 11)],
 un 13 .not (.t 12)]
def c67r2:List SI:=[
 bld 14 [(.int .i64 0),(.int .i64 0),(.int .i64 0),(.int .i64 0),(.int .i64 0),(.int .i64 0),(.int .i64 0),(.bool false),(.int .i64 0),(.slice none 0 0)] [],
 stR 4 0 10 (.t 14),
 mv 5 (.i 1)]
def c67r3:List SI:=[
 ldR 15 2 0 (some 10),
 call 16 118 [(.t 15)],
 mv 6 (.t 16)]
def c67r4:List SI:=[
 mv 17 (.t 6),
 bin 18 .neq (.t 17) (.i 0)]
def c67r5:List SI:=[
 bld 19 [(.int .i64 0),(.int .i64 0),(.int .i64 0),(.int .i64 0),(.int .i64 0),(.int .i64 0),(.int .i64 0),(.bool false),(.int .i64 0),(.slice none 0 0)] [],
 mv 20 (.t 6),
 stR 4 0 10 (.t 19),
 mv 5 (.t 20)]
def c67r6:List SI:=[
 ⟨none,.mv 21 (.t 1),none,0⟩,
 ⟨none,.nop,(some 2),0⟩,
 ⟨none,.ldR 23 2 0 none,none,0⟩,
 ⟨none,.bin 24 .sub (.t 21) (.t 23),none,0⟩,
 ⟨none,.mv 7 (.t 24),none,0⟩]
def c67r7:List WI:=[
 (true,false,⟨none,.mv 25 (.t 1),none,0⟩),
 (true,false,⟨none,.nop,(some 2),0⟩),
 (true,false,⟨none,.ldR 27 2 1 none,none,0⟩),
 (true,false,⟨none,.mv 28 (.t 7),none,0⟩),
 (true,false,⟨none,.bin 29 .add (.t 27) (.t 28),none,0⟩),
 (true,false,⟨none,.nop,(some 2),0⟩),
 (true,false,⟨none,.ldR 31 2 9 none,none,0⟩),
 (true,false,⟨none,.nop,(some 2),0⟩),
 (false,false,⟨none,.call 32 119 [(.t 31)],none,0⟩),
 (false,true,⟨none,.stR 2 0 1 (.t 25),none,0⟩),
 (true,false,⟨none,.nop,(some 2),0⟩),
 (false,true,⟨none,.stR 2 1 1 (.t 29),none,0⟩),
 (true,false,⟨none,.nop,(some 2),0⟩),
 (false,true,⟨none,.stR 2 9 1 (.t 32),none,0⟩)]
def c67r8:List SI:=[
 ⟨none,.nop,(some 2),0⟩,
 ⟨none,.ldR 37 2 9 none,none,0⟩,
 ⟨none,.len 38 false (.t 37),none,0⟩,
 ⟨none,.mv 39 (.i 0),none,0⟩]
def c67r9:List SI:=[
 bin 40 .lss (.t 39) (.t 38)]
def c67r10:List SI:=[
 mv 41 (.t 39),
 mv 8 (.t 41)]
def c67r11:List SI:=[
 ⟨none,.nop,(some 2),0⟩,
 ⟨none,.ldR 43 2 9 none,none,0⟩,
 ⟨none,.mv 44 (.t 8),none,0⟩,
 ⟨none,.ixA 45 (.t 43) (.t 44) 5,none,0⟩,
 ⟨none,.flA 46 (.t 45) 0,none,0⟩,
 ⟨none,.ld 47 (.t 46) none,none,0⟩,
 ⟨none,.mv 48 (.t 7),none,0⟩,
 ⟨none,.bin 49 .add (.t 47) (.t 48),none,0⟩,
 ⟨none,.ixA 50 (.t 43) (.t 44) 5,none,0⟩,
 ⟨none,.flA 51 (.t 50) 0,none,0⟩,
 ⟨none,.st (.t 51) 1 (.t 49),none,0⟩]
def c67r12:List SI:=[
 bin 52 .add (.t 39) (.i 1),
 mv 39 (.t 52)]
def c67r13:List SI:=[
 ldR 53 2 0 (some 10),
 call 54 118 [(.t 53)],
 mv 9 (.t 54)]
def c67r14:List SI:=[
 mv 55 (.t 9),
 bin 56 .neq (.t 55) (.i 0)]
def c67r15:List SI:=[
 bld 57 [(.int .i64 0),(.int .i64 0),(.int .i64 0),(.int .i64 0),(.int .i64 0),(.int .i64 0),(.int .i64 0),(.bool false),(.int .i64 0),(.slice none 0 0)] [],
 mv 58 (.t 9),
 stR 4 0 10 (.t 57),
 mv 5 (.t 58)]
def c67r16:List SI:=[
 ldR 59 2 0 (some 10),
 stR 4 0 10 (.t 59),
 mv 5 (.i 0)]
def c67:SC :=
 (.seq (.reg false c67r0)
 (.seq (.seq (.reg false c67r1)
 (.cond (.t 13)
  (.seq (.reg false c67r2)
  .ret)
  .skip))
 (.seq (.seq (.reg false c67r3)
 (.seq (.reg false c67r4)
 (.cond (.t 18)
  (.seq (.reg false c67r5)
  .ret)
  .skip)))
 (.seq (.reg false c67r6)
 (.seq (.rgW c67r7)
 (.seq (.seq (.reg false c67r8)
 (.blk 0 (.loop (.seq (.reg false c67r9)
   (.seq (.cond (.t 40)
    .skip
    (.exit 0))
   (.seq (.blk 1 (.seq (.reg false c67r10)
    (.reg false c67r11)))
   (.reg false c67r12)))))))
 (.seq (.seq (.reg false c67r13)
 (.seq (.reg false c67r14)
 (.cond (.t 56)
  (.seq (.reg false c67r15)
  .ret)
  .skip)))
 (.seq (.reg false c67r16)
 .ret))))))))
def v67:List Nat × List Nat:=([2,4],[2,4,22,26,30,33,34,35,36,42])
def o67:List RS:=[.r 4 (some 10),.t 5]
def c68r0:List SI:=[
 bxR 1 (.t 0),
 mv 2 (.i 0)]
def c68r1:List SI:=[
 ⟨none,.nop,(some 1),0⟩,
 ⟨none,.ldR 4 1 2 (some 3),none,0⟩,
 ⟨none,.call 5 22 [(.t 4)],none,0⟩,
 ⟨none,.mv 2 (.t 5),none,0⟩]
def c68:SC :=
 (.seq (.reg false c68r0)
 (.seq (.reg false c68r1)
 .ret))
def v68:List Nat × List Nat:=([1],[1,3])
def o68:List RS:=[.t 2]
def c69r0:List SI:=[
 bxR 2 (.t 0),
 bxR 3 (.t 1),
 alR 4 [(.int .i64 0),(.int .i64 0),(.slice none 0 0)],
 mv 5 (.i 0)]
def c69r1:List SI:=[
 ldR 11 2 0 (some 3),
 call 12 62 [(.t 11)],
 mv 6 (.t 12)]
def c69r2:List SI:=[
 mv 13 (.t 6),
 bin 14 .eql (.t 13) (.i 0)]
def c69r3:List SI:=[
 ldR 15 3 0 (some 10),
 call 16 118 [(.t 15)],
 mv 6 (.t 16)]
def c69r4:List SI:=[
 mv 18 (.t 6),
 bin 19 .neq (.t 18) (.i 0),
 mv 17 (.t 19)]
def c69r5:List SI:=[
 bld 20 [(.int .i64 0),(.int .i64 0),(.slice none 0 0)] [],
 mv 21 (.t 6),
 stR 4 0 3 (.t 20),
 mv 5 (.t 21)]
def c69r6:List (Bool × SI):=[
 (true,⟨none,.nop,(some 3),0⟩),
 (true,N_ (.ldR 24 3 0 none)),
 (true,N_ (.ldR 25 2 0 (some 3))),
 (false,N_ (.call 26 63 [(.t 25)])),
 (true,N_ (.bin 27 .lss (.t 24) (.t 26))),
 (true,N_ (.mv 22 (.t 27)))]
def c69r7:List SI:=[
 bld 28 [(.int .i64 0),(.int .i64 0),(.slice none 0 0)] [],
 stR 4 0 3 (.t 28),
 mv 5 (.i 71)]
def c69r8:List (Bool × SI):=[
 (true,N_ (.ldR 30 3 0 (some 10))),
 (true,⟨none,.nop,(some 2),0⟩),
 (true,N_ (.ldR 33 2 0 none)),
 (false,N_ (.call 31 120 [(.t 30)])),
 (true,N_ (.bin 34 .gtr (.t 31) (.t 33))),
 (true,N_ (.mv 29 (.t 34)))]
def c69r9:List SI:=[
 bld 35 [(.int .i64 0),(.int .i64 0),(.slice none 0 0)] [],
 stR 4 0 3 (.t 35),
 mv 5 (.i 70)]
def c69r10:List SI:=[
 ldR 36 2 0 (some 3),
 call 37 115 [(.t 36)],
 mv 7 (.t 37)]
def c69r11:RX:=.br [(true,⟨none,.nop,(some 2),0⟩),
 (true,N_ (.ldR 40 2 2 none)),
 (true,N_ (.mv 41 (.t 7))),
 (true,N_ (.ixA 42 (.t 40) (.t 41) 2)),
 (true,N_ (.ld 43 (.t 42) (some 2))),
 (true,N_ (.ldR 44 3 0 (some 10))),
 (true,⟨none,.nop,(some 2),0⟩),
 (true,N_ (.ldR 46 2 0 none))]
 ⟨none,.call 47 121 [(.t 43),(.t 44),(.t 46)],none,0⟩
 (.leaf [(true,N_ (.mv 38 (.t 47))),
 (true,N_ (.ext 48 (.t 38) 0)),
 (true,N_ (.ext 49 (.t 38) 1)),
 (false,N_ (.al 8 [(.int .i64 0),(.slice none 0 0)])),
 (false,N_ (.st (.t 8) 2 (.t 48))),
 (true,N_ (.mv 9 (.t 49)))])
 ⟨none,.al 8 [(.int .i64 0),(.slice none 0 0)],none,0⟩
 (.leaf [(false,N_ (.call 47 121 [(.t 43),(.t 44),(.t 46)])),
 (true,N_ (.mv 38 (.t 47))),
 (true,N_ (.ext 48 (.t 38) 0)),
 (true,N_ (.ext 49 (.t 38) 1)),
 (false,N_ (.st (.t 8) 2 (.t 48))),
 (true,N_ (.mv 9 (.t 49)))])
def c69r12:List SI:=[
 mv 50 (.t 9),
 bin 51 .eql (.t 50) (.i 0)]
def c69r13:RX:=.br [(true,N_ (.ldR 52 2 0 (some 3))),
 (true,⟨none,.nop,(some 2),0⟩),
 (true,N_ (.ldR 54 2 2 none)),
 (true,N_ (.mv 55 (.t 7))),
 (true,N_ (.sl 56 (.t 54) none (some (.t 55)) none 2)),
 (true,N_ (.ld 58 (.t 8) (some 2)))]
 ⟨none,.call 57 86 [(.t 56)],none,0⟩
 (.leaf [(false,N_ (.bls 59 120 1 2 [(.int .i64 0),(.slice none 0 0)] [(0,2,(.t 58))])),
 (false,N_ (.app 60 (.t 57) (.t 59) 120 2 32)),
 (false,N_ (.call 61 122 [(.t 52),(.t 60)])),
 (false,N_ (.stR 4 0 3 (.t 61))),
 (true,N_ (.mv 5 (.i 0)))])
 ⟨none,.bls 59 120 1 2 [(.int .i64 0),(.slice none 0 0)] [(0,2,(.t 58))],none,0⟩
 (.leaf [(false,N_ (.call 57 86 [(.t 56)])),
 (false,N_ (.app 60 (.t 57) (.t 59) 120 2 32)),
 (false,N_ (.call 61 122 [(.t 52),(.t 60)])),
 (false,N_ (.stR 4 0 3 (.t 61))),
 (true,N_ (.mv 5 (.i 0)))])
def c69r14:List SI:=[
 ⟨none,.nop,(some 2),0⟩,
 ⟨none,.ldR 63 2 2 none,none,0⟩,
 ⟨none,.len 64 false (.t 63),none,0⟩,
 ⟨none,.bin 65 .eql (.t 64) (.i 256),none,0⟩]
def c69r15:List SI:=[
 bld 66 [(.int .i64 0),(.int .i64 0),(.slice none 0 0)] [],
 stR 4 0 3 (.t 66),
 mv 5 (.i 2)]
def c69r16:List SI:=[
 ⟨none,.nop,(some 3),0⟩,
 ⟨none,.ldR 69 3 0 none,none,0⟩,
 ⟨none,.ldR 70 3 0 (some 10),none,0⟩,
 ⟨none,.bls 71 43 1 10 [(.int .i64 0),(.int .i64 0),(.int .i64 0),(.int .i64 0),(.int .i64 0),(.int .i64 0),(.int .i64 0),(.bool false),(.int .i64 0),(.slice none 0 0)] [(0,10,(.t 70))],none,0⟩,
 ⟨none,.nop,(some 2),0⟩,
 ⟨none,.ldR 73 2 0 none,none,0⟩,
 ⟨none,.call 74 123 [(.t 69),(.t 71),(.t 73)],none,0⟩,
 ⟨none,.mv 67 (.t 74),none,0⟩,
 ⟨none,.ext 75 (.t 67) 0,none,0⟩,
 ⟨none,.ext 76 (.t 67) 1,none,0⟩,
 ⟨none,.alR 10 [(.int .i64 0),(.slice none 0 0)],none,0⟩,
 ⟨none,.stR 10 0 2 (.t 75),none,0⟩,
 ⟨none,.mv 6 (.t 76),none,0⟩]
def c69r17:List SI:=[
 mv 77 (.t 6),
 bin 78 .neq (.t 77) (.i 0)]
def c69r18:List SI:=[
 bld 79 [(.int .i64 0),(.int .i64 0),(.slice none 0 0)] [],
 mv 80 (.t 6),
 stR 4 0 3 (.t 79),
 mv 5 (.t 80)]
def c69r19:RX:=.br [(true,N_ (.ldR 81 2 0 (some 3))),
 (true,⟨none,.nop,(some 2),0⟩),
 (true,N_ (.ldR 83 2 2 none)),
 (true,N_ (.ldR 85 10 0 (some 2)))]
 ⟨none,.call 84 86 [(.t 83)],none,0⟩
 (.leaf [(false,N_ (.bls 86 120 1 2 [(.int .i64 0),(.slice none 0 0)] [(0,2,(.t 85))])),
 (false,N_ (.app 87 (.t 84) (.t 86) 120 2 32)),
 (false,N_ (.call 88 122 [(.t 81),(.t 87)])),
 (false,N_ (.stR 4 0 3 (.t 88))),
 (true,N_ (.mv 5 (.i 0)))])
 ⟨none,.bls 86 120 1 2 [(.int .i64 0),(.slice none 0 0)] [(0,2,(.t 85))],none,0⟩
 (.leaf [(false,N_ (.call 84 86 [(.t 83)])),
 (false,N_ (.app 87 (.t 84) (.t 86) 120 2 32)),
 (false,N_ (.call 88 122 [(.t 81),(.t 87)])),
 (false,N_ (.stR 4 0 3 (.t 88))),
 (true,N_ (.mv 5 (.i 0)))])
def c69:SC :=
 (.seq (.reg false c69r0)
 (.seq (.reg false c69r1)
 (.seq (.seq (.reg false c69r2)
 (.cond (.t 14)
  (.reg false c69r3)
  .skip))
 (.seq (.blk 0 (.seq (.reg false c69r4)
  (.cond (.t 17)
   (.seq (.reg false c69r5)
   .ret)
   (.seq (.rgX c69r6)
   (.cond (.t 22)
    (.seq (.reg false c69r7)
    .ret)
    (.seq (.rgX c69r8)
    (.cond (.t 29)
     (.seq (.reg false c69r9)
     .ret)
     .skip)))))))
 (.seq (.reg false c69r10)
 (.seq (.seq (.rgZ c69r11)
 (.seq (.reg false c69r12)
 (.cond (.t 51)
  (.seq (.rgZ c69r13)
  .ret)
  .skip)))
 (.seq (.seq (.reg false c69r14)
 (.cond (.t 65)
  (.seq (.reg false c69r15)
  .ret)
  .skip))
 (.seq (.reg false c69r16)
 (.seq (.seq (.reg false c69r17)
 (.cond (.t 78)
  (.seq (.reg false c69r18)
  .ret)
  .skip))
 (.seq (.rgZ c69r19)
 .ret))))))))))
def v69:List Nat × List Nat:=([2,3,4,10],[2,3,4,10,23,32,39,45,53,62,68,72,82])
def o69:List RS:=[.r 4 (some 3),.t 5]
def c70r0:List SI:=[
 mv 6 (.v (.slice none 0 0)),
 mv 7 (.i 0)]
def c70r1:List SI:=[
 ⟨none,.mv 11 (.t 0),none,0⟩,
 ⟨none,.call 12 108 [(.t 11)],none,0⟩,
 ⟨none,.bin 13 .neq (.t 12) (.i 0),none,0⟩,
 ⟨none,.mv 14 (.t 13),none,0⟩,
 X_ 14 (.mv 15 (.t 1)) 15,
 X_ 14 (.call 16 124 [(.t 15),(.i 1048576)]) 16,
 X_ 14 (.un 17 .not (.t 16)) 17,
 ⟨none,.pick 18 (.t 14) (.b true) (.t 17),none,0⟩,
 ⟨none,.mv 19 (.t 18),none,0⟩,
 X_ 19 (.mv 20 (.t 2)) 20,
 X_ 19 (.call 21 124 [(.t 20),(.i 1099511627776)]) 21,
 X_ 19 (.un 22 .not (.t 21)) 22,
 ⟨none,.pick 23 (.t 19) (.b true) (.t 22),none,0⟩]
def c70r2:List SI:=[
 mv 6 (.v (.slice none 0 0)),
 mv 7 (.i 1)]
def c70r3:List SI:=[
 mv 24 (.t 0),
 call 25 125 [(.t 24)],
 mv 26 (.t 1),
 mv 27 (.t 2),
 bld 28 [(.int .i64 0),(.int .i64 0)] [(0,1,(.t 26)),(1,1,(.t 27))],
 alR 9 [(.int .i64 0),(.int .i64 0)],
 mv 8 (.t 25),
 stR 9 0 2 (.t 28)]
def c70r4:List SI:=[
 mv 29 (.t 0),
 len 30 false (.t 29),
 bin 31 .eql (.t 30) (.i 0)]
def c70r5:List SI:=[
 mv 32 (.t 8),
 ldR 33 9 0 (some 2),
 bls 34 151 1 2 [(.int .i64 0),(.int .i64 0)] [(0,2,(.t 33))],
 app 35 (.t 32) (.t 34) 151 2 16,
 mv 6 (.t 35),
 mv 7 (.i 0)]
def c70r6:List SI:=[
 mv 36 (.t 8),
 mv 37 (.t 8),
 len 38 false (.t 37),
 bin 39 .sub (.t 38) (.i 1),
 ixA 40 (.t 36) (.t 39) 2,
 mv 10 (.t 40)]
def c70r7:List SI:=[
 mv 46 (.t 1),
 mv 47 (.t 10),
 nck 48 (.t 47),
 flA 49 (.t 48) 0,
 ld 50 (.t 49) none,
 bin 51 .lss (.t 46) (.t 50),
 mv 45 (.t 51)]
def c70r8:List SI:=[
 mv 6 (.v (.slice none 0 0)),
 mv 7 (.i 100)]
def c70r9:List SI:=[
 mv 53 (.t 1),
 mv 54 (.t 10),
 nck 55 (.t 54),
 flA 56 (.t 55) 0,
 ld 57 (.t 56) none,
 bin 58 .eql (.t 53) (.t 57),
 mv 52 (.t 58)]
def c70r10:List SI:=[
 mv 60 (.t 2),
 mv 61 (.t 10),
 nck 62 (.t 61),
 flA 63 (.t 62) 1,
 ld 64 (.t 63) none,
 bin 65 .lss (.t 60) (.t 64),
 mv 59 (.t 65)]
def c70r11:List SI:=[
 mv 6 (.v (.slice none 0 0)),
 mv 7 (.i 71)]
def c70r12:List SI:=[
 mv 67 (.t 2),
 mv 68 (.t 10),
 nck 69 (.t 68),
 flA 70 (.t 69) 1,
 ld 71 (.t 70) none,
 bin 72 .eql (.t 67) (.t 71),
 mv 66 (.t 72)]
def c70r13:List SI:=[
 mv 73 (.t 10),
 ldR 74 9 0 (some 2),
 nck 75 (.t 73),
 st (.t 75) 2 (.t 74)]
def c70r14:List SI:=[
 mv 41 (.t 8),
 ldR 42 9 0 (some 2),
 bls 43 151 1 2 [(.int .i64 0),(.int .i64 0)] [(0,2,(.t 42))],
 app 44 (.t 41) (.t 43) 151 2 16,
 mv 8 (.t 44)]
def c70r15:List SI:=[
 mv 76 (.t 8),
 mv 6 (.t 76),
 mv 7 (.i 0)]
def c70:SC :=
 (.seq (.reg false c70r0)
 (.seq (.seq (.reg false c70r1)
 (.cond (.t 23)
  (.seq (.reg false c70r2)
  .ret)
  .skip))
 (.seq (.reg false c70r3)
 (.seq (.seq (.reg false c70r4)
 (.cond (.t 31)
  (.seq (.reg false c70r5)
  .ret)
  .skip))
 (.seq (.seq (.reg false c70r6)
 (.blk 0 (.seq (.reg false c70r7)
  (.cond (.t 45)
   (.seq (.reg false c70r8)
   .ret)
   (.seq (.reg false c70r9)
   (.cond (.t 52)
    .skip
    (.seq (.reg false c70r10)
    (.cond (.t 59)
     (.seq (.reg false c70r11)
     .ret)
     (.seq (.reg false c70r12)
     (.cond (.t 66)
      (.reg false c70r13)
      (.reg false c70r14)))))))))))
 (.seq (.reg false c70r15)
 .ret))))))
def v70:List Nat × List Nat:=([9],[9])
def o70:List RS:=[.t 6,.t 7]
def c71r0:List SI:=[
 mv 5 (.t 0),
 mv 6 (.t 0),
 nck 7 (.t 6),
 flA 8 (.t 7) 0,
 flA 9 (.t 8) 1,
 ld 10 (.t 9) none,
 call 11 51 [(.t 5),(.t 10)],
 al 2 [(.pointer none)],
 st (.t 2) 1 (.t 11)]
def c71r1:List SI:=[
 ⟨none,.mv 12 (.t 0),none,0⟩,
 ⟨none,.nck 13 (.t 12),none,0⟩,
 ⟨none,.flA 14 (.t 13) 0,none,0⟩,
 ⟨none,.flA 15 (.t 14) 1,none,0⟩,
 ⟨none,.ld 16 (.t 15) none,none,0⟩,
 ⟨none,.bin 17 .lss (.t 16) (.i 0),none,0⟩,
 ⟨none,.mv 18 (.t 17),none,0⟩,
 X_ 18 (.ld 19 (.t 2) none) 19,
 X_ 18 (.eqf 20 false [3] (.t 19) (.v (.pointer none))) 20,
 ⟨none,.pick 21 (.t 18) (.b true) (.t 20),none,0⟩]
def c71r2:List SI:=[
 ld 22 (.t 2) none,
 nck 23 (.t 22),
 ld 24 (.t 23) (some 7),
 call 25 68 [(.t 24)],
 al 3 [(.int .i64 0)],
 st (.t 3) 1 (.t 25)]
def c71r3:List SI:=[
 mv 26 (.t 0),
 call 27 61 [(.t 26)]]
def c71r4:List SI:=[
 mv 4 (.t 28)]
def c71r5:List SI:=[
 mv 29 (.t 4),
 ld 30 (.t 2) none,
 eqf 31 true [3] (.t 29) (.t 30)]
def c71r6:List (Bool × SI):=[
 (true,N_ (.ld 32 (.t 3) none)),
 (true,N_ (.mv 33 (.t 4))),
 (true,N_ (.nck 34 (.t 33))),
 (true,N_ (.flA 35 (.t 34) 5)),
 (true,N_ (.ld 36 (.t 35) none)),
 (true,N_ (.mv 37 (.t 4))),
 (true,N_ (.nck 38 (.t 37))),
 (true,N_ (.ld 39 (.t 38) (some 7))),
 (true,N_ (.ld 41 (.t 2) none)),
 (true,N_ (.nck 42 (.t 41))),
 (true,N_ (.flA 43 (.t 42) 5)),
 (true,N_ (.ld 44 (.t 43) none)),
 (true,N_ (.ld 45 (.t 2) none)),
 (true,N_ (.nck 46 (.t 45))),
 (true,N_ (.ld 47 (.t 46) (some 7))),
 (false,N_ (.call 40 68 [(.t 39)])),
 (false,N_ (.call 48 68 [(.t 47)])),
 (false,N_ (.call 49 126 [(.t 36),(.t 40),(.t 44),(.t 48)])),
 (true,N_ (.mm 50 false (.t 32) (.t 49)))]
def c71r7:List SI:=[
 st (.t 3) 1 (.t 50)]
def c71r8:List SI:=[
 ld 51 (.t 2) none,
 ld 52 (.t 2) none,
 nck 53 (.t 52),
 flA 54 (.t 53) 6,
 ld 55 (.t 54) none,
 ld 56 (.t 3) none,
 mm 57 true (.t 55) (.t 56),
 nck 58 (.t 51),
 flA 59 (.t 58) 6]
def c71r9:List SI:=[
 st (.t 59) 1 (.t 57)]
def c71:SC :=
 (.seq (.reg false c71r0)
 (.seq (.seq (.reg false c71r1)
 (.cond (.t 21)
  .ret
  .skip))
 (.seq (.reg false c71r2)
 (.seq (.seq (.reg false c71r3)
 (.blk 0 (.rf (.t 27) [28] (.reg false c71r4)
   (.blk 1 (.seq (.reg false c71r5)
    (.cond (.t 31)
     (.rgY c71r6 c71r7)
     .skip))))))
 (.rgT c71r8 c71r9)))))
def v71:List Nat × List Nat:=([],[])
def o71:List RS:=[]
def c75r0:List SI:=[
 mv 2 (.v (.slice none 0 0))]
def c75r1:List SI:=[
 mv 3 (.t 0),
 call 4 129 [(.v (.slice none 0 0)),(.t 3)],
 mv 2 (.t 4)]
def c75:SC :=
 (.seq (.reg false c75r0)
 (.seq (.reg false c75r1)
 .ret))
def v75:List Nat × List Nat:=([],[])
def o75:List RS:=[.t 2]
def c76r0:List SI:=[
 bx 2 (.t 0),
 bx 3 (.t 1),
 mv 4 (.v .nilFunc)]
def c76r1:List SI:=[
 mkf 5 (.func 130) [(.t 2),(.t 3)],
 mv 4 (.t 5)]
def c76:SC :=
 (.seq (.reg false c76r0)
 (.seq (.reg false c76r1)
 .ret))
def v76:List Nat × List Nat:=([],[])
def o76:List RS:=[.t 4]
def c79r0:List SI:=[
 bxR 2 (.t 0),
 bxR 3 (.t 1),
 mv 4 (.b false)]
def c79r1:List SI:=[
 ⟨none,.nop,(some 2),0⟩,
 ⟨none,.ldR 6 2 0 none,none,0⟩,
 ⟨none,.nop,(some 3),0⟩,
 ⟨none,.ldR 8 3 0 none,none,0⟩,
 ⟨none,.bin 9 .eql (.t 6) (.t 8),none,0⟩,
 ⟨none,.mv 10 (.t 9),none,0⟩,
 T_ 10 2,
 Y_ 10 (.ldR 12 2 1 none) 12,
 T_ 10 3,
 Y_ 10 (.ldR 14 3 1 none) 14,
 Y_ 10 (.bin 15 .eql (.t 12) (.t 14)) 15,
 ⟨none,.pick 16 (.t 10) (.t 15) (.b false),none,0⟩,
 ⟨none,.mv 17 (.t 16),none,0⟩,
 T_ 17 2,
 Y_ 17 (.ldR 19 2 2 none) 19,
 T_ 17 3,
 Y_ 17 (.ldR 21 3 2 none) 21,
 Y_ 17 (.bin 22 .eql (.t 19) (.t 21)) 22,
 ⟨none,.pick 23 (.t 17) (.t 22) (.b false),none,0⟩,
 ⟨none,.mv 24 (.t 23),none,0⟩,
 T_ 24 2,
 Y_ 24 (.ldR 26 2 3 none) 26,
 T_ 24 3,
 Y_ 24 (.ldR 28 3 3 none) 28,
 Y_ 24 (.bin 29 .eql (.t 26) (.t 28)) 29,
 ⟨none,.pick 30 (.t 24) (.t 29) (.b false),none,0⟩,
 ⟨none,.mv 31 (.t 30),none,0⟩,
 T_ 31 2,
 Y_ 31 (.ldR 33 2 4 none) 33,
 T_ 31 3,
 Y_ 31 (.ldR 35 3 4 none) 35,
 Y_ 31 (.bin 36 .eql (.t 33) (.t 35)) 36,
 ⟨none,.pick 37 (.t 31) (.t 36) (.b false),none,0⟩,
 ⟨none,.mv 38 (.t 37),none,0⟩,
 T_ 38 2,
 Y_ 38 (.ldR 40 2 5 none) 40,
 T_ 38 3,
 Y_ 38 (.ldR 42 3 5 none) 42,
 Y_ 38 (.bin 43 .eql (.t 40) (.t 42)) 43,
 ⟨none,.pick 44 (.t 38) (.t 43) (.b false),none,0⟩,
 ⟨none,.mv 45 (.t 44),none,0⟩,
 T_ 45 2,
 Y_ 45 (.ldR 47 2 6 none) 47,
 T_ 45 3,
 Y_ 45 (.ldR 49 3 6 none) 49,
 Y_ 45 (.bin 50 .eql (.t 47) (.t 49)) 50,
 ⟨none,.pick 51 (.t 45) (.t 50) (.b false),none,0⟩,
 ⟨none,.mv 52 (.t 51),none,0⟩,
 T_ 52 2,
 Y_ 52 (.ldR 54 2 7 none) 54,
 T_ 52 3,
 Y_ 52 (.ldR 56 3 7 none) 56,
 Y_ 52 (.eqb 57 false (.t 54) (.t 56)) 57,
 ⟨none,.pick 58 (.t 52) (.t 57) (.b false),none,0⟩,
 ⟨none,.mv 59 (.t 58),none,0⟩,
 T_ 59 2,
 Y_ 59 (.ldR 61 2 8 none) 61,
 T_ 59 3,
 Y_ 59 (.ldR 63 3 8 none) 63,
 Y_ 59 (.bin 64 .eql (.t 61) (.t 63)) 64,
 ⟨none,.pick 65 (.t 59) (.t 64) (.b false),none,0⟩,
 ⟨none,.mv 66 (.t 65),none,0⟩,
 T_ 66 2,
 Y_ 66 (.ldR 68 2 9 none) 68,
 T_ 66 3,
 Y_ 66 (.ldR 70 3 9 none) 70,
 Y_ 66 (.call 71 133 [(.t 68),(.t 70)]) 71,
 ⟨none,.pick 72 (.t 66) (.t 71) (.b false),none,0⟩,
 ⟨none,.mv 4 (.t 72),none,0⟩]
def c79:SC :=
 (.seq (.reg false c79r0)
 (.seq (.reg false c79r1)
 .ret))
def v79:List Nat × List Nat:=([2,3],[2,3,5,7,11,13,18,20,25,27,32,34,39,41,46,48,53,55,60,62,67,69])
def o79:List RS:=[.t 4]
def c80r0:List SI:=[
 bxR 3 (.t 0),
 bx 4 (.t 1),
 bx 5 (.t 2),
 alR 6 [(.int .i64 0),(.int .i64 0),(.int .i64 0),(.slice none 0 0),(.slice none 0 0)],
 mv 7 (.i 0)]
def c80r1:List SI:=[
 ldR 8 3 0 (some 5),
 mkf 9 (.func 134) [(.t 4),(.t 5)],
 call 10 65 [(.t 8),(.t 9)],
 ext 11 (.t 10) 0,
 ext 12 (.t 10) 1,
 stR 6 0 5 (.t 11),
 mv 7 (.t 12)]
def c80:SC :=
 (.seq (.reg false c80r0)
 (.seq (.reg false c80r1)
 .ret))
def v80:List Nat × List Nat:=([3,6],[3,6])
def o80:List RS:=[.r 6 (some 5),.t 7]
def c81r0:List SI:=[
 mv 5 (.i 0)]
def c81r1:List SI:=[
 ⟨none,.mv 10 (.t 0),none,0⟩,
 ⟨none,.nck 11 (.t 10),none,0⟩,
 ⟨none,.flA 12 (.t 11) 0,none,0⟩,
 ⟨none,.flA 13 (.t 12) 1,none,0⟩,
 ⟨none,.ld 14 (.t 13) none,none,0⟩,
 ⟨none,.bin 15 .lss (.t 14) (.i 0),none,0⟩,
 ⟨none,.mv 16 (.t 15),none,0⟩,
 X_ 16 (.mv 17 (.t 1)) 17,
 X_ 16 (.nck 18 (.t 17)) 18,
 X_ 16 (.flA 19 (.t 18) 1) 19,
 X_ 16 (.ld 20 (.t 19) none) 20,
 X_ 16 (.un 21 .not (.t 20)) 21,
 ⟨none,.pick 22 (.t 16) (.b true) (.t 21),none,0⟩]
def c81r2:List SI:=[
 mv 5 (.i 180)]
def c81r3:List SI:=[
 ld 23 (.t 2) none,
 mv 24 (.t 0),
 nck 25 (.t 24),
 flA 26 (.t 25) 0,
 flA 27 (.t 26) 1,
 ld 28 (.t 27) none,
 bin 29 .eql (.t 23) (.t 28)]
def c81r4:List SI:=[
 mv 5 (.i 0)]
def c81r5:List SI:=[
 mv 30 (.t 0),
 mv 31 (.t 0),
 nck 32 (.t 31),
 flA 33 (.t 32) 0,
 flA 34 (.t 33) 1,
 ld 35 (.t 34) none,
 call 36 51 [(.t 30),(.t 35)],
 mv 6 (.t 36)]
def c81r6:List SI:=[
 mv 37 (.t 1),
 mv 38 (.t 6),
 nck 39 (.t 38),
 ld 40 (.t 39) (some 7),
 call 41 82 [(.t 37),(.t 40)]]
def c81r7:List SI:=[
 mv 42 (.t 1),
 nck 43 (.t 42),
 ld 44 (.t 43) (some 7),
 call 45 68 [(.t 44)],
 mv 7 (.t 45)]
def c81r8:List SI:=[
 mv 46 (.t 1),
 mv 47 (.t 1),
 nck 48 (.t 47),
 flA 49 (.t 48) 6,
 ld 50 (.t 49) none,
 mv 51 (.t 7),
 mm 52 false (.t 50) (.t 51),
 nck 53 (.t 46),
 flA 54 (.t 53) 6,
 st (.t 54) 1 (.t 52)]
def c81r9:List (Bool × SI):=[
 (true,N_ (.mv 56 (.t 0))),
 (true,N_ (.nck 57 (.t 56))),
 (true,N_ (.flA 58 (.t 57) 0)),
 (true,N_ (.flA 59 (.t 58) 3)),
 (true,N_ (.ld 60 (.t 59) none)),
 (true,N_ (.ld 61 (.t 2) none)),
 (false,N_ (.call 62 83 [(.t 60),(.t 61)])),
 (true,N_ (.mv 55 (.t 62))),
 (true,N_ (.ext 63 (.t 55) 0)),
 (true,N_ (.ext 64 (.t 55) 1)),
 (true,N_ (.mv 8 (.t 63))),
 (true,N_ (.mv 9 (.t 64)))]
def c81r10:List SI:=[
 ⟨none,.mv 65 (.t 7),none,0⟩,
 ⟨none,.mv 66 (.t 6),none,0⟩,
 ⟨none,.nck 67 (.t 66),none,0⟩,
 ⟨none,.flA 68 (.t 67) 6,none,0⟩,
 ⟨none,.ld 69 (.t 68) none,none,0⟩,
 ⟨none,.bin 70 .geq (.t 65) (.t 69),none,0⟩,
 ⟨none,.mv 71 (.t 70),none,0⟩,
 Y_ 71 (.mv 72 (.t 9)) 72,
 Y_ 71 (.un 73 .not (.t 72)) 73,
 ⟨none,.pick 74 (.t 71) (.t 73) (.b false),none,0⟩]
def c81r11:List (Bool × SI):=[
 (true,N_ (.mv 75 (.t 0))),
 (true,N_ (.mv 76 (.t 0))),
 (true,N_ (.nck 77 (.t 76))),
 (true,N_ (.flA 78 (.t 77) 0)),
 (true,N_ (.flA 79 (.t 78) 3)),
 (true,N_ (.ld 80 (.t 79) none)),
 (true,N_ (.mv 81 (.t 8))),
 (true,N_ (.ld 82 (.t 2) none)),
 (false,N_ (.bls 83 3 1 1 [(.int .i64 0)] [(0,1,(.t 82))])),
 (false,N_ (.call 84 84 [(.t 80),(.t 81),(.t 83)])),
 (true,N_ (.nck 85 (.t 75))),
 (true,N_ (.flA 86 (.t 85) 0)),
 (true,N_ (.flA 87 (.t 86) 3))]
def c81r12:List SI:=[
 st (.t 87) 1 (.t 84)]
def c81r13:List SI:=[
 mv 88 (.t 0),
 call 89 71 [(.t 88)]]
def c81r14:List SI:=[
 mv 90 (.t 1),
 mv 91 (.t 1),
 nck 92 (.t 91),
 flA 93 (.t 92) 6,
 ld 94 (.t 93) none,
 mv 95 (.t 6),
 nck 96 (.t 95),
 flA 97 (.t 96) 6,
 ld 98 (.t 97) none,
 mm 99 true (.t 94) (.t 98),
 mv 100 (.t 7),
 mm 101 false (.t 99) (.t 100),
 nck 102 (.t 90),
 flA 103 (.t 102) 6]
def c81r15:List SI:=[
 st (.t 103) 1 (.t 101)]
def c81r16:List SI:=[
 mv 5 (.i 0)]
def c81:SC :=
 (.seq (.reg false c81r0)
 (.seq (.seq (.reg false c81r1)
 (.cond (.t 22)
  (.seq (.reg false c81r2)
  .ret)
  .skip))
 (.seq (.seq (.reg true c81r3)
 (.cond (.t 29)
  (.seq (.reg false c81r4)
  .ret)
  .skip))
 (.seq (.reg false c81r5)
 (.seq (.reg false c81r6)
 (.seq (.reg false c81r7)
 (.seq (.reg false c81r8)
 (.seq (.seq (.rgX c81r9)
 (.seq (.reg false c81r10)
 (.cond (.t 74)
  (.rgY c81r11 c81r12)
  .skip)))
 (.seq (.reg false c81r13)
 (.seq (.rgT c81r14 c81r15)
 (.seq (.reg false c81r16)
 .ret)))))))))))
def v81:List Nat × List Nat:=([],[])
def o81:List RS:=[.t 5]
def c82r0:List SI:=[
 bxR 3 (.t 1)]
def c82r1:List (Bool × SI):=[
 (true,N_ (.mv 8 (.t 0))),
 (true,N_ (.nck 9 (.t 8))),
 (true,N_ (.flA 10 (.t 9) 5)),
 (true,N_ (.ld 11 (.t 10) none)),
 (true,N_ (.mv 12 (.t 0))),
 (true,N_ (.nck 13 (.t 12))),
 (true,N_ (.ld 14 (.t 13) (some 7))),
 (true,⟨none,.nop,(some 3),0⟩),
 (true,N_ (.ldR 17 3 5 none)),
 (true,N_ (.ldR 18 3 0 (some 7))),
 (false,N_ (.call 15 68 [(.t 14)])),
 (false,N_ (.call 19 68 [(.t 18)])),
 (false,N_ (.call 20 126 [(.t 11),(.t 15),(.t 17),(.t 19)])),
 (true,N_ (.mv 4 (.t 20)))]
def c82r2:List SI:=[
 ⟨none,.nop,(some 3),0⟩,
 ⟨none,.ldR 22 3 2 (some 3),none,0⟩,
 ⟨none,.alR 5 [(.int .i64 0),(.int .i64 0),(.slice none 0 0)],none,0⟩,
 ⟨none,.stR 5 0 3 (.t 22),none,0⟩,
 ⟨none,.mv 6 (.b false),none,0⟩]
def c82r3:List SI:=[
 mv 23 (.t 0),
 nck 24 (.t 23),
 flA 25 (.t 24) 2,
 flA 26 (.t 25) 1,
 ld 27 (.t 26) none,
 mv 7 (.t 27)]
def c82r4:List SI:=[
 ⟨none,.mv 28 (.t 7),none,0⟩,
 ⟨none,.nop,(some 3),0⟩,
 ⟨none,.nop,none,0⟩,
 ⟨none,.ldR 31 3 3 none,none,0⟩,
 ⟨none,.bin 32 .eql (.t 28) (.t 31),none,0⟩,
 ⟨none,.mv 33 (.t 32),none,0⟩,
 Y_ 33 (.mv 34 (.t 4)) 34,
 Y_ 33 (.mv 35 (.t 7)) 35,
 Y_ 33 (.bin 36 .geq (.t 34) (.t 35)) 36,
 ⟨none,.pick 37 (.t 33) (.t 36) (.b false),none,0⟩]
def c82r5:List WI:=[
 (true,false,⟨none,.mv 39 (.t 0),none,0⟩),
 (true,false,⟨none,.nck 40 (.t 39),none,0⟩),
 (true,false,⟨none,.flA 41 (.t 40) 2,none,0⟩),
 (true,false,⟨none,.ld 42 (.t 41) (some 3),none,0⟩),
 (true,false,⟨none,.nop,(some 3),0⟩),
 (true,false,⟨none,.ldR 44 3 2 (some 3),none,0⟩),
 (true,false,⟨none,.mv 45 (.t 4),none,0⟩),
 (true,false,⟨none,.mv 46 (.t 0),none,0⟩),
 (true,false,⟨none,.nck 47 (.t 46),none,0⟩),
 (true,false,⟨none,.ld 48 (.t 47) (some 7),none,0⟩),
 (false,false,⟨none,.call 49 68 [(.t 48)],none,0⟩),
 (true,false,⟨none,.mm 50 false (.t 45) (.t 49),none,0⟩),
 (false,true,⟨none,.call 51 135 [(.t 42),(.t 44),(.t 50)],none,0⟩),
 (true,false,⟨none,.mv 38 (.t 51),none,0⟩),
 (true,false,⟨none,.ext 52 (.t 38) 0,none,0⟩),
 (true,false,⟨none,.ext 53 (.t 38) 1,none,0⟩),
 (false,true,⟨none,.stR 5 0 3 (.t 52),none,0⟩),
 (true,false,⟨none,.mv 6 (.t 53),none,0⟩)]
def c82r6:List SI:=[
 mv 54 (.t 6),
 un 55 .not (.t 54)]
def c82r7:List SI:=[
 ⟨none,.nop,(some 3),0⟩,
 ⟨none,.ldR 57 3 2 (some 3),none,0⟩,
 ⟨none,.stR 5 0 3 (.t 57),none,0⟩]
def c82r8:List WI:=[
 (true,false,⟨none,.mv 58 (.t 0),none,0⟩),
 (true,false,⟨none,.mv 59 (.t 0),none,0⟩),
 (true,false,⟨none,.ldR 60 5 0 (some 3),none,0⟩),
 (true,false,⟨none,.nop,(some 3),0⟩),
 (true,false,⟨none,.ldR 62 3 5 none,none,0⟩),
 (true,false,⟨none,.nck 63 (.t 58),none,0⟩),
 (true,false,⟨none,.flA 64 (.t 63) 2,none,0⟩),
 (false,false,⟨none,.st (.t 64) 3 (.t 60),none,0⟩),
 (true,false,⟨none,.nck 65 (.t 59),none,0⟩),
 (true,false,⟨none,.flA 66 (.t 65) 5,none,0⟩),
 (false,true,⟨none,.st (.t 66) 1 (.t 62),none,0⟩)]
def c82:SC :=
 (.seq (.reg false c82r0)
 (.seq (.rgX c82r1)
 (.seq (.reg false c82r2)
 (.seq (.seq (.reg false c82r3)
 (.seq (.reg false c82r4)
 (.cond (.t 37)
  (.rgW c82r5)
  .skip)))
 (.seq (.seq (.reg false c82r6)
 (.cond (.t 55)
  (.reg false c82r7)
  .skip))
 (.rgW c82r8))))))
def v82:List Nat × List Nat:=([3,5],[3,5,16,21,29,30,43,56,61])
def o82:List RS:=[]
def c83r0:List SI:=[
 mv 4 (.i 0),
 mv 5 (.b false)]
def c83r1:List SI:=[
 mv 10 (.t 0),
 len 11 false (.t 10),
 mv 6 (.t 11)]
def c83r2:List SI:=[
 mv 12 (.t 6),
 mv 7 (.i 0),
 mv 8 (.t 12)]
def c83r3:List SI:=[
 mv 13 (.t 7),
 mv 14 (.t 8),
 bin 15 .lss (.t 13) (.t 14)]
def c83r4:List SI:=[
 mv 16 (.t 7),
 mv 17 (.t 8),
 bin 18 .add (.t 16) (.t 17),
 cvI 19 .u64 (.t 18),
 bin 20 .shr (.t 19) (.v (.int .u64 1)),
 cvI 21 .i64 (.t 20),
 mv 9 (.t 21)]
def c83r5:List SI:=[
 mv 22 (.t 0),
 mv 23 (.t 9),
 ixA 24 (.t 22) (.t 23) 1,
 ld 25 (.t 24) none,
 mv 26 (.t 1),
 call 27 136 [(.t 25),(.t 26)]]
def c83r6:List SI:=[
 mv 28 (.t 9),
 bin 29 .add (.t 28) (.i 1),
 mv 7 (.t 29)]
def c83r7:List SI:=[
 mv 30 (.t 9),
 mv 8 (.t 30)]
def c83r8:List SI:=[
 ⟨none,.mv 31 (.t 7),none,0⟩,
 ⟨none,.mv 32 (.t 7),none,0⟩,
 ⟨none,.mv 33 (.t 6),none,0⟩,
 ⟨none,.bin 34 .lss (.t 32) (.t 33),none,0⟩,
 ⟨none,.mv 35 (.t 34),none,0⟩,
 Y_ 35 (.mv 36 (.t 0)) 36,
 Y_ 35 (.mv 37 (.t 7)) 37,
 Y_ 35 (.ixA 38 (.t 36) (.t 37) 1) 38,
 Y_ 35 (.ld 39 (.t 38) none) 39,
 Y_ 35 (.mv 40 (.t 1)) 40,
 Y_ 35 (.bin 41 .eql (.t 39) (.t 40)) 41,
 Y_ 35 (.mv 42 (.t 41)) 42,
 X_ 42 (.mv 43 (.t 0)) 43,
 X_ 42 (.mv 44 (.t 7)) 44,
 X_ 42 (.ixA 45 (.t 43) (.t 44) 1) 45,
 X_ 42 (.ld 46 (.t 45) none) 46,
 X_ 42 (.call 47 137 [(.t 46)]) 47,
 X_ 42 (.mv 48 (.t 47)) 48,
 Y_ 48 (.mv 49 (.t 1)) 49,
 Y_ 48 (.call 50 137 [(.t 49)]) 50,
 X_ 42 (.pick 51 (.t 48) (.t 50) (.b false)) 51,
 Y_ 35 (.pick 52 (.t 42) (.b true) (.t 51)) 52,
 ⟨none,.pick 53 (.t 35) (.t 52) (.b false),none,0⟩,
 ⟨none,.mv 4 (.t 31),none,0⟩,
 ⟨none,.mv 5 (.t 53),none,0⟩]
def c83:SC :=
 (.seq (.reg false c83r0)
 (.seq (.reg false c83r1)
 (.seq (.reg false c83r2)
 (.seq (.blk 0 (.loop (.seq (.seq (.reg false c83r3)
   (.cond (.t 15)
    .skip
    (.exit 0)))
   (.blk 1 (.seq (.reg false c83r4)
    (.seq (.reg false c83r5)
    (.cond (.t 27)
     (.reg false c83r6)
     (.reg false c83r7))))))))
 (.seq (.reg false c83r8)
 .ret)))))
def v83:List Nat × List Nat:=([],[])
def o83:List RS:=[.t 4,.t 5]
def c85r0:List SI:=[
 mv 6 (.i 0)]
def c85r1:List SI:=[
 ld 10 (.t 2) none,
 bin 11 .lss (.t 10) (.i 0),
 mv 9 (.t 11)]
def c85r2:List SI:=[
 mv 6 (.i 1)]
def c85r3:List SI:=[
 mv 13 (.t 1),
 nck 14 (.t 13),
 flA 15 (.t 14) 1,
 ld 16 (.t 15) none,
 un 17 .not (.t 16),
 mv 12 (.t 17)]
def c85r4:List SI:=[
 mv 6 (.i 180)]
def c85r5:List SI:=[
 mv 18 (.t 1),
 nck 19 (.t 18),
 flA 20 (.t 19) 2,
 flA 21 (.t 20) 2,
 ld 22 (.t 21) none,
 call 23 86 [(.t 22)],
 mv 7 (.t 23)]
def c85r6:List SI:=[
 mv 24 (.t 7),
 mv 25 (.t 7),
 len 26 false (.t 25),
 bin 27 .sub (.t 26) (.i 1),
 ixA 28 (.t 24) (.t 27) 2,
 mv 8 (.t 28)]
def c85r7:List SI:=[
 mv 29 (.t 8),
 mv 30 (.t 8),
 nck 31 (.t 30),
 flA 32 (.t 31) 1,
 ld 33 (.t 32) none,
 mv 34 (.t 8),
 nck 35 (.t 34),
 flA 36 (.t 35) 1,
 ld 37 (.t 36) none,
 len 38 false (.t 37),
 ld 39 (.t 2) none,
 mv 40 (.t 8),
 nck 41 (.t 40),
 flA 42 (.t 41) 1,
 ld 43 (.t 42) none,
 len 44 false (.t 43),
 mm 45 false (.t 39) (.t 44),
 bin 46 .sub (.t 38) (.t 45),
 sl 47 (.t 33) none (some (.t 46)) none 1,
 nck 48 (.t 29),
 flA 49 (.t 48) 1]
def c85r8:List SI:=[
 st (.t 49) 1 (.t 47)]
def c85r9:List SI:=[
 mv 50 (.t 1),
 mv 51 (.t 1),
 mv 52 (.t 7),
 nck 53 (.t 50),
 flA 54 (.t 53) 1,
 st (.t 54) 1 (.b false),
 nck 55 (.t 51),
 flA 56 (.t 55) 2,
 flA 57 (.t 56) 2,
 st (.t 57) 1 (.t 52)]
def c85r10:List SI:=[
 mv 58 (.t 0),
 nck 59 (.t 58),
 flA 60 (.t 59) 0,
 flA 61 (.t 60) 1,
 ld 62 (.t 61) none,
 ld 63 (.t 3) none,
 bin 64 .eql (.t 62) (.t 63)]
def c85r11:List SI:=[
 mv 65 (.t 0),
 nck 66 (.t 65),
 flA 67 (.t 66) 0,
 flA 68 (.t 67) 1,
 st (.t 68) 1 (.i (-1))]
def c85r12:List SI:=[
 mv 69 (.t 0),
 nck 70 (.t 69),
 flA 71 (.t 70) 0,
 flA 72 (.t 71) 3,
 ld 73 (.t 72) none,
 len 74 false (.t 73),
 bin 75 .gtr (.t 74) (.i 1)]
def c85r13:List SI:=[
 mv 76 (.t 0),
 ld 77 (.t 3) none,
 call 78 87 [(.t 76),(.t 77)]]
def c85r14:List SI:=[
 mv 79 (.t 0),
 call 80 71 [(.t 79)]]
def c85r15:List SI:=[
 mv 6 (.i 0)]
def c85:SC :=
 (.seq (.reg false c85r0)
 (.seq (.blk 0 (.seq (.reg false c85r1)
  (.cond (.t 9)
   (.seq (.reg false c85r2)
   .ret)
   (.seq (.reg false c85r3)
   (.cond (.t 12)
    (.seq (.reg false c85r4)
    .ret)
    .skip)))))
 (.seq (.reg false c85r5)
 (.seq (.reg false c85r6)
 (.seq (.rgT c85r7 c85r8)
 (.seq (.reg false c85r9)
 (.seq (.seq (.reg true c85r10)
 (.cond (.t 64)
  (.reg false c85r11)
  .skip))
 (.seq (.seq (.reg false c85r12)
 (.cond (.t 75)
  (.reg false c85r13)
  .skip))
 (.seq (.reg false c85r14)
 (.seq (.reg false c85r15)
 .ret))))))))))
def v85:List Nat × List Nat:=([],[])
def o85:List RS:=[.t 6]
def c86r0:List SI:=[
 mv 2 (.v (.slice none 0 0))]
def c86r1:List SI:=[
 mv 3 (.t 0),
 isn 4 false (.t 3)]
def c86r2:List SI:=[
 mv 2 (.v (.slice none 0 0))]
def c86r3:List SI:=[
 bl0 5,
 mv 6 (.t 0),
 app 7 (.t 5) (.t 6) 120 2 32,
 mv 2 (.t 7)]
def c86:SC :=
 (.seq (.reg false c86r0)
 (.seq (.seq (.reg false c86r1)
 (.cond (.t 4)
  (.seq (.reg false c86r2)
  .ret)
  .skip))
 (.seq (.reg false c86r3)
 .ret)))
def v86:List Nat × List Nat:=([],[])
def o86:List RS:=[.t 2]
def c87r0:List SI:=[
 bx 3 (.t 1)]
def c87r1:List SI:=[
 mv 4 (.t 0),
 mv 5 (.t 0),
 nck 6 (.t 5),
 flA 7 (.t 6) 0,
 flA 8 (.t 7) 3,
 ld 9 (.t 8) none,
 mkf 10 (.func 141) [(.t 3)],
 call 11 140 [(.t 9),(.t 10)],
 nck 12 (.t 4),
 flA 13 (.t 12) 0,
 flA 14 (.t 13) 3,
 st (.t 14) 1 (.t 11)]
def c87:SC :=
 (.seq (.reg false c87r0)
 (.reg false c87r1))
def v87:List Nat × List Nat:=([],[])
def o87:List RS:=[]
def c88r0:List SI:=[
 mv 4 (.i 0)]
def c88r1:List SI:=[
 mv 6 (.t 1),
 nck 7 (.t 6),
 flA 8 (.t 7) 1,
 ld 9 (.t 8) none]
def c88r2:List SI:=[
 mv 4 (.i 150)]
def c88r3:List SI:=[
 mv 10 (.t 1),
 nck 11 (.t 10),
 flA 12 (.t 11) 1,
 st (.t 12) 1 (.b true)]
def c88r4:List SI:=[
 mv 14 (.t 1),
 mv 15 (.t 1),
 nck 16 (.t 15),
 flA 17 (.t 16) 2,
 ld 18 (.t 17) (some 3),
 call 19 89 [(.t 18)],
 mv 13 (.t 19),
 ext 20 (.t 13) 0,
 ext 21 (.t 13) 1,
 nck 22 (.t 14),
 flA 23 (.t 22) 2,
 st (.t 23) 3 (.t 20)]
def c88r5:List SI:=[
 mv 24 (.t 1),
 nck 25 (.t 24),
 ld 26 (.t 25) (some 7),
 call 27 68 [(.t 26)],
 mv 5 (.t 27)]
def c88r6:List WI:=[
 (true,false,⟨none,.mv 28 (.t 1),none,0⟩),
 (true,false,⟨none,.mv 29 (.t 1),none,0⟩),
 (true,false,⟨none,.mv 30 (.t 1),none,0⟩),
 (true,false,⟨none,.nck 31 (.t 30),none,0⟩),
 (true,false,⟨none,.flA 32 (.t 31) 5,none,0⟩),
 (true,false,⟨none,.ld 33 (.t 32) none,none,0⟩),
 (true,false,⟨none,.mv 34 (.t 5),none,0⟩),
 (true,false,⟨none,.mv 36 (.t 1),none,0⟩),
 (true,false,⟨none,.nck 37 (.t 36),none,0⟩),
 (true,false,⟨none,.flA 38 (.t 37) 6,none,0⟩),
 (true,false,⟨none,.ld 39 (.t 38) none,none,0⟩),
 (true,false,⟨none,.mv 40 (.t 5),none,0⟩),
 (true,false,⟨none,.mm 41 false (.t 39) (.t 40),none,0⟩),
 (false,false,⟨none,.call 35 90 [(.t 33),(.t 34)],none,0⟩),
 (true,false,⟨none,.nck 42 (.t 28),none,0⟩),
 (true,false,⟨none,.flA 43 (.t 42) 5,none,0⟩),
 (false,true,⟨none,.st (.t 43) 1 (.t 35),none,0⟩),
 (true,false,⟨none,.nck 44 (.t 29),none,0⟩),
 (true,false,⟨none,.flA 45 (.t 44) 6,none,0⟩),
 (false,true,⟨none,.st (.t 45) 1 (.t 41),none,0⟩)]
def c88r7:List SI:=[
 mv 4 (.i 0)]
def c88:SC :=
 (.seq (.reg false c88r0)
 (.seq (.seq (.reg false c88r1)
 (.cond (.t 9)
  (.seq (.reg false c88r2)
  .ret)
  .skip))
 (.seq (.reg false c88r3)
 (.seq (.reg false c88r4)
 (.seq (.reg false c88r5)
 (.seq (.rgW c88r6)
 (.seq (.reg false c88r7)
 .ret)))))))
def v88:List Nat × List Nat:=([],[])
def o88:List RS:=[.t 4]
def c89r0:List SI:=[
 bxR 1 (.t 0),
 alR 2 [(.int .i64 0),(.int .i64 0),(.slice none 0 0)],
 mv 3 (.i 0)]
def c89r1:List SI:=[
 ⟨none,.nop,(some 1),0⟩,
 ⟨none,.ldR 9 1 0 none,none,0⟩,
 ⟨none,.nop,(some 1),0⟩,
 ⟨none,.ldR 11 1 1 none,none,0⟩,
 ⟨none,.call 12 103 [(.t 9),(.t 11)],none,0⟩,
 ⟨none,.un 13 .not (.t 12),none,0⟩,
 ⟨none,.mv 14 (.t 13),none,0⟩,
 F_ 14 1,
 X_ 14 (.ldR 16 1 2 none) 16,
 X_ 14 (.len 17 false (.t 16)) 17,
 X_ 14 (.bin 18 .eql (.t 17) (.i 0)) 18,
 ⟨none,.pick 19 (.t 14) (.b true) (.t 18),none,0⟩,
 ⟨none,.mv 20 (.t 19),none,0⟩,
 F_ 20 1,
 X_ 20 (.ldR 22 1 2 none) 22,
 X_ 20 (.ixA 23 (.t 22) (.i 0) 2) 23,
 X_ 20 (.flA 24 (.t 23) 0) 24,
 X_ 20 (.ld 25 (.t 24) none) 25,
 X_ 20 (.call 26 142 [(.t 25)]) 26,
 X_ 20 (.un 27 .not (.t 26)) 27,
 ⟨none,.pick 28 (.t 20) (.b true) (.t 27),none,0⟩]
def c89r2:List SI:=[
 bld 29 [(.int .i64 0),(.int .i64 0),(.slice none 0 0)] [],
 stR 2 0 3 (.t 29),
 mv 3 (.i 0)]
def c89r3:List SI:=[
 ldR 30 1 0 (some 3),
 call 31 122 [(.t 30),(.v (.slice none 0 0))],
 stR 2 0 3 (.t 31)]
def c89r4:List SI:=[
 ⟨none,.nop,(some 1),0⟩,
 ⟨none,.ldR 33 1 2 none,none,0⟩,
 ⟨none,.len 34 false (.t 33),none,0⟩,
 ⟨none,.mv 35 (.i 0),none,0⟩]
def c89r5:List SI:=[
 bin 36 .lss (.t 35) (.t 34)]
def c89r6:List SI:=[
 mv 37 (.t 35),
 ixA 38 (.t 33) (.t 35) 2,
 ld 39 (.t 38) (some 2),
 alR 5 [(.int .i64 0),(.slice none 0 0)],
 mv 4 (.t 37),
 stR 5 0 2 (.t 39)]
def c89r7:List SI:=[
 ⟨none,.mv 40 (.t 3),none,0⟩,
 ⟨none,.nop,(some 5),0⟩,
 ⟨none,.ldR 42 5 1 none,none,0⟩,
 ⟨none,.len 43 false (.t 42),none,0⟩,
 ⟨none,.bin 44 .add (.t 40) (.t 43),none,0⟩,
 ⟨none,.mv 3 (.t 44),none,0⟩]
def c89r8:List (Bool × SI):=[
 (true,⟨none,.nop,(some 2),0⟩),
 (true,N_ (.ldR 46 2 2 none)),
 (true,N_ (.len 47 false (.t 46))),
 (true,N_ (.mv 48 (.t 4))),
 (true,N_ (.bin 49 .lss (.t 47) (.t 48))),
 (true,N_ (.mv 50 (.t 49))),
 (true,X_ 50 (.mv 51 (.t 4)) 51),
 (true,X_ 50 (.bin 52 .gtr (.t 51) (.i 0)) 52),
 (true,X_ 50 (.mv 53 (.t 52)) 53),
 (true,T_ 53 1),
 (true,Y_ 53 (.ldR 55 1 2 none) 55),
 (true,Y_ 53 (.mv 56 (.t 4)) 56),
 (true,Y_ 53 (.bin 57 .sub (.t 56) (.i 1)) 57),
 (true,Y_ 53 (.ixA 58 (.t 55) (.t 57) 2) 58),
 (true,Y_ 53 (.ld 59 (.t 58) (some 2)) 59),
 (false,Y_ 53 (.call 60 112 [(.t 59)]) 60),
 (true,Y_ 53 (.un 61 .not (.t 60)) 61),
 (true,Y_ 53 (.mv 62 (.t 61)) 62),
 (true,F_ 62 1),
 (true,X_ 62 (.ldR 64 1 2 none) 64),
 (true,X_ 62 (.mv 65 (.t 4)) 65),
 (true,X_ 62 (.bin 66 .sub (.t 65) (.i 1)) 66),
 (true,X_ 62 (.ixA 67 (.t 64) (.t 66) 2) 67),
 (true,X_ 62 (.ld 68 (.t 67) (some 2)) 68),
 (true,X_ 62 (.ldR 69 5 0 (some 2)) 69),
 (false,X_ 62 (.call 70 113 [(.t 68),(.t 69)]) 70),
 (true,X_ 62 (.un 71 .not (.t 70)) 71),
 (true,Y_ 53 (.pick 72 (.t 62) (.b true) (.t 71)) 72),
 (true,X_ 50 (.pick 73 (.t 53) (.t 72) (.b false)) 73),
 (true,N_ (.pick 74 (.t 50) (.b true) (.t 73)))]
def c89r9:List SI:=[
 ldR 76 5 0 (some 2),
 call 77 143 [(.t 76)],
 mv 75 (.t 77),
 ext 78 (.t 75) 0,
 ext 79 (.t 75) 1,
 alR 6 [(.int .i64 0),(.slice none 0 0)],
 stR 6 0 2 (.t 78),
 mv 7 (.t 79)]
def c89r10:List SI:=[
 ⟨none,.mv 80 (.t 3),none,0⟩,
 ⟨none,.nop,(some 6),0⟩,
 ⟨none,.ldR 82 6 1 none,none,0⟩,
 ⟨none,.len 83 false (.t 82),none,0⟩,
 ⟨none,.bin 84 .sub (.t 80) (.t 83),none,0⟩,
 ⟨none,.mv 3 (.t 84),none,0⟩]
def c89r11:List SI:=[
 ⟨none,.nop,(some 2),0⟩,
 ⟨none,.ldR 86 2 2 none,none,0⟩,
 ⟨none,.ldR 87 6 0 (some 2),none,0⟩,
 ⟨none,.bls 88 120 1 2 [(.int .i64 0),(.slice none 0 0)] [(0,2,(.t 87))],none,0⟩,
 ⟨none,.app 89 (.t 86) (.t 88) 120 2 32,none,0⟩,
 ⟨none,.nop,(some 2),0⟩,
 ⟨none,.stR 2 2 1 (.t 89),none,0⟩]
def c89r12:List SI:=[
 bin 91 .add (.t 35) (.i 1),
 mv 35 (.t 91)]
def c89r13:List SI:=[
 ldR 92 2 0 (some 3),
 mv 93 (.t 3),
 stR 2 0 3 (.t 92),
 mv 3 (.t 93)]
def c89:SC :=
 (.seq (.reg false c89r0)
 (.seq (.seq (.reg false c89r1)
 (.cond (.t 28)
  (.seq (.reg false c89r2)
  .ret)
  .skip))
 (.seq (.reg false c89r3)
 (.seq (.seq (.reg false c89r4)
 (.blk 0 (.loop (.seq (.reg false c89r5)
   (.seq (.cond (.t 36)
    .skip
    (.exit 0))
   (.seq (.blk 1 (.seq (.reg false c89r6)
    (.seq (.reg false c89r7)
    (.seq (.seq (.rgX c89r8)
    (.cond (.t 74)
     (.exit 1)
     .skip))
    (.seq (.reg false c89r9)
    (.seq (.reg false c89r10)
    (.reg false c89r11)))))))
   (.reg false c89r12)))))))
 (.seq (.reg false c89r13)
 .ret)))))
def v89:List Nat × List Nat:=([1,2,5,6],[1,2,5,6,8,10,15,21,32,41,45,54,63,81,85,90])
def o89:List RS:=[.r 2 (some 3),.t 3]
def c90r0:List SI:=[
 bx 2 (.t 0),
 bx 3 (.t 1),
 mv 4 (.v (.slice none 0 0))]
def c90r1:List SI:=[
 ld 6 (.t 2) none,
 call 7 108 [(.t 6)],
 bin 8 .neq (.t 7) (.i 0)]
def c90r2:List SI:=[
 mv 4 (.v (.slice none 0 0))]
def c90r3:List SI:=[
 ld 9 (.t 2) none,
 len 10 false (.t 9),
 mkf 11 (.func 145) [(.t 2),(.t 3)],
 call 12 144 [(.t 10),(.t 11)],
 mv 5 (.t 12)]
def c90r4:List SI:=[
 ld 13 (.t 2) none,
 mv 14 (.t 5),
 sl 15 (.t 13) none (some (.t 14)) none 2,
 call 16 125 [(.t 15)],
 mv 4 (.t 16)]
def c90:SC :=
 (.seq (.reg false c90r0)
 (.seq (.seq (.reg false c90r1)
 (.cond (.t 8)
  (.seq (.reg false c90r2)
  .ret)
  .skip))
 (.seq (.reg false c90r3)
 (.seq (.reg false c90r4)
 .ret))))
def v90:List Nat × List Nat:=([],[])
def o90:List RS:=[.t 4]
def c91r0:List SI:=[
 mv 5 (.i 0)]
def c91r1:List SI:=[
 mv 7 (.t 1),
 nck 8 (.t 7),
 flA 9 (.t 8) 1,
 ld 10 (.t 9) none,
 un 11 .not (.t 10),
 mv 6 (.t 11)]
def c91r2:List SI:=[
 mv 5 (.i 180)]
def c91r3:List (Bool × SI):=[
 (true,N_ (.mv 13 (.t 0))),
 (true,N_ (.nck 14 (.t 13))),
 (true,N_ (.flA 15 (.t 14) 0)),
 (true,N_ (.flA 16 (.t 15) 3)),
 (true,N_ (.ld 17 (.t 16) none)),
 (true,N_ (.ld 18 (.t 2) none)),
 (false,N_ (.call 19 58 [(.t 17),(.t 18)])),
 (true,N_ (.un 20 .not (.t 19))),
 (true,N_ (.mv 12 (.t 20)))]
def c91r4:List SI:=[
 mv 5 (.i 181)]
def c91r5:List SI:=[
 mv 22 (.t 0),
 nck 23 (.t 22),
 flA 24 (.t 23) 0,
 flA 25 (.t 24) 0,
 ld 26 (.t 25) none,
 bin 27 .eql (.t 26) (.i 1048576),
 mv 21 (.t 27)]
def c91r6:List SI:=[
 mv 5 (.i 2)]
def c91r7:RX:=.br [(true,N_ (.mv 28 (.t 0))),
 (true,N_ (.mv 29 (.t 0))),
 (true,N_ (.mv 30 (.t 0))),
 (true,N_ (.nck 31 (.t 30))),
 (true,N_ (.flA 32 (.t 31) 0)),
 (true,N_ (.flA 33 (.t 32) 0))]
 ⟨none,.ld 34 (.t 33) none,none,0⟩
 (.br [(true,N_ (.bin 35 .add (.t 34) (.i 1))),
 (true,N_ (.nck 37 (.t 28))),
 (true,N_ (.flA 38 (.t 37) 0)),
 (true,N_ (.flA 39 (.t 38) 0))]
 ⟨none,.ld 36 (.t 2) none,none,0⟩
 (.leaf [(false,N_ (.st (.t 39) 1 (.t 35))),
 (true,N_ (.nck 40 (.t 29))),
 (true,N_ (.flA 41 (.t 40) 0)),
 (true,N_ (.flA 42 (.t 41) 1)),
 (false,N_ (.st (.t 42) 1 (.t 36)))])
 ⟨none,.st (.t 39) 1 (.t 35),none,0⟩
 (.leaf [(false,N_ (.ld 36 (.t 2) none)),
 (true,N_ (.nck 40 (.t 29))),
 (true,N_ (.flA 41 (.t 40) 0)),
 (true,N_ (.flA 42 (.t 41) 1)),
 (false,N_ (.st (.t 42) 1 (.t 36)))]))
 ⟨none,.ld 36 (.t 2) none,none,0⟩
 (.leaf [(false,N_ (.ld 34 (.t 33) none)),
 (true,N_ (.bin 35 .add (.t 34) (.i 1))),
 (true,N_ (.nck 37 (.t 28))),
 (true,N_ (.flA 38 (.t 37) 0)),
 (true,N_ (.flA 39 (.t 38) 0)),
 (false,N_ (.st (.t 39) 1 (.t 35))),
 (true,N_ (.nck 40 (.t 29))),
 (true,N_ (.flA 41 (.t 40) 0)),
 (true,N_ (.flA 42 (.t 41) 1)),
 (false,N_ (.st (.t 42) 1 (.t 36)))])
def c91r8:List SI:=[
 mv 43 (.t 0),
 call 44 71 [(.t 43)]]
def c91r9:List SI:=[
 mv 5 (.i 0)]
def c91:SC :=
 (.seq (.reg false c91r0)
 (.seq (.blk 0 (.seq (.reg false c91r1)
  (.cond (.t 6)
   (.seq (.reg false c91r2)
   .ret)
   (.seq (.rgX c91r3)
   (.cond (.t 12)
    (.seq (.reg false c91r4)
    .ret)
    (.seq (.reg false c91r5)
    (.cond (.t 21)
     (.seq (.reg false c91r6)
     .ret)
     .skip)))))))
 (.seq (.rgZ c91r7)
 (.seq (.reg false c91r8)
 (.seq (.reg false c91r9)
 .ret)))))
def v91:List Nat × List Nat:=([],[])
def o91:List RS:=[.t 5]
def yc91r7:Sch:=.br [(true,0),(true,1),(true,2),(true,3),(true,4),(true,5)] 6 (.br [(true,7),(true,9),(true,10),(true,11)] 8 (.leaf [(false,12),(true,13),(true,14),(true,15),(false,16)]) 12 (.leaf [(false,8),(true,13),(true,14),(true,15),(false,16)])) 8 (.leaf [(false,6),(true,7),(true,9),(true,10),(true,11),(false,12),(true,13),(true,14),(true,15),(false,16)])
theorem zc91r7:ZOk Tryz.prog Tryz.f91.ntmps v91.1 v91.2 (regN 7 ((Tryz.f91.body).getD .skip)) c91r7:=ZOk.mk yc91r7 (by kernel_rfl) (by kernel_rfl) (by kernel_rfl) (by kernel_rfl)
theorem s91:SlimC Tryz.prog Tryz.f91.ntmps v91.1 v91.2 ((Tryz.f91.body).getD .skip) c91:=SlimC.mk [(7,.z c91r7)] (⟨⟨_,by kernel_rfl,zc91r7⟩,trivial⟩) (by kernel_rfl)
theorem q91:slimR Tryz.prog Tryz.f91.ntmps v91.1 v91.2 Tryz.f91.results.toList=some o91:=by kernel_rfl
def c102r0:List SI:=[
 mv 5 (.i 0)]
def c102r1:List SI:=[
 mv 7 (.t 0),
 nck 8 (.t 7),
 flA 9 (.t 8) 0,
 flA 10 (.t 9) 1,
 ld 11 (.t 10) none,
 bin 12 .lss (.t 11) (.i 0),
 mv 6 (.t 12)]
def c102r2:List SI:=[
 mv 5 (.i 180)]
def c102r3:List (Bool × SI):=[
 (true,N_ (.ld 14 (.t 2) none)),
 (true,N_ (.mv 15 (.t 0))),
 (true,N_ (.nck 16 (.t 15))),
 (true,N_ (.flA 17 (.t 16) 0)),
 (true,N_ (.flA 18 (.t 17) 1)),
 (true,N_ (.ld 19 (.t 18) none)),
 (true,N_ (.bin 20 .eql (.t 14) (.t 19))),
 (true,N_ (.mv 21 (.t 20))),
 (true,X_ 21 (.mv 22 (.t 0)) 22),
 (true,X_ 21 (.nck 23 (.t 22)) 23),
 (true,X_ 21 (.flA 24 (.t 23) 0) 24),
 (true,X_ 21 (.flA 25 (.t 24) 3) 25),
 (true,X_ 21 (.ld 26 (.t 25) none) 26),
 (true,X_ 21 (.ld 27 (.t 2) none) 27),
 (false,X_ 21 (.call 28 58 [(.t 26),(.t 27)]) 28),
 (true,X_ 21 (.un 29 .not (.t 28)) 29),
 (true,N_ (.pick 30 (.t 21) (.b true) (.t 29))),
 (true,N_ (.mv 13 (.t 30)))]
def c102r4:List SI:=[
 mv 5 (.i 181)]
def c102r5:List SI:=[
 mv 31 (.t 0),
 ld 32 (.t 2) none,
 call 33 87 [(.t 31),(.t 32)]]
def c102r6:List SI:=[
 mv 34 (.t 0),
 call 35 71 [(.t 34)]]
def c102r7:List SI:=[
 mv 5 (.i 0)]
def c102:SC :=
 (.seq (.reg false c102r0)
 (.seq (.blk 0 (.seq (.reg false c102r1)
  (.cond (.t 6)
   (.seq (.reg false c102r2)
   .ret)
   (.seq (.rgX c102r3)
   (.cond (.t 13)
    (.seq (.reg false c102r4)
    .ret)
    .skip)))))
 (.seq (.reg false c102r5)
 (.seq (.reg false c102r6)
 (.seq (.reg false c102r7)
 .ret)))))
def v102:List Nat × List Nat:=([],[])
def o102:List RS:=[.t 5]
def c103r0:List SI:=[
 mv 4 (.b false)]
def c103r1:List SI:=[
 ⟨none,.mv 5 (.t 0),none,0⟩,
 ⟨none,.bin 6 .geq (.t 5) (.i 256),none,0⟩,
 ⟨none,.mv 7 (.t 6),none,0⟩,
 Y_ 7 (.mv 8 (.t 0)) 8,
 Y_ 7 (.bin 9 .leq (.t 8) (.i 4096)) 9,
 ⟨none,.pick 10 (.t 7) (.t 9) (.b false),none,0⟩,
 ⟨none,.mv 11 (.t 10),none,0⟩,
 Y_ 11 (.mv 12 (.t 1)) 12,
 Y_ 11 (.call 13 142 [(.t 12)]) 13,
 ⟨none,.pick 14 (.t 11) (.t 13) (.b false),none,0⟩,
 ⟨none,.mv 4 (.t 14),none,0⟩]
def c103:SC :=
 (.seq (.reg false c103r0)
 (.seq (.reg false c103r1)
 .ret))
def v103:List Nat × List Nat:=([],[])
def o103:List RS:=[.t 4]
def c105r0:List SI:=[
 mv 6 (.i 0),
 mv 7 (.b false)]
def c105r1:List SI:=[
 mv 12 (.t 0),
 len 13 false (.t 12),
 mv 8 (.t 13)]
def c105r2:List SI:=[
 mv 14 (.t 8),
 mv 9 (.i 0),
 mv 10 (.t 14)]
def c105r3:List SI:=[
 mv 15 (.t 9),
 mv 16 (.t 10),
 bin 17 .lss (.t 15) (.t 16)]
def c105r4:List SI:=[
 mv 18 (.t 9),
 mv 19 (.t 10),
 bin 20 .add (.t 18) (.t 19),
 cvI 21 .u64 (.t 20),
 bin 22 .shr (.t 21) (.v (.int .u64 1)),
 cvI 23 .i64 (.t 22),
 mv 11 (.t 23)]
def c105r5:List SI:=[
 mv 24 (.t 2),
 mv 25 (.t 0),
 mv 26 (.t 11),
 ixA 27 (.t 25) (.t 26) 7,
 ld 28 (.t 27) (some 7),
 mv 29 (.t 1),
 cav 30 (.t 24) [(.t 28),(.t 29)],
 bin 31 .lss (.t 30) (.i 0)]
def c105r6:List SI:=[
 mv 32 (.t 11),
 bin 33 .add (.t 32) (.i 1),
 mv 9 (.t 33)]
def c105r7:List SI:=[
 mv 34 (.t 11),
 mv 10 (.t 34)]
def c105r8:List SI:=[
 ⟨none,.mv 35 (.t 9),none,0⟩,
 ⟨none,.mv 36 (.t 9),none,0⟩,
 ⟨none,.mv 37 (.t 8),none,0⟩,
 ⟨none,.bin 38 .lss (.t 36) (.t 37),none,0⟩,
 ⟨none,.mv 39 (.t 38),none,0⟩,
 Y_ 39 (.mv 40 (.t 2)) 40,
 Y_ 39 (.mv 41 (.t 0)) 41,
 Y_ 39 (.mv 42 (.t 9)) 42,
 Y_ 39 (.ixA 43 (.t 41) (.t 42) 7) 43,
 Y_ 39 (.ld 44 (.t 43) (some 7)) 44,
 Y_ 39 (.mv 45 (.t 1)) 45,
 Y_ 39 (.cav 46 (.t 40) [(.t 44),(.t 45)]) 46,
 Y_ 39 (.bin 47 .eql (.t 46) (.i 0)) 47,
 ⟨none,.pick 48 (.t 39) (.t 47) (.b false),none,0⟩,
 ⟨none,.mv 6 (.t 35),none,0⟩,
 ⟨none,.mv 7 (.t 48),none,0⟩]
def c105:SC :=
 (.seq (.reg false c105r0)
 (.seq (.reg false c105r1)
 (.seq (.reg false c105r2)
 (.seq (.blk 0 (.loop (.seq (.seq (.reg false c105r3)
   (.cond (.t 17)
    .skip
    (.exit 0)))
   (.blk 1 (.seq (.reg false c105r4)
    (.seq (.reg false c105r5)
    (.cond (.t 31)
     (.reg false c105r6)
     (.reg false c105r7))))))))
 (.seq (.reg false c105r8)
 .ret)))))
def v105:List Nat × List Nat:=([],[])
def o105:List RS:=[.t 6,.t 7]
def c106r0:List SI:=[
 bxR 2 (.t 0),
 mv 4 (.i 0)]
def c106r1:List SI:=[
 ⟨none,.nop,(some 2),0⟩,
 ⟨none,.ldR 6 2 0 none,none,0⟩,
 ⟨none,.mv 7 (.t 1),none,0⟩,
 ⟨none,.bin 8 .sub (.t 6) (.t 7),none,0⟩,
 ⟨none,.mv 4 (.t 8),none,0⟩]
def c106:SC :=
 (.seq (.reg false c106r0)
 (.seq (.reg false c106r1)
 .ret))
def v106:List Nat × List Nat:=([2],[2,5])
def o106:List RS:=[.t 4]
def c107r0:List SI:=[
 mv 4 (.i 0)]
def c107r1:List SI:=[
 mv 6 (.t 0),
 len 7 false (.t 6),
 mv 8 (.i 0)]
def c107r2:List SI:=[
 bin 9 .lss (.t 8) (.t 7)]
def c107r3:List SI:=[
 mv 10 (.t 8),
 mv 5 (.t 10)]
def c107r4:List SI:=[
 mv 11 (.t 1),
 mv 12 (.t 0),
 mv 13 (.t 5),
 ixA 14 (.t 12) (.t 13) 7,
 ld 15 (.t 14) (some 7),
 cav 16 (.t 11) [(.t 15)]]
def c107r5:List SI:=[
 mv 17 (.t 5),
 mv 4 (.t 17)]
def c107r6:List SI:=[
 bin 18 .add (.t 8) (.i 1),
 mv 8 (.t 18)]
def c107r7:List SI:=[
 mv 4 (.i (-1))]
def c107:SC :=
 (.seq (.reg false c107r0)
 (.seq (.seq (.reg false c107r1)
 (.blk 0 (.loop (.seq (.reg false c107r2)
   (.seq (.cond (.t 9)
    .skip
    (.exit 0))
   (.seq (.blk 1 (.seq (.reg false c107r3)
    (.seq (.reg false c107r4)
    (.cond (.t 16)
     (.seq (.reg false c107r5)
     .ret)
     .skip))))
   (.reg false c107r6)))))))
 (.seq (.reg false c107r7)
 .ret)))
def v107:List Nat × List Nat:=([],[])
def o107:List RS:=[.t 4]
def c108r0:List SI:=[
 mv 2 (.i 0)]
def c108r1:List SI:=[
 mv 5 (.t 0),
 len 6 false (.t 5),
 mv 7 (.i 0)]
def c108r2:List SI:=[
 bin 8 .lss (.t 7) (.t 6)]
def c108r3:List SI:=[
 mv 9 (.t 7),
 ixA 10 (.t 5) (.t 7) 2,
 ld 11 (.t 10) (some 2),
 alR 4 [(.int .i64 0),(.int .i64 0)],
 mv 3 (.t 9),
 stR 4 0 2 (.t 11)]
def c108r4:List SI:=[
 ⟨none,.nop,(some 4),0⟩,
 ⟨none,.ldR 13 4 0 none,none,0⟩,
 ⟨none,.call 14 124 [(.t 13),(.i 1048576)],none,0⟩,
 ⟨none,.un 15 .not (.t 14),none,0⟩,
 ⟨none,.mv 16 (.t 15),none,0⟩,
 F_ 16 4,
 X_ 16 (.ldR 18 4 1 none) 18,
 X_ 16 (.call 19 124 [(.t 18),(.i 1099511627776)]) 19,
 X_ 16 (.un 20 .not (.t 19)) 20,
 ⟨none,.pick 21 (.t 16) (.b true) (.t 20),none,0⟩]
def c108r5:List SI:=[
 mv 2 (.i 1)]
def c108r6:List SI:=[
 ⟨none,.mv 22 (.t 3),none,0⟩,
 ⟨none,.bin 23 .gtr (.t 22) (.i 0),none,0⟩,
 ⟨none,.mv 24 (.t 23),none,0⟩,
 T_ 24 4,
 Y_ 24 (.ldR 26 4 0 none) 26,
 Y_ 24 (.mv 27 (.t 0)) 27,
 Y_ 24 (.mv 28 (.t 3)) 28,
 Y_ 24 (.bin 29 .sub (.t 28) (.i 1)) 29,
 Y_ 24 (.ixA 30 (.t 27) (.t 29) 2) 30,
 Y_ 24 (.flA 31 (.t 30) 0) 31,
 Y_ 24 (.ld 32 (.t 31) none) 32,
 Y_ 24 (.bin 33 .sub (.t 26) (.t 32)) 33,
 T_ 24 4,
 Y_ 24 (.ldR 35 4 1 none) 35,
 Y_ 24 (.mv 36 (.t 0)) 36,
 Y_ 24 (.mv 37 (.t 3)) 37,
 Y_ 24 (.bin 38 .sub (.t 37) (.i 1)) 38,
 Y_ 24 (.ixA 39 (.t 36) (.t 38) 2) 39,
 Y_ 24 (.flA 40 (.t 39) 1) 40,
 Y_ 24 (.ld 41 (.t 40) none) 41,
 Y_ 24 (.bin 42 .sub (.t 35) (.t 41)) 42,
 Y_ 24 (.mm 43 false (.t 33) (.t 42)) 43,
 Y_ 24 (.bin 44 .leq (.t 43) (.i 0)) 44,
 ⟨none,.pick 45 (.t 24) (.t 44) (.b false),none,0⟩]
def c108r7:List SI:=[
 mv 2 (.i 1)]
def c108r8:List SI:=[
 bin 46 .add (.t 7) (.i 1),
 mv 7 (.t 46)]
def c108r9:List SI:=[
 mv 2 (.i 0)]
def c108:SC :=
 (.seq (.reg false c108r0)
 (.seq (.seq (.reg false c108r1)
 (.blk 0 (.loop (.seq (.reg false c108r2)
   (.seq (.cond (.t 8)
    .skip
    (.exit 0))
   (.seq (.blk 1 (.seq (.reg false c108r3)
    (.seq (.seq (.reg false c108r4)
    (.cond (.t 21)
     (.seq (.reg false c108r5)
     .ret)
     .skip))
    (.seq (.reg true c108r6)
    (.cond (.t 45)
     (.seq (.reg false c108r7)
     .ret)
     .skip)))))
   (.reg false c108r8)))))))
 (.seq (.reg false c108r9)
 .ret)))
def v108:List Nat × List Nat:=([4],[4,12,17,25,34])
def o108:List RS:=[.t 2]
def c109r0:List SI:=[
 mv 4 (.i 0)]
def c109r1:List SI:=[
 mv 6 (.t 0),
 len 7 false (.t 6),
 mv 8 (.i 0)]
def c109r2:List SI:=[
 bin 9 .lss (.t 8) (.t 7)]
def c109r3:List SI:=[
 mv 10 (.t 8),
 mv 5 (.t 10)]
def c109r4:List SI:=[
 mv 11 (.t 1),
 mv 12 (.t 0),
 mv 13 (.t 5),
 ixA 14 (.t 12) (.t 13) 1,
 ld 15 (.t 14) none,
 cav 16 (.t 11) [(.t 15)]]
def c109r5:List SI:=[
 mv 17 (.t 5),
 mv 4 (.t 17)]
def c109r6:List SI:=[
 bin 18 .add (.t 8) (.i 1),
 mv 8 (.t 18)]
def c109r7:List SI:=[
 mv 4 (.i (-1))]
def c109:SC :=
 (.seq (.reg false c109r0)
 (.seq (.seq (.reg false c109r1)
 (.blk 0 (.loop (.seq (.reg false c109r2)
   (.seq (.cond (.t 9)
    .skip
    (.exit 0))
   (.seq (.blk 1 (.seq (.reg false c109r3)
    (.seq (.reg false c109r4)
    (.cond (.t 16)
     (.seq (.reg false c109r5)
     .ret)
     .skip))))
   (.reg false c109r6)))))))
 (.seq (.reg false c109r7)
 .ret)))
def v109:List Nat × List Nat:=([],[])
def o109:List RS:=[.t 4]
def c111r0:List SI:=[
 ld 5 (.t 1) none,
 nck 6 (.t 5),
 flA 7 (.t 6) 0,
 flA 8 (.t 7) 3,
 ld 9 (.t 8) none,
 len 10 false (.t 9),
 mv 11 (.i 0)]
def c111r1:List SI:=[
 bin 12 .lss (.t 11) (.t 10)]
def c111r2:List SI:=[
 ixA 13 (.t 9) (.t 11) 1,
 ld 14 (.t 13) none,
 mv 4 (.t 14)]
def c111r3:List SI:=[
 mv 15 (.t 0),
 ld 16 (.t 1) none,
 mv 17 (.t 4),
 call 18 51 [(.t 16),(.t 17)],
 cav 19 (.t 15) [(.t 18)],
 un 20 .not (.t 19)]
def c111r4:List SI:=[
 bin 21 .add (.t 11) (.i 1),
 mv 11 (.t 21)]
def c111:SC :=
 (.seq (.reg false c111r0)
 (.blk 0 (.loop (.seq (.reg false c111r1)
   (.seq (.cond (.t 12)
    .skip
    (.exit 0))
   (.seq (.blk 1 (.seq (.reg false c111r2)
    (.seq (.reg false c111r3)
    (.cond (.t 20)
     .ret
     .skip))))
   (.reg false c111r4)))))))
def v111:List Nat × List Nat:=([],[])
def o111:List RS:=[]
def c112r0:List SI:=[
 bxR 1 (.t 0),
 mv 2 (.b false)]
def c112r1:List SI:=[
 ldR 6 1 0 (some 2),
 call 7 131 [(.t 6)],
 mv 5 (.t 7),
 ext 8 (.t 5) 0,
 ext 9 (.t 5) 1,
 mv 3 (.t 8),
 mv 4 (.t 9)]
def c112r2:List SI:=[
 ⟨none,.nop,(some 1),0⟩,
 ⟨none,.ldR 11 1 0 none,none,0⟩,
 ⟨none,.call 12 142 [(.t 11)],none,0⟩,
 ⟨none,.mv 13 (.t 12),none,0⟩,
 Y_ 13 (.mv 14 (.t 4)) 14,
 T_ 13 1,
 Y_ 13 (.ldR 16 1 1 none) 16,
 Y_ 13 (.len 17 false (.t 16)) 17,
 Y_ 13 (.bin 18 .eql (.t 14) (.t 17)) 18,
 ⟨none,.pick 19 (.t 13) (.t 18) (.b false),none,0⟩,
 ⟨none,.mv 2 (.t 19),none,0⟩]
def c112:SC :=
 (.seq (.reg false c112r0)
 (.seq (.reg false c112r1)
 (.seq (.reg false c112r2)
 .ret)))
def v112:List Nat × List Nat:=([1],[1,10,15])
def o112:List RS:=[.t 2]
def c113r0:List SI:=[
 bxR 2 (.t 0),
 bxR 3 (.t 1),
 mv 4 (.b false)]
def c113r1:List (Bool × SI):=[
 (true,⟨none,.nop,(some 3),0⟩),
 (true,N_ (.ldR 6 3 0 none)),
 (true,⟨none,.nop,(some 2),0⟩),
 (true,N_ (.ldR 8 2 0 none)),
 (true,N_ (.bin 9 .gtr (.t 6) (.t 8))),
 (true,N_ (.mv 10 (.t 9))),
 (true,T_ 10 3),
 (true,Y_ 10 (.ldR 12 3 0 none) 12),
 (true,Y_ 10 (.ldR 13 2 0 (some 2)) 13),
 (false,Y_ 10 (.call 14 114 [(.t 13)]) 14),
 (true,Y_ 10 (.bin 15 .geq (.t 12) (.t 14)) 15),
 (true,N_ (.pick 16 (.t 10) (.t 15) (.b false))),
 (true,N_ (.mv 4 (.t 16)))]
def c113:SC :=
 (.seq (.reg false c113r0)
 (.seq (.rgX c113r1)
 .ret))
def v113:List Nat × List Nat:=([2,3],[2,3,5,7,11])
def o113:List RS:=[.t 4]
def c114r0:List SI:=[
 bx 1 (.t 0),
 mv 2 (.i 0)]
def c114r1:List SI:=[
 flA 5 (.t 1) 0,
 ld 6 (.t 5) none,
 al 3 [(.int .i64 0)],
 st (.t 3) 1 (.t 6)]
def c114r2:List SI:=[
 ld 7 (.t 1) (some 2),
 call 8 151 [(.t 7)]]
def c114r3:List SI:=[
 alR 4 [(.int .i64 0),(.int .i64 0),(.int .i64 0),(.int .i64 0),(.int .i64 0),(.int .i64 0),(.int .i64 0),(.bool false),(.int .i64 0),(.slice none 0 0)],
 stR 4 0 10 (.t 9)]
def c114r4:List SI:=[
 ⟨none,.nop,(some 4),0⟩,
 ⟨none,.ldR 12 4 1 none,none,0⟩,
 ⟨none,.bin 13 .add (.t 12) (.i 1),none,0⟩,
 ⟨none,.st (.t 3) 1 (.t 13),none,0⟩]
def c114r5:List SI:=[
 ld 14 (.t 3) none,
 mv 2 (.t 14)]
def c114:SC :=
 (.seq (.reg false c114r0)
 (.seq (.reg false c114r1)
 (.seq (.seq (.reg false c114r2)
 (.blk 0 (.rf (.t 8) [9,10] (.reg false c114r3)
  (.blk 1 (.reg false c114r4)))))
 (.seq (.reg false c114r5)
 .ret))))
def v114:List Nat × List Nat:=([4],[4,11])
def o114:List RS:=[.t 2]
def c115r0:List SI:=[
 bxR 1 (.t 0),
 mv 2 (.i 0)]
def c115r1:List SI:=[
 ⟨none,.nop,(some 1),0⟩,
 ⟨none,.ldR 4 1 2 none,none,0⟩,
 ⟨none,.len 5 false (.t 4),none,0⟩,
 ⟨none,.bin 6 .sub (.t 5) (.i 1),none,0⟩,
 ⟨none,.mv 2 (.t 6),none,0⟩]
def c115:SC :=
 (.seq (.reg false c115r0)
 (.seq (.reg false c115r1)
 .ret))
def v115:List Nat × List Nat:=([1],[1,3])
def o115:List RS:=[.t 2]
def c116r0:List SI:=[
 mv 2 (.v (.slice none 0 0))]
def c116r1:List SI:=[
 mv 3 (.t 0),
 isn 4 false (.t 3)]
def c116r2:List SI:=[
 mv 2 (.v (.slice none 0 0))]
def c116r3:List SI:=[
 bl0 5,
 mv 6 (.t 0),
 app 7 (.t 5) (.t 6) 50 7 88,
 mv 2 (.t 7)]
def c116:SC :=
 (.seq (.reg false c116r0)
 (.seq (.seq (.reg false c116r1)
 (.cond (.t 4)
  (.seq (.reg false c116r2)
  .ret)
  .skip))
 (.seq (.reg false c116r3)
 .ret)))
def v116:List Nat × List Nat:=([],[])
def o116:List RS:=[.t 2]
def c117r0:List SI:=[
 mv 4 (.b false)]
def c117r1:List SI:=[
 ⟨none,.mv 5 (.t 1),none,0⟩,
 ⟨none,.call 6 152 [(.t 5)],none,0⟩,
 ⟨none,.bin 7 .geq (.t 6) (.i 0),none,0⟩,
 ⟨none,.mv 8 (.t 7),none,0⟩,
 Y_ 8 (.mv 9 (.t 1)) 9,
 Y_ 8 (.call 10 153 [(.t 9)]) 10,
 Y_ 8 (.mv 11 (.t 0)) 11,
 Y_ 8 (.bin 12 .leq (.t 10) (.t 11)) 12,
 ⟨none,.pick 13 (.t 8) (.t 12) (.b false),none,0⟩,
 ⟨none,.mv 4 (.t 13),none,0⟩]
def c117:SC :=
 (.seq (.reg false c117r0)
 (.seq (.reg false c117r1)
 .ret))
def v117:List Nat × List Nat:=([],[])
def o117:List RS:=[.t 4]
theorem s117:slimC Tryz.prog Tryz.f117.ntmps v117.1 v117.2 ((Tryz.f117.body).getD .skip)=some c117:=by kernel_rfl
theorem q117:slimR Tryz.prog Tryz.f117.ntmps v117.1 v117.2 Tryz.f117.results.toList=some o117:=by kernel_rfl
def c118r0:List SI:=[
 bxR 1 (.t 0),
 mv 2 (.i 0)]
def c118r1:List SI:=[
 ldR 6 1 0 (some 10),
 call 7 154 [(.t 6)],
 mv 5 (.t 7),
 ext 8 (.t 5) 0,
 ext 9 (.t 5) 1,
 mv 3 (.t 8),
 mv 4 (.t 9)]
def c118r2:List SI:=[
 mv 10 (.t 4),
 mv 2 (.t 10)]
def c118:SC :=
 (.seq (.reg false c118r0)
 (.seq (.reg false c118r1)
 (.seq (.reg false c118r2)
 .ret)))
def v118:List Nat × List Nat:=([1],[1])
def o118:List RS:=[.t 2]
def c119r0:List SI:=[
 mv 2 (.v (.slice none 0 0))]
def c119r1:List SI:=[
 mv 3 (.t 0),
 isn 4 false (.t 3)]
def c119r2:List SI:=[
 mv 2 (.v (.slice none 0 0))]
def c119r3:List SI:=[
 bl0 5,
 mv 6 (.t 0),
 app 7 (.t 5) (.t 6) 103 5 56,
 mv 2 (.t 7)]
def c119:SC :=
 (.seq (.reg false c119r0)
 (.seq (.seq (.reg false c119r1)
 (.cond (.t 4)
  (.seq (.reg false c119r2)
  .ret)
  .skip))
 (.seq (.reg false c119r3)
 .ret)))
def v119:List Nat × List Nat:=([],[])
def o119:List RS:=[.t 2]
def c120r0:List SI:=[
 bxR 1 (.t 0),
 mv 2 (.i 0)]
def c120r1:List SI:=[
 ldR 6 1 0 (some 10),
 call 7 154 [(.t 6)],
 mv 5 (.t 7),
 ext 8 (.t 5) 0,
 ext 9 (.t 5) 1,
 mv 3 (.t 8),
 mv 4 (.t 9)]
def c120r2:List SI:=[
 mv 10 (.t 3),
 len 11 false (.t 10),
 mv 2 (.t 11)]
def c120:SC :=
 (.seq (.reg false c120r0)
 (.seq (.reg false c120r1)
 (.seq (.reg false c120r2)
 .ret)))
def v120:List Nat × List Nat:=([1],[1])
def o120:List RS:=[.t 2]
def c121r0:List SI:=[
 bxR 3 (.t 0),
 bxR 4 (.t 1),
 alR 6 [(.int .i64 0),(.slice none 0 0)],
 mv 7 (.i 0)]
def c121r1:List SI:=[
 ldR 13 3 0 (some 2),
 call 14 131 [(.t 13)],
 mv 12 (.t 14),
 ext 15 (.t 12) 0,
 ext 16 (.t 12) 1,
 mv 8 (.t 15),
 mv 9 (.t 16)]
def c121r2:List SI:=[
 ⟨none,.mv 17 (.t 9),none,0⟩,
 ⟨none,.nop,(some 3),0⟩,
 ⟨none,.ldR 19 3 1 none,none,0⟩,
 ⟨none,.len 20 false (.t 19),none,0⟩,
 ⟨none,.bin 21 .neq (.t 17) (.t 20),none,0⟩,
 ⟨none,.mv 22 (.t 21),none,0⟩,
 F_ 22 3,
 X_ 22 (.ldR 24 3 0 none) 24,
 X_ 22 (.call 25 155 [(.t 24)]) 25,
 X_ 22 (.un 26 .not (.t 25)) 26,
 ⟨none,.pick 27 (.t 22) (.b true) (.t 26),none,0⟩,
 ⟨none,.mv 28 (.t 27),none,0⟩,
 X_ 28 (.mv 29 (.t 2)) 29,
 X_ 28 (.call 30 156 [(.t 29)]) 30,
 X_ 28 (.un 31 .not (.t 30)) 31,
 ⟨none,.pick 32 (.t 28) (.b true) (.t 31),none,0⟩]
def c121r3:List SI:=[
 bld 33 [(.int .i64 0),(.slice none 0 0)] [],
 stR 6 0 2 (.t 33),
 mv 7 (.i 1)]
def c121r4:List SI:=[
 ldR 35 4 0 (some 10),
 call 36 154 [(.t 35)],
 mv 34 (.t 36),
 ext 37 (.t 34) 0,
 ext 38 (.t 34) 1,
 mv 10 (.t 37),
 mv 11 (.t 38)]
def c121r5:List SI:=[
 mv 40 (.t 11),
 bin 41 .neq (.t 40) (.i 0),
 mv 39 (.t 41)]
def c121r6:List SI:=[
 bld 42 [(.int .i64 0),(.slice none 0 0)] [],
 mv 43 (.t 11),
 stR 6 0 2 (.t 42),
 mv 7 (.t 43)]
def c121r7:List (Bool × SI):=[
 (true,⟨none,.nop,(some 4),0⟩),
 (true,N_ (.ldR 46 4 0 none)),
 (true,N_ (.ldR 47 3 0 (some 2))),
 (false,N_ (.call 48 114 [(.t 47)])),
 (true,N_ (.bin 49 .lss (.t 46) (.t 48))),
 (true,N_ (.mv 44 (.t 49)))]
def c121r8:List SI:=[
 bld 50 [(.int .i64 0),(.slice none 0 0)] [],
 stR 6 0 2 (.t 50),
 mv 7 (.i 71)]
def c121r9:List SI:=[
 ⟨none,.nop,(some 3),0⟩,
 ⟨none,.ldR 53 3 1 none,none,0⟩,
 ⟨none,.len 54 false (.t 53),none,0⟩,
 ⟨none,.mv 55 (.t 10),none,0⟩,
 ⟨none,.len 56 false (.t 55),none,0⟩,
 ⟨none,.bin 57 .add (.t 54) (.t 56),none,0⟩,
 ⟨none,.mv 58 (.t 2),none,0⟩,
 ⟨none,.bin 59 .gtr (.t 57) (.t 58),none,0⟩,
 ⟨none,.mv 51 (.t 59),none,0⟩]
def c121r10:List SI:=[
 bld 60 [(.int .i64 0),(.slice none 0 0)] [],
 stR 6 0 2 (.t 60),
 mv 7 (.i 70)]
def c121r11:List (Bool × SI):=[
 (true,⟨none,.nop,(some 3),0⟩),
 (true,N_ (.ldR 62 3 0 none)),
 (true,⟨none,.nop,(some 3),0⟩),
 (true,N_ (.ldR 64 3 1 none)),
 (true,N_ (.mv 65 (.t 10))),
 (false,N_ (.bls 66 118 2 1 [(.slice none 0 0),(.slice none 0 0)] [(0,1,(.t 64)),(1,1,(.t 65))])),
 (false,N_ (.call 67 157 [(.t 66)])),
 (true,N_ (.bld 68 [(.int .i64 0),(.slice none 0 0)] [(0,1,(.t 62)),(1,1,(.t 67))]))]
def c121r12:List SI:=[
 stR 6 0 2 (.t 68),
 mv 7 (.i 0)]
def c121:SC :=
 (.seq (.reg false c121r0)
 (.seq (.seq (.reg false c121r1)
 (.seq (.reg false c121r2)
 (.cond (.t 32)
  (.seq (.reg false c121r3)
  .ret)
  .skip)))
 (.seq (.reg false c121r4)
 (.seq (.blk 0 (.seq (.reg false c121r5)
  (.cond (.t 39)
   (.seq (.reg false c121r6)
   .ret)
   (.seq (.rgX c121r7)
   (.cond (.t 44)
    (.seq (.reg false c121r8)
    .ret)
    (.seq (.reg false c121r9)
    (.cond (.t 51)
     (.seq (.reg false c121r10)
     .ret)
     .skip)))))))
 (.seq (.rgY c121r11 c121r12)
 .ret)))))
def v121:List Nat × List Nat:=([3,4,6],[3,4,6,18,23,45,52,61,63])
def o121:List RS:=[.r 6 (some 2),.t 7]
def c122r0:List SI:=[
 bxR 2 (.t 0),
 alR 4 [(.int .i64 0),(.int .i64 0),(.slice none 0 0)]]
def c122r1:List SI:=[
 ⟨none,.nop,(some 2),0⟩,
 ⟨none,.ldR 6 2 0 none,none,0⟩,
 ⟨none,.nop,(some 2),0⟩,
 ⟨none,.ldR 8 2 1 none,none,0⟩,
 ⟨none,.mv 9 (.t 1),none,0⟩,
 ⟨none,.bld 10 [(.int .i64 0),(.int .i64 0),(.slice none 0 0)] [(0,1,(.t 6)),(1,1,(.t 8)),(2,1,(.t 9))],none,0⟩,
 ⟨none,.stR 4 0 3 (.t 10),none,0⟩]
def c122:SC :=
 (.seq (.reg false c122r0)
 (.seq (.reg false c122r1)
 .ret))
def v122:List Nat × List Nat:=([2,4],[2,4,5,7])
def o122:List RS:=[.r 4 (some 3)]
def c123r0:List SI:=[
 alR 6 [(.int .i64 0),(.slice none 0 0)],
 mv 7 (.i 0)]
def c123r1:List SI:=[
 mv 13 (.t 0),
 call 14 158 [(.t 13)],
 mv 12 (.t 14),
 ext 15 (.t 12) 0,
 ext 16 (.t 12) 1,
 alR 8 [(.int .i64 0),(.slice none 0 0)],
 stR 8 0 2 (.t 15),
 mv 9 (.t 16)]
def c123r2:List SI:=[
 ⟨none,.mv 17 (.t 9),none,0⟩,
 ⟨none,.bin 18 .neq (.t 17) (.i 0),none,0⟩,
 ⟨none,.mv 19 (.t 18),none,0⟩,
 X_ 19 (.mv 20 (.t 2)) 20,
 X_ 19 (.call 21 156 [(.t 20)]) 21,
 X_ 19 (.un 22 .not (.t 21)) 22,
 ⟨none,.pick 23 (.t 19) (.b true) (.t 22),none,0⟩]
def c123r3:List SI:=[
 bld 24 [(.int .i64 0),(.slice none 0 0)] [],
 stR 6 0 2 (.t 24),
 mv 7 (.i 1)]
def c123r4:List SI:=[
 mv 25 (.t 1),
 len 26 false (.t 25),
 mv 27 (.i 0)]
def c123r5:List SI:=[
 bin 28 .lss (.t 27) (.t 26)]
def c123r6:List SI:=[
 ixA 29 (.t 25) (.t 27) 10,
 ld 30 (.t 29) (some 10),
 alR 11 [(.int .i64 0),(.int .i64 0),(.int .i64 0),(.int .i64 0),(.int .i64 0),(.int .i64 0),(.int .i64 0),(.bool false),(.int .i64 0),(.slice none 0 0)],
 stR 11 0 10 (.t 30)]
def c123r7:List SI:=[
 ldR 32 8 0 (some 2),
 ldR 33 11 0 (some 10),
 mv 34 (.t 2),
 call 35 121 [(.t 32),(.t 33),(.t 34)],
 mv 31 (.t 35),
 ext 36 (.t 31) 0,
 ext 37 (.t 31) 1,
 stR 8 0 2 (.t 36),
 mv 9 (.t 37)]
def c123r8:List SI:=[
 mv 38 (.t 9),
 bin 39 .neq (.t 38) (.i 0)]
def c123r9:List SI:=[
 bld 40 [(.int .i64 0),(.slice none 0 0)] [],
 mv 41 (.t 9),
 stR 6 0 2 (.t 40),
 mv 7 (.t 41)]
def c123r10:List SI:=[
 bin 42 .add (.t 27) (.i 1),
 mv 27 (.t 42)]
def c123r11:List SI:=[
 ldR 43 8 0 (some 2),
 stR 6 0 2 (.t 43),
 mv 7 (.i 0)]
def c123:SC :=
 (.seq (.reg false c123r0)
 (.seq (.reg false c123r1)
 (.seq (.seq (.reg false c123r2)
 (.cond (.t 23)
  (.seq (.reg false c123r3)
  .ret)
  .skip))
 (.seq (.seq (.reg false c123r4)
 (.blk 0 (.loop (.seq (.reg false c123r5)
   (.seq (.cond (.t 28)
    .skip
    (.exit 0))
   (.seq (.blk 1 (.seq (.reg false c123r6)
    (.seq (.reg false c123r7)
    (.seq (.reg false c123r8)
    (.cond (.t 39)
     (.seq (.reg false c123r9)
     .ret)
     .skip)))))
   (.reg false c123r10)))))))
 (.seq (.reg false c123r11)
 .ret)))))
def v123:List Nat × List Nat:=([6,8,11],[6,8,11])
def o123:List RS:=[.r 6 (some 2),.t 7]
def c124r0:List SI:=[
 mv 4 (.b false)]
def c124r1:List SI:=[
 ⟨none,.mv 5 (.t 0),none,0⟩,
 ⟨none,.bin 6 .geq (.t 5) (.i 0),none,0⟩,
 ⟨none,.mv 7 (.t 6),none,0⟩,
 Y_ 7 (.mv 8 (.t 0)) 8,
 Y_ 7 (.mv 9 (.t 1)) 9,
 Y_ 7 (.bin 10 .leq (.t 8) (.t 9)) 10,
 ⟨none,.pick 11 (.t 7) (.t 10) (.b false),none,0⟩,
 ⟨none,.mv 4 (.t 11),none,0⟩]
def c124:SC :=
 (.seq (.reg false c124r0)
 (.seq (.reg false c124r1)
 .ret))
def v124:List Nat × List Nat:=([],[])
def o124:List RS:=[.t 4]
def c125r0:List SI:=[
 mv 2 (.v (.slice none 0 0))]
def c125r1:List SI:=[
 mv 3 (.t 0),
 isn 4 false (.t 3)]
def c125r2:List SI:=[
 mv 2 (.v (.slice none 0 0))]
def c125r3:List SI:=[
 bl0 5,
 mv 6 (.t 0),
 app 7 (.t 5) (.t 6) 151 2 16,
 mv 2 (.t 7)]
def c125:SC :=
 (.seq (.reg false c125r0)
 (.seq (.seq (.reg false c125r1)
 (.cond (.t 4)
  (.seq (.reg false c125r2)
  .ret)
  .skip))
 (.seq (.reg false c125r3)
 .ret)))
def v125:List Nat × List Nat:=([],[])
def o125:List RS:=[.t 2]
def c126r0:List SI:=[
 bx 4 (.t 0),
 bx 5 (.t 1),
 bx 6 (.t 2),
 bx 7 (.t 3),
 al 8 [(.int .i64 0)]]
def c126r1:List SI:=[
 ⟨none,.ld 15 (.t 4) none,none,0⟩,
 ⟨none,.call 16 108 [(.t 15)],none,0⟩,
 ⟨none,.bin 17 .neq (.t 16) (.i 0),none,0⟩,
 ⟨none,.mv 18 (.t 17),none,0⟩,
 X_ 18 (.ld 19 (.t 6) none) 19,
 X_ 18 (.call 20 108 [(.t 19)]) 20,
 X_ 18 (.bin 21 .neq (.t 20) (.i 0)) 21,
 ⟨none,.pick 22 (.t 18) (.b true) (.t 21),none,0⟩]
def c126r2:List SI:=[
 st (.t 8) 1 (.i 0)]
def c126r3:List SI:=[
 ld 23 (.t 4) none,
 call 24 159 [(.t 23)]]
def c126r4:List SI:=[
 alR 10 [(.int .i64 0),(.int .i64 0)],
 stR 10 0 2 (.t 26)]
def c126r5:List SI:=[
 ⟨none,.ld 28 (.t 6) none,none,0⟩,
 ⟨none,.nop,(some 10),0⟩,
 ⟨none,.ldR 30 10 0 none,none,0⟩,
 ⟨none,.ld 31 (.t 7) none,none,0⟩,
 ⟨none,.call 32 160 [(.t 28),(.t 30),(.t 31)],none,0⟩,
 ⟨none,.mv 27 (.t 32),none,0⟩,
 ⟨none,.ext 33 (.t 27) 0,none,0⟩,
 ⟨none,.ext 34 (.t 27) 1,none,0⟩,
 ⟨none,.mv 11 (.t 33),none,0⟩,
 ⟨none,.mv 12 (.t 34),none,0⟩]
def c126r6:List SI:=[
 ⟨none,.mv 35 (.t 11),none,0⟩,
 ⟨none,.nop,(some 10),0⟩,
 ⟨none,.ldR 37 10 0 none,none,0⟩,
 ⟨none,.bin 38 .eql (.t 35) (.t 37),none,0⟩]
def c126r7:List SI:=[
 ⟨none,.ld 40 (.t 4) none,none,0⟩,
 ⟨none,.nop,(some 10),0⟩,
 ⟨none,.ldR 42 10 0 none,none,0⟩,
 ⟨none,.ld 43 (.t 5) none,none,0⟩,
 ⟨none,.call 44 160 [(.t 40),(.t 42),(.t 43)],none,0⟩,
 ⟨none,.mv 39 (.t 44),none,0⟩,
 ⟨none,.ext 45 (.t 39) 0,none,0⟩,
 ⟨none,.ext 46 (.t 39) 1,none,0⟩,
 ⟨none,.mv 13 (.t 45),none,0⟩,
 ⟨none,.mv 14 (.t 46),none,0⟩]
def c126r8:List SI:=[
 mv 47 (.t 14),
 mv 48 (.t 12),
 mm 49 false (.t 47) (.t 48),
 st (.t 8) 1 (.t 49)]
def c126r9:List SI:=[
 st (.t 8) 1 (.i 0)]
def c126:SC :=
 (.seq (.reg false c126r0)
 (.seq (.seq (.reg false c126r1)
 (.cond (.t 22)
  (.seq (.reg false c126r2)
  .ret)
  .skip))
 (.seq (.seq (.reg false c126r3)
 (.blk 0 (.rf (.t 24) [25,26] (.reg false c126r4)
   (.blk 1 (.seq (.reg false c126r5)
    (.seq (.reg false c126r6)
    (.cond (.t 38)
     (.seq (.reg false c126r7)
     (.seq (.reg false c126r8)
     .ret))
     .skip)))))))
 (.seq (.reg false c126r9)
 .ret))))
def v126:List Nat × List Nat:=([10],[10,29,36,41])
def o126:List RS:=[.c 8 none]
def c129r0:List SI:=[
 bx 2 (.t 0),
 mv 4 (.v (.slice none 0 0))]
def c129r1:List SI:=[
 mv 6 (.t 1)]
def c129r2:List SI:=[
 alR 5 [(.int .i64 0),(.int .i64 0),(.int .i64 0),(.int .i64 0),(.int .i64 0),(.int .i64 0),(.int .i64 0),(.bool false),(.int .i64 0),(.slice none 0 0)],
 stR 5 0 10 (.t 7)]
def c129r3:List SI:=[
 ld 8 (.t 2) none,
 ldR 9 5 0 (some 10),
 bls 10 43 1 10 [(.int .i64 0),(.int .i64 0),(.int .i64 0),(.int .i64 0),(.int .i64 0),(.int .i64 0),(.int .i64 0),(.bool false),(.int .i64 0),(.slice none 0 0)] [(0,10,(.t 9))],
 app 11 (.t 8) (.t 10) 43 10 96,
 st (.t 2) 1 (.t 11)]
def c129r4:List SI:=[
 ld 12 (.t 2) none,
 mv 4 (.t 12)]
def c129:SC :=
 (.seq (.reg false c129r0)
 (.seq (.seq (.reg false c129r1)
 (.blk 0 (.rf (.t 6) [7] (.reg false c129r2)
  (.blk 1 (.reg false c129r3)))))
 (.seq (.reg false c129r4)
 .ret)))
def v129:List Nat × List Nat:=([5],[5])
def o129:List RS:=[.t 4]
def c130r0:List SI:=[
 flA 10 (.t 1) 2,
 ld 11 (.t 10) none,
 len 12 false (.t 11),
 mv 13 (.i 0)]
def c130r1:List SI:=[
 bin 14 .lss (.t 13) (.t 12)]
def c130r2:List SI:=[
 ixA 15 (.t 11) (.t 13) 2,
 ld 16 (.t 15) (some 2),
 alR 5 [(.int .i64 0),(.slice none 0 0)],
 stR 5 0 2 (.t 16)]
def c130r3:List SI:=[
 ldR 18 5 0 (some 2),
 call 19 131 [(.t 18)],
 mv 17 (.t 19),
 ext 20 (.t 17) 0,
 ext 21 (.t 17) 1,
 mv 6 (.t 20),
 mv 7 (.t 21)]
def c130r4:List SI:=[
 mv 22 (.t 6),
 len 23 false (.t 22),
 mv 24 (.i 0)]
def c130r5:List SI:=[
 bin 25 .lss (.t 24) (.t 23)]
def c130r6:List SI:=[
 ixA 26 (.t 22) (.t 24) 10,
 ld 27 (.t 26) (some 10),
 alR 9 [(.int .i64 0),(.int .i64 0),(.int .i64 0),(.int .i64 0),(.int .i64 0),(.int .i64 0),(.int .i64 0),(.bool false),(.int .i64 0),(.slice none 0 0)],
 stR 9 0 10 (.t 27)]
def c130r7:List SI:=[
 ⟨none,.nop,(some 9),0⟩,
 ⟨none,.ldR 29 9 1 none,none,0⟩,
 ⟨none,.ld 30 (.t 2) none,none,0⟩,
 ⟨none,.bin 31 .geq (.t 29) (.t 30),none,0⟩,
 ⟨none,.mv 32 (.t 31),none,0⟩,
 Y_ 32 (.mv 33 (.t 0)) 33,
 Y_ 32 (.ldR 34 9 0 (some 10)) 34,
 Y_ 32 (.cav 35 (.t 33) [(.t 34)]) 35,
 Y_ 32 (.un 36 .not (.t 35)) 36,
 ⟨none,.pick 37 (.t 32) (.t 36) (.b false),none,0⟩]
def c130r8:List SI:=[
 bin 38 .add (.t 24) (.i 1),
 mv 24 (.t 38)]
def c130r9:List SI:=[
 bin 39 .add (.t 13) (.i 1),
 mv 13 (.t 39)]
def c130:SC :=
 (.seq (.reg false c130r0)
 (.blk 0 (.loop (.seq (.reg false c130r1)
   (.seq (.cond (.t 14)
    .skip
    (.exit 0))
   (.seq (.blk 1 (.seq (.reg false c130r2)
    (.seq (.reg false c130r3)
    (.seq (.reg false c130r4)
    (.blk 2 (.loop (.seq (.reg false c130r5)
      (.seq (.cond (.t 25)
       .skip
       (.exit 2))
      (.seq (.blk 3 (.seq (.reg false c130r6)
       (.seq (.reg false c130r7)
       (.cond (.t 37)
        .ret
        .skip))))
      (.reg false c130r8))))))))))
   (.reg false c130r9)))))))
def v130:List Nat × List Nat:=([5,9],[5,9,28])
def o130:List RS:=[]
def c131r0:List SI:=[
 bx 1 (.t 0),
 al 2 [(.slice none 0 0)],
 al 3 [(.int .i64 0)]]
def c131r1:List SI:=[
 ld 6 (.t 1) (some 2),
 call 7 151 [(.t 6)]]
def c131r2:List SI:=[
 alR 4 [(.int .i64 0),(.int .i64 0),(.int .i64 0),(.int .i64 0),(.int .i64 0),(.int .i64 0),(.int .i64 0),(.bool false),(.int .i64 0),(.slice none 0 0)],
 stR 4 0 10 (.t 8)]
def c131r3:List SI:=[
 mv 5 (.t 9)]
def c131r4:List SI:=[
 ld 10 (.t 2) none,
 ldR 11 4 0 (some 10),
 bls 12 43 1 10 [(.int .i64 0),(.int .i64 0),(.int .i64 0),(.int .i64 0),(.int .i64 0),(.int .i64 0),(.int .i64 0),(.bool false),(.int .i64 0),(.slice none 0 0)] [(0,10,(.t 11))],
 app 13 (.t 10) (.t 12) 43 10 96,
 mv 14 (.t 5),
 st (.t 2) 1 (.t 13),
 st (.t 3) 1 (.t 14)]
def c131r5:List WI:=[
 (true,false,⟨none,.ld 15 (.t 2) none,none,0⟩),
 (true,false,⟨none,.ld 16 (.t 3) none,none,0⟩),
 (false,false,⟨none,.st (.t 2) 1 (.t 15),none,0⟩),
 (false,true,⟨none,.st (.t 3) 1 (.t 16),none,0⟩)]
def c131:SC :=
 (.seq (.reg false c131r0)
 (.seq (.seq (.reg false c131r1)
 (.blk 0 (.rf (.t 7) [8,9] (.seq (.reg false c131r2)
  (.reg false c131r3))
  (.blk 1 (.reg false c131r4)))))
 (.seq (.rgW c131r5)
 .ret)))
def v131:List Nat × List Nat:=([4],[4])
def o131:List RS:=[.c 2 none,.c 3 none]
def c133r0:List SI:=[
 mv 4 (.b false)]
def c133r1:List SI:=[
 mv 6 (.t 0),
 len 7 false (.t 6),
 mv 8 (.t 1),
 len 9 false (.t 8),
 bin 10 .neq (.t 7) (.t 9)]
def c133r2:List SI:=[
 mv 4 (.b false)]
def c133r3:List SI:=[
 mv 11 (.t 0),
 len 12 false (.t 11),
 mv 13 (.i 0)]
def c133r4:List SI:=[
 bin 14 .lss (.t 13) (.t 12)]
def c133r5:List SI:=[
 mv 15 (.t 13),
 mv 5 (.t 15)]
def c133r6:List SI:=[
 mv 16 (.t 0),
 mv 17 (.t 5),
 ixA 18 (.t 16) (.t 17) 5,
 ld 19 (.t 18) (some 5),
 mv 20 (.t 1),
 mv 21 (.t 5),
 ixA 22 (.t 20) (.t 21) 5,
 ld 23 (.t 22) (some 5),
 eqf 24 true [0,2,2,1,0] (.t 19) (.t 23)]
def c133r7:List SI:=[
 mv 4 (.b false)]
def c133r8:List SI:=[
 bin 25 .add (.t 13) (.i 1),
 mv 13 (.t 25)]
def c133r9:List SI:=[
 mv 4 (.b true)]
def c133:SC :=
 (.seq (.reg false c133r0)
 (.seq (.seq (.reg false c133r1)
 (.cond (.t 10)
  (.seq (.reg false c133r2)
  .ret)
  .skip))
 (.seq (.seq (.reg false c133r3)
 (.blk 0 (.loop (.seq (.reg false c133r4)
   (.seq (.cond (.t 14)
    .skip
    (.exit 0))
   (.seq (.blk 1 (.seq (.reg false c133r5)
    (.seq (.reg true c133r6)
    (.cond (.t 24)
     (.seq (.reg false c133r7)
     .ret)
     .skip))))
   (.reg false c133r8)))))))
 (.seq (.reg false c133r9)
 .ret))))
def v133:List Nat × List Nat:=([],[])
def o133:List RS:=[.t 4]
def c134r0:List SI:=[
 mv 4 (.i 0)]
def c134r1:List SI:=[
 mv 6 (.t 0),
 ld 7 (.t 1) none,
 call 8 51 [(.t 6),(.t 7)],
 mv 5 (.t 8)]
def c134r2:List SI:=[
 mv 9 (.t 5),
 eqf 10 false [3] (.t 9) (.v (.pointer none))]
def c134r3:List SI:=[
 mv 4 (.i 1)]
def c134r4:List SI:=[
 ld 11 (.t 2) none,
 mv 12 (.t 0),
 mv 13 (.t 5),
 cav 14 (.t 11) [(.t 12),(.t 13)],
 mv 4 (.t 14)]
def c134:SC :=
 (.seq (.reg false c134r0)
 (.seq (.reg false c134r1)
 (.seq (.seq (.reg false c134r2)
 (.cond (.t 10)
  (.seq (.reg false c134r3)
  .ret)
  .skip))
 (.seq (.reg false c134r4)
 .ret))))
def v134:List Nat × List Nat:=([],[])
def o134:List RS:=[.t 4]
def c135r0:List SI:=[
 bxR 3 (.t 0),
 bxR 4 (.t 1),
 alR 6 [(.int .i64 0),(.int .i64 0),(.slice none 0 0)],
 mv 7 (.b false)]
def c135r1:List SI:=[
 ldR 14 3 0 (some 3),
 mv 15 (.t 2),
 call 16 167 [(.t 14),(.t 15)],
 mv 13 (.t 16),
 ext 17 (.t 13) 0,
 ext 18 (.t 13) 1,
 stR 3 0 3 (.t 17),
 mv 8 (.t 18)]
def c135r2:List (Bool × SI):=[
 (true,N_ (.ldR 19 3 0 (some 3))),
 (true,N_ (.ldR 21 4 0 (some 3))),
 (false,N_ (.call 20 27 [(.t 19)])),
 (false,N_ (.call 22 27 [(.t 21)])),
 (true,N_ (.mv 9 (.t 20))),
 (true,N_ (.mv 10 (.t 22)))]
def c135r3:List SI:=[
 ⟨none,.mv 23 (.t 8),none,0⟩,
 ⟨none,.bin 24 .neq (.t 23) (.i 0),none,0⟩,
 ⟨none,.mv 25 (.t 24),none,0⟩,
 X_ 25 (.mv 26 (.t 9)) 26,
 X_ 25 (.len 27 false (.t 26)) 27,
 X_ 25 (.mv 28 (.t 10)) 28,
 X_ 25 (.len 29 false (.t 28)) 29,
 X_ 25 (.bin 30 .gtr (.t 27) (.t 29)) 30,
 ⟨none,.pick 31 (.t 25) (.b true) (.t 30),none,0⟩,
 ⟨none,.mv 32 (.t 31),none,0⟩,
 X_ 32 (.mv 33 (.t 9)) 33,
 X_ 32 (.mv 34 (.t 10)) 34,
 X_ 32 (.mv 35 (.t 9)) 35,
 X_ 32 (.len 36 false (.t 35)) 36,
 X_ 32 (.sl 37 (.t 34) none (some (.t 36)) none 10) 37,
 X_ 32 (.call 38 168 [(.t 33),(.t 37),(.v (.func (.func 169) #[] #[]))]) 38,
 X_ 32 (.un 39 .not (.t 38)) 39,
 ⟨none,.pick 40 (.t 32) (.b true) (.t 39),none,0⟩]
def c135r4:List SI:=[
 ldR 41 3 0 (some 3),
 stR 6 0 3 (.t 41),
 mv 7 (.b false)]
def c135r5:List SI:=[
 mv 42 (.t 10),
 mv 43 (.t 9),
 len 44 false (.t 43),
 sl 45 (.t 42) (some (.t 44)) none none 10,
 len 46 false (.t 45),
 mv 47 (.i 0)]
def c135r6:List SI:=[
 bin 48 .lss (.t 47) (.t 46)]
def c135r7:List SI:=[
 ixA 49 (.t 45) (.t 47) 10,
 ld 50 (.t 49) (some 10),
 alR 12 [(.int .i64 0),(.int .i64 0),(.int .i64 0),(.int .i64 0),(.int .i64 0),(.int .i64 0),(.int .i64 0),(.bool false),(.int .i64 0),(.slice none 0 0)],
 stR 12 0 10 (.t 50)]
def c135r8:List SI:=[
 ldR 52 3 0 (some 3),
 ldR 53 12 0 (some 10),
 call 54 69 [(.t 52),(.t 53)],
 mv 51 (.t 54),
 ext 55 (.t 51) 0,
 ext 56 (.t 51) 1,
 stR 3 0 3 (.t 55),
 mv 8 (.t 56)]
def c135r9:List SI:=[
 mv 57 (.t 8),
 bin 58 .neq (.t 57) (.i 0)]
def c135r10:List SI:=[
 ldR 59 3 0 (some 3),
 stR 6 0 3 (.t 59),
 mv 7 (.b false)]
def c135r11:List SI:=[
 bin 60 .add (.t 47) (.i 1),
 mv 47 (.t 60)]
def c135r12:List SI:=[
 ldR 61 3 0 (some 3),
 stR 6 0 3 (.t 61),
 mv 7 (.b true)]
def c135:SC :=
 (.seq (.reg false c135r0)
 (.seq (.reg false c135r1)
 (.seq (.rgX c135r2)
 (.seq (.seq (.reg false c135r3)
 (.cond (.t 40)
  (.seq (.reg false c135r4)
  .ret)
  .skip))
 (.seq (.seq (.reg false c135r5)
 (.blk 0 (.loop (.seq (.reg false c135r6)
   (.seq (.cond (.t 48)
    .skip
    (.exit 0))
   (.seq (.blk 1 (.seq (.reg false c135r7)
    (.seq (.reg false c135r8)
    (.seq (.reg false c135r9)
    (.cond (.t 58)
     (.seq (.reg false c135r10)
     .ret)
     .skip)))))
   (.reg false c135r11)))))))
 (.seq (.reg false c135r12)
 .ret))))))
def v135:List Nat × List Nat:=([3,4,6,12],[3,4,6,12])
def o135:List RS:=[.r 6 (some 3),.t 7]
def c136r0:List SI:=[
 mv 4 (.b false)]
def c136r1:List SI:=[
 ⟨none,.mv 5 (.t 0),none,0⟩,
 ⟨none,.call 6 170 [(.t 5)],none,0⟩,
 ⟨none,.mv 7 (.t 6),none,0⟩,
 Y_ 7 (.mv 8 (.t 1)) 8,
 Y_ 7 (.call 9 170 [(.t 8)]) 9,
 Y_ 7 (.un 10 .not (.t 9)) 10,
 ⟨none,.pick 11 (.t 7) (.t 10) (.b false),none,0⟩,
 ⟨none,.mv 12 (.t 11),none,0⟩,
 X_ 12 (.mv 13 (.t 0)) 13,
 X_ 12 (.mv 14 (.t 1)) 14,
 X_ 12 (.bin 15 .lss (.t 13) (.t 14)) 15,
 ⟨none,.pick 16 (.t 12) (.b true) (.t 15),none,0⟩,
 ⟨none,.mv 4 (.t 16),none,0⟩]
def c136:SC :=
 (.seq (.reg false c136r0)
 (.seq (.reg false c136r1)
 .ret))
def v136:List Nat × List Nat:=([],[])
def o136:List RS:=[.t 4]
def c137r0:List SI:=[
 mv 2 (.b false)]
def c137r1:List SI:=[
 mv 3 (.t 0),
 mv 4 (.t 0),
 bin 5 .neq (.t 3) (.t 4),
 mv 2 (.t 5)]
def c137:SC :=
 (.seq (.reg false c137r0)
 (.seq (.reg false c137r1)
 .ret))
def v137:List Nat × List Nat:=([],[])
def o137:List RS:=[.t 2]
def c140r0:List SI:=[
 mv 4 (.v (.slice none 0 0))]
def c140r1:List SI:=[
 mv 8 (.t 0),
 mv 9 (.t 1),
 call 10 109 [(.t 8),(.t 9)],
 mv 5 (.t 10)]
def c140r2:List SI:=[
 mv 11 (.t 5),
 bin 12 .eql (.t 11) (.i (-1))]
def c140r3:List SI:=[
 mv 13 (.t 0),
 mv 4 (.t 13)]
def c140r4:List SI:=[
 mv 14 (.t 5),
 bin 15 .add (.t 14) (.i 1),
 mv 6 (.t 15)]
def c140r5:List SI:=[
 mv 16 (.t 6),
 mv 17 (.t 0),
 len 18 false (.t 17),
 bin 19 .lss (.t 16) (.t 18)]
def c140r6:List SI:=[
 mv 22 (.t 0),
 mv 23 (.t 6),
 ixA 24 (.t 22) (.t 23) 1,
 ld 25 (.t 24) none,
 mv 7 (.t 25)]
def c140r7:List SI:=[
 mv 26 (.t 1),
 mv 27 (.t 7),
 cav 28 (.t 26) [(.t 27)],
 un 29 .not (.t 28)]
def c140r8:List SI:=[
 mv 30 (.t 0),
 mv 31 (.t 5),
 mv 32 (.t 7),
 ixA 33 (.t 30) (.t 31) 1,
 st (.t 33) 1 (.t 32)]
def c140r9:List SI:=[
 mv 34 (.t 5),
 bin 35 .add (.t 34) (.i 1),
 mv 5 (.t 35)]
def c140r10:List SI:=[
 mv 20 (.t 6),
 bin 21 .add (.t 20) (.i 1),
 mv 6 (.t 21)]
def c140r11:List SI:=[
 mv 36 (.t 0),
 mv 37 (.t 5),
 sl 38 (.t 36) (some (.t 37)) none none 1,
 clr 99999 (.t 38) ([(.int .i64 0)]).toArray]
def c140r12:List SI:=[
 mv 39 (.t 0),
 mv 40 (.t 5),
 sl 41 (.t 39) none (some (.t 40)) none 1,
 mv 4 (.t 41)]
def c140:SC :=
 (.seq (.reg false c140r0)
 (.seq (.reg false c140r1)
 (.seq (.seq (.reg false c140r2)
 (.cond (.t 12)
  (.seq (.reg false c140r3)
  .ret)
  .skip))
 (.seq (.seq (.reg false c140r4)
 (.blk 0 (.loop (.seq (.seq (.reg false c140r5)
   (.cond (.t 19)
    .skip
    (.exit 0)))
   (.seq (.blk 1 (.seq (.reg false c140r6)
    (.seq (.reg false c140r7)
    (.cond (.t 29)
     (.seq (.reg false c140r8)
     (.reg false c140r9))
     .skip))))
   (.reg false c140r10))))))
 (.seq (.reg false c140r11)
 (.seq (.reg false c140r12)
 .ret))))))
def v140:List Nat × List Nat:=([],[])
def o140:List RS:=[.t 4]
def c141r0:List SI:=[
 mv 3 (.b false)]
def c141r1:List SI:=[
 mv 4 (.t 0),
 ld 5 (.t 1) none,
 bin 6 .eql (.t 4) (.t 5),
 mv 3 (.t 6)]
def c141:SC :=
 (.seq (.reg false c141r0)
 (.seq (.reg false c141r1)
 .ret))
def v141:List Nat × List Nat:=([],[])
def o141:List RS:=[.t 3]
def c142r0:List SI:=[
 mv 2 (.b false)]
def c142r1:List SI:=[
 ⟨none,.mv 3 (.t 0),none,0⟩,
 ⟨none,.bin 4 .geq (.t 3) (.i 0),none,0⟩,
 ⟨none,.mv 5 (.t 4),none,0⟩,
 Y_ 5 (.mv 6 (.t 0)) 6,
 Y_ 5 (.bin 7 .leq (.t 6) (.i 1099511627776)) 7,
 ⟨none,.pick 8 (.t 5) (.t 7) (.b false),none,0⟩,
 ⟨none,.mv 2 (.t 8),none,0⟩]
def c142:SC :=
 (.seq (.reg false c142r0)
 (.seq (.reg false c142r1)
 .ret))
def v142:List Nat × List Nat:=([],[])
def o142:List RS:=[.t 2]
def c143r0:List SI:=[
 bxR 1 (.t 0),
 alR 2 [(.int .i64 0),(.slice none 0 0)],
 mv 3 (.i 0)]
def c143r1:List SI:=[
 ldR 7 1 0 (some 2),
 call 8 131 [(.t 7)],
 mv 6 (.t 8),
 ext 9 (.t 6) 0,
 ext 10 (.t 6) 1,
 mv 4 (.t 9),
 mv 5 (.t 10)]
def c143r2:List WI:=[
 (true,false,⟨none,.ldR 11 1 0 (some 2),none,0⟩),
 (true,false,⟨none,.mv 12 (.t 5),none,0⟩),
 (true,false,⟨none,.nop,(some 1),0⟩),
 (true,false,⟨none,.ldR 15 1 1 none,none,0⟩),
 (true,false,⟨none,.len 16 false (.t 15),none,0⟩),
 (true,false,⟨none,.mv 17 (.t 5),none,0⟩),
 (true,false,⟨none,.bin 18 .sub (.t 16) (.t 17),none,0⟩),
 (false,false,⟨none,.call 13 172 [(.t 11),(.t 12)],none,0⟩),
 (false,false,⟨none,.stR 2 0 2 (.t 13),none,0⟩),
 (true,false,⟨none,.mv 3 (.t 18),none,0⟩)]
def c143:SC :=
 (.seq (.reg false c143r0)
 (.seq (.reg false c143r1)
 (.seq (.rgW c143r2)
 .ret)))
def v143:List Nat × List Nat:=([1,2],[1,2,14])
def o143:List RS:=[.r 2 (some 2),.t 3]
def c144r0:List SI:=[
 mv 4 (.i 0)]
def c144r1:List SI:=[
 mv 8 (.t 0),
 mv 5 (.i 0),
 mv 6 (.t 8)]
def c144r2:List SI:=[
 mv 9 (.t 5),
 mv 10 (.t 6),
 bin 11 .lss (.t 9) (.t 10)]
def c144r3:List SI:=[
 mv 12 (.t 5),
 mv 13 (.t 6),
 bin 14 .add (.t 12) (.t 13),
 cvI 15 .u64 (.t 14),
 bin 16 .shr (.t 15) (.v (.int .u64 1)),
 cvI 17 .i64 (.t 16),
 mv 7 (.t 17)]
def c144r4:List SI:=[
 mv 18 (.t 1),
 mv 19 (.t 7),
 cav 20 (.t 18) [(.t 19)],
 un 21 .not (.t 20)]
def c144r5:List SI:=[
 mv 22 (.t 7),
 bin 23 .add (.t 22) (.i 1),
 mv 5 (.t 23)]
def c144r6:List SI:=[
 mv 24 (.t 7),
 mv 6 (.t 24)]
def c144r7:List SI:=[
 mv 25 (.t 5),
 mv 4 (.t 25)]
def c144:SC :=
 (.seq (.reg false c144r0)
 (.seq (.reg false c144r1)
 (.seq (.blk 0 (.loop (.seq (.seq (.reg false c144r2)
   (.cond (.t 11)
    .skip
    (.exit 0)))
   (.blk 1 (.seq (.reg false c144r3)
    (.seq (.reg false c144r4)
    (.cond (.t 21)
     (.reg false c144r5)
     (.reg false c144r6))))))))
 (.seq (.reg false c144r7)
 .ret))))
def v144:List Nat × List Nat:=([],[])
def o144:List RS:=[.t 4]
def c145r0:List SI:=[
 mv 4 (.b false)]
def c145r1:List SI:=[
 ld 5 (.t 1) none,
 mv 6 (.t 0),
 ixA 7 (.t 5) (.t 6) 2,
 flA 8 (.t 7) 1,
 ld 9 (.t 8) none,
 ld 10 (.t 2) none,
 bin 11 .geq (.t 9) (.t 10),
 mv 4 (.t 11)]
def c145:SC :=
 (.seq (.reg false c145r0)
 (.seq (.reg true c145r1)
 .ret))
def v145:List Nat × List Nat:=([],[])
def o145:List RS:=[.t 4]
def c151r0:List SI:=[
 bx 1 (.t 0),
 mv 2 (.v .nilFunc)]
def c151r1:List SI:=[
 mkf 3 (.func 177) [(.t 1)],
 mv 2 (.t 3)]
def c151:SC :=
 (.seq (.reg false c151r0)
 (.seq (.reg false c151r1)
 .ret))
def v151:List Nat × List Nat:=([],[])
def o151:List RS:=[.t 2]
def c152r0:List SI:=[
 mv 2 (.i 0)]
def c152r1:List SI:=[
 mv 5 (.t 0),
 len 6 false (.t 5),
 bin 7 .lss (.t 6) (.i 1)]
def c152r2:List SI:=[
 mv 9 (.t 0),
 ixA 10 (.t 9) (.i 0) 1,
 ld 11 (.t 10) none,
 mv 3 (.t 11)]
def c152r3:List SI:=[
 mv 4 (.i 1)]
def c152r4:List SI:=[
 mv 12 (.t 4),
 mv 13 (.t 0),
 len 14 false (.t 13),
 bin 15 .lss (.t 12) (.t 14)]
def c152r5:List SI:=[
 mv 18 (.t 3),
 mv 19 (.t 0),
 mv 20 (.t 4),
 ixA 21 (.t 19) (.t 20) 1,
 ld 22 (.t 21) none,
 mm 23 false (.t 18) (.t 22),
 mv 3 (.t 23)]
def c152r6:List SI:=[
 mv 16 (.t 4),
 bin 17 .add (.t 16) (.i 1),
 mv 4 (.t 17)]
def c152r7:List SI:=[
 mv 24 (.t 3),
 mv 2 (.t 24)]
def c152:SC :=
 (.seq (.reg false c152r0)
 (.seq (.seq (.reg false c152r1)
 (.cond (.t 7)
  .dead
  .skip))
 (.seq (.reg false c152r2)
 (.seq (.seq (.reg false c152r3)
 (.blk 0 (.loop (.seq (.seq (.reg false c152r4)
   (.cond (.t 15)
    .skip
    (.exit 0)))
   (.seq (.blk 1 (.reg false c152r5))
   (.reg false c152r6))))))
 (.seq (.reg false c152r7)
 .ret)))))
def v152:List Nat × List Nat:=([],[])
def o152:List RS:=[.t 2]
theorem s152:slimC Tryz.prog Tryz.f152.ntmps v152.1 v152.2 ((Tryz.f152.body).getD .skip)=some c152:=by kernel_rfl
theorem q152:slimR Tryz.prog Tryz.f152.ntmps v152.1 v152.2 Tryz.f152.results.toList=some o152:=by kernel_rfl
def c153r0:List SI:=[
 mv 2 (.i 0)]
def c153r1:List SI:=[
 mv 5 (.t 0),
 len 6 false (.t 5),
 bin 7 .lss (.t 6) (.i 1)]
def c153r2:List SI:=[
 mv 9 (.t 0),
 ixA 10 (.t 9) (.i 0) 1,
 ld 11 (.t 10) none,
 mv 3 (.t 11)]
def c153r3:List SI:=[
 mv 4 (.i 1)]
def c153r4:List SI:=[
 mv 12 (.t 4),
 mv 13 (.t 0),
 len 14 false (.t 13),
 bin 15 .lss (.t 12) (.t 14)]
def c153r5:List SI:=[
 mv 18 (.t 3),
 mv 19 (.t 0),
 mv 20 (.t 4),
 ixA 21 (.t 19) (.t 20) 1,
 ld 22 (.t 21) none,
 mm 23 true (.t 18) (.t 22),
 mv 3 (.t 23)]
def c153r6:List SI:=[
 mv 16 (.t 4),
 bin 17 .add (.t 16) (.i 1),
 mv 4 (.t 17)]
def c153r7:List SI:=[
 mv 24 (.t 3),
 mv 2 (.t 24)]
def c153:SC :=
 (.seq (.reg false c153r0)
 (.seq (.seq (.reg false c153r1)
 (.cond (.t 7)
  .dead
  .skip))
 (.seq (.reg false c153r2)
 (.seq (.seq (.reg false c153r3)
 (.blk 0 (.loop (.seq (.seq (.reg false c153r4)
   (.cond (.t 15)
    .skip
    (.exit 0)))
   (.seq (.blk 1 (.reg false c153r5))
   (.reg false c153r6))))))
 (.seq (.reg false c153r7)
 .ret)))))
def v153:List Nat × List Nat:=([],[])
def o153:List RS:=[.t 2]
theorem s153:slimC Tryz.prog Tryz.f153.ntmps v153.1 v153.2 ((Tryz.f153.body).getD .skip)=some c153:=by kernel_rfl
theorem q153:slimR Tryz.prog Tryz.f153.ntmps v153.1 v153.2 Tryz.f153.results.toList=some o153:=by kernel_rfl
def c154r0:List SI:=[
 bxR 1 (.t 0),
 mv 2 (.v (.slice none 0 0)),
 mv 3 (.i 0)]
def c154r1:List SI:=[
 ldR 5 1 0 (some 10),
 call 6 179 [(.t 5)],
 un 7 .not (.t 6)]
def c154r2:List SI:=[
 mv 2 (.v (.slice none 0 0)),
 mv 3 (.i 1)]
def c154r3:List SI:=[
 ldR 8 1 0 (some 10),
 call 9 180 [(.t 8)],
 mv 4 (.t 9)]
def c154r4:List SI:=[
 mv 10 (.t 4),
 len 11 false (.t 10),
 bin 12 .gtr (.t 11) (.i 2048)]
def c154r5:List SI:=[
 mv 2 (.v (.slice none 0 0)),
 mv 3 (.i 2)]
def c154r6:List SI:=[
 mv 13 (.t 4),
 mv 2 (.t 13),
 mv 3 (.i 0)]
def c154:SC :=
 (.seq (.reg false c154r0)
 (.seq (.seq (.reg false c154r1)
 (.cond (.t 7)
  (.seq (.reg false c154r2)
  .ret)
  .skip))
 (.seq (.reg false c154r3)
 (.seq (.seq (.reg false c154r4)
 (.cond (.t 12)
  (.seq (.reg false c154r5)
  .ret)
  .skip))
 (.seq (.reg false c154r6)
 .ret)))))
def v154:List Nat × List Nat:=([1],[1])
def o154:List RS:=[.t 2,.t 3]
def c155r0:List SI:=[
 mv 2 (.b false)]
def c155r1:List SI:=[
 ⟨none,.mv 3 (.t 0),none,0⟩,
 ⟨none,.bin 4 .geq (.t 3) (.i 0),none,0⟩,
 ⟨none,.mv 5 (.t 4),none,0⟩,
 Y_ 5 (.mv 6 (.t 0)) 6,
 Y_ 5 (.bin 7 .leq (.t 6) (.i 1099511627776)) 7,
 ⟨none,.pick 8 (.t 5) (.t 7) (.b false),none,0⟩,
 ⟨none,.mv 2 (.t 8),none,0⟩]
def c155:SC :=
 (.seq (.reg false c155r0)
 (.seq (.reg false c155r1)
 .ret))
def v155:List Nat × List Nat:=([],[])
def o155:List RS:=[.t 2]
def c156r0:List SI:=[
 mv 2 (.b false)]
def c156r1:List SI:=[
 ⟨none,.mv 3 (.t 0),none,0⟩,
 ⟨none,.bin 4 .geq (.t 3) (.i 1),none,0⟩,
 ⟨none,.mv 5 (.t 4),none,0⟩,
 Y_ 5 (.mv 6 (.t 0)) 6,
 Y_ 5 (.bin 7 .leq (.t 6) (.i 4096)) 7,
 ⟨none,.pick 8 (.t 5) (.t 7) (.b false),none,0⟩,
 ⟨none,.mv 2 (.t 8),none,0⟩]
def c156:SC :=
 (.seq (.reg false c156r0)
 (.seq (.reg false c156r1)
 .ret))
def v156:List Nat × List Nat:=([],[])
def o156:List RS:=[.t 2]
def c157r0:List SI:=[
 mv 2 (.v (.slice none 0 0))]
def c157r1:List SI:=[
 mv 3 (.i 0)]
def c157r2:List SI:=[
 mv 9 (.t 0),
 len 10 false (.t 9),
 mv 11 (.i 0)]
def c157r3:List SI:=[
 bin 12 .lss (.t 11) (.t 10)]
def c157r4:List SI:=[
 ixA 13 (.t 9) (.t 11) 1,
 ld 14 (.t 13) none,
 mv 5 (.t 14)]
def c157r5:List SI:=[
 mv 15 (.t 3),
 mv 16 (.t 5),
 len 17 false (.t 16),
 bin 18 .add (.t 15) (.t 17),
 mv 3 (.t 18)]
def c157r6:List SI:=[
 mv 19 (.t 3),
 bin 20 .lss (.t 19) (.i 0)]
def c157r7:List SI:=[
 bin 22 .add (.t 11) (.i 1),
 mv 11 (.t 22)]
def c157r8:List SI:=[
 mv 23 (.t 3),
 call 24 181 [(.v (.slice none 0 0)),(.t 23)],
 mv 6 (.t 24)]
def c157r9:List SI:=[
 mv 25 (.t 0),
 len 26 false (.t 25),
 mv 27 (.i 0)]
def c157r10:List SI:=[
 bin 28 .lss (.t 27) (.t 26)]
def c157r11:List SI:=[
 ixA 29 (.t 25) (.t 27) 1,
 ld 30 (.t 29) none,
 mv 8 (.t 30)]
def c157r12:List SI:=[
 mv 31 (.t 6),
 mv 32 (.t 8),
 app 33 (.t 31) (.t 32) 5 1 1,
 mv 6 (.t 33)]
def c157r13:List SI:=[
 bin 34 .add (.t 27) (.i 1),
 mv 27 (.t 34)]
def c157r14:List SI:=[
 mv 35 (.t 6),
 mv 2 (.t 35)]
def c157:SC :=
 (.seq (.reg false c157r0)
 (.seq (.reg false c157r1)
 (.seq (.seq (.reg false c157r2)
 (.blk 0 (.loop (.seq (.reg false c157r3)
   (.seq (.cond (.t 12)
    .skip
    (.exit 0))
   (.seq (.blk 1 (.seq (.reg false c157r4)
    (.seq (.reg false c157r5)
    (.seq (.reg false c157r6)
    (.cond (.t 20)
     .dead
     .skip)))))
   (.reg false c157r7)))))))
 (.seq (.reg false c157r8)
 (.seq (.seq (.reg false c157r9)
 (.blk 2 (.loop (.seq (.reg false c157r10)
   (.seq (.cond (.t 28)
    .skip
    (.exit 2))
   (.seq (.blk 3 (.seq (.reg false c157r11)
    (.reg false c157r12)))
   (.reg false c157r13)))))))
 (.seq (.reg false c157r14)
 .ret))))))
def v157:List Nat × List Nat:=([],[])
def o157:List RS:=[.t 2]
def c158r0:List SI:=[
 alR 2 [(.int .i64 0),(.slice none 0 0)],
 mv 3 (.i 0)]
def c158r1:List SI:=[
 mv 4 (.t 0),
 call 5 155 [(.t 4)],
 un 6 .not (.t 5)]
def c158r2:List SI:=[
 bld 7 [(.int .i64 0),(.slice none 0 0)] [],
 stR 2 0 2 (.t 7),
 mv 3 (.i 1)]
def c158r3:List SI:=[
 mv 8 (.t 0),
 bld 9 [(.int .i64 0),(.slice none 0 0)] [(0,1,(.t 8))],
 stR 2 0 2 (.t 9),
 mv 3 (.i 0)]
def c158:SC :=
 (.seq (.reg false c158r0)
 (.seq (.seq (.reg false c158r1)
 (.cond (.t 6)
  (.seq (.reg false c158r2)
  .ret)
  .skip))
 (.seq (.reg false c158r3)
 .ret)))
def v158:List Nat × List Nat:=([2],[2])
def o158:List RS:=[.r 2 (some 2),.t 3]
def c159r0:List SI:=[
 bx 1 (.t 0),
 mv 2 (.v .nilFunc)]
def c159r1:List SI:=[
 mkf 3 (.func 182) [(.t 1)],
 mv 2 (.t 3)]
def c159:SC :=
 (.seq (.reg false c159r0)
 (.seq (.reg false c159r1)
 .ret))
def v159:List Nat × List Nat:=([],[])
def o159:List RS:=[.t 2]
def c160r0:List SI:=[
 mv 6 (.i 0),
 mv 7 (.i 0)]
def c160r1:List SI:=[
 mv 8 (.i 0)]
def c160r2:List SI:=[
 mv 9 (.t 0),
 call 10 108 [(.t 9)],
 bin 11 .eql (.t 10) (.i 0)]
def c160r3:List SI:=[
 mv 12 (.t 0),
 mv 13 (.t 1),
 call 14 183 [(.t 12),(.t 13)],
 mv 8 (.t 14)]
def c160r4:List SI:=[
 mv 15 (.t 8),
 bin 16 .eql (.t 15) (.i 0)]
def c160r5:List SI:=[
 mv 6 (.i (-1)),
 mv 7 (.i 0)]
def c160r6:List SI:=[
 mv 17 (.t 8),
 mv 18 (.t 0),
 len 19 false (.t 18),
 bin 20 .lss (.t 17) (.t 19)]
def c160r7:List SI:=[
 mv 21 (.t 0),
 mv 22 (.t 8),
 ixA 23 (.t 21) (.t 22) 2,
 flA 24 (.t 23) 1,
 ld 25 (.t 24) none,
 mv 2 (.t 25)]
def c160r8:List SI:=[
 mv 26 (.t 0),
 mv 27 (.t 8),
 bin 28 .sub (.t 27) (.i 1),
 ixA 29 (.t 26) (.t 28) 2,
 flA 30 (.t 29) 0,
 ld 31 (.t 30) none,
 mv 32 (.t 2),
 mv 6 (.t 31),
 mv 7 (.t 32)]
def c160:SC :=
 (.seq (.reg false c160r0)
 (.seq (.reg false c160r1)
 (.seq (.seq (.reg false c160r2)
 (.cond (.t 11)
  (.reg false c160r3)
  .skip))
 (.seq (.seq (.reg false c160r4)
 (.cond (.t 16)
  (.seq (.reg false c160r5)
  .ret)
  .skip))
 (.seq (.seq (.reg false c160r6)
 (.cond (.t 20)
  (.reg false c160r7)
  .skip))
 (.seq (.reg false c160r8)
 .ret))))))
def v160:List Nat × List Nat:=([],[])
def o160:List RS:=[.t 6,.t 7]
def c161r0:List SI:=[
 bxR 1 (.t 0),
 mv 2 (.i 0)]
def c161r1:List SI:=[
 ⟨none,.nop,(some 1),0⟩,
 ⟨none,.ldR 4 1 0 none,none,0⟩,
 ⟨none,.call 5 184 [(.t 4)],none,0⟩,
 ⟨none,.un 6 .not (.t 5),none,0⟩,
 ⟨none,.mv 7 (.t 6),none,0⟩,
 F_ 7 1,
 X_ 7 (.ldR 9 1 4 none) 9,
 X_ 7 (.call 10 184 [(.t 9)]) 10,
 X_ 7 (.un 11 .not (.t 10)) 11,
 ⟨none,.pick 12 (.t 7) (.b true) (.t 11),none,0⟩,
 ⟨none,.mv 13 (.t 12),none,0⟩,
 F_ 13 1,
 X_ 13 (.ldR 15 1 1 none) 15,
 X_ 13 (.len 16 true (.t 15)) 16,
 X_ 13 (.bin 17 .gtr (.t 16) (.i 64)) 17,
 ⟨none,.pick 18 (.t 13) (.b true) (.t 17),none,0⟩,
 ⟨none,.mv 19 (.t 18),none,0⟩,
 F_ 19 1,
 X_ 19 (.ldR 21 1 2 none) 21,
 X_ 19 (.len 22 true (.t 21)) 22,
 X_ 19 (.bin 23 .gtr (.t 22) (.i 64)) 23,
 ⟨none,.pick 24 (.t 19) (.b true) (.t 23),none,0⟩,
 ⟨none,.mv 25 (.t 24),none,0⟩,
 F_ 25 1,
 X_ 25 (.ldR 27 1 3 none) 27,
 X_ 25 (.mv 28 (.t 27)) 28,
 T_ 28 1,
 Y_ 28 (.ldR 30 1 1 none) 30,
 Y_ 28 (.bin 31 .eql (.t 30) (.v (.string ⟨#[]⟩))) 31,
 Y_ 28 (.mv 32 (.t 31)) 32,
 F_ 32 1,
 X_ 32 (.ldR 34 1 2 none) 34,
 X_ 32 (.bin 35 .neq (.t 34) (.v (.string ⟨#[]⟩))) 35,
 Y_ 28 (.pick 36 (.t 32) (.b true) (.t 35)) 36,
 X_ 25 (.pick 37 (.t 28) (.t 36) (.b false)) 37,
 ⟨none,.pick 38 (.t 25) (.b true) (.t 37),none,0⟩]
def c161r2:List SI:=[
 mv 2 (.i 1)]
def c161r3:List SI:=[
 mv 2 (.i 0)]
def c161:SC :=
 (.seq (.reg false c161r0)
 (.seq (.seq (.reg false c161r1)
 (.cond (.t 38)
  (.seq (.reg false c161r2)
  .ret)
  .skip))
 (.seq (.reg false c161r3)
 .ret)))
def v161:List Nat × List Nat:=([1],[1,3,8,14,20,26,29,33])
def o161:List RS:=[.t 2]
theorem s161:slimC Tryz.prog Tryz.f161.ntmps v161.1 v161.2 ((Tryz.f161.body).getD .skip)=some c161:=by kernel_rfl
theorem q161:slimR Tryz.prog Tryz.f161.ntmps v161.1 v161.2 Tryz.f161.results.toList=some o161:=by kernel_rfl
def c162r0:List SI:=[
 mv 4 (.v (.slice none 0 0))]
def c162r1:List SI:=[
 mv 7 (.t 1),
 cvI 8 .u64 (.t 7),
 bin 9 .mul (.v (.int .u64 2)) (.t 8),
 mv 5 (.t 9)]
def c162r2:List SI:=[
 mv 10 (.t 1),
 bin 11 .lss (.t 10) (.i 0)]
def c162r3:List SI:=[
 mv 12 (.t 1),
 bin 13 .add (.t 12) (.i 1),
 un 14 .neg (.t 13),
 cvI 15 .u64 (.t 14),
 bin 16 .mul (.v (.int .u64 2)) (.t 15),
 bin 17 .add (.t 16) (.v (.int .u64 1)),
 mv 5 (.t 17)]
def c162r4:List SI:=[
 mv 18 (.t 0),
 call 19 176 [(.t 18)],
 mv 6 (.t 19)]
def c162r5:List SI:=[
 mv 20 (.t 5),
 bin 21 .geq (.t 20) (.v (.int .u64 128))]
def c162r6:List SI:=[
 mv 22 (.t 6),
 mv 23 (.t 5),
 bin 24 .rem (.t 23) (.v (.int .u64 128)),
 bin 25 .add (.v (.int .u64 128)) (.t 24),
 cvI 26 .u8 (.t 25),
 bls 27 5 1 1 [(.int .u8 0)] [(0,1,(.t 26))],
 app 28 (.t 22) (.t 27) 5 1 1,
 mv 6 (.t 28)]
def c162r7:List SI:=[
 mv 29 (.t 5),
 bin 30 .quo (.t 29) (.v (.int .u64 128)),
 mv 5 (.t 30)]
def c162r8:List SI:=[
 mv 31 (.t 6),
 mv 32 (.t 5),
 cvI 33 .u8 (.t 32),
 bls 34 5 1 1 [(.int .u8 0)] [(0,1,(.t 33))],
 app 35 (.t 31) (.t 34) 5 1 1,
 mv 4 (.t 35)]
def c162:SC :=
 (.seq (.reg false c162r0)
 (.seq (.reg false c162r1)
 (.seq (.seq (.reg false c162r2)
 (.cond (.t 11)
  (.reg false c162r3)
  .skip))
 (.seq (.reg false c162r4)
 (.seq (.blk 0 (.loop (.seq (.seq (.reg false c162r5)
   (.cond (.t 21)
    .skip
    (.exit 0)))
   (.blk 1 (.seq (.reg false c162r6)
    (.reg false c162r7))))))
 (.seq (.reg false c162r8)
 .ret))))))
def v162:List Nat × List Nat:=([],[])
def o162:List RS:=[.t 4]
theorem s162:slimC Tryz.prog Tryz.f162.ntmps v162.1 v162.2 ((Tryz.f162.body).getD .skip)=some c162:=by kernel_rfl
theorem q162:slimR Tryz.prog Tryz.f162.ntmps v162.1 v162.2 Tryz.f162.results.toList=some o162:=by kernel_rfl
def c163r0:List SI:=[
 bxR 3 (.t 0),
 mv 6 (.v (.slice none 0 0)),
 mv 7 (.i 0)]
def c163r1:List SI:=[
 ldR 10 3 0 (some 5),
 call 11 161 [(.t 10)],
 mv 8 (.t 11)]
def c163r2:List SI:=[
 mv 12 (.t 8),
 bin 13 .neq (.t 12) (.i 0)]
def c163r3:List SI:=[
 mv 14 (.t 8),
 mv 6 (.v (.slice none 0 0)),
 mv 7 (.t 14)]
def c163r4:List SI:=[
 ⟨none,.mv 15 (.t 1),none,0⟩,
 ⟨none,.call 16 184 [(.t 15)],none,0⟩,
 ⟨none,.un 17 .not (.t 16),none,0⟩,
 ⟨none,.mv 18 (.t 17),none,0⟩,
 X_ 18 (.mv 19 (.t 2)) 19,
 X_ 18 (.call 20 184 [(.t 19)]) 20,
 X_ 18 (.un 21 .not (.t 20)) 21,
 ⟨none,.pick 22 (.t 18) (.b true) (.t 21),none,0⟩]
def c163r5:List SI:=[
 mv 6 (.v (.slice none 0 0)),
 mv 7 (.i 1)]
def c163r6:List SI:=[
 ⟨none,.nop,(some 3),0⟩,
 ⟨none,.ldR 24 3 0 none,none,0⟩,
 ⟨none,.mv 25 (.t 1),none,0⟩,
 ⟨none,.bin 26 .sub (.t 24) (.t 25),none,0⟩,
 ⟨none,.call 27 162 [(.v (.slice none 0 0)),(.t 26)],none,0⟩,
 ⟨none,.mv 9 (.t 27),none,0⟩]
def c163r7:List SI:=[
 ⟨none,.mv 28 (.t 9),none,0⟩,
 ⟨none,.nop,(some 3),0⟩,
 ⟨none,.ldR 30 3 4 none,none,0⟩,
 ⟨none,.mv 31 (.t 2),none,0⟩,
 ⟨none,.bin 32 .sub (.t 30) (.t 31),none,0⟩,
 ⟨none,.call 33 162 [(.t 28),(.t 32)],none,0⟩,
 ⟨none,.mv 9 (.t 33),none,0⟩]
def c163r8:List SI:=[
 ⟨none,.nop,(some 3),0⟩,
 ⟨none,.ldR 35 3 3 none,none,0⟩]
def c163r9:List SI:=[
 mv 36 (.t 9),
 bls 37 5 1 1 [(.int .u8 0)] [(0,1,(.v (.int .u8 1)))],
 app 38 (.t 36) (.t 37) 5 1 1,
 mv 9 (.t 38)]
def c163r10:List SI:=[
 mv 39 (.t 9),
 bls 40 5 1 1 [(.int .u8 0)] [(0,1,(.v (.int .u8 0)))],
 app 41 (.t 39) (.t 40) 5 1 1,
 mv 9 (.t 41)]
def c163r11:List SI:=[
 ⟨none,.mv 42 (.t 9),none,0⟩,
 ⟨none,.nop,(some 3),0⟩,
 ⟨none,.ldR 44 3 1 none,none,0⟩,
 ⟨none,.call 45 185 [(.t 42),(.t 44)],none,0⟩,
 ⟨none,.mv 9 (.t 45),none,0⟩]
def c163r12:List SI:=[
 ⟨none,.mv 46 (.t 9),none,0⟩,
 ⟨none,.nop,(some 3),0⟩,
 ⟨none,.ldR 48 3 2 none,none,0⟩,
 ⟨none,.call 49 185 [(.t 46),(.t 48)],none,0⟩,
 ⟨none,.mv 6 (.t 49),none,0⟩,
 ⟨none,.mv 7 (.i 0),none,0⟩]
def c163:SC :=
 (.seq (.reg false c163r0)
 (.seq (.reg false c163r1)
 (.seq (.seq (.reg false c163r2)
 (.cond (.t 13)
  (.seq (.reg false c163r3)
  .ret)
  .skip))
 (.seq (.seq (.reg false c163r4)
 (.cond (.t 22)
  (.seq (.reg false c163r5)
  .ret)
  .skip))
 (.seq (.reg false c163r6)
 (.seq (.reg false c163r7)
 (.seq (.seq (.reg false c163r8)
 (.cond (.t 35)
  (.reg false c163r9)
  (.reg false c163r10)))
 (.seq (.reg false c163r11)
 (.seq (.reg false c163r12)
 .ret)))))))))
def v163:List Nat × List Nat:=([3],[3,23,29,34,43,47])
def o163:List RS:=[.t 6,.t 7]
theorem s163:slimC Tryz.prog Tryz.f163.ntmps v163.1 v163.2 ((Tryz.f163.body).getD .skip)=some c163:=by kernel_rfl
theorem q163:slimR Tryz.prog Tryz.f163.ntmps v163.1 v163.2 Tryz.f163.results.toList=some o163:=by kernel_rfl
def c167r0:List SI:=[
 bx 2 (.t 0),
 bx 3 (.t 1),
 alR 4 [(.int .i64 0),(.int .i64 0),(.slice none 0 0)],
 mv 5 (.i 0)]
def c167r1:List SI:=[
 ld 6 (.t 2) (some 3),
 ld 7 (.t 3) none,
 mkf 8 (.func 189) [(.t 2),(.t 3)],
 call 9 188 [(.t 6),(.t 7),(.t 8)],
 ext 10 (.t 9) 0,
 ext 11 (.t 9) 1,
 stR 4 0 3 (.t 10),
 mv 5 (.t 11)]
def c167:SC :=
 (.seq (.reg false c167r0)
 (.seq (.reg false c167r1)
 .ret))
def v167:List Nat × List Nat:=([4],[4])
def o167:List RS:=[.r 4 (some 3),.t 5]
def c168r0:List SI:=[
 mv 6 (.b false)]
def c168r1:List SI:=[
 mv 10 (.t 0),
 len 11 false (.t 10),
 mv 12 (.t 1),
 len 13 false (.t 12),
 bin 14 .neq (.t 11) (.t 13)]
def c168r2:List SI:=[
 mv 6 (.b false)]
def c168r3:List SI:=[
 mv 15 (.t 0),
 len 16 false (.t 15),
 mv 17 (.i 0)]
def c168r4:List SI:=[
 bin 18 .lss (.t 17) (.t 16)]
def c168r5:List SI:=[
 mv 19 (.t 17),
 ixA 20 (.t 15) (.t 17) 10,
 ld 21 (.t 20) (some 10),
 alR 8 [(.int .i64 0),(.int .i64 0),(.int .i64 0),(.int .i64 0),(.int .i64 0),(.int .i64 0),(.int .i64 0),(.bool false),(.int .i64 0),(.slice none 0 0)],
 mv 7 (.t 19),
 stR 8 0 10 (.t 21)]
def c168r6:List SI:=[
 mv 22 (.t 1),
 mv 23 (.t 7),
 ixA 24 (.t 22) (.t 23) 10,
 ld 25 (.t 24) (some 10),
 alR 9 [(.int .i64 0),(.int .i64 0),(.int .i64 0),(.int .i64 0),(.int .i64 0),(.int .i64 0),(.int .i64 0),(.bool false),(.int .i64 0),(.slice none 0 0)],
 stR 9 0 10 (.t 25)]
def c168r7:List SI:=[
 mv 26 (.t 2),
 ldR 27 8 0 (some 10),
 ldR 28 9 0 (some 10),
 cav 29 (.t 26) [(.t 27),(.t 28)],
 un 30 .not (.t 29)]
def c168r8:List SI:=[
 mv 6 (.b false)]
def c168r9:List SI:=[
 bin 31 .add (.t 17) (.i 1),
 mv 17 (.t 31)]
def c168r10:List SI:=[
 mv 6 (.b true)]
def c168:SC :=
 (.seq (.reg false c168r0)
 (.seq (.seq (.reg false c168r1)
 (.cond (.t 14)
  (.seq (.reg false c168r2)
  .ret)
  .skip))
 (.seq (.seq (.reg false c168r3)
 (.blk 0 (.loop (.seq (.reg false c168r4)
   (.seq (.cond (.t 18)
    .skip
    (.exit 0))
   (.seq (.blk 1 (.seq (.reg false c168r5)
    (.seq (.reg false c168r6)
    (.seq (.reg false c168r7)
    (.cond (.t 30)
     (.seq (.reg false c168r8)
     .ret)
     .skip)))))
   (.reg false c168r9)))))))
 (.seq (.reg false c168r10)
 .ret))))
def v168:List Nat × List Nat:=([8,9],[8,9])
def o168:List RS:=[.t 6]
def c169r0:List SI:=[
 bxR 2 (.t 0),
 bxR 3 (.t 1),
 mv 4 (.b false)]
def c169r1:List SI:=[
 ⟨none,.nop,(some 2),0⟩,
 ⟨none,.ldR 7 2 9 none,none,0⟩,
 ⟨none,.nop,(some 3),0⟩,
 ⟨none,.ldR 9 3 9 none,none,0⟩,
 ⟨none,.call 10 191 [(.t 7),(.t 9)],none,0⟩,
 ⟨none,.un 11 .not (.t 10),none,0⟩]
def c169r2:List SI:=[
 mv 4 (.b false)]
def c169r3:List SI:=[
 mv 5 (.v (.func (.func 192) #[] #[]))]
def c169r4:List (Bool × SI):=[
 (true,N_ (.mv 12 (.t 5))),
 (true,N_ (.ldR 13 2 0 (some 10))),
 (true,N_ (.mv 15 (.t 5))),
 (true,N_ (.ldR 16 3 0 (some 10))),
 (false,N_ (.cav 14 (.t 12) [(.t 13)])),
 (false,N_ (.cav 17 (.t 15) [(.t 16)])),
 (true,N_ (.eqf 18 false [0,0,0,0,0,0,0,0,0] (.t 14) (.t 17))),
 (true,N_ (.mv 4 (.t 18)))]
def c169:SC :=
 (.seq (.reg false c169r0)
 (.seq (.seq (.reg false c169r1)
 (.cond (.t 11)
  (.seq (.reg false c169r2)
  .ret)
  .skip))
 (.seq (.reg false c169r3)
 (.seq (.rgX c169r4)
 .ret))))
def v169:List Nat × List Nat:=([2,3],[2,3,6,8])
def o169:List RS:=[.t 4]
def c170r0:List SI:=[
 mv 2 (.b false)]
def c170r1:List SI:=[
 mv 3 (.t 0),
 mv 4 (.t 0),
 bin 5 .neq (.t 3) (.t 4),
 mv 2 (.t 5)]
def c170:SC :=
 (.seq (.reg false c170r0)
 (.seq (.reg false c170r1)
 .ret))
def v170:List Nat × List Nat:=([],[])
def o170:List RS:=[.t 2]
def c172r0:List SI:=[
 bxR 2 (.t 0),
 alR 4 [(.int .i64 0),(.slice none 0 0)]]
def c172r1:List (Bool × SI):=[
 (true,⟨none,.nop,(some 2),0⟩),
 (true,N_ (.ldR 6 2 0 none)),
 (true,⟨none,.nop,(some 2),0⟩),
 (true,N_ (.ldR 8 2 1 none)),
 (true,N_ (.mv 9 (.t 1))),
 (true,N_ (.sl 10 (.t 8) none (some (.t 9)) none 1)),
 (false,N_ (.call 11 194 [(.t 10)])),
 (true,N_ (.bld 12 [(.int .i64 0),(.slice none 0 0)] [(0,1,(.t 6)),(1,1,(.t 11))]))]
def c172r2:List SI:=[
 stR 4 0 2 (.t 12)]
def c172:SC :=
 (.seq (.reg false c172r0)
 (.seq (.rgY c172r1 c172r2)
 .ret))
def v172:List Nat × List Nat:=([2,4],[2,4,5,7])
def o172:List RS:=[.r 4 (some 2)]
def c176r0:List SI:=[
 mv 2 (.v (.slice none 0 0))]
def c176r1:List SI:=[
 mv 3 (.t 0),
 app 4 (.v (.slice none 0 0)) (.t 3) 5 1 1,
 mv 2 (.t 4)]
def c176:SC :=
 (.seq (.reg false c176r0)
 (.seq (.reg false c176r1)
 .ret))
def v176:List Nat × List Nat:=([],[])
def o176:List RS:=[.t 2]
theorem s176:slimC Tryz.prog Tryz.f176.ntmps v176.1 v176.2 ((Tryz.f176.body).getD .skip)=some c176:=by kernel_rfl
theorem q176:slimR Tryz.prog Tryz.f176.ntmps v176.1 v176.2 Tryz.f176.results.toList=some o176:=by kernel_rfl
def c177r0:List SI:=[
 flA 8 (.t 1) 0,
 ld 9 (.t 8) none,
 mv 3 (.i 0),
 mv 4 (.t 9)]
def c177r1:List SI:=[
 flA 11 (.t 1) 1,
 ld 12 (.t 11) none,
 mv 13 (.t 3),
 call 14 178 [(.t 12),(.t 13)],
 mv 10 (.t 14),
 ext 15 (.t 10) 0,
 ext 16 (.t 10) 1,
 ext 17 (.t 10) 2,
 alR 5 [(.int .i64 0),(.int .i64 0),(.int .i64 0),(.int .i64 0),(.int .i64 0),(.int .i64 0),(.int .i64 0),(.bool false),(.int .i64 0),(.slice none 0 0)],
 stR 5 0 10 (.t 15),
 mv 6 (.t 16),
 mv 7 (.t 17)]
def c177r2:List SI:=[
 ⟨none,.mv 18 (.t 7),none,0⟩,
 ⟨none,.bin 19 .neq (.t 18) (.i 0),none,0⟩,
 ⟨none,.mv 20 (.t 19),none,0⟩,
 F_ 20 5,
 X_ 20 (.ldR 22 5 0 none) 22,
 X_ 20 (.mv 23 (.t 4)) 23,
 X_ 20 (.bin 24 .lss (.t 22) (.t 23)) 24,
 ⟨none,.pick 25 (.t 20) (.b true) (.t 24),none,0⟩,
 ⟨none,.mv 26 (.t 25),none,0⟩,
 X_ 26 (.mv 27 (.t 0)) 27,
 X_ 26 (.ldR 28 5 0 (some 10)) 28,
 X_ 26 (.mv 29 (.t 6)) 29,
 X_ 26 (.cav 30 (.t 27) [(.t 28),(.t 29)]) 30,
 X_ 26 (.un 31 .not (.t 30)) 31,
 ⟨none,.pick 32 (.t 26) (.b true) (.t 31),none,0⟩]
def c177r3:List SI:=[
 ⟨none,.mv 33 (.t 6),none,0⟩,
 ⟨none,.nop,(some 5),0⟩,
 ⟨none,.ldR 35 5 1 none,none,0⟩,
 ⟨none,.bin 36 .add (.t 35) (.i 1),none,0⟩,
 ⟨none,.mv 3 (.t 33),none,0⟩,
 ⟨none,.mv 4 (.t 36),none,0⟩]
def c177:SC :=
 (.seq (.reg true c177r0)
 (.blk 0 (.loop (.blk 1 (.seq (.reg false c177r1)
    (.seq (.seq (.reg false c177r2)
    (.cond (.t 32)
     .ret
     .skip))
    (.reg true c177r3)))))))
def v177:List Nat × List Nat:=([5],[5,21,34])
def o177:List RS:=[]
def c178r0:List SI:=[
 alR 4 [(.int .i64 0),(.int .i64 0),(.int .i64 0),(.int .i64 0),(.int .i64 0),(.int .i64 0),(.int .i64 0),(.bool false),(.int .i64 0),(.slice none 0 0)],
 mv 5 (.i 0),
 mv 6 (.i 0)]
def c178r1:List SI:=[
 mv 12 (.t 0),
 mv 13 (.t 1),
 call 14 196 [(.t 12),(.t 13),(.i 4)],
 mv 11 (.t 14),
 ext 15 (.t 11) 0,
 ext 16 (.t 11) 1,
 mv 7 (.t 15),
 mv 6 (.t 16)]
def c178r2:List SI:=[
 mv 17 (.t 6),
 bin 18 .neq (.t 17) (.i 0)]
def c178r3:List SI:=[
 bld 19 [(.int .i64 0),(.int .i64 0),(.int .i64 0),(.int .i64 0),(.int .i64 0),(.int .i64 0),(.int .i64 0),(.bool false),(.int .i64 0),(.slice none 0 0)] [],
 mv 20 (.t 6),
 stR 4 0 10 (.t 19),
 mv 5 (.i 0),
 mv 6 (.t 20)]
def c178r4:List SI:=[
 ⟨none,.mv 21 (.t 7),none,0⟩,
 ⟨none,.bin 22 .lss (.t 21) (.v (.int .u64 5)),none,0⟩,
 ⟨none,.mv 23 (.t 22),none,0⟩,
 X_ 23 (.mv 24 (.t 7)) 24,
 X_ 23 (.bin 25 .gtr (.t 24) (.v (.int .u64 2044))) 25,
 ⟨none,.pick 26 (.t 23) (.b true) (.t 25),none,0⟩]
def c178r5:List SI:=[
 bld 27 [(.int .i64 0),(.int .i64 0),(.int .i64 0),(.int .i64 0),(.int .i64 0),(.int .i64 0),(.int .i64 0),(.bool false),(.int .i64 0),(.slice none 0 0)] [],
 stR 4 0 10 (.t 27),
 mv 5 (.i 0),
 mv 6 (.i 11)]
def c178r6:List SI:=[
 mv 28 (.t 0),
 mv 29 (.t 1),
 bin 30 .add (.t 29) (.i 4),
 sl 31 (.t 28) (some (.t 30)) none none 1,
 mv 8 (.t 31)]
def c178r7:List SI:=[
 mv 32 (.t 8),
 len 33 false (.t 32),
 cvI 34 .u64 (.t 33),
 mv 35 (.t 7),
 bin 36 .lss (.t 34) (.t 35)]
def c178r8:List SI:=[
 bld 37 [(.int .i64 0),(.int .i64 0),(.int .i64 0),(.int .i64 0),(.int .i64 0),(.int .i64 0),(.int .i64 0),(.bool false),(.int .i64 0),(.slice none 0 0)] [],
 stR 4 0 10 (.t 37),
 mv 5 (.i 0),
 mv 6 (.i 10)]
def c178r9:List SI:=[
 mv 39 (.t 8),
 mv 40 (.t 7),
 sl 41 (.t 39) none (some (.t 40)) none 1,
 call 42 197 [(.t 41)],
 mv 38 (.t 42),
 ext 43 (.t 38) 0,
 ext 44 (.t 38) 1,
 mv 9 (.t 43),
 mv 6 (.t 44)]
def c178r10:List SI:=[
 mv 45 (.t 6),
 bin 46 .neq (.t 45) (.i 0)]
def c178r11:List SI:=[
 bld 47 [(.int .i64 0),(.int .i64 0),(.int .i64 0),(.int .i64 0),(.int .i64 0),(.int .i64 0),(.int .i64 0),(.bool false),(.int .i64 0),(.slice none 0 0)] [],
 mv 48 (.t 6),
 stR 4 0 10 (.t 47),
 mv 5 (.i 0),
 mv 6 (.t 48)]
def c178r12:List SI:=[
 mv 50 (.t 9),
 call 51 198 [(.t 50)],
 mv 49 (.t 51),
 ext 52 (.t 49) 0,
 ext 53 (.t 49) 1,
 stR 4 0 10 (.t 52),
 mv 10 (.t 53)]
def c178r13:List SI:=[
 ⟨none,.mv 54 (.t 10),none,0⟩,
 ⟨none,.un 55 .not (.t 54),none,0⟩,
 ⟨none,.mv 56 (.t 55),none,0⟩,
 X_ 56 (.ldR 57 4 0 (some 10)) 57,
 X_ 56 (.call 58 118 [(.t 57)]) 58,
 X_ 56 (.bin 59 .neq (.t 58) (.i 0)) 59,
 ⟨none,.pick 60 (.t 56) (.b true) (.t 59),none,0⟩]
def c178r14:List SI:=[
 bld 61 [(.int .i64 0),(.int .i64 0),(.int .i64 0),(.int .i64 0),(.int .i64 0),(.int .i64 0),(.int .i64 0),(.bool false),(.int .i64 0),(.slice none 0 0)] [],
 stR 4 0 10 (.t 61),
 mv 5 (.i 0),
 mv 6 (.i 11)]
def c178r15:List SI:=[
 ldR 62 4 0 (some 10),
 mv 63 (.t 1),
 bin 64 .add (.t 63) (.i 4),
 mv 65 (.t 7),
 cvI 66 .i64 (.t 65),
 bin 67 .add (.t 64) (.t 66),
 stR 4 0 10 (.t 62),
 mv 5 (.t 67),
 mv 6 (.i 0)]
def c178:SC :=
 (.seq (.reg false c178r0)
 (.seq (.reg false c178r1)
 (.seq (.seq (.reg false c178r2)
 (.cond (.t 18)
  (.seq (.reg false c178r3)
  .ret)
  .skip))
 (.seq (.seq (.reg false c178r4)
 (.cond (.t 26)
  (.seq (.reg false c178r5)
  .ret)
  .skip))
 (.seq (.reg false c178r6)
 (.seq (.seq (.reg false c178r7)
 (.cond (.t 36)
  (.seq (.reg false c178r8)
  .ret)
  .skip))
 (.seq (.reg false c178r9)
 (.seq (.seq (.reg false c178r10)
 (.cond (.t 46)
  (.seq (.reg false c178r11)
  .ret)
  .skip))
 (.seq (.reg false c178r12)
 (.seq (.seq (.reg false c178r13)
 (.cond (.t 60)
  (.seq (.reg false c178r14)
  .ret)
  .skip))
 (.seq (.reg false c178r15)
 .ret)))))))))))
def v178:List Nat × List Nat:=([4],[4])
def o178:List RS:=[.r 4 (some 10),.t 5,.t 6]
def c179r0:List SI:=[
 bxR 1 (.t 0),
 mv 2 (.b false)]
def c179r1:List SI:=[
 ⟨none,.nop,(some 1),0⟩,
 ⟨none,.ldR 8 1 0 none,none,0⟩,
 ⟨none,.nop,(some 1),0⟩,
 ⟨none,.ldR 10 1 1 none,none,0⟩,
 ⟨none,.nop,(some 1),0⟩,
 ⟨none,.ldR 12 1 2 none,none,0⟩,
 ⟨none,.bls 13 3 3 1 [(.int .i64 0),(.int .i64 0),(.int .i64 0)] [(0,1,(.t 8)),(1,1,(.t 10)),(2,1,(.t 12))],none,0⟩,
 ⟨none,.call 14 117 [(.i 1099511627776),(.t 13)],none,0⟩,
 ⟨none,.un 15 .not (.t 14),none,0⟩,
 ⟨none,.mv 16 (.t 15),none,0⟩,
 F_ 16 1,
 X_ 16 (.ldR 18 1 3 none) 18,
 F_ 16 1,
 X_ 16 (.ldR 20 1 5 none) 20,
 F_ 16 1,
 X_ 16 (.ldR 22 1 6 none) 22,
 X_ 16 (.bls 23 3 3 1 [(.int .i64 0),(.int .i64 0),(.int .i64 0)] [(0,1,(.t 18)),(1,1,(.t 20)),(2,1,(.t 22))]) 23,
 X_ 16 (.call 24 117 [(.i 1048576),(.t 23)]) 24,
 X_ 16 (.un 25 .not (.t 24)) 25,
 ⟨none,.pick 26 (.t 16) (.b true) (.t 25),none,0⟩]
def c179r2:List SI:=[
 mv 2 (.b false)]
def c179r3:List SI:=[
 ⟨none,.nop,(some 1),0⟩,
 ⟨none,.ldR 28 1 1 none,none,0⟩,
 ⟨none,.nop,(some 1),0⟩,
 ⟨none,.ldR 30 1 0 none,none,0⟩,
 ⟨none,.bin 31 .sub (.t 28) (.t 30),none,0⟩,
 ⟨none,.mv 3 (.t 31),none,0⟩]
def c179r4:List SI:=[
 ⟨none,.mv 33 (.t 3),none,0⟩,
 ⟨none,.bin 34 .lss (.t 33) (.i 0),none,0⟩,
 ⟨none,.mv 35 (.t 34),none,0⟩,
 X_ 35 (.mv 36 (.t 3)) 36,
 X_ 35 (.bin 37 .geq (.t 36) (.i 16)) 37,
 ⟨none,.pick 38 (.t 35) (.b true) (.t 37),none,0⟩,
 ⟨none,.mv 39 (.t 38),none,0⟩,
 F_ 39 1,
 X_ 39 (.ldR 41 1 2 none) 41,
 X_ 39 (.mv 42 (.t 3)) 42,
 X_ 39 (.bin 43 .add (.t 41) (.t 42)) 43,
 X_ 39 (.bin 44 .gtr (.t 43) (.i 1099511627776)) 44,
 ⟨none,.pick 45 (.t 39) (.b true) (.t 44),none,0⟩,
 ⟨none,.mv 46 (.t 45),none,0⟩,
 F_ 46 1,
 X_ 46 (.ldR 48 1 6 none) 48,
 X_ 46 (.mv 49 (.t 3)) 49,
 X_ 46 (.bin 50 .add (.t 48) (.t 49)) 50,
 X_ 46 (.bin 51 .gtr (.t 50) (.i 1048576)) 51,
 ⟨none,.pick 52 (.t 46) (.b true) (.t 51),none,0⟩,
 ⟨none,.mv 32 (.t 52),none,0⟩]
def c179r5:List SI:=[
 mv 2 (.b false)]
def c179r6:List SI:=[
 ⟨none,.nop,(some 1),0⟩,
 ⟨none,.ldR 55 1 4 none,none,0⟩,
 ⟨none,.bin 56 .lss (.t 55) (.i (-1)),none,0⟩,
 ⟨none,.mv 57 (.t 56),none,0⟩,
 F_ 57 1,
 X_ 57 (.ldR 59 1 4 none) 59,
 X_ 57 (.bin 60 .gtr (.t 59) (.i 1099511627776)) 60,
 ⟨none,.pick 61 (.t 57) (.b true) (.t 60),none,0⟩,
 ⟨none,.mv 53 (.t 61),none,0⟩]
def c179r7:List SI:=[
 mv 2 (.b false)]
def c179r8:List SI:=[
 ⟨none,.nop,(some 1),0⟩,
 ⟨none,.ldR 64 1 4 none,none,0⟩,
 ⟨none,.bin 65 .eql (.t 64) (.i (-1)),none,0⟩,
 ⟨none,.mv 66 (.t 65),none,0⟩,
 T_ 66 1,
 Y_ 66 (.ldR 68 1 5 none) 68,
 T_ 66 1,
 Y_ 66 (.ldR 70 1 6 none) 70,
 Y_ 66 (.bin 71 .add (.t 68) (.t 70)) 71,
 Y_ 66 (.bin 72 .neq (.t 71) (.i 0)) 72,
 Y_ 66 (.mv 73 (.t 72)) 73,
 F_ 73 1,
 X_ 73 (.ldR 75 1 7 none) 75,
 Y_ 66 (.pick 76 (.t 73) (.b true) (.t 75)) 76,
 Y_ 66 (.mv 77 (.t 76)) 77,
 F_ 77 1,
 X_ 77 (.ldR 79 1 8 none) 79,
 X_ 77 (.bin 80 .neq (.t 79) (.i 0)) 80,
 Y_ 66 (.pick 81 (.t 77) (.b true) (.t 80)) 81,
 ⟨none,.pick 82 (.t 66) (.t 81) (.b false),none,0⟩,
 ⟨none,.mv 62 (.t 82),none,0⟩]
def c179r9:List SI:=[
 mv 2 (.b false)]
def c179r10:List SI:=[
 ⟨none,.nop,(some 1),0⟩,
 ⟨none,.ldR 84 1 8 none,none,0⟩]
def c179r11:List SI:=[
 bin 86 .eql (.t 84) (.i 0),
 mv 85 (.t 86)]
def c179r12:List SI:=[
 ⟨none,.nop,(some 1),0⟩,
 ⟨none,.ldR 88 1 0 none,none,0⟩,
 ⟨none,.mv 4 (.t 88),none,0⟩]
def c179r13:List SI:=[
 ⟨none,.nop,(some 1),0⟩,
 ⟨none,.ldR 90 1 9 none,none,0⟩,
 ⟨none,.len 91 false (.t 90),none,0⟩,
 ⟨none,.mv 92 (.i 0),none,0⟩]
def c179r14:List SI:=[
 bin 93 .lss (.t 92) (.t 91)]
def c179r15:List SI:=[
 ixA 94 (.t 90) (.t 92) 5,
 ld 95 (.t 94) (some 5),
 alR 6 [(.int .i64 0),(.string ⟨#[]⟩),(.string ⟨#[]⟩),(.bool false),(.int .i64 0)],
 stR 6 0 5 (.t 95)]
def c179r16:List SI:=[
 ⟨none,.ldR 96 6 0 (some 5),none,0⟩,
 ⟨none,.call 97 199 [(.t 96)],none,0⟩,
 ⟨none,.bin 98 .neq (.t 97) (.i 0),none,0⟩,
 ⟨none,.mv 99 (.t 98),none,0⟩,
 F_ 99 6,
 X_ 99 (.ldR 101 6 0 none) 101,
 X_ 99 (.mv 102 (.t 4)) 102,
 X_ 99 (.bin 103 .lss (.t 101) (.t 102)) 103,
 ⟨none,.pick 104 (.t 99) (.b true) (.t 103),none,0⟩,
 ⟨none,.mv 105 (.t 104),none,0⟩,
 F_ 105 6,
 X_ 105 (.ldR 107 6 0 none) 107,
 F_ 105 1,
 X_ 105 (.ldR 109 1 1 none) 109,
 X_ 105 (.bin 110 .gtr (.t 107) (.t 109)) 110,
 ⟨none,.pick 111 (.t 105) (.b true) (.t 110),none,0⟩]
def c179r17:List SI:=[
 mv 2 (.b false)]
def c179r18:List SI:=[
 ⟨none,.nop,(some 6),0⟩,
 ⟨none,.ldR 113 6 0 none,none,0⟩,
 ⟨none,.bin 114 .add (.t 113) (.i 1),none,0⟩,
 ⟨none,.mv 4 (.t 114),none,0⟩]
def c179r19:List SI:=[
 bin 115 .add (.t 92) (.i 1),
 mv 92 (.t 115)]
def c179r20:List SI:=[
 mv 2 (.b true)]
def c179r21:List SI:=[
 bin 117 .eql (.t 84) (.i 1),
 mv 116 (.t 117)]
def c179r22:List SI:=[
 bin 118 .eql (.t 84) (.i 2),
 mv 116 (.t 118)]
def c179r23:List SI:=[
 ⟨none,.mv 119 (.t 3),none,0⟩,
 ⟨none,.bin 120 .eql (.t 119) (.i 0),none,0⟩,
 ⟨none,.mv 121 (.t 120),none,0⟩,
 T_ 121 1,
 Y_ 121 (.ldR 123 1 9 none) 123,
 Y_ 121 (.len 124 false (.t 123)) 124,
 Y_ 121 (.bin 125 .eql (.t 124) (.i 0)) 125,
 ⟨none,.pick 126 (.t 121) (.t 125) (.b false),none,0⟩,
 ⟨none,.mv 127 (.t 126),none,0⟩,
 T_ 127 1,
 Y_ 127 (.ldR 129 1 7 none) 129,
 ⟨none,.pick 130 (.t 127) (.t 129) (.b false),none,0⟩,
 ⟨none,.mv 2 (.t 130),none,0⟩]
def c179r24:List SI:=[
 mv 2 (.b false)]
def c179:SC :=
 (.seq (.reg false c179r0)
 (.seq (.seq (.reg false c179r1)
 (.cond (.t 26)
  (.seq (.reg false c179r2)
  .ret)
  .skip))
 (.seq (.reg false c179r3)
 (.seq (.blk 0 (.seq (.reg false c179r4)
  (.cond (.t 32)
   (.seq (.reg false c179r5)
   .ret)
   (.seq (.reg false c179r6)
   (.cond (.t 53)
    (.seq (.reg false c179r7)
    .ret)
    (.seq (.reg false c179r8)
    (.cond (.t 62)
     (.seq (.reg false c179r9)
     .ret)
     .skip)))))))
 (.seq (.seq (.reg false c179r10)
 (.blk 1 (.seq (.reg false c179r11)
  (.cond (.t 85)
   (.seq (.reg false c179r12)
   (.seq (.seq (.reg false c179r13)
   (.blk 2 (.loop (.seq (.reg false c179r14)
     (.seq (.cond (.t 93)
      .skip
      (.exit 2))
     (.seq (.blk 3 (.seq (.reg false c179r15)
      (.seq (.seq (.reg false c179r16)
      (.cond (.t 111)
       (.seq (.reg false c179r17)
       .ret)
       .skip))
      (.reg false c179r18))))
     (.reg false c179r19)))))))
   (.seq (.reg false c179r20)
   .ret)))
   (.seq (.seq (.reg false c179r21)
   (.cond (.t 116)
    .skip
    (.reg false c179r22)))
   (.cond (.t 116)
    (.seq (.reg false c179r23)
    .ret)
    .skip))))))
 (.seq (.reg false c179r24)
 .ret))))))
def v179:List Nat × List Nat:=([1,6],[1,6,7,9,11,17,19,21,27,29,40,47,54,58,63,67,69,74,78,83,87,89,100,106,108,112,122,128])
def o179:List RS:=[.t 2]
theorem s179:slimC Tryz.prog Tryz.f179.ntmps v179.1 v179.2 ((Tryz.f179.body).getD .skip)=some c179:=by kernel_rfl
theorem q179:slimR Tryz.prog Tryz.f179.ntmps v179.1 v179.2 Tryz.f179.results.toList=some o179:=by kernel_rfl
def c180r0:List SI:=[
 bxR 1 (.t 0),
 mv 2 (.v (.slice none 0 0))]
def c180r1:List SI:=[
 mv 3 (.v (.slice none 0 0))]
def c180r2:List SI:=[
 ⟨none,.nop,(some 1),0⟩,
 ⟨none,.ldR 13 1 0 none,none,0⟩,
 ⟨none,.nop,(some 1),0⟩,
 ⟨none,.ldR 15 1 1 none,none,0⟩,
 ⟨none,.nop,(some 1),0⟩,
 ⟨none,.ldR 17 1 0 none,none,0⟩,
 ⟨none,.bin 18 .sub (.t 15) (.t 17),none,0⟩,
 ⟨none,.nop,(some 1),0⟩,
 ⟨none,.ldR 20 1 2 none,none,0⟩,
 ⟨none,.nop,(some 1),0⟩,
 ⟨none,.ldR 22 1 3 none,none,0⟩,
 ⟨none,.nop,(some 1),0⟩,
 ⟨none,.ldR 24 1 4 none,none,0⟩,
 ⟨none,.nop,(some 1),0⟩,
 ⟨none,.ldR 26 1 5 none,none,0⟩,
 ⟨none,.nop,(some 1),0⟩,
 ⟨none,.ldR 28 1 6 none,none,0⟩,
 ⟨none,.bld 29 [(.int .i64 0),(.int .i64 0),(.int .i64 0),(.int .i64 0),(.int .i64 0),(.int .i64 0),(.int .i64 0)] [(0,1,(.t 13)),(1,1,(.t 18)),(2,1,(.t 20)),(3,1,(.t 22)),(4,1,(.t 24)),(5,1,(.t 26)),(6,1,(.t 28))],none,0⟩,
 ⟨none,.mv 30 (.i 0),none,0⟩]
def c180r3:List SI:=[
 bin 31 .lss (.t 30) (.i 7)]
def c180r4:List SI:=[
 ixV 32 (.t 29) (.t 30) 7 1 none,
 mv 5 (.t 32)]
def c180r5:List SI:=[
 mv 33 (.t 3),
 mv 34 (.t 5),
 call 35 200 [(.t 33),(.t 34)],
 mv 3 (.t 35)]
def c180r6:List SI:=[
 bin 36 .add (.t 30) (.i 1),
 mv 30 (.t 36)]
def c180r7:List SI:=[
 ⟨none,.nop,(some 1),0⟩,
 ⟨none,.ldR 38 1 8 none,none,0⟩,
 ⟨none,.cvI 39 .u8 (.t 38),none,0⟩,
 ⟨none,.mv 6 (.t 39),none,0⟩]
def c180r8:List SI:=[
 ⟨none,.nop,(some 1),0⟩,
 ⟨none,.ldR 41 1 7 none,none,0⟩]
def c180r9:List SI:=[
 mv 42 (.t 6),
 bin 43 .or (.t 42) (.v (.int .u8 4)),
 mv 6 (.t 43)]
def c180r10:List (Bool × SI):=[
 (true,N_ (.mv 44 (.t 3))),
 (true,N_ (.mv 45 (.t 6))),
 (true,⟨none,.nop,(some 1),0⟩),
 (true,N_ (.ldR 49 1 9 none)),
 (true,N_ (.len 50 false (.t 49))),
 (false,N_ (.bls 46 5 1 1 [(.int .u8 0)] [(0,1,(.t 45))])),
 (false,N_ (.app 47 (.t 44) (.t 46) 5 1 1)),
 (false,N_ (.call 51 200 [(.t 47),(.t 50)])),
 (true,N_ (.mv 3 (.t 51)))]
def c180r11:List SI:=[
 ⟨none,.nop,(some 1),0⟩,
 ⟨none,.ldR 53 1 9 none,none,0⟩,
 ⟨none,.len 54 false (.t 53),none,0⟩,
 ⟨none,.bin 55 .gtr (.t 54) (.i 0),none,0⟩]
def c180r12:List SI:=[
 ⟨none,.nop,(some 1),0⟩,
 ⟨none,.ldR 57 1 9 none,none,0⟩,
 ⟨none,.ixA 58 (.t 57) (.i 0) 5,none,0⟩,
 ⟨none,.flA 59 (.t 58) 4,none,0⟩,
 ⟨none,.ld 60 (.t 59) none,none,0⟩,
 ⟨none,.mv 7 (.t 60),none,0⟩]
def c180r13:List SI:=[
 mv 61 (.t 3),
 mv 62 (.t 7),
 call 63 200 [(.t 61),(.t 62)],
 mv 3 (.t 63)]
def c180r14:List SI:=[
 ⟨none,.nop,(some 1),0⟩,
 ⟨none,.ldR 65 1 9 none,none,0⟩,
 ⟨none,.len 66 false (.t 65),none,0⟩,
 ⟨none,.mv 67 (.i 0),none,0⟩]
def c180r15:List SI:=[
 bin 68 .lss (.t 67) (.t 66)]
def c180r16:List SI:=[
 ixA 69 (.t 65) (.t 67) 5,
 ld 70 (.t 69) (some 5),
 alR 9 [(.int .i64 0),(.string ⟨#[]⟩),(.string ⟨#[]⟩),(.bool false),(.int .i64 0)],
 stR 9 0 5 (.t 70)]
def c180r17:List SI:=[
 ⟨none,.ldR 72 9 0 (some 5),none,0⟩,
 ⟨none,.nop,(some 1),0⟩,
 ⟨none,.ldR 74 1 0 none,none,0⟩,
 ⟨none,.mv 75 (.t 7),none,0⟩,
 ⟨none,.call 76 201 [(.t 72),(.t 74),(.t 75)],none,0⟩,
 ⟨none,.mv 71 (.t 76),none,0⟩,
 ⟨none,.ext 77 (.t 71) 0,none,0⟩,
 ⟨none,.ext 78 (.t 71) 1,none,0⟩,
 ⟨none,.mv 10 (.t 77),none,0⟩,
 ⟨none,.mv 11 (.t 78),none,0⟩]
def c180r18:List SI:=[
 mv 79 (.t 3),
 mv 80 (.t 10),
 app 81 (.t 79) (.t 80) 5 1 1,
 mv 3 (.t 81)]
def c180r19:List SI:=[
 bin 82 .add (.t 67) (.i 1),
 mv 67 (.t 82)]
def c180r20:List SI:=[
 mv 83 (.t 3),
 call 84 202 [(.t 83)],
 mv 3 (.t 84)]
def c180r21:List SI:=[
 mv 85 (.t 3),
 len 86 false (.t 85),
 cvI 87 .u64 (.t 86),
 call 88 203 [(.v (.slice none 0 0)),(.t 87),(.i 4)],
 mv 89 (.t 3),
 app 90 (.t 88) (.t 89) 5 1 1,
 mv 2 (.t 90)]
def c180:SC :=
 (.seq (.reg false c180r0)
 (.seq (.reg false c180r1)
 (.seq (.seq (.reg false c180r2)
 (.blk 0 (.loop (.seq (.reg false c180r3)
   (.seq (.cond (.t 31)
    .skip
    (.exit 0))
   (.seq (.blk 1 (.seq (.reg false c180r4)
    (.reg false c180r5)))
   (.reg false c180r6)))))))
 (.seq (.reg false c180r7)
 (.seq (.seq (.reg false c180r8)
 (.cond (.t 41)
  (.reg false c180r9)
  .skip))
 (.seq (.rgX c180r10)
 (.seq (.seq (.reg false c180r11)
 (.cond (.t 55)
  (.seq (.reg false c180r12)
  (.seq (.reg false c180r13)
  (.seq (.reg false c180r14)
  (.blk 2 (.loop (.seq (.reg false c180r15)
    (.seq (.cond (.t 68)
     .skip
     (.exit 2))
    (.seq (.blk 3 (.seq (.reg false c180r16)
     (.seq (.reg false c180r17)
     (.reg false c180r18))))
    (.reg false c180r19)))))))))
  .skip))
 (.seq (.reg false c180r20)
 (.seq (.reg false c180r21)
 .ret)))))))))
def v180:List Nat × List Nat:=([1,9],[1,9,12,14,16,19,21,23,25,27,37,40,48,52,56,64,73])
def o180:List RS:=[.t 2]
theorem s180:slimC Tryz.prog Tryz.f180.ntmps v180.1 v180.2 ((Tryz.f180.body).getD .skip)=some c180:=by kernel_rfl
theorem q180:slimR Tryz.prog Tryz.f180.ntmps v180.1 v180.2 Tryz.f180.results.toList=some o180:=by kernel_rfl
def c181r0:List SI:=[
 mv 4 (.v (.slice none 0 0))]
def c181r1:List SI:=[
 mv 5 (.t 1),
 bin 6 .lss (.t 5) (.i 0)]
def c181r2:List SI:=[
 mv 8 (.t 1),
 mv 9 (.t 0),
 cpc 10 (.t 9),
 mv 11 (.t 0),
 len 12 false (.t 11),
 bin 13 .sub (.t 10) (.t 12),
 bin 14 .sub (.t 8) (.t 13),
 mv 1 (.t 14)]
def c181r3:List SI:=[
 mv 15 (.t 1),
 bin 16 .gtr (.t 15) (.i 0)]
def c181r4:List SI:=[
 mv 17 (.t 0),
 mv 18 (.t 0),
 cpc 19 (.t 18),
 sl 20 (.t 17) none (some (.t 19)) none 1,
 mv 21 (.t 1),
 apz 22 5 1 1 (.t 20) (.t 21),
 mv 23 (.t 0),
 len 24 false (.t 23),
 sl 25 (.t 22) none (some (.t 24)) none 1,
 mv 0 (.t 25)]
def c181r5:List SI:=[
 mv 26 (.t 0),
 mv 4 (.t 26)]
def c181:SC :=
 (.seq (.reg false c181r0)
 (.seq (.seq (.reg false c181r1)
 (.cond (.t 6)
  .dead
  .skip))
 (.seq (.seq (.reg false c181r2)
 (.seq (.reg false c181r3)
 (.cond (.t 16)
  (.reg false c181r4)
  .skip)))
 (.seq (.reg false c181r5)
 .ret))))
def v181:List Nat × List Nat:=([],[])
def o181:List RS:=[.t 4]
def c182r0:List SI:=[
 ld 4 (.t 1) none,
 len 5 false (.t 4),
 bin 6 .sub (.t 5) (.i 1),
 mv 3 (.t 6)]
def c182r1:List SI:=[
 mv 7 (.t 3),
 bin 8 .geq (.t 7) (.i 0)]
def c182r2:List SI:=[
 mv 11 (.t 0),
 mv 12 (.t 3),
 ld 13 (.t 1) none,
 mv 14 (.t 3),
 ixA 15 (.t 13) (.t 14) 2,
 ld 16 (.t 15) (some 2),
 cav 17 (.t 11) [(.t 12),(.t 16)],
 un 18 .not (.t 17)]
def c182r3:List SI:=[
 mv 9 (.t 3),
 bin 10 .sub (.t 9) (.i 1),
 mv 3 (.t 10)]
def c182:SC :=
 (.seq (.reg false c182r0)
 (.blk 0 (.loop (.seq (.seq (.reg false c182r1)
   (.cond (.t 8)
    .skip
    (.exit 0)))
   (.seq (.blk 1 (.seq (.reg false c182r2)
    (.cond (.t 18)
     .ret
     .skip)))
   (.reg false c182r3))))))
def v182:List Nat × List Nat:=([],[])
def o182:List RS:=[]
def c183r0:List SI:=[
 bx 2 (.t 0),
 bx 3 (.t 1),
 mv 4 (.i 0)]
def c183r1:List SI:=[
 ld 5 (.t 2) none,
 len 6 false (.t 5),
 mkf 7 (.func 204) [(.t 2),(.t 3)],
 call 8 144 [(.t 6),(.t 7)],
 mv 4 (.t 8)]
def c183:SC :=
 (.seq (.reg false c183r0)
 (.seq (.reg false c183r1)
 .ret))
def v183:List Nat × List Nat:=([],[])
def o183:List RS:=[.t 4]
def c184r0:List SI:=[
 mv 2 (.b false)]
def c184r1:List SI:=[
 ⟨none,.mv 3 (.t 0),none,0⟩,
 ⟨none,.bin 4 .geq (.t 3) (.i 0),none,0⟩,
 ⟨none,.mv 5 (.t 4),none,0⟩,
 Y_ 5 (.mv 6 (.t 0)) 6,
 Y_ 5 (.bin 7 .leq (.t 6) (.i 1099511627776)) 7,
 ⟨none,.pick 8 (.t 5) (.t 7) (.b false),none,0⟩,
 ⟨none,.mv 2 (.t 8),none,0⟩]
def c184:SC :=
 (.seq (.reg false c184r0)
 (.seq (.reg false c184r1)
 .ret))
def v184:List Nat × List Nat:=([],[])
def o184:List RS:=[.t 2]
theorem s184:slimC Tryz.prog Tryz.f184.ntmps v184.1 v184.2 ((Tryz.f184.body).getD .skip)=some c184:=by kernel_rfl
theorem q184:slimR Tryz.prog Tryz.f184.ntmps v184.1 v184.2 Tryz.f184.results.toList=some o184:=by kernel_rfl
def c185r0:List SI:=[
 mv 4 (.v (.slice none 0 0))]
def c185r1:List SI:=[
 mv 5 (.t 0),
 mv 6 (.t 1),
 len 7 true (.t 6),
 call 8 162 [(.t 5),(.t 7)],
 mv 9 (.t 1),
 app 10 (.t 8) (.t 9) 5 1 1,
 mv 4 (.t 10)]
def c185:SC :=
 (.seq (.reg false c185r0)
 (.seq (.reg false c185r1)
 .ret))
def v185:List Nat × List Nat:=([],[])
def o185:List RS:=[.t 4]
theorem s185:slimC Tryz.prog Tryz.f185.ntmps v185.1 v185.2 ((Tryz.f185.body).getD .skip)=some c185:=by kernel_rfl
theorem q185:slimR Tryz.prog Tryz.f185.ntmps v185.1 v185.2 Tryz.f185.results.toList=some o185:=by kernel_rfl
def c188r0:List SI:=[
 bxR 3 (.t 0),
 alR 6 [(.int .i64 0),(.int .i64 0),(.slice none 0 0)],
 mv 7 (.i 0)]
def c188r1:List SI:=[
 ldR 9 3 0 (some 3),
 call 10 62 [(.t 9)],
 mv 8 (.t 10)]
def c188r2:List SI:=[
 mv 11 (.t 8),
 bin 12 .neq (.t 11) (.i 0)]
def c188r3:List SI:=[
 bld 13 [(.int .i64 0),(.int .i64 0),(.slice none 0 0)] [],
 mv 14 (.t 8),
 stR 6 0 3 (.t 13),
 mv 7 (.t 14)]
def c188r4:List SI:=[
 ldR 15 3 0 (some 3),
 mv 16 (.t 1),
 call 17 206 [(.t 15),(.t 16)],
 un 18 .not (.t 17)]
def c188r5:List SI:=[
 bld 19 [(.int .i64 0),(.int .i64 0),(.slice none 0 0)] [],
 stR 6 0 3 (.t 19),
 mv 7 (.i 90)]
def c188r6:List SI:=[
 mv 20 (.t 2),
 cav 21 (.t 20) [],
 stR 6 0 3 (.t 21),
 mv 7 (.i 0)]
def c188:SC :=
 (.seq (.reg false c188r0)
 (.seq (.seq (.reg false c188r1)
 (.seq (.reg false c188r2)
 (.cond (.t 12)
  (.seq (.reg false c188r3)
  .ret)
  .skip)))
 (.seq (.seq (.reg false c188r4)
 (.cond (.t 18)
  (.seq (.reg false c188r5)
  .ret)
  .skip))
 (.seq (.reg false c188r6)
 .ret))))
def v188:List Nat × List Nat:=([3,6],[3,6])
def o188:List RS:=[.r 6 (some 3),.t 7]
def c189r0:List SI:=[
 alR 2 [(.int .i64 0),(.int .i64 0),(.slice none 0 0)]]
def c189r1:List SI:=[
 mv 3 (.v (.slice none 0 0))]
def c189r2:List SI:=[
 flA 6 (.t 0) 2,
 ld 7 (.t 6) none,
 len 8 false (.t 7),
 mv 9 (.i 0)]
def c189r3:List SI:=[
 bin 10 .lss (.t 9) (.t 8)]
def c189r4:List SI:=[
 ixA 11 (.t 7) (.t 9) 2,
 ld 12 (.t 11) (some 2),
 alR 5 [(.int .i64 0),(.slice none 0 0)],
 stR 5 0 2 (.t 12)]
def c189r5:List SI:=[
 ⟨none,.nop,(some 5),0⟩,
 ⟨none,.ldR 14 5 0 none,none,0⟩,
 ⟨none,.ld 15 (.t 1) none,none,0⟩,
 ⟨none,.bin 16 .lss (.t 14) (.t 15),none,0⟩]
def c189r6:List SI:=[
 mv 17 (.t 3),
 ldR 18 5 0 (some 2),
 ld 19 (.t 1) none,
 call 20 190 [(.t 18),(.t 19)],
 bls 21 120 1 2 [(.int .i64 0),(.slice none 0 0)] [(0,2,(.t 20))],
 app 22 (.t 17) (.t 21) 120 2 32,
 mv 3 (.t 22)]
def c189r7:List SI:=[
 bin 23 .add (.t 9) (.i 1),
 mv 9 (.t 23)]
def c189r8:List SI:=[
 mv 24 (.t 3),
 len 25 false (.t 24),
 bin 26 .eql (.t 25) (.i 0)]
def c189r9:List SI:=[
 ld 27 (.t 1) none,
 bld 28 [(.int .i64 0),(.slice none 0 0)] [(0,1,(.t 27))],
 bls 29 120 1 2 [(.int .i64 0),(.slice none 0 0)] [(0,2,(.t 28))],
 mv 3 (.t 29)]
def c189r10:List SI:=[
 ld 30 (.t 0) (some 3),
 mv 31 (.t 3),
 call 32 122 [(.t 30),(.t 31)],
 stR 2 0 3 (.t 32)]
def c189:SC :=
 (.seq (.reg false c189r0)
 (.seq (.reg false c189r1)
 (.seq (.seq (.reg false c189r2)
 (.blk 0 (.loop (.seq (.reg false c189r3)
   (.seq (.cond (.t 10)
    .skip
    (.exit 0))
   (.seq (.blk 1 (.seq (.reg false c189r4)
    (.seq (.reg false c189r5)
    (.cond (.t 16)
     (.reg false c189r6)
     .skip))))
   (.reg false c189r7)))))))
 (.seq (.seq (.reg false c189r8)
 (.cond (.t 26)
  (.reg false c189r9)
  .skip))
 (.seq (.reg false c189r10)
 .ret)))))
def v189:List Nat × List Nat:=([2,5],[2,5,13])
def o189:List RS:=[.r 2 (some 3)]
def c190r0:List SI:=[
 bx 2 (.t 0),
 bx 3 (.t 1),
 al 4 [(.int .i64 0),(.slice none 0 0)]]
def c190r1:List SI:=[
 al 5 [(.int .i64 0)],
 st (.t 5) 1 (.i 0)]
def c190r2:List SI:=[
 ld 8 (.t 2) (some 2),
 call 9 151 [(.t 8)]]
def c190r3:List SI:=[
 alR 6 [(.int .i64 0),(.int .i64 0),(.int .i64 0),(.int .i64 0),(.int .i64 0),(.int .i64 0),(.int .i64 0),(.bool false),(.int .i64 0),(.slice none 0 0)],
 stR 6 0 10 (.t 10)]
def c190r4:List SI:=[
 mv 7 (.t 11)]
def c190r5:List SI:=[
 ⟨none,.nop,(some 6),0⟩,
 ⟨none,.ldR 13 6 1 none,none,0⟩,
 ⟨none,.ld 14 (.t 3) none,none,0⟩,
 ⟨none,.bin 15 .geq (.t 13) (.t 14),none,0⟩]
def c190r6:List SI:=[
 mv 16 (.t 7),
 st (.t 5) 1 (.t 16)]
def c190r7:List SI:=[
 ld 17 (.t 2) (some 2),
 ld 18 (.t 5) none,
 call 19 172 [(.t 17),(.t 18)],
 st (.t 4) 2 (.t 19)]
def c190:SC :=
 (.seq (.reg false c190r0)
 (.seq (.reg false c190r1)
 (.seq (.seq (.reg false c190r2)
 (.blk 0 (.rf (.t 9) [10,11] (.seq (.reg false c190r3)
   (.reg false c190r4))
   (.blk 1 (.seq (.seq (.reg false c190r5)
    (.cond (.t 15)
     (.exit 0)
     .skip))
    (.reg false c190r6))))))
 (.seq (.reg false c190r7)
 .ret))))
def v190:List Nat × List Nat:=([6],[6,12])
def o190:List RS:=[.c 4 (some 2)]
def c191r0:List SI:=[
 mv 4 (.b false)]
def c191r1:List SI:=[
 mv 6 (.t 0),
 len 7 false (.t 6),
 mv 8 (.t 1),
 len 9 false (.t 8),
 bin 10 .neq (.t 7) (.t 9)]
def c191r2:List SI:=[
 mv 4 (.b false)]
def c191r3:List SI:=[
 mv 11 (.t 0),
 len 12 false (.t 11),
 mv 13 (.i 0)]
def c191r4:List SI:=[
 bin 14 .lss (.t 13) (.t 12)]
def c191r5:List SI:=[
 mv 15 (.t 13),
 mv 5 (.t 15)]
def c191r6:List SI:=[
 mv 16 (.t 0),
 mv 17 (.t 5),
 ixA 18 (.t 16) (.t 17) 5,
 ld 19 (.t 18) (some 5),
 mv 20 (.t 1),
 mv 21 (.t 5),
 ixA 22 (.t 20) (.t 21) 5,
 ld 23 (.t 22) (some 5),
 eqf 24 true [0,2,2,1,0] (.t 19) (.t 23)]
def c191r7:List SI:=[
 mv 4 (.b false)]
def c191r8:List SI:=[
 bin 25 .add (.t 13) (.i 1),
 mv 13 (.t 25)]
def c191r9:List SI:=[
 mv 4 (.b true)]
def c191:SC :=
 (.seq (.reg false c191r0)
 (.seq (.seq (.reg false c191r1)
 (.cond (.t 10)
  (.seq (.reg false c191r2)
  .ret)
  .skip))
 (.seq (.seq (.reg false c191r3)
 (.blk 0 (.loop (.seq (.reg false c191r4)
   (.seq (.cond (.t 14)
    .skip
    (.exit 0))
   (.seq (.blk 1 (.seq (.reg false c191r5)
    (.seq (.reg true c191r6)
    (.cond (.t 24)
     (.seq (.reg false c191r7)
     .ret)
     .skip))))
   (.reg false c191r8)))))))
 (.seq (.reg false c191r9)
 .ret))))
def v191:List Nat × List Nat:=([],[])
def o191:List RS:=[.t 4]
def c192r0:List SI:=[
 bxR 1 (.t 0),
 alR 2 [(.int .i64 0),(.int .i64 0),(.int .i64 0),(.int .i64 0),(.int .i64 0),(.int .i64 0),(.int .i64 0),(.int .i64 0),(.int .i64 0)]]
def c192r1:List SI:=[
 ⟨none,.nop,(some 1),0⟩,
 ⟨none,.ldR 5 1 8 none,none,0⟩,
 ⟨none,.bin 6 .mul (.t 5) (.i 2),none,0⟩,
 ⟨none,.mv 3 (.t 6),none,0⟩]
def c192r2:List SI:=[
 ⟨none,.nop,(some 1),0⟩,
 ⟨none,.ldR 8 1 7 none,none,0⟩]
def c192r3:List SI:=[
 mv 9 (.t 3),
 bin 10 .add (.t 9) (.i 1),
 mv 3 (.t 10)]
def c192r4:List SI:=[
 ⟨none,.nop,(some 1),0⟩,
 ⟨none,.ldR 12 1 0 none,none,0⟩,
 ⟨none,.nop,(some 1),0⟩,
 ⟨none,.ldR 14 1 1 none,none,0⟩,
 ⟨none,.nop,(some 1),0⟩,
 ⟨none,.ldR 16 1 2 none,none,0⟩,
 ⟨none,.nop,(some 1),0⟩,
 ⟨none,.ldR 18 1 3 none,none,0⟩,
 ⟨none,.nop,(some 1),0⟩,
 ⟨none,.ldR 20 1 4 none,none,0⟩,
 ⟨none,.nop,(some 1),0⟩,
 ⟨none,.ldR 22 1 5 none,none,0⟩,
 ⟨none,.nop,(some 1),0⟩,
 ⟨none,.ldR 24 1 6 none,none,0⟩,
 ⟨none,.nop,(some 1),0⟩,
 ⟨none,.ldR 26 1 8 none,none,0⟩,
 ⟨none,.mv 27 (.t 3),none,0⟩,
 ⟨none,.nop,(some 1),0⟩,
 ⟨none,.ldR 29 1 8 none,none,0⟩,
 ⟨none,.bin 30 .mul (.t 29) (.i 2),none,0⟩,
 ⟨none,.bin 31 .sub (.t 27) (.t 30),none,0⟩,
 ⟨none,.bld 32 [(.int .i64 0),(.int .i64 0),(.int .i64 0),(.int .i64 0),(.int .i64 0),(.int .i64 0),(.int .i64 0),(.int .i64 0),(.int .i64 0)] [(0,1,(.t 12)),(1,1,(.t 14)),(2,1,(.t 16)),(3,1,(.t 18)),(4,1,(.t 20)),(5,1,(.t 22)),(6,1,(.t 24)),(7,1,(.t 26)),(8,1,(.t 31))],none,0⟩,
 ⟨none,.stR 2 0 9 (.t 32),none,0⟩]
def c192:SC :=
 (.seq (.reg false c192r0)
 (.seq (.reg false c192r1)
 (.seq (.seq (.reg false c192r2)
 (.cond (.t 8)
  (.reg false c192r3)
  .skip))
 (.seq (.reg false c192r4)
 .ret))))
def v192:List Nat × List Nat:=([1,2],[1,2,4,7,11,13,15,17,19,21,23,25,28])
def o192:List RS:=[.r 2 (some 9)]
def c194r0:List SI:=[
 mv 2 (.v (.slice none 0 0))]
def c194r1:List SI:=[
 mv 3 (.t 0),
 isn 4 false (.t 3)]
def c194r2:List SI:=[
 mv 2 (.v (.slice none 0 0))]
def c194r3:List SI:=[
 bl0 5,
 mv 6 (.t 0),
 app 7 (.t 5) (.t 6) 5 1 1,
 mv 2 (.t 7)]
def c194:SC :=
 (.seq (.reg false c194r0)
 (.seq (.seq (.reg false c194r1)
 (.cond (.t 4)
  (.seq (.reg false c194r2)
  .ret)
  .skip))
 (.seq (.reg false c194r3)
 .ret)))
def v194:List Nat × List Nat:=([],[])
def o194:List RS:=[.t 2]
theorem s194:slimC Tryz.prog Tryz.f194.ntmps v194.1 v194.2 ((Tryz.f194.body).getD .skip)=some c194:=by kernel_rfl
theorem q194:slimR Tryz.prog Tryz.f194.ntmps v194.1 v194.2 Tryz.f194.results.toList=some o194:=by kernel_rfl
def c196r0:List SI:=[
 mv 6 (.v (.int .u64 0)),
 mv 7 (.i 0)]
def c196r1:List SI:=[
 ⟨none,.mv 12 (.t 2),none,0⟩,
 ⟨none,.bin 13 .lss (.t 12) (.i 1),none,0⟩,
 ⟨none,.mv 14 (.t 13),none,0⟩,
 X_ 14 (.mv 15 (.t 2)) 15,
 X_ 14 (.bin 16 .gtr (.t 15) (.i 8)) 16,
 ⟨none,.pick 17 (.t 14) (.b true) (.t 16),none,0⟩,
 ⟨none,.mv 18 (.t 17),none,0⟩,
 X_ 18 (.mv 19 (.t 1)) 19,
 X_ 18 (.bin 20 .lss (.t 19) (.i 0)) 20,
 ⟨none,.pick 21 (.t 18) (.b true) (.t 20),none,0⟩]
def c196r2:List SI:=[
 mv 6 (.v (.int .u64 0)),
 mv 7 (.i 1)]
def c196r3:List SI:=[
 mv 22 (.t 0),
 mv 23 (.t 1),
 call 24 210 [(.t 22),(.t 23)],
 mv 8 (.t 24)]
def c196r4:List SI:=[
 mv 25 (.t 8),
 len 26 false (.t 25),
 mv 27 (.t 2),
 bin 28 .lss (.t 26) (.t 27)]
def c196r5:List SI:=[
 mv 6 (.v (.int .u64 0)),
 mv 7 (.i 10)]
def c196r6:List SI:=[
 mv 9 (.v (.int .u64 0))]
def c196r7:List SI:=[
 mv 29 (.t 8),
 mv 30 (.t 2),
 sl 31 (.t 29) none (some (.t 30)) none 1,
 len 32 false (.t 31),
 mv 33 (.i 0)]
def c196r8:List SI:=[
 bin 34 .lss (.t 33) (.t 32)]
def c196r9:List SI:=[
 ixA 35 (.t 31) (.t 33) 1,
 ld 36 (.t 35) none,
 mv 11 (.t 36)]
def c196r10:List SI:=[
 mv 37 (.t 9),
 bin 38 .shl (.t 37) (.v (.int .u64 8)),
 mv 39 (.t 11),
 cvI 40 .u64 (.t 39),
 bin 41 .or (.t 38) (.t 40),
 mv 9 (.t 41)]
def c196r11:List SI:=[
 bin 42 .add (.t 33) (.i 1),
 mv 33 (.t 42)]
def c196r12:List SI:=[
 mv 43 (.t 9),
 mv 6 (.t 43),
 mv 7 (.i 0)]
def c196:SC :=
 (.seq (.reg false c196r0)
 (.seq (.seq (.reg false c196r1)
 (.cond (.t 21)
  (.seq (.reg false c196r2)
  .ret)
  .skip))
 (.seq (.reg false c196r3)
 (.seq (.seq (.reg false c196r4)
 (.cond (.t 28)
  (.seq (.reg false c196r5)
  .ret)
  .skip))
 (.seq (.reg false c196r6)
 (.seq (.seq (.reg false c196r7)
 (.blk 0 (.loop (.seq (.reg false c196r8)
   (.seq (.cond (.t 34)
    .skip
    (.exit 0))
   (.seq (.blk 1 (.seq (.reg false c196r9)
    (.reg false c196r10)))
   (.reg false c196r11)))))))
 (.seq (.reg false c196r12)
 .ret)))))))
def v196:List Nat × List Nat:=([],[])
def o196:List RS:=[.t 6,.t 7]
def c197r0:List SI:=[
 mv 2 (.v (.slice none 0 0)),
 mv 3 (.i 0)]
def c197r1:List SI:=[
 mv 7 (.t 0),
 len 8 false (.t 7),
 bin 9 .sub (.t 8) (.i 4),
 mv 4 (.t 9)]
def c197r2:List SI:=[
 mv 10 (.t 4),
 bin 11 .lss (.t 10) (.i 0)]
def c197r3:List SI:=[
 mv 2 (.v (.slice none 0 0)),
 mv 3 (.i 10)]
def c197r4:List SI:=[
 mv 13 (.t 0),
 mv 14 (.t 4),
 call 15 196 [(.t 13),(.t 14),(.i 4)],
 mv 12 (.t 15),
 ext 16 (.t 12) 0,
 ext 17 (.t 12) 1,
 mv 5 (.t 16),
 mv 6 (.t 17)]
def c197r5:List SI:=[
 ⟨none,.mv 18 (.t 6),none,0⟩,
 ⟨none,.bin 19 .neq (.t 18) (.i 0),none,0⟩,
 ⟨none,.mv 20 (.t 19),none,0⟩,
 X_ 20 (.mv 21 (.t 5)) 21,
 X_ 20 (.mv 22 (.t 0)) 22,
 X_ 20 (.mv 23 (.t 4)) 23,
 X_ 20 (.sl 24 (.t 22) none (some (.t 23)) none 1) 24,
 X_ 20 (.call 25 211 [(.t 24)]) 25,
 X_ 20 (.cvI 26 .u64 (.t 25)) 26,
 X_ 20 (.bin 27 .neq (.t 21) (.t 26)) 27,
 ⟨none,.pick 28 (.t 20) (.b true) (.t 27),none,0⟩]
def c197r6:List SI:=[
 mv 2 (.v (.slice none 0 0)),
 mv 3 (.i 20)]
def c197r7:List SI:=[
 mv 29 (.t 0),
 mv 30 (.t 4),
 sl 31 (.t 29) none (some (.t 30)) none 1,
 app 32 (.v (.slice none 0 0)) (.t 31) 5 1 1,
 mv 2 (.t 32),
 mv 3 (.i 0)]
def c197:SC :=
 (.seq (.reg false c197r0)
 (.seq (.reg false c197r1)
 (.seq (.seq (.reg false c197r2)
 (.cond (.t 11)
  (.seq (.reg false c197r3)
  .ret)
  .skip))
 (.seq (.seq (.reg false c197r4)
 (.seq (.reg false c197r5)
 (.cond (.t 28)
  (.seq (.reg false c197r6)
  .ret)
  .skip)))
 (.seq (.reg false c197r7)
 .ret)))))
def v197:List Nat × List Nat:=([],[])
def o197:List RS:=[.t 2,.t 3]
def c198r0:List SI:=[
 bx 1 (.t 0),
 alR 2 [(.int .i64 0),(.int .i64 0),(.int .i64 0),(.int .i64 0),(.int .i64 0),(.int .i64 0),(.int .i64 0),(.bool false),(.int .i64 0),(.slice none 0 0)],
 al 3 [(.bool false)]]
def c198r1:List SI:=[
 al 4 [(.int .i64 0)],
 st (.t 4) 1 (.i 0)]
def c198r2:List SI:=[
 st (.t 3) 1 (.b true)]
def c198r3:List SI:=[
 mkf 15 (.func 212) [(.t 1),(.t 4),(.t 3)],
 mv 5 (.t 15)]
def c198r4:List SI:=[
 al 6 [(.int .i64 0),(.int .i64 0),(.int .i64 0),(.int .i64 0),(.int .i64 0),(.int .i64 0),(.int .i64 0)]]
def c198r5:List SI:=[
 mv 16 (.i 0)]
def c198r6:List SI:=[
 bin 17 .lss (.t 16) (.i 7)]
def c198r7:List SI:=[
 mv 18 (.t 16),
 mv 7 (.t 18)]
def c198r8:List SI:=[
 mv 19 (.t 7),
 mv 20 (.t 5),
 cav 21 (.t 20) [],
 ixP 22 (.t 6) (.t 19) 7 1,
 st (.t 22) 1 (.t 21)]
def c198r9:List SI:=[
 bin 23 .add (.t 16) (.i 1),
 mv 16 (.t 23)]
def c198r10:List SI:=[
 ⟨none,.ld 24 (.t 3) none,none,0⟩,
 ⟨none,.un 25 .not (.t 24),none,0⟩,
 ⟨none,.mv 26 (.t 25),none,0⟩,
 X_ 26 (.ld 27 (.t 4) none) 27,
 X_ 26 (.ld 28 (.t 1) none) 28,
 X_ 26 (.len 29 false (.t 28)) 29,
 X_ 26 (.bin 30 .geq (.t 27) (.t 29)) 30,
 ⟨none,.pick 31 (.t 26) (.b true) (.t 30),none,0⟩,
 ⟨none,.mv 32 (.t 31),none,0⟩,
 X_ 32 (.ld 33 (.t 1) none) 33,
 X_ 32 (.ld 34 (.t 4) none) 34,
 X_ 32 (.ixA 35 (.t 33) (.t 34) 1) 35,
 X_ 32 (.ld 36 (.t 35) none) 36,
 X_ 32 (.bin 37 .geq (.t 36) (.v (.int .u8 8))) 37,
 ⟨none,.pick 38 (.t 32) (.b true) (.t 37),none,0⟩,
 ⟨none,.mv 39 (.t 38),none,0⟩,
 X_ 39 (.ixP 40 (.t 6) (.i 0) 7 1) 40,
 X_ 39 (.ld 41 (.t 40) none) 41,
 X_ 39 (.bin 42 .lss (.t 41) (.i 0)) 42,
 ⟨none,.pick 43 (.t 39) (.b true) (.t 42),none,0⟩,
 ⟨none,.mv 44 (.t 43),none,0⟩,
 X_ 44 (.ixP 45 (.t 6) (.i 0) 7 1) 45,
 X_ 44 (.ld 46 (.t 45) none) 46,
 X_ 44 (.bin 47 .gtr (.t 46) (.i 1099511627776)) 47,
 ⟨none,.pick 48 (.t 44) (.b true) (.t 47),none,0⟩,
 ⟨none,.mv 49 (.t 48),none,0⟩,
 X_ 49 (.ixP 50 (.t 6) (.i 1) 7 1) 50,
 X_ 49 (.ld 51 (.t 50) none) 51,
 X_ 49 (.bin 52 .lss (.t 51) (.i 0)) 52,
 ⟨none,.pick 53 (.t 49) (.b true) (.t 52),none,0⟩,
 ⟨none,.mv 54 (.t 53),none,0⟩,
 X_ 54 (.ixP 55 (.t 6) (.i 1) 7 1) 55,
 X_ 54 (.ld 56 (.t 55) none) 56,
 X_ 54 (.bin 57 .geq (.t 56) (.i 16)) 57,
 ⟨none,.pick 58 (.t 54) (.b true) (.t 57),none,0⟩]
def c198r11:List SI:=[
 bld 59 [(.int .i64 0),(.int .i64 0),(.int .i64 0),(.int .i64 0),(.int .i64 0),(.int .i64 0),(.int .i64 0),(.bool false),(.int .i64 0),(.slice none 0 0)] [],
 stR 2 0 10 (.t 59),
 st (.t 3) 1 (.b false)]
def c198r12:List SI:=[
 ld 60 (.t 1) none,
 ld 61 (.t 4) none,
 ixA 62 (.t 60) (.t 61) 1,
 ld 63 (.t 62) none,
 mv 8 (.t 63)]
def c198r13:List SI:=[
 ld 64 (.t 4) none,
 bin 65 .add (.t 64) (.i 1),
 st (.t 4) 1 (.t 65)]
def c198r14:List SI:=[
 ixP 66 (.t 6) (.i 0) 7 1,
 ld 67 (.t 66) none,
 ixP 68 (.t 6) (.i 0) 7 1,
 ld 69 (.t 68) none,
 ixP 70 (.t 6) (.i 1) 7 1,
 ld 71 (.t 70) none,
 bin 72 .add (.t 69) (.t 71),
 ixP 73 (.t 6) (.i 2) 7 1,
 ld 74 (.t 73) none,
 ixP 75 (.t 6) (.i 3) 7 1,
 ld 76 (.t 75) none,
 ixP 77 (.t 6) (.i 4) 7 1,
 ld 78 (.t 77) none,
 ixP 79 (.t 6) (.i 5) 7 1,
 ld 80 (.t 79) none,
 ixP 81 (.t 6) (.i 6) 7 1,
 ld 82 (.t 81) none,
 mv 83 (.t 8),
 bin 84 .and (.t 83) (.v (.int .u8 4)),
 bin 85 .neq (.t 84) (.v (.int .u8 0)),
 mv 86 (.t 8),
 bin 87 .andNot (.t 86) (.v (.int .u8 4)),
 cvI 88 .i64 (.t 87),
 bld 89 [(.int .i64 0),(.int .i64 0),(.int .i64 0),(.int .i64 0),(.int .i64 0),(.int .i64 0),(.int .i64 0),(.bool false),(.int .i64 0),(.slice none 0 0)] [(0,1,(.t 67)),(1,1,(.t 72)),(2,1,(.t 74)),(3,1,(.t 76)),(4,1,(.t 78)),(5,1,(.t 80)),(6,1,(.t 82)),(7,1,(.t 85)),(8,1,(.t 88))],
 stR 2 0 10 (.t 89)]
def c198r15:List SI:=[
 mv 90 (.t 5),
 cav 91 (.t 90) [],
 mv 9 (.t 91)]
def c198r16:List SI:=[
 ⟨none,.ld 92 (.t 3) none,none,0⟩,
 ⟨none,.un 93 .not (.t 92),none,0⟩,
 ⟨none,.mv 94 (.t 93),none,0⟩,
 X_ 94 (.mv 95 (.t 9)) 95,
 X_ 94 (.bin 96 .lss (.t 95) (.i 0)) 96,
 ⟨none,.pick 97 (.t 94) (.b true) (.t 96),none,0⟩,
 ⟨none,.mv 98 (.t 97),none,0⟩,
 X_ 98 (.mv 99 (.t 9)) 99,
 X_ 98 (.bin 100 .gtr (.t 99) (.i 16)) 100,
 ⟨none,.pick 101 (.t 98) (.b true) (.t 100),none,0⟩]
def c198r17:List SI:=[
 bld 102 [(.int .i64 0),(.int .i64 0),(.int .i64 0),(.int .i64 0),(.int .i64 0),(.int .i64 0),(.int .i64 0),(.bool false),(.int .i64 0),(.slice none 0 0)] [],
 stR 2 0 10 (.t 102),
 st (.t 3) 1 (.b false)]
def c198r18:List SI:=[
 mv 10 (.i 0)]
def c198r19:List SI:=[
 mv 103 (.t 9),
 bin 104 .gtr (.t 103) (.i 0)]
def c198r20:List SI:=[
 mv 105 (.t 5),
 cav 106 (.t 105) [],
 mv 10 (.t 106)]
def c198r21:List SI:=[
 mv 11 (.i 0)]
def c198r22:List SI:=[
 ⟨none,.mv 107 (.t 11),none,0⟩,
 ⟨none,.mv 108 (.t 9),none,0⟩,
 ⟨none,.bin 109 .lss (.t 107) (.t 108),none,0⟩,
 ⟨none,.mv 110 (.t 109),none,0⟩,
 Y_ 110 (.ld 111 (.t 3) none) 111,
 ⟨none,.pick 112 (.t 110) (.t 111) (.b false),none,0⟩]
def c198r23:List SI:=[
 ⟨none,.ld 116 (.t 1) none,none,0⟩,
 ⟨none,.ld 117 (.t 4) none,none,0⟩,
 ⟨none,.nop,(some 2),0⟩,
 ⟨none,.ldR 119 2 0 none,none,0⟩,
 ⟨none,.mv 120 (.t 10),none,0⟩,
 ⟨none,.call 121 214 [(.t 116),(.t 117),(.t 119),(.t 120)],none,0⟩,
 ⟨none,.mv 115 (.t 121),none,0⟩,
 ⟨none,.ext 122 (.t 115) 0,none,0⟩,
 ⟨none,.ext 123 (.t 115) 1,none,0⟩,
 ⟨none,.ext 124 (.t 115) 2,none,0⟩,
 ⟨none,.alR 12 [(.int .i64 0),(.string ⟨#[]⟩),(.string ⟨#[]⟩),(.bool false),(.int .i64 0)],none,0⟩,
 ⟨none,.stR 12 0 5 (.t 122),none,0⟩,
 ⟨none,.mv 13 (.t 123),none,0⟩,
 ⟨none,.mv 14 (.t 124),none,0⟩]
def c198r24:List SI:=[
 ⟨none,.ld 125 (.t 3) none,none,0⟩,
 ⟨none,.mv 126 (.t 125),none,0⟩,
 Y_ 126 (.mv 127 (.t 14)) 127,
 Y_ 126 (.bin 128 .eql (.t 127) (.i 0)) 128,
 ⟨none,.pick 129 (.t 126) (.t 128) (.b false),none,0⟩,
 ⟨none,.mv 130 (.t 129),none,0⟩,
 Y_ 130 (.mv 131 (.t 11)) 131,
 Y_ 130 (.bin 132 .gtr (.t 131) (.i 0)) 132,
 Y_ 130 (.mv 133 (.t 132)) 133,
 F_ 133 12,
 X_ 133 (.ldR 135 12 4 none) 135,
 X_ 133 (.mv 136 (.t 10)) 136,
 X_ 133 (.bin 137 .eql (.t 135) (.t 136)) 137,
 Y_ 130 (.pick 138 (.t 133) (.b true) (.t 137)) 138,
 ⟨none,.pick 139 (.t 130) (.t 138) (.b false),none,0⟩,
 ⟨none,.st (.t 3) 1 (.t 139),none,0⟩]
def c198r25:List SI:=[
 mv 140 (.t 13),
 st (.t 4) 1 (.t 140)]
def c198r26:List SI:=[
 ⟨none,.nop,(some 2),0⟩,
 ⟨none,.ldR 142 2 9 none,none,0⟩,
 ⟨none,.ldR 143 12 0 (some 5),none,0⟩,
 ⟨none,.bls 144 103 1 5 [(.int .i64 0),(.string ⟨#[]⟩),(.string ⟨#[]⟩),(.bool false),(.int .i64 0)] [(0,5,(.t 143))],none,0⟩,
 ⟨none,.app 145 (.t 142) (.t 144) 103 5 56,none,0⟩,
 ⟨none,.nop,(some 2),0⟩,
 ⟨none,.stR 2 9 1 (.t 145),none,0⟩]
def c198r27:List SI:=[
 mv 113 (.t 11),
 bin 114 .add (.t 113) (.i 1),
 mv 11 (.t 114)]
def c198r28:List WI:=[
 (true,false,⟨none,.ldR 147 2 0 (some 10),none,0⟩),
 (true,false,⟨none,.ld 148 (.t 3) none,none,0⟩),
 (true,false,⟨none,.mv 149 (.t 148),none,0⟩),
 (true,false,Y_ 149 (.ld 150 (.t 4) none) 150),
 (true,false,Y_ 149 (.ld 151 (.t 1) none) 151),
 (true,false,Y_ 149 (.len 152 false (.t 151)) 152),
 (true,false,Y_ 149 (.bin 153 .eql (.t 150) (.t 152)) 153),
 (true,false,⟨none,.pick 154 (.t 149) (.t 153) (.b false),none,0⟩),
 (false,false,⟨none,.stR 2 0 10 (.t 147),none,0⟩),
 (false,true,⟨none,.st (.t 3) 1 (.t 154),none,0⟩)]
def c198:SC :=
 (.seq (.reg false c198r0)
 (.seq (.reg false c198r1)
 (.seq (.reg false c198r2)
 (.seq (.reg false c198r3)
 (.seq (.reg false c198r4)
 (.seq (.seq (.reg false c198r5)
 (.blk 0 (.loop (.seq (.reg false c198r6)
   (.seq (.cond (.t 17)
    .skip
    (.exit 0))
   (.seq (.blk 1 (.seq (.reg false c198r7)
    (.reg false c198r8)))
   (.reg false c198r9)))))))
 (.seq (.seq (.reg false c198r10)
 (.cond (.t 58)
  (.seq (.reg false c198r11)
  .ret)
  .skip))
 (.seq (.reg false c198r12)
 (.seq (.reg false c198r13)
 (.seq (.reg false c198r14)
 (.seq (.reg false c198r15)
 (.seq (.seq (.reg false c198r16)
 (.cond (.t 101)
  (.seq (.reg false c198r17)
  .ret)
  .skip))
 (.seq (.reg false c198r18)
 (.seq (.seq (.reg false c198r19)
 (.cond (.t 104)
  (.reg false c198r20)
  .skip))
 (.seq (.seq (.reg false c198r21)
 (.blk 2 (.loop (.seq (.seq (.reg false c198r22)
   (.cond (.t 112)
    .skip
    (.exit 2)))
   (.seq (.blk 3 (.seq (.reg false c198r23)
    (.seq (.reg false c198r24)
    (.seq (.reg false c198r25)
    (.reg false c198r26)))))
   (.reg false c198r27))))))
 (.seq (.rgW c198r28)
 .ret))))))))))))))))
def v198:List Nat × List Nat:=([2,12],[2,12,118,134,141,146])
def o198:List RS:=[.r 2 (some 10),.c 3 none]
def c199r0:List SI:=[
 bxR 1 (.t 0),
 mv 2 (.i 0)]
def c199r1:List SI:=[
 ⟨none,.nop,(some 1),0⟩,
 ⟨none,.ldR 5 1 0 none,none,0⟩,
 ⟨none,.call 6 215 [(.t 5)],none,0⟩,
 ⟨none,.un 7 .not (.t 6),none,0⟩,
 ⟨none,.mv 3 (.t 7),none,0⟩]
def c199r2:List SI:=[
 ⟨none,.nop,(some 1),0⟩,
 ⟨none,.ldR 9 1 4 none,none,0⟩,
 ⟨none,.call 10 215 [(.t 9)],none,0⟩,
 ⟨none,.un 11 .not (.t 10),none,0⟩,
 ⟨none,.mv 3 (.t 11),none,0⟩]
def c199r3:List SI:=[
 ⟨none,.nop,(some 1),0⟩,
 ⟨none,.ldR 13 1 1 none,none,0⟩,
 ⟨none,.len 14 true (.t 13),none,0⟩,
 ⟨none,.nop,(some 1),0⟩,
 ⟨none,.ldR 16 1 2 none,none,0⟩,
 ⟨none,.len 17 true (.t 16),none,0⟩,
 ⟨none,.mm 18 true (.t 14) (.t 17),none,0⟩,
 ⟨none,.bin 19 .gtr (.t 18) (.i 64),none,0⟩,
 ⟨none,.mv 3 (.t 19),none,0⟩]
def c199r4:List SI:=[
 mv 2 (.i 1)]
def c199r5:List SI:=[
 ⟨none,.nop,(some 1),0⟩,
 ⟨none,.ldR 22 1 3 none,none,0⟩,
 ⟨none,.mv 23 (.t 22),none,0⟩,
 T_ 23 1,
 Y_ 23 (.ldR 25 1 1 none) 25,
 Y_ 23 (.bin 26 .eql (.t 25) (.v (.string ⟨#[]⟩))) 26,
 Y_ 23 (.mv 27 (.t 26)) 27,
 F_ 27 1,
 X_ 27 (.ldR 29 1 2 none) 29,
 X_ 27 (.bin 30 .neq (.t 29) (.v (.string ⟨#[]⟩))) 30,
 Y_ 23 (.pick 31 (.t 27) (.b true) (.t 30)) 31,
 ⟨none,.pick 32 (.t 23) (.t 31) (.b false),none,0⟩,
 ⟨none,.mv 20 (.t 32),none,0⟩]
def c199r6:List SI:=[
 mv 2 (.i 1)]
def c199r7:List SI:=[
 mv 2 (.i 0)]
def c199:SC :=
 (.seq (.reg false c199r0)
 (.seq (.blk 0 (.seq (.seq (.reg false c199r1)
  (.cond (.t 3)
   .skip
   (.seq (.reg false c199r2)
   (.cond (.t 3)
    .skip
    (.reg false c199r3)))))
  (.cond (.t 3)
   (.seq (.reg false c199r4)
   .ret)
   (.seq (.reg false c199r5)
   (.cond (.t 20)
    (.seq (.reg false c199r6)
    .ret)
    .skip)))))
 (.seq (.reg false c199r7)
 .ret)))
def v199:List Nat × List Nat:=([1],[1,4,8,12,15,21,24,28])
def o199:List RS:=[.t 2]
theorem s199:slimC Tryz.prog Tryz.f199.ntmps v199.1 v199.2 ((Tryz.f199.body).getD .skip)=some c199:=by kernel_rfl
theorem q199:slimR Tryz.prog Tryz.f199.ntmps v199.1 v199.2 Tryz.f199.results.toList=some o199:=by kernel_rfl
def c200r0:List SI:=[
 mv 4 (.v (.slice none 0 0))]
def c200r1:List SI:=[
 mv 7 (.t 1),
 cvI 8 .u64 (.t 7),
 bin 9 .shl (.t 8) (.v (.int .u64 1)),
 mv 10 (.t 1),
 bin 11 .shr (.t 10) (.v (.int .u64 63)),
 cvI 12 .u64 (.t 11),
 bin 13 .xor (.t 9) (.t 12),
 mv 5 (.t 13)]
def c200r2:List SI:=[
 mv 14 (.t 0),
 call 15 194 [(.t 14)],
 mv 6 (.t 15)]
def c200r3:List SI:=[
 mv 16 (.t 5),
 bin 17 .geq (.t 16) (.v (.int .u64 128))]
def c200r4:List SI:=[
 mv 20 (.t 6),
 mv 21 (.t 5),
 cvI 22 .u8 (.t 21),
 bin 23 .or (.t 22) (.v (.int .u8 128)),
 bls 24 5 1 1 [(.int .u8 0)] [(0,1,(.t 23))],
 app 25 (.t 20) (.t 24) 5 1 1,
 mv 6 (.t 25)]
def c200r5:List SI:=[
 mv 18 (.t 5),
 bin 19 .shr (.t 18) (.v (.int .u64 7)),
 mv 5 (.t 19)]
def c200r6:List SI:=[
 mv 26 (.t 6),
 mv 27 (.t 5),
 cvI 28 .u8 (.t 27),
 bls 29 5 1 1 [(.int .u8 0)] [(0,1,(.t 28))],
 app 30 (.t 26) (.t 29) 5 1 1,
 mv 4 (.t 30)]
def c200:SC :=
 (.seq (.reg false c200r0)
 (.seq (.reg false c200r1)
 (.seq (.reg false c200r2)
 (.seq (.blk 0 (.loop (.seq (.seq (.reg false c200r3)
   (.cond (.t 17)
    .skip
    (.exit 0)))
   (.seq (.blk 1 (.reg false c200r4))
   (.reg false c200r5)))))
 (.seq (.reg false c200r6)
 .ret)))))
def v200:List Nat × List Nat:=([],[])
def o200:List RS:=[.t 4]
theorem s200:slimC Tryz.prog Tryz.f200.ntmps v200.1 v200.2 ((Tryz.f200.body).getD .skip)=some c200:=by kernel_rfl
theorem q200:slimR Tryz.prog Tryz.f200.ntmps v200.1 v200.2 Tryz.f200.results.toList=some o200:=by kernel_rfl
def c201r0:List SI:=[
 bxR 3 (.t 0),
 mv 6 (.v (.slice none 0 0)),
 mv 7 (.i 0)]
def c201r1:List SI:=[
 ldR 11 3 0 (some 5),
 call 12 199 [(.t 11)],
 mv 8 (.t 12)]
def c201r2:List SI:=[
 mv 13 (.t 8),
 bin 14 .neq (.t 13) (.i 0)]
def c201r3:List SI:=[
 mv 15 (.t 8),
 mv 6 (.v (.slice none 0 0)),
 mv 7 (.t 15)]
def c201r4:List SI:=[
 ⟨none,.mv 16 (.t 1),none,0⟩,
 ⟨none,.call 17 215 [(.t 16)],none,0⟩,
 ⟨none,.un 18 .not (.t 17),none,0⟩,
 ⟨none,.mv 19 (.t 18),none,0⟩,
 X_ 19 (.mv 20 (.t 2)) 20,
 X_ 19 (.call 21 215 [(.t 20)]) 21,
 X_ 19 (.un 22 .not (.t 21)) 22,
 ⟨none,.pick 23 (.t 19) (.b true) (.t 22),none,0⟩]
def c201r5:List SI:=[
 mv 6 (.v (.slice none 0 0)),
 mv 7 (.i 1)]
def c201r6:List SI:=[
 mv 9 (.v (.int .u8 0))]
def c201r7:List SI:=[
 ⟨none,.nop,(some 3),0⟩,
 ⟨none,.ldR 25 3 3 none,none,0⟩]
def c201r8:List SI:=[
 mv 9 (.v (.int .u8 1))]
def c201r9:List (Bool × SI):=[
 (true,⟨none,.nop,(some 3),0⟩),
 (true,N_ (.ldR 27 3 0 none)),
 (true,N_ (.mv 28 (.t 1))),
 (true,N_ (.bin 29 .sub (.t 27) (.t 28))),
 (true,⟨none,.nop,(some 3),0⟩),
 (true,N_ (.ldR 32 3 4 none)),
 (true,N_ (.mv 33 (.t 2))),
 (true,N_ (.bin 34 .sub (.t 32) (.t 33))),
 (false,N_ (.call 30 200 [(.v (.slice none 0 0)),(.t 29)])),
 (false,N_ (.call 35 200 [(.t 30),(.t 34)])),
 (true,N_ (.mv 10 (.t 35)))]
def c201r10:List (Bool × SI):=[
 (true,N_ (.mv 36 (.t 10))),
 (true,N_ (.mv 37 (.t 9))),
 (true,⟨none,.nop,(some 3),0⟩),
 (true,N_ (.ldR 41 3 1 none)),
 (true,⟨none,.nop,(some 3),0⟩),
 (true,N_ (.ldR 44 3 2 none)),
 (false,N_ (.bls 38 5 1 1 [(.int .u8 0)] [(0,1,(.t 37))])),
 (false,N_ (.app 39 (.t 36) (.t 38) 5 1 1)),
 (false,N_ (.call 42 216 [(.t 39),(.t 41)])),
 (false,N_ (.call 45 216 [(.t 42),(.t 44)])),
 (true,N_ (.mv 6 (.t 45))),
 (true,N_ (.mv 7 (.i 0)))]
def c201:SC :=
 (.seq (.reg false c201r0)
 (.seq (.seq (.reg false c201r1)
 (.seq (.reg false c201r2)
 (.cond (.t 14)
  (.seq (.reg false c201r3)
  .ret)
  .skip)))
 (.seq (.seq (.reg false c201r4)
 (.cond (.t 23)
  (.seq (.reg false c201r5)
  .ret)
  .skip))
 (.seq (.reg false c201r6)
 (.seq (.seq (.reg false c201r7)
 (.cond (.t 25)
  (.reg false c201r8)
  .skip))
 (.seq (.rgX c201r9)
 (.seq (.rgX c201r10)
 .ret)))))))
def v201:List Nat × List Nat:=([3],[3,24,26,31,40,43])
def o201:List RS:=[.t 6,.t 7]
theorem s201:slimC Tryz.prog Tryz.f201.ntmps v201.1 v201.2 ((Tryz.f201.body).getD .skip)=some c201:=by kernel_rfl
theorem q201:slimR Tryz.prog Tryz.f201.ntmps v201.1 v201.2 Tryz.f201.results.toList=some o201:=by kernel_rfl
def c202r0:List SI:=[
 mv 2 (.v (.slice none 0 0))]
def c202r1:List SI:=[
 mv 3 (.t 0),
 app 4 (.v (.slice none 0 0)) (.t 3) 5 1 1,
 mv 5 (.t 0),
 call 6 211 [(.t 5)],
 cvI 7 .u64 (.t 6),
 call 8 203 [(.t 4),(.t 7),(.i 4)],
 mv 2 (.t 8)]
def c202:SC :=
 (.seq (.reg false c202r0)
 (.seq (.reg false c202r1)
 .ret))
def v202:List Nat × List Nat:=([],[])
def o202:List RS:=[.t 2]
theorem s202:slimC Tryz.prog Tryz.f202.ntmps v202.1 v202.2 ((Tryz.f202.body).getD .skip)=some c202:=by kernel_rfl
theorem q202:slimR Tryz.prog Tryz.f202.ntmps v202.1 v202.2 Tryz.f202.results.toList=some o202:=by kernel_rfl
def c203r0:List SI:=[
 mv 6 (.v (.slice none 0 0))]
def c203r1:List SI:=[
 mv 9 (.t 0),
 call 10 194 [(.t 9)],
 mv 7 (.t 10)]
def c203r2:List SI:=[
 ⟨none,.mv 11 (.t 2),none,0⟩,
 ⟨none,.bin 12 .lss (.t 11) (.i 1),none,0⟩,
 ⟨none,.mv 13 (.t 12),none,0⟩,
 X_ 13 (.mv 14 (.t 2)) 14,
 X_ 13 (.bin 15 .gtr (.t 14) (.i 8)) 15,
 ⟨none,.pick 16 (.t 13) (.b true) (.t 15),none,0⟩]
def c203r3:List SI:=[
 mv 17 (.t 7),
 mv 6 (.t 17)]
def c203r4:List SI:=[
 mv 18 (.t 2),
 bin 19 .sub (.t 18) (.i 1),
 bin 20 .mul (.i 8) (.t 19),
 mv 8 (.t 20)]
def c203r5:List SI:=[
 mv 21 (.t 8),
 bin 22 .geq (.t 21) (.i 0)]
def c203r6:List SI:=[
 mv 25 (.t 7),
 mv 26 (.t 1),
 mv 27 (.t 8),
 bin 28 .shr (.t 26) (.t 27),
 cvI 29 .u8 (.t 28),
 bls 30 5 1 1 [(.int .u8 0)] [(0,1,(.t 29))],
 app 31 (.t 25) (.t 30) 5 1 1,
 mv 7 (.t 31)]
def c203r7:List SI:=[
 mv 23 (.t 8),
 bin 24 .sub (.t 23) (.i 8),
 mv 8 (.t 24)]
def c203r8:List SI:=[
 mv 32 (.t 7),
 mv 6 (.t 32)]
def c203:SC :=
 (.seq (.reg false c203r0)
 (.seq (.reg false c203r1)
 (.seq (.seq (.reg false c203r2)
 (.cond (.t 16)
  (.seq (.reg false c203r3)
  .ret)
  .skip))
 (.seq (.seq (.reg false c203r4)
 (.blk 0 (.loop (.seq (.seq (.reg false c203r5)
   (.cond (.t 22)
    .skip
    (.exit 0)))
   (.seq (.blk 1 (.reg false c203r6))
   (.reg false c203r7))))))
 (.seq (.reg false c203r8)
 .ret)))))
def v203:List Nat × List Nat:=([],[])
def o203:List RS:=[.t 6]
theorem s203:slimC Tryz.prog Tryz.f203.ntmps v203.1 v203.2 ((Tryz.f203.body).getD .skip)=some c203:=by kernel_rfl
theorem q203:slimR Tryz.prog Tryz.f203.ntmps v203.1 v203.2 Tryz.f203.results.toList=some o203:=by kernel_rfl
def c204r0:List SI:=[
 mv 4 (.b false)]
def c204r1:List SI:=[
 ld 5 (.t 1) none,
 mv 6 (.t 0),
 ixA 7 (.t 5) (.t 6) 2,
 flA 8 (.t 7) 0,
 ld 9 (.t 8) none,
 ld 10 (.t 2) none,
 bin 11 .gtr (.t 9) (.t 10),
 mv 4 (.t 11)]
def c204:SC :=
 (.seq (.reg false c204r0)
 (.seq (.reg true c204r1)
 .ret))
def v204:List Nat × List Nat:=([],[])
def o204:List RS:=[.t 4]
def c206r0:List SI:=[
 bxR 2 (.t 0),
 mv 4 (.b false)]
def c206r1:List SI:=[
 ⟨none,.nop,(some 2),0⟩,
 ⟨none,.ldR 6 2 1 none,none,0⟩,
 ⟨none,.mv 7 (.t 1),none,0⟩,
 ⟨none,.bin 8 .leq (.t 6) (.t 7),none,0⟩,
 ⟨none,.mv 9 (.t 8),none,0⟩,
 Y_ 9 (.mv 10 (.t 1)) 10,
 Y_ 9 (.ldR 11 2 0 (some 3)) 11,
 Y_ 9 (.call 12 63 [(.t 11)]) 12,
 Y_ 9 (.bin 13 .leq (.t 10) (.t 12)) 13,
 ⟨none,.pick 14 (.t 9) (.t 13) (.b false),none,0⟩,
 ⟨none,.mv 4 (.t 14),none,0⟩]
def c206:SC :=
 (.seq (.reg false c206r0)
 (.seq (.reg false c206r1)
 .ret))
def v206:List Nat × List Nat:=([2],[2,5])
def o206:List RS:=[.t 4]
def c210r0:List SI:=[
 mv 4 (.v (.slice none 0 0))]
def c210r1:List SI:=[
 mv 5 (.t 0),
 mv 6 (.t 1),
 mv 7 (.t 0),
 len 8 false (.t 7),
 mm 9 false (.t 6) (.t 8),
 sl 10 (.t 5) (some (.t 9)) none none 1,
 mv 4 (.t 10)]
def c210:SC :=
 (.seq (.reg false c210r0)
 (.seq (.reg false c210r1)
 .ret))
def v210:List Nat × List Nat:=([],[])
def o210:List RS:=[.t 4]
def c211r0:List SI:=[
 mv 2 (.v (.int .u32 0))]
def c211r1:List SI:=[
 call 7 220 [],
 mv 3 (.t 7)]
def c211r2:List SI:=[
 mv 4 (.v (.int .u32 4294967295))]
def c211r3:List SI:=[
 mv 8 (.t 0),
 len 9 false (.t 8),
 mv 10 (.i 0)]
def c211r4:List SI:=[
 bin 11 .lss (.t 10) (.t 9)]
def c211r5:List SI:=[
 ixA 12 (.t 8) (.t 10) 1,
 ld 13 (.t 12) none,
 mv 6 (.t 13)]
def c211r6:List SI:=[
 mv 14 (.t 3),
 mv 15 (.t 4),
 mv 16 (.t 6),
 cav 17 (.t 14) [(.t 15),(.t 16)],
 mv 4 (.t 17)]
def c211r7:List SI:=[
 bin 18 .add (.t 10) (.i 1),
 mv 10 (.t 18)]
def c211r8:List SI:=[
 mv 19 (.t 4),
 un 20 .xor (.t 19),
 mv 2 (.t 20)]
def c211:SC :=
 (.seq (.reg false c211r0)
 (.seq (.reg false c211r1)
 (.seq (.reg false c211r2)
 (.seq (.seq (.reg false c211r3)
 (.blk 0 (.loop (.seq (.reg false c211r4)
   (.seq (.cond (.t 11)
    .skip
    (.exit 0))
   (.seq (.blk 1 (.seq (.reg false c211r5)
    (.reg false c211r6)))
   (.reg false c211r7)))))))
 (.seq (.reg false c211r8)
 .ret)))))
def v211:List Nat × List Nat:=([],[])
def o211:List RS:=[.t 2]
theorem s211:slimC Tryz.prog Tryz.f211.ntmps v211.1 v211.2 ((Tryz.f211.body).getD .skip)=some c211:=by kernel_rfl
theorem q211:slimR Tryz.prog Tryz.f211.ntmps v211.1 v211.2 Tryz.f211.results.toList=some o211:=by kernel_rfl
def c212r0:List SI:=[
 mv 3 (.i 0)]
def c212r1:List SI:=[
 ld 8 (.t 0) none,
 ld 9 (.t 1) none,
 call 10 213 [(.t 8),(.t 9)],
 mv 7 (.t 10),
 ext 11 (.t 7) 0,
 ext 12 (.t 7) 1,
 ext 13 (.t 7) 2,
 mv 4 (.t 11),
 mv 5 (.t 12),
 mv 6 (.t 13)]
def c212r2:List SI:=[
 mv 14 (.t 6),
 bin 15 .neq (.t 14) (.i 0)]
def c212r3:List SI:=[
 st (.t 2) 1 (.b false)]
def c212r4:List SI:=[
 mv 3 (.i 0)]
def c212r5:List SI:=[
 mv 16 (.t 5),
 st (.t 1) 1 (.t 16)]
def c212r6:List SI:=[
 mv 17 (.t 4),
 mv 3 (.t 17)]
def c212:SC :=
 (.seq (.reg false c212r0)
 (.seq (.reg false c212r1)
 (.seq (.seq (.reg false c212r2)
 (.cond (.t 15)
  (.seq (.reg false c212r3)
  (.seq (.reg false c212r4)
  .ret))
  .skip))
 (.seq (.reg false c212r5)
 (.seq (.reg false c212r6)
 .ret)))))
def v212:List Nat × List Nat:=([],[])
def o212:List RS:=[.t 3]
def c213r0:List SI:=[
 mv 4 (.i 0),
 mv 5 (.i 0),
 mv 6 (.i 0)]
def c213r1:List SI:=[
 mv 10 (.t 1),
 bin 11 .lss (.t 10) (.i 0)]
def c213r2:List SI:=[
 mv 4 (.i 0),
 mv 5 (.i 0),
 mv 6 (.i 1)]
def c213r3:List SI:=[
 mv 7 (.v (.int .u64 0))]
def c213r4:List SI:=[
 mv 12 (.t 0),
 mv 13 (.t 1),
 call 14 210 [(.t 12),(.t 13)],
 len 15 false (.t 14),
 mv 16 (.i 0)]
def c213r5:List SI:=[
 bin 17 .lss (.t 16) (.t 15)]
def c213r6:List SI:=[
 mv 18 (.t 16),
 ixA 19 (.t 14) (.t 16) 1,
 ld 20 (.t 19) none,
 mv 8 (.t 18),
 mv 9 (.t 20)]
def c213r7:List SI:=[
 ⟨none,.mv 21 (.t 8),none,0⟩,
 ⟨none,.bin 22 .eql (.t 21) (.i 9),none,0⟩,
 ⟨none,.mv 23 (.t 22),none,0⟩,
 Y_ 23 (.mv 24 (.t 9)) 24,
 Y_ 23 (.bin 25 .gtr (.t 24) (.v (.int .u8 1))) 25,
 ⟨none,.pick 26 (.t 23) (.t 25) (.b false),none,0⟩,
 ⟨none,.mv 27 (.t 26),none,0⟩,
 X_ 27 (.mv 28 (.t 8)) 28,
 X_ 27 (.bin 29 .gtr (.t 28) (.i 0)) 29,
 X_ 27 (.mv 30 (.t 29)) 30,
 Y_ 30 (.mv 31 (.t 9)) 31,
 Y_ 30 (.bin 32 .eql (.t 31) (.v (.int .u8 0))) 32,
 X_ 27 (.pick 33 (.t 30) (.t 32) (.b false)) 33,
 ⟨none,.pick 34 (.t 27) (.b true) (.t 33),none,0⟩]
def c213r8:List SI:=[
 mv 4 (.i 0),
 mv 5 (.i 0),
 mv 6 (.i 11)]
def c213r9:List SI:=[
 mv 35 (.t 7),
 mv 36 (.t 9),
 bin 37 .and (.t 36) (.v (.int .u8 127)),
 cvI 38 .u64 (.t 37),
 mv 39 (.t 8),
 bin 40 .mul (.i 7) (.t 39),
 bin 41 .shl (.t 38) (.t 40),
 bin 42 .or (.t 35) (.t 41),
 mv 7 (.t 42)]
def c213r10:List SI:=[
 mv 43 (.t 9),
 bin 44 .lss (.t 43) (.v (.int .u8 128))]
def c213r11:List SI:=[
 mv 45 (.t 7),
 bin 46 .shr (.t 45) (.v (.int .u64 1)),
 cvI 47 .i64 (.t 46),
 mv 48 (.t 7),
 bin 49 .and (.t 48) (.v (.int .u64 1)),
 cvI 50 .i64 (.t 49),
 un 51 .neg (.t 50),
 bin 52 .xor (.t 47) (.t 51),
 mv 53 (.t 1),
 mv 54 (.t 8),
 bin 55 .add (.t 53) (.t 54),
 bin 56 .add (.t 55) (.i 1),
 mv 4 (.t 52),
 mv 5 (.t 56),
 mv 6 (.i 0)]
def c213r12:List SI:=[
 bin 57 .add (.t 16) (.i 1),
 mv 16 (.t 57)]
def c213r13:List SI:=[
 mv 4 (.i 0),
 mv 5 (.i 0),
 mv 6 (.i 10)]
def c213:SC :=
 (.seq (.reg false c213r0)
 (.seq (.seq (.reg false c213r1)
 (.cond (.t 11)
  (.seq (.reg false c213r2)
  .ret)
  .skip))
 (.seq (.reg false c213r3)
 (.seq (.seq (.reg false c213r4)
 (.blk 0 (.loop (.seq (.reg false c213r5)
   (.seq (.cond (.t 17)
    .skip
    (.exit 0))
   (.seq (.blk 1 (.seq (.reg false c213r6)
    (.seq (.seq (.reg false c213r7)
    (.cond (.t 34)
     (.seq (.reg false c213r8)
     .ret)
     .skip))
    (.seq (.reg false c213r9)
    (.seq (.reg false c213r10)
    (.cond (.t 44)
     (.seq (.reg false c213r11)
     .ret)
     .skip))))))
   (.reg false c213r12)))))))
 (.seq (.reg false c213r13)
 .ret)))))
def v213:List Nat × List Nat:=([],[])
def o213:List RS:=[.t 4,.t 5,.t 6]
def c214r0:List SI:=[
 alR 8 [(.int .i64 0),(.string ⟨#[]⟩),(.string ⟨#[]⟩),(.bool false),(.int .i64 0)],
 mv 9 (.i 0),
 mv 10 (.i 0)]
def c214r1:List SI:=[
 ⟨none,.mv 13 (.t 2),none,0⟩,
 ⟨none,.call 14 215 [(.t 13)],none,0⟩,
 ⟨none,.un 15 .not (.t 14),none,0⟩,
 ⟨none,.mv 16 (.t 15),none,0⟩,
 X_ 16 (.mv 17 (.t 3)) 17,
 X_ 16 (.call 18 215 [(.t 17)]) 18,
 X_ 16 (.un 19 .not (.t 18)) 19,
 ⟨none,.pick 20 (.t 16) (.b true) (.t 19),none,0⟩,
 ⟨none,.mv 21 (.t 20),none,0⟩,
 X_ 21 (.mv 22 (.t 1)) 22,
 X_ 21 (.bin 23 .lss (.t 22) (.i 0)) 23,
 ⟨none,.pick 24 (.t 21) (.b true) (.t 23),none,0⟩,
 ⟨none,.mv 25 (.t 24),none,0⟩,
 X_ 25 (.mv 26 (.t 1)) 26,
 X_ 25 (.mv 27 (.t 0)) 27,
 X_ 25 (.len 28 false (.t 27)) 28,
 X_ 25 (.bin 29 .gtr (.t 26) (.t 28)) 29,
 ⟨none,.pick 30 (.t 25) (.b true) (.t 29),none,0⟩]
def c214r2:List SI:=[
 bld 31 [(.int .i64 0),(.string ⟨#[]⟩),(.string ⟨#[]⟩),(.bool false),(.int .i64 0)] [],
 stR 8 0 5 (.t 31),
 mv 9 (.i 0),
 mv 10 (.i 1)]
def c214r3:List SI:=[
 mv 32 (.t 0),
 mv 33 (.t 1),
 bld 34 [(.slice none 0 0),(.int .i64 0),(.int .i64 0)] [(0,1,(.t 32)),(1,1,(.t 33))],
 bx 35 (.t 34),
 mv 11 (.t 35)]
def c214r4:List SI:=[
 mv 12 (.v (.func (.func 221) #[] #[]))]
def c214r5:List SI:=[
 ⟨none,.mv 36 (.t 2),none,0⟩,
 ⟨none,.mv 37 (.t 11),none,0⟩,
 ⟨none,.call 38 224 [(.t 37),(.v (.func (.func 213) #[] #[]))],none,0⟩,
 ⟨none,.call 39 223 [(.t 36),(.t 38)],none,0⟩,
 ⟨none,.nop,(some 8),0⟩,
 ⟨none,.stR 8 0 1 (.t 39),none,0⟩]
def c214r6:List SI:=[
 ⟨none,.mv 41 (.t 3),none,0⟩,
 ⟨none,.mv 42 (.t 11),none,0⟩,
 ⟨none,.call 43 224 [(.t 42),(.v (.func (.func 213) #[] #[]))],none,0⟩,
 ⟨none,.call 44 223 [(.t 41),(.t 43)],none,0⟩,
 ⟨none,.nop,(some 8),0⟩,
 ⟨none,.stR 8 4 1 (.t 44),none,0⟩]
def c214r7:List SI:=[
 ⟨none,.mv 46 (.t 11),none,0⟩,
 ⟨none,.call 47 225 [(.t 46),(.v (.func (.func 226) #[] #[]))],none,0⟩,
 ⟨none,.nop,(some 8),0⟩,
 ⟨none,.stR 8 3 1 (.t 47),none,0⟩]
def c214r8:List SI:=[
 ⟨none,.mv 49 (.t 11),none,0⟩,
 ⟨none,.mv 50 (.t 12),none,0⟩,
 ⟨none,.call 51 227 [(.t 49),(.t 50)],none,0⟩,
 ⟨none,.mv 52 (.t 11),none,0⟩,
 ⟨none,.mv 53 (.t 12),none,0⟩,
 ⟨none,.call 54 227 [(.t 52),(.t 53)],none,0⟩,
 ⟨none,.nop,(some 8),0⟩,
 ⟨none,.stR 8 1 1 (.t 51),none,0⟩,
 ⟨none,.nop,(some 8),0⟩,
 ⟨none,.stR 8 2 1 (.t 54),none,0⟩]
def c214r9:List SI:=[
 mv 57 (.t 11),
 nck 58 (.t 57),
 flA 59 (.t 58) 2,
 ld 60 (.t 59) none,
 bin 61 .eql (.t 60) (.i 0)]
def c214r10:List SI:=[
 mv 62 (.t 11),
 ldR 63 8 0 (some 5),
 call 64 199 [(.t 63)],
 nck 65 (.t 62),
 flA 66 (.t 65) 2,
 st (.t 66) 1 (.t 64)]
def c214r11:List SI:=[
 mv 67 (.t 11),
 nck 68 (.t 67),
 flA 69 (.t 68) 2,
 ld 70 (.t 69) none,
 bin 71 .neq (.t 70) (.i 0)]
def c214r12:List WI:=[
 (true,false,⟨none,.bld 72 [(.int .i64 0),(.string ⟨#[]⟩),(.string ⟨#[]⟩),(.bool false),(.int .i64 0)] [],none,0⟩),
 (true,false,⟨none,.mv 73 (.t 11),none,0⟩),
 (true,false,⟨none,.nck 74 (.t 73),none,0⟩),
 (true,false,⟨none,.flA 75 (.t 74) 2,none,0⟩),
 (true,false,⟨none,.ld 76 (.t 75) none,none,0⟩),
 (false,false,⟨none,.stR 8 0 5 (.t 72),none,0⟩),
 (true,false,⟨none,.mv 9 (.i 0),none,0⟩),
 (true,false,⟨none,.mv 10 (.t 76),none,0⟩)]
def c214r13:List WI:=[
 (true,false,⟨none,.ldR 77 8 0 (some 5),none,0⟩),
 (true,false,⟨none,.mv 78 (.t 11),none,0⟩),
 (true,false,⟨none,.nck 79 (.t 78),none,0⟩),
 (true,false,⟨none,.flA 80 (.t 79) 1,none,0⟩),
 (true,false,⟨none,.ld 81 (.t 80) none,none,0⟩),
 (false,false,⟨none,.stR 8 0 5 (.t 77),none,0⟩),
 (true,false,⟨none,.mv 9 (.t 81),none,0⟩),
 (true,false,⟨none,.mv 10 (.i 0),none,0⟩)]
def c214:SC :=
 (.seq (.reg false c214r0)
 (.seq (.seq (.reg false c214r1)
 (.cond (.t 30)
  (.seq (.reg false c214r2)
  .ret)
  .skip))
 (.seq (.reg false c214r3)
 (.seq (.reg false c214r4)
 (.seq (.reg false c214r5)
 (.seq (.reg false c214r6)
 (.seq (.reg false c214r7)
 (.seq (.reg false c214r8)
 (.seq (.seq (.reg false c214r9)
 (.cond (.t 61)
  (.reg false c214r10)
  .skip))
 (.seq (.seq (.reg false c214r11)
 (.cond (.t 71)
  (.seq (.rgW c214r12)
  .ret)
  .skip))
 (.seq (.rgW c214r13)
 .ret)))))))))))
def v214:List Nat × List Nat:=([8],[8,40,45,48,55,56])
def o214:List RS:=[.r 8 (some 5),.t 9,.t 10]
def c215r0:List SI:=[
 mv 2 (.b false)]
def c215r1:List SI:=[
 ⟨none,.mv 3 (.t 0),none,0⟩,
 ⟨none,.bin 4 .geq (.t 3) (.i 0),none,0⟩,
 ⟨none,.mv 5 (.t 4),none,0⟩,
 Y_ 5 (.mv 6 (.t 0)) 6,
 Y_ 5 (.bin 7 .leq (.t 6) (.i 1099511627776)) 7,
 ⟨none,.pick 8 (.t 5) (.t 7) (.b false),none,0⟩,
 ⟨none,.mv 2 (.t 8),none,0⟩]
def c215:SC :=
 (.seq (.reg false c215r0)
 (.seq (.reg false c215r1)
 .ret))
def v215:List Nat × List Nat:=([],[])
def o215:List RS:=[.t 2]
theorem s215:slimC Tryz.prog Tryz.f215.ntmps v215.1 v215.2 ((Tryz.f215.body).getD .skip)=some c215:=by kernel_rfl
theorem q215:slimR Tryz.prog Tryz.f215.ntmps v215.1 v215.2 Tryz.f215.results.toList=some o215:=by kernel_rfl
def c216r0:List SI:=[
 mv 4 (.v (.slice none 0 0))]
def c216r1:List SI:=[
 mv 5 (.t 0),
 mv 6 (.t 1),
 len 7 true (.t 6),
 call 8 200 [(.t 5),(.t 7)],
 mv 9 (.t 1),
 app 10 (.t 8) (.t 9) 5 1 1,
 mv 4 (.t 10)]
def c216:SC :=
 (.seq (.reg false c216r0)
 (.seq (.reg false c216r1)
 .ret))
def v216:List Nat × List Nat:=([],[])
def o216:List RS:=[.t 4]
theorem s216:slimC Tryz.prog Tryz.f216.ntmps v216.1 v216.2 ((Tryz.f216.body).getD .skip)=some c216:=by kernel_rfl
theorem q216:slimR Tryz.prog Tryz.f216.ntmps v216.1 v216.2 Tryz.f216.results.toList=some o216:=by kernel_rfl
def c220r0:List SI:=[
 mv 0 (.v .nilFunc)]
def c220r1:List SI:=[
 al 1 [(.int .u32 0),(.int .u32 0),(.int .u32 0),(.int .u32 0),(.int .u32 0),(.int .u32 0),(.int .u32 0),(.int .u32 0),(.int .u32 0),(.int .u32 0),(.int .u32 0),(.int .u32 0),(.int .u32 0),(.int .u32 0),(.int .u32 0),(.int .u32 0)]]
def c220r2:List SI:=[
 mv 3 (.i 0)]
def c220r3:List SI:=[
 bin 4 .lss (.t 3) (.i 16)]
def c220r4:List SI:=[
 mv 5 (.t 3),
 mv 2 (.t 5)]
def c220r5:List SI:=[
 mv 6 (.t 2),
 mv 7 (.t 2),
 cvI 8 .u32 (.t 7),
 call 9 230 [(.t 8)],
 ixP 10 (.t 1) (.t 6) 16 1,
 st (.t 10) 1 (.t 9)]
def c220r6:List SI:=[
 bin 11 .add (.t 3) (.i 1),
 mv 3 (.t 11)]
def c220r7:List SI:=[
 mkf 12 (.func 231) [(.t 1)],
 mv 0 (.t 12)]
def c220:SC :=
 (.seq (.reg false c220r0)
 (.seq (.reg false c220r1)
 (.seq (.seq (.reg false c220r2)
 (.blk 0 (.loop (.seq (.reg false c220r3)
   (.seq (.cond (.t 4)
    .skip
    (.exit 0))
   (.seq (.blk 1 (.seq (.reg false c220r4)
    (.reg false c220r5)))
   (.reg false c220r6)))))))
 (.seq (.reg false c220r7)
 .ret))))
def v220:List Nat × List Nat:=([],[])
def o220:List RS:=[.t 0]
theorem s220:slimC Tryz.prog Tryz.f220.ntmps v220.1 v220.2 ((Tryz.f220.body).getD .skip)=some c220:=by kernel_rfl
theorem q220:slimR Tryz.prog Tryz.f220.ntmps v220.1 v220.2 Tryz.f220.results.toList=some o220:=by kernel_rfl
def c221r0:List SI:=[
 mv 4 (.v (.string ⟨#[]⟩)),
 mv 5 (.i 0),
 mv 6 (.i 0)]
def c221r1:List SI:=[
 mv 7 (.t 0),
 mv 8 (.t 1),
 call 9 222 [(.t 7),(.t 8),(.i 64)],
 ext 10 (.t 9) 0,
 ext 11 (.t 9) 1,
 ext 12 (.t 9) 2,
 mv 4 (.t 10),
 mv 5 (.t 11),
 mv 6 (.t 12)]
def c221:SC :=
 (.seq (.reg false c221r0)
 (.seq (.reg false c221r1)
 .ret))
def v221:List Nat × List Nat:=([],[])
def o221:List RS:=[.t 4,.t 5,.t 6]
def c222r0:List SI:=[
 mv 6 (.v (.string ⟨#[]⟩)),
 mv 7 (.i 0),
 mv 8 (.i 0)]
def c222r1:List SI:=[
 mv 11 (.t 0),
 mv 12 (.t 1),
 call 13 213 [(.t 11),(.t 12)],
 mv 10 (.t 13),
 ext 14 (.t 10) 0,
 ext 15 (.t 10) 1,
 ext 16 (.t 10) 2,
 mv 9 (.t 14),
 mv 7 (.t 15),
 mv 8 (.t 16)]
def c222r2:List SI:=[
 mv 18 (.t 8),
 bin 19 .neq (.t 18) (.i 0),
 mv 17 (.t 19)]
def c222r3:List SI:=[
 mv 20 (.t 8),
 mv 6 (.v (.string ⟨#[]⟩)),
 mv 7 (.i 0),
 mv 8 (.t 20)]
def c222r4:List SI:=[
 mv 22 (.t 9),
 bin 23 .lss (.t 22) (.i 0),
 mv 21 (.t 23)]
def c222r5:List SI:=[
 mv 6 (.v (.string ⟨#[]⟩)),
 mv 7 (.i 0),
 mv 8 (.i 11)]
def c222r6:List SI:=[
 mv 25 (.t 9),
 mv 26 (.t 2),
 bin 27 .gtr (.t 25) (.t 26),
 mv 24 (.t 27)]
def c222r7:List SI:=[
 mv 6 (.v (.string ⟨#[]⟩)),
 mv 7 (.i 0),
 mv 8 (.i 2)]
def c222r8:List SI:=[
 mv 29 (.t 9),
 mv 30 (.t 0),
 len 31 false (.t 30),
 mv 32 (.t 7),
 bin 33 .sub (.t 31) (.t 32),
 bin 34 .gtr (.t 29) (.t 33),
 mv 28 (.t 34)]
def c222r9:List SI:=[
 mv 6 (.v (.string ⟨#[]⟩)),
 mv 7 (.i 0),
 mv 8 (.i 10)]
def c222r10:List SI:=[
 mv 35 (.t 0),
 mv 36 (.t 7),
 mv 37 (.t 7),
 mv 38 (.t 9),
 bin 39 .add (.t 37) (.t 38),
 sl 40 (.t 35) (some (.t 36)) (some (.t 39)) none 1,
 cvS 41 (.t 40),
 mv 42 (.t 7),
 mv 43 (.t 9),
 bin 44 .add (.t 42) (.t 43),
 mv 6 (.t 41),
 mv 7 (.t 44),
 mv 8 (.i 0)]
def c222:SC :=
 (.seq (.reg false c222r0)
 (.seq (.reg false c222r1)
 (.seq (.blk 0 (.seq (.reg false c222r2)
  (.cond (.t 17)
   (.seq (.reg false c222r3)
   .ret)
   (.seq (.reg false c222r4)
   (.cond (.t 21)
    (.seq (.reg false c222r5)
    .ret)
    (.seq (.reg false c222r6)
    (.cond (.t 24)
     (.seq (.reg false c222r7)
     .ret)
     (.seq (.reg false c222r8)
     (.cond (.t 28)
      (.seq (.reg false c222r9)
      .ret)
      .skip)))))))))
 (.seq (.reg false c222r10)
 .ret))))
def v222:List Nat × List Nat:=([],[])
def o222:List RS:=[.t 6,.t 7,.t 8]
def c223r0:List SI:=[
 mv 4 (.i 0)]
def c223r1:List SI:=[
 ⟨none,.mv 5 (.t 1),none,0⟩,
 ⟨none,.bin 6 .lss (.t 5) (.i (-1099511627776)),none,0⟩,
 ⟨none,.mv 7 (.t 6),none,0⟩,
 X_ 7 (.mv 8 (.t 1)) 8,
 X_ 7 (.bin 9 .gtr (.t 8) (.i 1099511627776)) 9,
 ⟨none,.pick 10 (.t 7) (.b true) (.t 9),none,0⟩]
def c223r2:List SI:=[
 mv 4 (.i (-1))]
def c223r3:List SI:=[
 mv 11 (.t 0),
 mv 12 (.t 1),
 bin 13 .add (.t 11) (.t 12),
 mv 4 (.t 13)]
def c223:SC :=
 (.seq (.reg false c223r0)
 (.seq (.seq (.reg false c223r1)
 (.cond (.t 10)
  (.seq (.reg false c223r2)
  .ret)
  .skip))
 (.seq (.reg false c223r3)
 .ret)))
def v223:List Nat × List Nat:=([],[])
def o223:List RS:=[.t 4]
def c224r0:List SI:=[
 mv 4 (.i 0)]
def c224r1:List SI:=[
 mv 5 (.i 0)]
def c224r2:List SI:=[
 mv 6 (.t 0),
 nck 7 (.t 6),
 flA 8 (.t 7) 2,
 ld 9 (.t 8) none,
 bin 10 .eql (.t 9) (.i 0)]
def c224r3:List WI:=[
 (true,false,⟨none,.mv 12 (.t 0),none,0⟩),
 (true,false,⟨none,.mv 13 (.t 0),none,0⟩),
 (true,false,⟨none,.mv 14 (.t 1),none,0⟩),
 (true,false,⟨none,.mv 15 (.t 0),none,0⟩),
 (true,false,⟨none,.nck 16 (.t 15),none,0⟩),
 (true,false,⟨none,.flA 17 (.t 16) 0,none,0⟩),
 (true,false,⟨none,.ld 18 (.t 17) none,none,0⟩),
 (true,false,⟨none,.mv 19 (.t 0),none,0⟩),
 (true,false,⟨none,.nck 20 (.t 19),none,0⟩),
 (true,false,⟨none,.flA 21 (.t 20) 1,none,0⟩),
 (true,false,⟨none,.ld 22 (.t 21) none,none,0⟩),
 (false,true,⟨none,.cav 23 (.t 14) [(.t 18),(.t 22)],none,0⟩),
 (true,false,⟨none,.mv 11 (.t 23),none,0⟩),
 (true,false,⟨none,.ext 24 (.t 11) 0,none,0⟩),
 (true,false,⟨none,.ext 25 (.t 11) 1,none,0⟩),
 (true,false,⟨none,.ext 26 (.t 11) 2,none,0⟩),
 (true,false,⟨none,.mv 5 (.t 24),none,0⟩),
 (true,false,⟨none,.nck 27 (.t 12),none,0⟩),
 (true,false,⟨none,.flA 28 (.t 27) 1,none,0⟩),
 (false,true,⟨none,.st (.t 28) 1 (.t 25),none,0⟩),
 (true,false,⟨none,.nck 29 (.t 13),none,0⟩),
 (true,false,⟨none,.flA 30 (.t 29) 2,none,0⟩),
 (false,true,⟨none,.st (.t 30) 1 (.t 26),none,0⟩)]
def c224r4:List SI:=[
 mv 31 (.t 5),
 mv 4 (.t 31)]
def c224:SC :=
 (.seq (.reg false c224r0)
 (.seq (.reg false c224r1)
 (.seq (.seq (.reg false c224r2)
 (.cond (.t 10)
  (.rgW c224r3)
  .skip))
 (.seq (.reg false c224r4)
 .ret))))
def v224:List Nat × List Nat:=([],[])
def o224:List RS:=[.t 4]
def c225r0:List SI:=[
 mv 4 (.b false)]
def c225r1:List SI:=[
 mv 5 (.b false)]
def c225r2:List SI:=[
 mv 6 (.t 0),
 nck 7 (.t 6),
 flA 8 (.t 7) 2,
 ld 9 (.t 8) none,
 bin 10 .eql (.t 9) (.i 0)]
def c225r3:List WI:=[
 (true,false,⟨none,.mv 12 (.t 0),none,0⟩),
 (true,false,⟨none,.mv 13 (.t 0),none,0⟩),
 (true,false,⟨none,.mv 14 (.t 1),none,0⟩),
 (true,false,⟨none,.mv 15 (.t 0),none,0⟩),
 (true,false,⟨none,.nck 16 (.t 15),none,0⟩),
 (true,false,⟨none,.flA 17 (.t 16) 0,none,0⟩),
 (true,false,⟨none,.ld 18 (.t 17) none,none,0⟩),
 (true,false,⟨none,.mv 19 (.t 0),none,0⟩),
 (true,false,⟨none,.nck 20 (.t 19),none,0⟩),
 (true,false,⟨none,.flA 21 (.t 20) 1,none,0⟩),
 (true,false,⟨none,.ld 22 (.t 21) none,none,0⟩),
 (false,true,⟨none,.cav 23 (.t 14) [(.t 18),(.t 22)],none,0⟩),
 (true,false,⟨none,.mv 11 (.t 23),none,0⟩),
 (true,false,⟨none,.ext 24 (.t 11) 0,none,0⟩),
 (true,false,⟨none,.ext 25 (.t 11) 1,none,0⟩),
 (true,false,⟨none,.ext 26 (.t 11) 2,none,0⟩),
 (true,false,⟨none,.mv 5 (.t 24),none,0⟩),
 (true,false,⟨none,.nck 27 (.t 12),none,0⟩),
 (true,false,⟨none,.flA 28 (.t 27) 1,none,0⟩),
 (false,true,⟨none,.st (.t 28) 1 (.t 25),none,0⟩),
 (true,false,⟨none,.nck 29 (.t 13),none,0⟩),
 (true,false,⟨none,.flA 30 (.t 29) 2,none,0⟩),
 (false,true,⟨none,.st (.t 30) 1 (.t 26),none,0⟩)]
def c225r4:List SI:=[
 mv 31 (.t 5),
 mv 4 (.t 31)]
def c225:SC :=
 (.seq (.reg false c225r0)
 (.seq (.reg false c225r1)
 (.seq (.seq (.reg false c225r2)
 (.cond (.t 10)
  (.rgW c225r3)
  .skip))
 (.seq (.reg false c225r4)
 .ret))))
def v225:List Nat × List Nat:=([],[])
def o225:List RS:=[.t 4]
def c226r0:List SI:=[
 mv 4 (.b false),
 mv 5 (.i 0),
 mv 6 (.i 0)]
def c226r1:List SI:=[
 mv 8 (.t 1),
 mv 9 (.t 0),
 len 10 false (.t 9),
 bin 11 .geq (.t 8) (.t 10),
 mv 7 (.t 11)]
def c226r2:List SI:=[
 mv 4 (.b false),
 mv 5 (.i 0),
 mv 6 (.i 10)]
def c226r3:List SI:=[
 mv 13 (.t 0),
 mv 14 (.t 1),
 ixA 15 (.t 13) (.t 14) 1,
 ld 16 (.t 15) none,
 bin 17 .gtr (.t 16) (.v (.int .u8 1)),
 mv 12 (.t 17)]
def c226r4:List SI:=[
 mv 4 (.b false),
 mv 5 (.i 0),
 mv 6 (.i 11)]
def c226r5:List SI:=[
 mv 18 (.t 0),
 mv 19 (.t 1),
 ixA 20 (.t 18) (.t 19) 1,
 ld 21 (.t 20) none,
 bin 22 .eql (.t 21) (.v (.int .u8 1)),
 mv 23 (.t 1),
 bin 24 .add (.t 23) (.i 1),
 mv 4 (.t 22),
 mv 5 (.t 24),
 mv 6 (.i 0)]
def c226:SC :=
 (.seq (.reg false c226r0)
 (.seq (.blk 0 (.seq (.reg false c226r1)
  (.cond (.t 7)
   (.seq (.reg false c226r2)
   .ret)
   (.seq (.reg false c226r3)
   (.cond (.t 12)
    (.seq (.reg false c226r4)
    .ret)
    .skip)))))
 (.seq (.reg false c226r5)
 .ret)))
def v226:List Nat × List Nat:=([],[])
def o226:List RS:=[.t 4,.t 5,.t 6]
def c227r0:List SI:=[
 mv 4 (.v (.string ⟨#[]⟩))]
def c227r1:List SI:=[
 mv 5 (.v (.string ⟨#[]⟩))]
def c227r2:List SI:=[
 mv 6 (.t 0),
 nck 7 (.t 6),
 flA 8 (.t 7) 2,
 ld 9 (.t 8) none,
 bin 10 .eql (.t 9) (.i 0)]
def c227r3:List WI:=[
 (true,false,⟨none,.mv 12 (.t 0),none,0⟩),
 (true,false,⟨none,.mv 13 (.t 0),none,0⟩),
 (true,false,⟨none,.mv 14 (.t 1),none,0⟩),
 (true,false,⟨none,.mv 15 (.t 0),none,0⟩),
 (true,false,⟨none,.nck 16 (.t 15),none,0⟩),
 (true,false,⟨none,.flA 17 (.t 16) 0,none,0⟩),
 (true,false,⟨none,.ld 18 (.t 17) none,none,0⟩),
 (true,false,⟨none,.mv 19 (.t 0),none,0⟩),
 (true,false,⟨none,.nck 20 (.t 19),none,0⟩),
 (true,false,⟨none,.flA 21 (.t 20) 1,none,0⟩),
 (true,false,⟨none,.ld 22 (.t 21) none,none,0⟩),
 (false,true,⟨none,.cav 23 (.t 14) [(.t 18),(.t 22)],none,0⟩),
 (true,false,⟨none,.mv 11 (.t 23),none,0⟩),
 (true,false,⟨none,.ext 24 (.t 11) 0,none,0⟩),
 (true,false,⟨none,.ext 25 (.t 11) 1,none,0⟩),
 (true,false,⟨none,.ext 26 (.t 11) 2,none,0⟩),
 (true,false,⟨none,.mv 5 (.t 24),none,0⟩),
 (true,false,⟨none,.nck 27 (.t 12),none,0⟩),
 (true,false,⟨none,.flA 28 (.t 27) 1,none,0⟩),
 (false,true,⟨none,.st (.t 28) 1 (.t 25),none,0⟩),
 (true,false,⟨none,.nck 29 (.t 13),none,0⟩),
 (true,false,⟨none,.flA 30 (.t 29) 2,none,0⟩),
 (false,true,⟨none,.st (.t 30) 1 (.t 26),none,0⟩)]
def c227r4:List SI:=[
 mv 31 (.t 5),
 mv 4 (.t 31)]
def c227:SC :=
 (.seq (.reg false c227r0)
 (.seq (.reg false c227r1)
 (.seq (.seq (.reg false c227r2)
 (.cond (.t 10)
  (.rgW c227r3)
  .skip))
 (.seq (.reg false c227r4)
 .ret))))
def v227:List Nat × List Nat:=([],[])
def o227:List RS:=[.t 4]
def c230r0:List SI:=[
 mv 2 (.v (.int .u32 0))]
def c230r1:List SI:=[
 mv 3 (.i 0)]
def c230r2:List SI:=[
 bin 4 .lss (.t 3) (.i 4)]
def c230r3:List SI:=[
 mv 5 (.t 0),
 bin 6 .shr (.t 5) (.v (.int .u64 1)),
 mv 7 (.t 0),
 bin 8 .and (.t 7) (.v (.int .u32 1)),
 un 9 .neg (.t 8),
 bin 10 .and (.v (.int .u32 3988292384)) (.t 9),
 bin 11 .xor (.t 6) (.t 10),
 mv 0 (.t 11)]
def c230r4:List SI:=[
 bin 12 .add (.t 3) (.i 1),
 mv 3 (.t 12)]
def c230r5:List SI:=[
 mv 13 (.t 0),
 mv 2 (.t 13)]
def c230:SC :=
 (.seq (.reg false c230r0)
 (.seq (.seq (.reg false c230r1)
 (.blk 0 (.loop (.seq (.reg false c230r2)
   (.seq (.cond (.t 4)
    .skip
    (.exit 0))
   (.seq (.blk 1 (.reg false c230r3))
   (.reg false c230r4)))))))
 (.seq (.reg false c230r5)
 .ret)))
def v230:List Nat × List Nat:=([],[])
def o230:List RS:=[.t 2]
theorem s230:slimC Tryz.prog Tryz.f230.ntmps v230.1 v230.2 ((Tryz.f230.body).getD .skip)=some c230:=by kernel_rfl
theorem q230:slimR Tryz.prog Tryz.f230.ntmps v230.1 v230.2 Tryz.f230.results.toList=some o230:=by kernel_rfl
def c231r0:List SI:=[
 mv 5 (.v (.int .u32 0))]
def c231r1:List SI:=[
 mv 6 (.t 0),
 mv 7 (.t 1),
 cvI 8 .u32 (.t 7),
 bin 9 .xor (.t 6) (.t 8),
 mv 0 (.t 9)]
def c231r2:List SI:=[
 mv 10 (.t 0),
 bin 11 .and (.t 10) (.v (.int .u32 15)),
 ixP 12 (.t 2) (.t 11) 16 1,
 ld 13 (.t 12) none,
 mv 14 (.t 0),
 bin 15 .shr (.t 14) (.v (.int .u64 4)),
 bin 16 .xor (.t 13) (.t 15),
 mv 0 (.t 16)]
def c231r3:List SI:=[
 mv 17 (.t 0),
 bin 18 .and (.t 17) (.v (.int .u32 15)),
 ixP 19 (.t 2) (.t 18) 16 1,
 ld 20 (.t 19) none,
 mv 21 (.t 0),
 bin 22 .shr (.t 21) (.v (.int .u64 4)),
 bin 23 .xor (.t 20) (.t 22),
 mv 5 (.t 23)]
def c231:SC :=
 (.seq (.reg false c231r0)
 (.seq (.reg false c231r1)
 (.seq (.reg false c231r2)
 (.seq (.reg false c231r3)
 .ret))))
def v231:List Nat × List Nat:=([],[])
def o231:List RS:=[.t 5]
theorem s231:slimC Tryz.prog Tryz.f231.ntmps v231.1 v231.2 ((Tryz.f231.body).getD .skip)=some c231:=by kernel_rfl
theorem q231:slimR Tryz.prog Tryz.f231.ntmps v231.1 v231.2 Tryz.f231.results.toList=some o231:=by kernel_rfl
end Go.Proofs.YtpmofpekcbghnaaGreat
namespace Go.Proofs.YtpmofpekcbghnaaGreat
open Go Go.Kx
theorem F176:Fun Tryz.prog 176 5 v176 c176 o176:=Fun.mk' Tryz.func176 Tryz.ntmps176 (by kernel_rfl) (by kernel_rfl) s176 q176
theorem F194:Fun Tryz.prog 194 8 v194 c194 o194:=Fun.mk' Tryz.func194 Tryz.ntmps194 (by kernel_rfl) (by kernel_rfl) s194 q194
def UE(x:UInt8)(cs:List Value):Prop:=cs=[.int .u8 (x.toNat:Int)]
theorem UE1:∀ (x:UInt8) cs,UE x cs→∀ u∈cs,u.oneCell'=true:=fun x cs h u hu=>by
 rw[h]at hu
 simp at hu
 subst hu
 rfl
abbrev SB(G:Nat→Option Obj)(v:Value)(l:List UInt8):Prop:=SlV G UE 1 v l
abbrev OwnB(zs:List UInt8)(L':List Kx.Item)(r:Value):Prop:=OwnL UE 5 1 zs L' r
theorem SB.le{G G':Nat→Option Obj}{v:Value}{l:List UInt8}(h:SB G v l)(hg:Gle G G'):SB G' v l:=SlV.le h hg fun _ _ h=>h
def cellB(l:List UInt8):List Value:=l.map fun b=>.int .u8 (b.toNat:Int)
theorem cells_b:∀ (l:List UInt8),Cells UE 1 l (cellB l)
 | []=>.nil
 | b :: l=>.cons (cs:=[.int .u8 (b.toNat:Int)]) rfl rfl (cells_b l)
theorem byteCells_b(s:ByteArray):byteCells s=cellB s.data.toList:=rfl
theorem app8{P:Program}{h:H}{d:Nat}{l:List SI}{e:Env}{K:Env→H→Prop}{u:Value}{b:Nat}{zs:List UInt8}{zc:List Value}{L1 L2:List Kx.Item}{x:UInt8}{y:Int}(hL:h.L=.row (.slice (some ⟨b,0,none⟩) 1 1) 5 1 1 [.int .u8 y] :: L1++.row u 5 1 zs.length zc :: L2)(hy:y=(x.toNat:Int))
  (hc:Cells UE 1 zs zc) (hz:zs.length≤10000000)
  (hk:∀ A' c' zc',Cells UE 1 (zs++[x]) zc'→kR P l d e K (.slice A' (zs++[x]).length c') ⟨h.G,.row (.slice (some ⟨b,0,none⟩) 1 1) 5 1 1 [.int .u8 y] :: L1++.row (.slice A' (zs++[x]).length c') 5 1 (zs++[x]).length zc' :: L2,h.D⟩) :
  apX P u (.slice (some ⟨b,0,none⟩) 1 1) 5 1 1 d l e h K:=by
 subst hy
 refine⟨.row (.slice (some ⟨b,0,none⟩) 1 1) 5 1 1 [.int .u8 (x.toNat:Int)] :: L1,zs.length,zc,L2,1,[.int .u8 (x.toNat:Int)],.inl hL,srcH_row (h:=h) (by rw[hL];exact .head _) (UE1 x _ rfl) rfl,by unfold maxLen;omega,fun A' c'=>?_⟩
 have:=hk A' c' (zc++[.int .u8 (x.toNat:Int)]) (hc.app (.one (show UE x [.int .u8 (x.toNat:Int)]from rfl) rfl))
 simp only[List.length_append,List.length_cons,List.length_nil,Nat.zero_add]at this
 exact this
theorem apX_s{P:Program}{h:H}{d:Nat}{l:List SI}{e:Env}{K:Env→H→Prop}{u:Value}{s:ByteArray}{zs:List UInt8}{zc:List Value}{L1 L2:List Kx.Item}(hr:RowAt h.L u 5 1 L1 zs.length zc L2)(hc:Cells UE 1 zs zc)(hz:zs.length+s.size≤10000000)
  (hk:∀ A' c' zc',Cells UE 1 (zs++s.data.toList) zc'→kR P l d e K (.slice A' (zs++s.data.toList).length c') { h with L:=L1++.row (.slice A' (zs++s.data.toList).length c') 5 1 (zs++s.data.toList).length zc' :: L2 }) :
  apX P u (.string s) 5 1 1 d l e h K:=by
 refine⟨L1,zs.length,zc,L2,s.size,cellB s.data.toList,hr,⟨fun u hu=>?_,?_,.inr (.inr ⟨s,rfl,rfl,byteCells_b s,rfl⟩)⟩,by unfold maxLen;omega,fun A' c'=>?_⟩
 ·simp[cellB]at hu;obtain⟨_,_,rfl⟩:=hu;rfl
 ·simp[cellB]
 ·have:=hk A' c' (zc++cellB s.data.toList) (hc.app (cells_b _))
  rw[List.length_append]at this
  exact this
theorem bin_mul(k:IntKind)(a b:Int):binV .mul (.int k a) (.int k b)=some (.int k (k.wrap (a * b))):=by simp[binV]
theorem bin_add(k:IntKind)(a b:Int):binV .add (.int k a) (.int k b)=some (.int k (k.wrap (a+b))):=by simp[binV]
theorem bin_quo(k:IntKind)(a b:Nat)(hb:b≠0)(ha:(a:Int)≤k.max)(hk:k.signed=false):binV .quo (.int k a) (.int k b)=some (.int k ((a / b:Nat):Int)):=by
 have h1:¬ (b:Int)=0:=by omega
 have h2:k.wrap (((a / b:Nat):Int))=((a / b:Nat):Int):=by
  have hq:=Nat.div_le_self a b
  generalize a / b=q at hq ⊢
  cases k <;> simp[IntKind.signed]at hk <;> simp[IntKind.max,IntKind.signed,IntKind.bits]at ha <;> simp only[IntKind.wrap,IntKind.signed,IntKind.bits] <;> simp <;> omega
 simp only[binV]
 rw[if_pos trivial,if_neg h1]
 have:(a:Int).tdiv (b:Int)=((a / b:Nat):Int):=by rw[Int.tdiv_eq_ediv_of_nonneg (by omega)];rfl
 rw[this,h2]
theorem bin_rem(k:IntKind)(a b:Nat)(hb:b≠0):binV .rem (.int k a) (.int k b)=some (.int k ((a % b:Nat):Int)):=by
 have h1:¬ (b:Int)=0:=by omega
 simp only[binV]
 rw[if_pos trivial,if_neg h1]
 have:(a:Int).tmod (b:Int)=((a % b:Nat):Int):=by rw[Int.tmod_eq_emod_of_nonneg (by omega)];rfl
 rw[this]
theorem callsH_gx{P:Program}{f:FuncId}{args:Array Value}{h:H}{M:H→Prop}{R:Value→H→Prop}(hE:Enters P f)(hg:GhostX h M)(hc:∀ h',M h'→CallsH P f args h' R):CallsH P f args h R :=
 ⟨hE,fun β w hs=>by
  obtain⟨h1,m,s1,t1,d1,r1⟩:=hg β w hs
  exact((hc h1 m).2 β w s1).mono fun _ _ ⟨v,h2,a,⟨b1,b2⟩,c,d,r⟩=>⟨v,h2,a,⟨b1.trans d1,r1.trans b2⟩,c,t1.trans d,r⟩⟩
theorem SB.nil{G:Nat→Option Obj}:SB G (.slice none 0 0) []:=⟨none,0,rfl,Nat.le_refl _,Nat.zero_le _,fun i x hx=>by simp at hx⟩
theorem Copy_ok(l:List UInt8)(v:Value)(G:Nat→Option Obj)(hl:SB G v l)(hb:l.length≤1000000):
  FnO Tryz.prog 176 #[v] G [] (fun _ L' r=>OwnB l L' r):=by
 refine F176.fnO (by simp) noRegs_nil (go_of ?_)
 unfold c176
 intros;refine gr 0 0 ?_;refine sJ c176r0.eq_1 ?_
 intros;refine gr 3 5 ?_;refine sJ c176r1.eq_1 ?_
 refine apX_v (.inr ⟨⟨none,rfl⟩,rfl,rfl,rfl,rfl⟩) hl rfl UE1 (by unfold maxLen;omega) fun ys A c hc=>?_
 simp only[Nat.zero_add]
 refine sI ?_
 (intros;try refine go_st ?_)
 refine go_ret (retQ_o _ rfl (List.Sublist.refl _) (noRegs_row noRegs_nil) ?_)
 exact⟨ys,hc,rfl⟩
theorem Clone_ok(l:List UInt8)(v:Value)(G:Nat→Option Obj)(hl:SB G v l)(hb:l.length≤1000000):
  FnO Tryz.prog 194 #[v] G [] (fun _ L' r=>OwnB l L' r):=by
 refine F194.fnO (by simp) noRegs_nil (go_of ?_)
 have hl0:=hl
 obtain⟨A,c,rfl,hc,hm,hA⟩:=hl
 unfold c194
 intros;refine gr 0 0 ?_;refine sJ c194r0.eq_1 ?_
 intros;refine gr 3 4 ?_;refine sJ c194r1.eq_1 ?_
 intros;refine gc ?_;refine sI ?_
 refine gb (fun ht=>?_) (fun ht=>?_)
 ·intros;refine gr 0 0 ?_;refine sJ c194r2.eq_1 ?_
  (intros;try refine go_st ?_)
  have hA0:l=[]:=by
   match l,hA with
   | [],_=>rfl
   | x :: xs,hA=>obtain⟨a,_,ha,_⟩:=hA 0 x rfl;subst ha;cases ht
  subst hA0
  refine go_ghost (ghost_nil none 5 1) ?_
  refine go_ret (retQ_o _ rfl (List.Sublist.refl _) (noRegs_row noRegs_nil) ?_)
  exact⟨[],.nil,rfl⟩
 ·intros;refine gr 5 8 ?_;refine sJ c194r3.eq_1 ?_
  intro b hb'
  refine apX_v (.inr ⟨⟨_,rfl⟩,rfl,rfl,rfl,rfl⟩) hl0 rfl UE1 (by unfold maxLen;omega) fun ys A c hc=>?_
  simp only[Nat.zero_add]
  refine sI ?_
  (intros;try refine go_st ?_)
  refine go_ret (retQ_o _ rfl (List.Sublist.refl _) (noRegs_row noRegs_nil) ?_)
  exact⟨ys,hc,rfl⟩
theorem F200:Fun Tryz.prog 200 31 v200 c200 o200:=Fun.mk' Tryz.func200 Tryz.ntmps200 (by kernel_rfl) (by kernel_rfl) s200 q200
theorem F162:Fun Tryz.prog 162 36 v162 c162 o162:=Fun.mk' Tryz.func162 Tryz.ntmps162 (by kernel_rfl) (by kernel_rfl) s162 q162
def zig(n:Int):Nat:=if 0≤n then(2 * n).toNat else(-2 * n - 1).toNat
def vnat:Nat→Nat→List UInt8
 | 0,z=>[UInt8.ofNat z]
 | f+1,z=>if z < 128 then[UInt8.ofNat z]else UInt8.ofNat (128+z % 128) :: vnat f (z / 128)
def pvB(n:Int):List UInt8:=vnat 9 (zig n)
theorem vnat_len:∀ f z,(vnat f z).length≤f+1∧1≤(vnat f z).length
 | 0,z=>by simp[vnat]
 | f+1,z=>by
  unfold vnat
  split
  ·simp
  ·have:=vnat_len f (z / 128)
   simp
   omega
theorem pvB_len(n:Int):(pvB n).length≤10:=(vnat_len 9 _).1
theorem zig_lt{n:Int}(h:I64 n):zig n < 18446744073709551616:=by
 unfold zig I64 at *
 split <;> omega
theorem vnat_lt{f z:Nat}(h:z < 128):vnat f z=[UInt8.ofNat z]:=by
 cases f with
 | zero=>rfl
 | succ f=>exact if_pos h
def Puts(p:List UInt8)(z0:Nat)(zs:List UInt8)(z:Nat):Prop:=∃ f,f≤9∧zs.length+f=p.length+9∧z < 2 * 128 ^ f∧zs++vnat f z=p++vnat 9 z0
theorem puts_zero(p:List UInt8){z0:Nat}(h:z0 < 18446744073709551616):Puts p z0 p z0:=⟨9,Nat.le_refl _,rfl,by omega,rfl⟩
theorem puts_end{p zs:List UInt8}{z0 z:Nat}(h:Puts p z0 zs z)(hz:z < 128):zs++[UInt8.ofNat z]=p++vnat 9 z0:=by
 obtain⟨f,_,_,_,h⟩:=h
 rw[← h,vnat_lt hz]
theorem puts_more{p zs:List UInt8}{z0 z:Nat}(h:Puts p z0 zs z)(hz:¬ z < 128):Puts p z0 (zs++[UInt8.ofNat (128+z % 128)]) (z / 128):=by
 obtain⟨f,h1,h2,h3,h4⟩:=h
 cases f with
 | zero=>simp at h3;omega
 | succ f =>
  refine⟨f,by omega,by simp;omega,by rw[Nat.pow_succ]at h3;omega,?_⟩
  rw[← h4,vnat,if_neg hz]
  simp
theorem puts_len{p zs:List UInt8}{z0 z:Nat}(h:Puts p z0 zs z):zs.length≤p.length+9:=by
 obtain⟨f,h1,h2,_⟩:=h
 omega
theorem or_128(z:Nat):binV .or (.int .u8 (IntKind.u8.wrap (z:Int))) (.int .u8 128)=some (.int .u8 ((UInt8.ofNat (128+z % 128)).toNat:Int)):=by
 have key:∀ b:Fin 256,(BitVec.ofInt 8 ((b.val:Nat):Int) ||| BitVec.ofInt 8 128).toNat=128+b.val % 128:=by decide +kernel
 have h1:IntKind.u8.wrap (z:Int)=((z % 256:Nat):Int):=by rw[IntKind.wrap_u8];omega
 have h2:=key ⟨z % 256,Nat.mod_lt _ (by omega)⟩
 rw[h1]
 simp only[binV]
 rw[if_pos trivial]
 have h3:(BitVec.ofInt IntKind.u8.bits ((z % 256:Nat):Int) ||| BitVec.ofInt IntKind.u8.bits 128).toNat=128+z % 128:=by
  refine h2.trans ?_
  dsimp only
  omega
 rw[h3]
 simp[IntKind.wrap_u8]
theorem u8_nat(z:Nat):IntKind.u8.wrap (z:Int)=((UInt8.ofNat z).toNat:Int):=by
 rw[IntKind.wrap_u8]
 simp
theorem shr_7(z:Nat):binV .shr (.int .u64 (z:Int)) (.int .u64 7)=some (.int .u64 ((z / 128:Nat):Int)):=by
 simp[binV,IntKind.bits]
 rw[Int.fdiv_eq_ediv_of_nonneg _ (by omega)]
theorem shl_1(n:Int):binV .shl (.int .u64 (IntKind.u64.wrap n)) (.int .u64 1)=some (.int .u64 (IntKind.u64.wrap (IntKind.u64.wrap n * 2))):=by
 simp[binV,IntKind.bits]
def sgn(n:Int):Int:=if 0≤n then 0 else -1
theorem shr_63{n:Int}(h:I64 n):binV .shr (.int .i64 n) (.int .u64 63)=some (.int .i64 (sgn n)):=by
 have h1:n.fdiv 9223372036854775808=sgn n:=by
  rw[Int.fdiv_eq_ediv_of_nonneg _ (by omega)]
  unfold sgn I64 at *
  split <;> omega
 simp[binV,IntKind.bits,h1]
theorem xor_zig{n:Int}(h:I64 n):binV .xor (.int .u64 (IntKind.u64.wrap (IntKind.u64.wrap n * 2))) (.int .u64 (IntKind.u64.wrap (sgn n)))=some (.int .u64 (zig n:Int)):=by
 have hz:=zig_lt h
 have key:(BitVec.ofInt 64 (IntKind.u64.wrap (IntKind.u64.wrap n * 2)) ^^^ BitVec.ofInt 64 (IntKind.u64.wrap (sgn n))).toNat=zig n:=by
  unfold I64 at h
  by_cases h0:0≤n
  ·have e1:IntKind.u64.wrap (IntKind.u64.wrap n * 2)=2 * n:=by rw[IntKind.wrap_u64,IntKind.wrap_u64];omega
   have e2:IntKind.u64.wrap (sgn n)=0:=by rw[sgn,if_pos h0];rfl
   rw[e1,e2]
   have:BitVec.ofInt 64 0=0#64:=rfl
   rw[this,BitVec.xor_zero,BitVec.toNat_ofInt]
   simp[zig,h0]
   omega
  ·have e1:IntKind.u64.wrap (IntKind.u64.wrap n * 2)=(2 * n) % 18446744073709551616:=by rw[IntKind.wrap_u64,IntKind.wrap_u64];omega
   have e2:IntKind.u64.wrap (sgn n)=18446744073709551615:=by rw[sgn,if_neg h0];rfl
   rw[e1,e2]
   have:BitVec.ofInt 64 18446744073709551615=BitVec.allOnes 64:=by decide
   rw[this,BitVec.xor_allOnes,BitVec.toNat_not,BitVec.toNat_ofInt]
   simp[zig,h0]
   omega
 simp only[binV]
 rw[if_pos trivial]
 have e3:(BitVec.ofInt IntKind.u64.bits (IntKind.u64.wrap (IntKind.u64.wrap n * 2)) ^^^ BitVec.ofInt IntKind.u64.bits (IntKind.u64.wrap (sgn n))).toNat=zig n:=key
 rw[e3,IntKind.wrap_u64]
 congr 2
 omega
theorem PutVar_ok(l:List UInt8)(n:Int)(hn:I64 n)(v:Value)(G:Nat→Option Obj)(hl:SB G v l)(hb:l.length≤100000):
  FnO Tryz.prog 200 #[v,.int .i64 n] G [] (fun _ L' r=>OwnB (l++pvB n) L' r):=by
 refine F200.fnO (by simp) noRegs_nil (go_of ?_)
 have hl0:=hl
 obtain⟨A,c,rfl,hc,hm,hA⟩:=hl
 unfold c200
 intros;refine gr 0 0 ?_;refine sJ c200r0.eq_1 ?_
 intros;refine gr 7 14 ?_;(refine sJ4 c200r1.eq_1 @shl_1 (shr_63 hn) (xor_zig hn) ?_)
 intros;refine gr 14 16 ?_;refine sJ c200r2.eq_1 ?_
 refine(Clone_ok l _ G hl0 (by omega) _ []).mono ?_
 rintro r h' ⟨G1,L',rfl,hg1,ys,hys,rfl⟩
 refine sI ?_
 (intros;try refine go_st ?_)
 refine go_loop (fun e h=>∃ (z:Nat) (zs:List UInt8) (zc:List Value) (u:Value),(Puts l (zig n) zs z∧Cells UE 1 zs zc)∧e 5=.int .u64 (z:Int)∧e 6=u∧h.G=G1∧h.D=[]∧[Item.row u 5 1 zs.length zc].Sublist h.L) (fun e h=>iv (e 5)) ?_ ?_
 ·exact⟨zig n,l,ys,_,⟨puts_zero l (zig_lt hn),hys⟩,eE,eE,rfl,rfl,List.Sublist.refl _⟩
 ·rintro e ⟨G',L,D⟩ ⟨z,zs,zc,u,⟨hp,hcs⟩,e5,e6,hG,hD,hL⟩
  dsimp only at hG hD hL
  subst hG hD
  refine go_ghost (ghost_sub hL) ?_
  refine go_keep [5,6] ?_
  refine sJ2 @e5 @e6 ?_
  have hlen:=puts_len hp
  intros;refine gr 16 17 ?_;refine sJ c200r3.eq_1 ?_
  intros;refine gc ?_;refine sI ?_
  refine gb (fun ht=>?_) (fun ht=>?_)
  ·have hz:¬ z < 128:=by simp at ht;omega
   intros;refine gr 20 26 ?_;refine sJ2 c200r4.eq_1 @or_128 ?_
   intro bk hbk
   refine app8 (L1:=[]) (L2:=[]) rfl rfl hcs (by omega) fun A' c' zc' hzc=>?_
   refine sI ?_
   intros;refine gr 18 20 ?_;refine sJ2 c200r5.eq_1 @shr_7 ?_
   (intros;try refine go_st ?_)
   refine go_l ⟨⟨z / 128,_,zc',_,⟨puts_more hp hz,hzc⟩,eE,eE,rfl,rfl,.cons _ (List.Sublist.refl _)⟩,?_⟩
   refine sI ?_
   simp[iv]
   omega
  ·have hz:z < 128:=by simp at ht;omega
   refine go_exit ?_
   refine sI ?_
   intros;refine gr 26 31 ?_;refine sJ2 c200r6.eq_1 @u8_nat ?_
   intro bk hbk
   refine app8 (L1:=[]) (L2:=[]) rfl rfl hcs (by omega) fun A' c' zc' hzc=>?_
   refine sI ?_
   (intros;try refine go_st ?_)
   rw[puts_end hp hz]at hzc ⊢
   refine go_ret (retQ_o _ rfl (.cons _ (List.Sublist.refl _)) (noRegs_row noRegs_nil) ?_)
   exact⟨zc',hzc,rfl⟩
theorem RPutVar_ok(l:List UInt8)(n:Int)(hn:I64 n)(v:Value)(G:Nat→Option Obj)(hl:SB G v l)(hb:l.length≤100000):
  FnO Tryz.prog 162 #[v,.int .i64 n] G [] (fun _ L' r=>OwnB (l++pvB n) L' r):=by
 refine F162.fnO (by simp) noRegs_nil (go_of ?_)
 have hl0:=hl
 have hn0:=hn
 unfold I64 at hn
 obtain⟨A,c,rfl,hc,hm,hA⟩:=hl
 unfold c162
 intros;refine gr 0 0 ?_;refine sJ c162r0.eq_1 ?_
 intros;refine gr 7 10 ?_;refine sJ2 c162r1.eq_1 @bin_mul ?_
 have hrest:∀ (e:Env),e 0=.slice A l.length c→e 5=.int .u64 (zig n:Int)→go none Tryz.prog 36 v162.1 v162.2 (retQ o162 fun v h=>OwnB (l++pvB n) h.L v) [Td.s ((SC.reg false c162r4).seq ((SC.blk 0 (((SC.reg false c162r5).seq (SC.cond (O.t 21) SC.skip (SC.exit 0))).seq (SC.blk 1 ((SC.reg false c162r6).seq (SC.reg false c162r7)))).loop).seq ((SC.reg false c162r8).seq SC.ret)))] e ⟨G,[],[]⟩:=fun e e0 e5=>by
  refine go_keep [0,5] ?_
  refine sJ2 @e0 @e5 ?_
  intros;refine gr 18 20 ?_;refine sJ c162r4.eq_1 ?_
  refine(Copy_ok l _ G hl0 (by omega) _ []).mono ?_
  rintro r h' ⟨G1,L',rfl,hg1,ys,hys,rfl⟩
  refine sI ?_
  (intros;try refine go_st ?_)
  refine go_loop (fun e h=>∃ (z:Nat) (zs:List UInt8) (zc:List Value) (u:Value),(Puts l (zig n) zs z∧Cells UE 1 zs zc∧z < 18446744073709551616)∧e 5=.int .u64 (z:Int)∧e 6=u∧h.G=G1∧h.D=[]∧[Item.row u 5 1 zs.length zc].Sublist h.L) (fun e h=>iv (e 5)) ?_ ?_
  ·exact⟨zig n,l,ys,_,⟨puts_zero l (zig_lt hn0),hys,zig_lt hn0⟩,eE,eE,rfl,rfl,List.Sublist.refl _⟩
  ·rintro e ⟨G',L,D⟩ ⟨z,zs,zc,u,⟨hp,hcs,hzb⟩,e5,e6,hG,hD,hL⟩
   dsimp only at hG hD hL
   subst hG hD
   refine go_ghost (ghost_sub hL) ?_
   refine go_keep [5,6] ?_
   refine sJ2 @e5 @e6 ?_
   have hlen:=puts_len hp
   intros;refine gr 20 21 ?_;refine sJ c162r5.eq_1 ?_
   intros;refine gc ?_;refine sI ?_
   refine gb (fun ht=>?_) (fun ht=>?_)
   ·have hz:¬ z < 128:=by simp at ht;omega
    have hpm:=puts_more hp hz
    have hdz:z / 128 < z:=by omega
    have hq:binV .quo (.int .u64 (z:Int)) (.int .u64 128)=some (.int .u64 ((z / 128:Nat):Int)):=bin_quo .u64 z 128 (by decide) (by simp[IntKind.max,IntKind.signed,IntKind.bits];omega) rfl
    generalize z / 128=q at hq hpm hdz
    have hr:binV .rem (.int .u64 (z:Int)) (.int .u64 128)=some (.int .u64 ((z:Int) % 128)):=bin_rem .u64 z 128 (by decide)
    have hw:IntKind.u8.wrap (IntKind.u64.wrap (128+(z:Int) % 128))=((UInt8.ofNat (128+z % 128)).toNat:Int):=by
     rw[← u8_nat,IntKind.wrap_u64]
     congr 1
     omega
    intros;refine gr 22 29 ?_;refine sJ3 c162r6.eq_1 @hr @bin_add ?_
    intro bk hbk
    refine app8 (L1:=[]) (L2:=[]) rfl hw hcs (by omega) fun A' c' zc' hzc=>?_
    refine sI ?_
    intros;refine gr 29 31 ?_;refine sJ2 c162r7.eq_1 @hq ?_
    (intros;try refine go_st ?_)
    refine go_l ⟨⟨q,_,zc',_,⟨hpm,hzc,by omega⟩,eE,eE,rfl,rfl,.cons _ (List.Sublist.refl _)⟩,?_⟩
    refine sI ?_
    omega
   ·have hz:z < 128:=by simp at ht;omega
    refine go_exit ?_
    refine sI ?_
    intros;refine gr 31 36 ?_;refine sJ2 c162r8.eq_1 @u8_nat ?_
    intro bk hbk
    refine app8 (L1:=[]) (L2:=[]) rfl rfl hcs (by omega) fun A' c' zc' hzc=>?_
    refine sI ?_
    (intros;try refine go_st ?_)
    rw[puts_end hp hz]at hzc ⊢
    refine go_ret (retQ_o _ rfl (.cons _ (List.Sublist.refl _)) (noRegs_row noRegs_nil) ?_)
    exact⟨zc',hzc,rfl⟩
 intros;refine gr 10 11 ?_;refine sJ c162r2.eq_1 ?_
 intros;refine gc ?_;refine sI ?_
 refine gb (fun ht=>?_) (fun ht=>?_)
 ·have hz:IntKind.u64.wrap (IntKind.u64.wrap (2 * IntKind.u64.wrap (IntKind.i64.wrap (0 - IntKind.i64.wrap (n+1))))+1)=(zig n:Int):=by
   have h0:n < 0:=by simpa using ht
   have e1:IntKind.i64.wrap (n+1)=n+1:=by rw[w64_id] <;> omega
   have e2:IntKind.i64.wrap (0 - (n+1))=0 - (n+1):=by rw[w64_id] <;> omega
   rw[e1,e2]
   simp only[IntKind.wrap_u64,zig,if_neg (show ¬ 0≤n by omega)]
   omega
  intros;refine gr 12 18 ?_;refine sJ4 c162r3.eq_1 @bin_mul @bin_add @hz ?_
  intro _
  (repeat first | refine go_skip ?_ | refine go_b ?_)
  refine hrest _ ?_ ?_ <;> (refine sI ?_;try with_reducible exact True.intro)
 ·have hz:IntKind.u64.wrap (2 * IntKind.u64.wrap n)=(zig n:Int):=by
   have h0:¬ n < 0:=by simpa using ht
   simp only[IntKind.wrap_u64,zig,if_pos (show 0≤n by omega)]
   omega
  (repeat first | refine go_skip ?_ | refine go_b ?_)
  refine hrest _ ?_ ?_ <;> (refine sJ @hz ?_;try with_reducible exact True.intro)
theorem F215:Fun Tryz.prog 215 9 v215 c215 o215:=Fun.mk' Tryz.func215 Tryz.ntmps215 (by kernel_rfl) (by kernel_rfl) s215 q215
theorem F184:Fun Tryz.prog 184 9 v184 c184 o184:=Fun.mk' Tryz.func184 Tryz.ntmps184 (by kernel_rfl) (by kernel_rfl) s184 q184
theorem F216:Fun Tryz.prog 216 11 v216 c216 o216:=Fun.mk' Tryz.func216 Tryz.ntmps216 (by kernel_rfl) (by kernel_rfl) s216 q216
theorem F185:Fun Tryz.prog 185 11 v185 c185 o185:=Fun.mk' Tryz.func185 Tryz.ntmps185 (by kernel_rfl) (by kernel_rfl) s185 q185
theorem F199:Fun Tryz.prog 199 33 v199 c199 o199:=Fun.mk' Tryz.func199 Tryz.ntmps199 (by kernel_rfl) (by kernel_rfl) s199 q199
theorem F161:Fun Tryz.prog 161 39 v161 c161 o161:=Fun.mk' Tryz.func161 Tryz.ntmps161 (by kernel_rfl) (by kernel_rfl) s161 q161
def inO(n:Int):Bool:=decide (0≤n) && decide (n≤1099511627776)
theorem in_ok(n:Int)(G:Nat→Option Obj):FnS Tryz.prog 215 #[.int .i64 n] G (.bool (inO n)):=by
 refine F215.fnS (by simp) (go_of ?_)
 unfold c215
 intros;refine gr 0 0 ?_;refine sJ c215r0.eq_1 ?_
 intros;refine gr 3 9 ?_;refine sJ c215r1.eq_1 ?_
 refine gd (fun h1=>?_) (fun h1=>?_)
 ·refine sI ?_
  intros;refine rV ?_;simp only[push_cast,Nat.reduceBEq]
  have:0≤n:=by simpa using h1
  simp[inO,this]
 ·refine sI ?_
  intros;refine rV ?_;simp only[push_cast,Nat.reduceBEq]
  have:¬ 0≤n:=by simpa using h1
  simp[inO,this]
theorem In_ok(n:Int)(G:Nat→Option Obj):FnS Tryz.prog 184 #[.int .i64 n] G (.bool (inO n)):=by
 refine F184.fnS (by simp) (go_of ?_)
 unfold c184
 intros;refine gr 0 0 ?_;refine sJ c184r0.eq_1 ?_
 intros;refine gr 3 9 ?_;refine sJ c184r1.eq_1 ?_
 refine gd (fun h1=>?_) (fun h1=>?_)
 ·refine sI ?_
  intros;refine rV ?_;simp only[push_cast,Nat.reduceBEq]
  have:0≤n:=by simpa using h1
  simp[inO,this]
 ·refine sI ?_
  intros;refine rV ?_;simp only[push_cast,Nat.reduceBEq]
  have:¬ 0≤n:=by simpa using h1
  simp[inO,this]
def ptB(s:ByteArray):List UInt8:=pvB s.size++s.data.toList
theorem ptB_len(s:ByteArray):(ptB s).length≤10+s.size:=by
 have:=pvB_len s.size
 simp[ptB]
 omega
theorem PutText_ok(l:List UInt8)(s:ByteArray)(v:Value)(G:Nat→Option Obj)(hl:SB G v l)(hb:l.length≤100000)(hs:s.size≤100000):
  FnO Tryz.prog 216 #[v,.string s] G [] (fun _ L' r=>OwnB (l++ptB s) L' r):=by
 refine F216.fnO (by simp) noRegs_nil (go_of ?_)
 unfold c216
 intros;refine gr 0 0 ?_;refine sJ c216r0.eq_1 ?_
 intros;refine gr 5 11 ?_;refine sJ c216r1.eq_1 ?_
 refine(PutVar_ok l s.size (by unfold I64;omega) v G hl hb _ []).mono ?_
 rintro r h' ⟨G1,L',rfl,hg1,ys,hys,rfl⟩
 refine sI ?_
 have hpl:=pvB_len s.size
 refine apX_s (L1:=[]) (.inl rfl) hys (by rw[List.length_append];omega) fun A' c' zc' hzc=>?_
 refine sI ?_
 (intros;try refine go_st ?_)
 refine go_ret (retQ_o _ rfl (List.Sublist.refl _) (noRegs_row noRegs_nil) ?_)
 rw[List.append_assoc]at hzc ⊢
 exact⟨zc',hzc,rfl⟩
theorem RPutText_ok(l:List UInt8)(s:ByteArray)(v:Value)(G:Nat→Option Obj)(hl:SB G v l)(hb:l.length≤100000)(hs:s.size≤100000):
  FnO Tryz.prog 185 #[v,.string s] G [] (fun _ L' r=>OwnB (l++ptB s) L' r):=by
 refine F185.fnO (by simp) noRegs_nil (go_of ?_)
 unfold c185
 intros;refine gr 0 0 ?_;refine sJ c185r0.eq_1 ?_
 intros;refine gr 5 11 ?_;refine sJ c185r1.eq_1 ?_
 refine(RPutVar_ok l s.size (by unfold I64;omega) v G hl hb _ []).mono ?_
 rintro r h' ⟨G1,L',rfl,hg1,ys,hys,rfl⟩
 refine sI ?_
 have hpl:=pvB_len s.size
 refine apX_s (L1:=[]) (.inl rfl) hys (by rw[List.length_append];omega) fun A' c' zc' hzc=>?_
 refine sI ?_
 (intros;try refine go_st ?_)
 refine go_ret (retQ_o _ rfl (List.Sublist.refl _) (noRegs_row noRegs_nil) ?_)
 rw[List.append_assoc]at hzc ⊢
 exact⟨zc',hzc,rfl⟩
structure Rec where
 off:Int
 key:ByteArray
 val:ByteArray
 dead:Bool
 stamp:Int
def cellR(x:Rec):List Value:=[.int .i64 x.off,.string x.key,.string x.val,.bool x.dead,.int .i64 x.stamp]
def RR(x:Rec)(cs:List Value):Prop:=cs=cellR x∧(I64 x.off∧I64 x.stamp)∧x.key.size≤maxLen∧x.val.size≤maxLen
def isE(s:ByteArray):Bool:=s.toList == ByteArray.toList ⟨#[]⟩
def chkR(x:Rec):Int:=if inO x.off=true∧inO x.stamp=true∧x.key.size≤64∧x.val.size≤64∧¬ (x.dead=true∧(isE x.key=true∨isE x.val=false))then 0 else 1
theorem bin_seq(a:ByteArray):binV .eql (.string a) (.string ⟨#[]⟩)=some (.bool (isE a)):=rfl
theorem bin_sne(a:ByteArray):binV .neq (.string a) (.string ⟨#[]⟩)=some (.bool (!isE a)):=rfl
theorem chkR_1{x:Rec}(h:inO x.off=false∨inO x.stamp=false∨64 < x.key.size∨64 < x.val.size∨(x.dead=true∧(isE x.key=true∨isE x.val=false))):chkR x=1:=by
 refine if_neg fun⟨h1,h2,h3,h4,h5⟩=>?_
 rcases h with h | h | h | h | h
 ·rw[h1]at h;cases h
 ·rw[h2]at h;cases h
 ·omega
 ·omega
 ·exact h5 h
theorem RCheck_ok(x:Rec)(G:Nat→Option Obj):FnS Tryz.prog 161 #[.agg (cellR x).toArray] G (.int .i64 (chkR x)):=by
 refine F161.fnS (by simp) (go_of ?_)
 unfold c161 cellR
 intros;refine gr 0 0 ?_;refine sJ c161r0.eq_1 ?_
 have hbad:∀ (fr:List Td) (e:Env) (L:List Kx.Item),chkR x=1→go none Tryz.prog 39 v161.1 v161.2 (retQ o161 fun v h=>v=.int .i64 (chkR x)) (Td.s ((SC.reg false c161r2).seq .ret) :: fr) e ⟨G,L,[]⟩:=fun fr e L hx=>by
  intros;refine gr 0 0 ?_;refine sJ c161r2.eq_1 ?_
  intros;refine rV ?_;simp only[push_cast,Nat.reduceBEq]
  rw[hx]
 have hgood:∀ (e:Env) (L:List Kx.Item),chkR x=0→go none Tryz.prog 39 v161.1 v161.2 (retQ o161 fun v h=>v=.int .i64 (chkR x)) [Td.s ((SC.reg false c161r3).seq .ret)] e ⟨G,L,[]⟩:=fun e L hx=>by
  intros;refine gr 0 0 ?_;refine sJ c161r3.eq_1 ?_
  intros;refine rV ?_;simp only[push_cast,Nat.reduceBEq]
  rw[hx]
 intros;refine gr 4 38 ?_;refine sJ c161r1.eq_1 ?_
 refine(In_ok x.off G _ _).mono ?_;rintro _ _ ⟨rfl,rfl⟩;refine sI ?_
 refine gd (fun h1=>?_) (fun h1=>?_)
 ·refine sI ?_
  intros;refine gc ?_;refine sI ?_
  exact hbad _ _ _ (chkR_1 (.inl (by simpa using h1)))
 refine sI ?_
 refine(In_ok x.stamp G _ _).mono ?_;rintro _ _ ⟨rfl,rfl⟩;refine sI ?_
 refine gd (fun h2=>?_) (fun h2=>?_)
 ·refine sI ?_
  intros;refine gc ?_;refine sI ?_
  exact hbad _ _ _ (chkR_1 (.inr (.inl (by simpa using h2))))
 refine sI ?_
 refine gd (fun h3=>?_) (fun h3=>?_)
 ·refine sI ?_
  intros;refine gc ?_;refine sI ?_
  exact hbad _ _ _ (chkR_1 (.inr (.inr (.inl (by simp at h3;omega)))))
 refine sI ?_
 refine gd (fun h4=>?_) (fun h4=>?_)
 ·refine sI ?_
  intros;refine gc ?_;refine sI ?_
  exact hbad _ _ _ (chkR_1 (.inr (.inr (.inr (.inl (by simp at h4;omega))))))
 refine sI ?_
 have h1':inO x.off=true:=by simpa using h1
 have h2':inO x.stamp=true:=by simpa using h2
 have h3':x.key.size≤64:=by simp at h3;omega
 have h4':x.val.size≤64:=by simp at h4;omega
 refine gd (fun h5=>?_) (fun h5=>?_)
 ·refine sJ @bin_seq ?_
  refine gd (fun h6=>?_) (fun h6=>?_)
  ·refine sI ?_
   intros;refine gc ?_;refine sI ?_
   exact hbad _ _ _ (chkR_1 (.inr (.inr (.inr (.inr ⟨h5,.inl h6⟩)))))
  refine sJ @bin_sne ?_
  intros;refine gc ?_;refine sI ?_
  refine gb (fun h7=>?_) (fun h7=>?_)
  ·exact hbad _ _ _ (chkR_1 (.inr (.inr (.inr (.inr ⟨h5,.inr (by simpa using h7)⟩)))))
  ·(repeat first | refine go_skip ?_ | refine go_b ?_)
   refine hgood _ _ (if_pos ⟨h1',h2',h3',h4',fun h=>?_⟩)
   rcases h.2 with h | h
   ·rw[h6]at h;cases h
   ·simp[h]at h7
 ·refine sI ?_
  intros;refine gc ?_;refine sI ?_
  (repeat first | refine go_skip ?_ | refine go_b ?_)
  exact hgood _ _ (if_pos ⟨h1',h2',h3',h4',fun h=>by rw[h5]at h;cases h.1⟩)
theorem Check_ok(x:Rec)(G:Nat→Option Obj):FnS Tryz.prog 199 #[.agg (cellR x).toArray] G (.int .i64 (chkR x)):=by
 refine F199.fnS (by simp) (go_of ?_)
 unfold c199 cellR
 intros;refine gr 0 0 ?_;refine sJ c199r0.eq_1 ?_
 have hbad:∀ (fr:List Td) (e:Env) (L:List Kx.Item),chkR x=1→go none Tryz.prog 33 v199.1 v199.2 (retQ o199 fun v h=>v=.int .i64 (chkR x)) (Td.s ((SC.reg false c199r4).seq .ret) :: fr) e ⟨G,L,[]⟩:=fun fr e L hx=>by
  intros;refine gr 0 0 ?_;refine sJ c199r4.eq_1 ?_
  intros;refine rV ?_;simp only[push_cast,Nat.reduceBEq]
  rw[hx]
 intros;refine gr 5 8 ?_;refine sJ c199r1.eq_1 ?_
 refine(in_ok x.off G _ _).mono ?_;rintro _ _ ⟨rfl,rfl⟩;refine sI ?_
 intros;refine gc ?_;refine sI ?_
 refine gb (fun h1=>?_) (fun h1=>?_)
 ·(repeat first | refine go_skip ?_ | refine go_b ?_)
  intros;refine gc ?_;refine sI ?_
  refine gb (fun _=>?_) (fun h=>by rw[h1]at h;cases h)
  exact hbad _ _ _ (chkR_1 (.inl (by simpa using h1)))
 intros;refine gr 9 12 ?_;refine sJ c199r2.eq_1 ?_
 refine(in_ok x.stamp G _ _).mono ?_;rintro _ _ ⟨rfl,rfl⟩;refine sI ?_
 intros;refine gc ?_;refine sI ?_
 refine gb (fun h2=>?_) (fun h2=>?_)
 ·(repeat first | refine go_skip ?_ | refine go_b ?_)
  intros;refine gc ?_;refine sI ?_
  refine gb (fun _=>?_) (fun h=>by rw[h2]at h;cases h)
  exact hbad _ _ _ (chkR_1 (.inr (.inl (by simpa using h2))))
 have h1':inO x.off=true:=by simpa using h1
 have h2':inO x.stamp=true:=by simpa using h2
 intros;refine gr 13 20 ?_;refine sJ c199r3.eq_1 ?_
 intros;refine gc ?_;refine sI ?_
 refine gb (fun h3=>?_) (fun h3=>?_)
 ·have h3:=of_decide_eq_true h3
  by_cases h4:64 < x.key.size
  ·exact hbad _ _ _ (chkR_1 (.inr (.inr (.inl h4))))
  ·exact hbad _ _ _ (chkR_1 (.inr (.inr (.inr (.inl (by omega))))))
 have h3:=of_decide_eq_false h3
 have h3':x.key.size≤64:=by omega
 have h4':x.val.size≤64:=by omega
 have hbad2:∀ (fr:List Td) (e:Env) (L:List Kx.Item),chkR x=1→go none Tryz.prog 33 v199.1 v199.2 (retQ o199 fun v h=>v=.int .i64 (chkR x)) (Td.s ((SC.reg false c199r6).seq .ret) :: fr) e ⟨G,L,[]⟩:=fun fr e L hx=>by
  intros;refine gr 0 0 ?_;refine sJ c199r6.eq_1 ?_
  intros;refine rV ?_;simp only[push_cast,Nat.reduceBEq]
  rw[hx]
 have hgood:∀ (e:Env) (L:List Kx.Item),chkR x=0→go none Tryz.prog 33 v199.1 v199.2 (retQ o199 fun v h=>v=.int .i64 (chkR x)) [Td.s ((SC.reg false c199r7).seq .ret)] e ⟨G,L,[]⟩:=fun e L hx=>by
  intros;refine gr 0 0 ?_;refine sJ c199r7.eq_1 ?_
  intros;refine rV ?_;simp only[push_cast,Nat.reduceBEq]
  rw[hx]
 intros;refine gr 22 33 ?_;refine sJ c199r5.eq_1 ?_
 refine gd (fun h5=>?_) (fun h5=>?_)
 ·refine sJ @bin_seq ?_
  refine gd (fun h6=>?_) (fun h6=>?_)
  ·refine sI ?_
   intros;refine gc ?_;refine sI ?_
   exact hbad2 _ _ _ (chkR_1 (.inr (.inr (.inr (.inr ⟨h5,.inl h6⟩)))))
  refine sJ @bin_sne ?_
  intros;refine gc ?_;refine sI ?_
  refine gb (fun h7=>?_) (fun h7=>?_)
  ·exact hbad2 _ _ _ (chkR_1 (.inr (.inr (.inr (.inr ⟨h5,.inr (by simpa using h7)⟩)))))
  ·(repeat first | refine go_skip ?_ | refine go_b ?_)
   refine hgood _ _ (if_pos ⟨h1',h2',h3',h4',fun h=>?_⟩)
   rcases h.2 with h | h
   ·rw[h6]at h;cases h
   ·simp[h]at h7
 ·refine sI ?_
  intros;refine gc ?_;refine sI ?_
  (repeat first | refine go_skip ?_ | refine go_b ?_)
  exact hgood _ _ (if_pos ⟨h1',h2',h3',h4',fun h=>by rw[h5]at h;cases h.1⟩)
theorem F201:Fun Tryz.prog 201 46 v201 c201 o201:=Fun.mk' Tryz.func201 Tryz.ntmps201 (by kernel_rfl) (by kernel_rfl) s201 q201
theorem F163:Fun Tryz.prog 163 50 v163 c163 o163:=Fun.mk' Tryz.func163 Tryz.ntmps163 (by kernel_rfl) (by kernel_rfl) s163 q163
def prB(x:Rec)(base stamp:Int):List UInt8:=pvB (x.off - base)++pvB (x.stamp - stamp)++[if x.dead=true then 1 else 0]++ptB x.key++ptB x.val
def putR(x:Rec)(base stamp:Int):List UInt8 × Int:=if chkR x≠0 then([],chkR x)else if ¬ (inO base=true∧inO stamp=true)then([],1)else(prB x base stamp,0)
def OwnE(p:List UInt8 × Int)(L':List Kx.Item)(r:Value):Prop:=∃ u,r=.tuple #[u,.int .i64 p.2]∧OwnB p.1 L' u
theorem chk_small{x:Rec}(h:chkR x=0):(inO x.off=true∧inO x.stamp=true)∧x.key.size≤64∧x.val.size≤64:=by
 by_cases h0:inO x.off=true∧inO x.stamp=true∧x.key.size≤64∧x.val.size≤64∧¬ (x.dead=true∧(isE x.key=true∨isE x.val=false))
 ·exact⟨⟨h0.1,h0.2.1⟩,h0.2.2.1,h0.2.2.2.1⟩
 ·rw[chkR,if_neg h0]at h;cases h
theorem RPut_ok(x:Rec)(base stamp:Int)(G:Nat→Option Obj):FnO Tryz.prog 163 #[.agg (cellR x).toArray,.int .i64 base,.int .i64 stamp] G [] (fun _ L' r=>OwnE (putR x base stamp) L' r):=by
 refine F163.fnO (by simp) noRegs_nil (go_of ?_)
 unfold c163
 have hck:=RCheck_ok x
 unfold cellR at hck ⊢
 intros;refine gr 0 0 ?_;refine sJ c163r0.eq_1 ?_
 intros;refine gr 10 12 ?_;refine sJ c163r1.eq_1 ?_
 refine(hck G _ _).mono ?_;rintro _ _ ⟨rfl,rfl⟩;refine sI ?_
 intros;refine gr 12 13 ?_;refine sJ c163r2.eq_1 ?_
 intros;refine gc ?_;refine sI ?_
 refine gb (fun h1=>?_) (fun h1=>?_)
 ·intros;refine gr 14 15 ?_;refine sJ c163r3.eq_1 ?_
  (intros;try refine go_st ?_)
  refine go_ghost (ghost_nil none 5 1) ?_
  refine go_ret (retQ_o _ rfl (.cons_cons _ (List.nil_sublist _)) (noRegs_row noRegs_nil) ?_)
  rw[putR,if_pos (by simpa using h1)]
  exact⟨_,rfl,[],.nil,rfl⟩
 have h1:chkR x=0:=by simpa using h1
 have hbad:∀ (fr:List Td) (e:Env) (L:List Kx.Item),putR x base stamp=([],1)→go none Tryz.prog 50 v163.1 v163.2 (retQ o163 fun v h=>OwnE (putR x base stamp) h.L v) (Td.s ((SC.reg false c163r5).seq .ret) :: fr) e ⟨G,L,[]⟩:=fun fr e L hx=>by
  intros;refine gr 0 0 ?_;refine sJ c163r5.eq_1 ?_
  (intros;try refine go_st ?_)
  refine go_ghost (ghost_nil none 5 1) ?_
  refine go_ret (retQ_o _ rfl (.cons_cons _ (List.nil_sublist _)) (noRegs_row noRegs_nil) ?_)
  rw[hx]
  exact⟨_,rfl,[],.nil,rfl⟩
 have hpb:∀ (h:¬ (inO base=true∧inO stamp=true)),putR x base stamp=([],1):=fun h=>by rw[putR,if_neg (by simp[h1]),if_pos h]
 intros;refine gr 15 22 ?_;refine sJ c163r4.eq_1 ?_
 refine(In_ok base G _ _).mono ?_;rintro _ _ ⟨rfl,rfl⟩;refine sI ?_
 refine gd (fun h2=>?_) (fun h2=>?_)
 ·refine sI ?_
  intros;refine gc ?_;refine sI ?_
  exact hbad _ _ _ (hpb fun h=>by rw[h.1]at h2;cases h2)
 refine sI ?_
 refine(In_ok stamp G _ _).mono ?_;rintro _ _ ⟨rfl,rfl⟩;refine sI ?_
 intros;refine gc ?_;refine sI ?_
 refine gb (fun h3=>?_) (fun h3=>?_)
 ·exact hbad _ _ _ (hpb fun h=>by rw[h.2]at h3;cases h3)
 have h2:inO base=true:=by simpa using h2
 have h3:inO stamp=true:=by simpa using h3
 obtain⟨⟨ho,hst⟩,hk,hv⟩:=chk_small h1
 have hput:putR x base stamp=(prB x base stamp,0):=by rw[putR,if_neg (by simp[h1]),if_neg (by simp[h2,h3])]
 simp[inO]at h2 h3 ho hst
 have w1:IntKind.i64.wrap (x.off - base)=x.off - base:=by rw[w64_id] <;> omega
 have w2:IntKind.i64.wrap (x.stamp - stamp)=x.stamp - stamp:=by rw[w64_id] <;> omega
 have i1:I64 (x.off - base):=by unfold I64;omega
 have i2:I64 (x.stamp - stamp):=by unfold I64;omega
 have l1:=pvB_len (x.off - base)
 have l2:=pvB_len (x.stamp - stamp)
 (repeat first | refine go_skip ?_ | refine go_b ?_)
 intros;refine gr 24 28 ?_;refine sJ2 c163r6.eq_1 @w1 ?_
 refine(RPutVar_ok [] (x.off - base) i1 _ G SB.nil (by simp) _ []).mono ?_
 rintro r h' ⟨G1,L',rfl,hg1,ys,hys,rfl⟩
 simp only[List.nil_append]at hys ⊢
 refine sI ?_
 intros;refine gr 28 34 ?_;refine sJ2 c163r7.eq_1 @w2 ?_
 refine callsH_gx F162.enters (gx_slv_at [] _ (by decide) hys) ?_
 rintro h' ⟨G2,rfl,hg2,hv2⟩
 refine(RPutVar_ok _ (x.stamp - stamp) i2 _ G2 hv2 (by omega) _ []).mono ?_
 rintro r h' ⟨G3,L',rfl,hg3,ys3,hys3,rfl⟩
 refine sI ?_
 have hrest:∀ (e:Env) (L:List Kx.Item) (u:Value) (zc:List Value) (b:UInt8),b=(if x.dead=true then 1 else 0)→Cells UE 1 (pvB (x.off - base)++pvB (x.stamp - stamp)++[b]) zc→e 9=u →
   go none Tryz.prog 50 v163.1 v163.2 (retQ o163 fun v h=>OwnE (putR x base stamp) h.L v) [Td.s ((SC.reg false c163r11).seq ((SC.reg false c163r12).seq .ret))] e ⟨G3,[.row u 5 1 (pvB (x.off - base)++pvB (x.stamp - stamp)++[b]).length zc,.reg 3 [.int .i64 x.off,.string x.key,.string x.val,.bool x.dead,.int .i64 x.stamp]],[]⟩:=fun e L u zc b hb hzc e9=>by
  refine go_keep [9] ?_
  refine sJ @e9 ?_
  intros;refine gr 42 46 ?_;refine sJ c163r11.eq_1 ?_
  refine callsH_gx F185.enters (gx_slv_at [] _ (by decide) hzc) ?_
  rintro h' ⟨G4,rfl,hg4,hv4⟩
  refine(RPutText_ok _ x.key _ G4 hv4 (by simp;omega) (by omega) _ []).mono ?_
  rintro r h' ⟨G5,L',rfl,hg5,ys5,hys5,rfl⟩
  refine sI ?_
  have l3:=ptB_len x.key
  intros;refine gr 46 50 ?_;refine sJ c163r12.eq_1 ?_
  refine callsH_gx F185.enters (gx_slv_at [] _ (by decide) hys5) ?_
  rintro h' ⟨G6,rfl,hg6,hv6⟩
  refine(RPutText_ok _ x.val _ G6 hv6 (by simp;omega) (by omega) _ []).mono ?_
  rintro r h' ⟨G7,L',rfl,hg7,ys7,hys7,rfl⟩
  refine sI ?_
  (intros;try refine go_st ?_)
  refine go_ret (retQ_o _ rfl (.cons_cons _ (List.nil_sublist _)) (noRegs_row noRegs_nil) ?_)
  rw[hput]
  subst hb
  exact⟨_,rfl,ys7,hys7,rfl⟩
 intros;refine gr 0 0 ?_;refine sJ c163r8.eq_1 ?_
 intros;refine gc ?_;refine sI ?_
 refine gb (fun h5=>?_) (fun h5=>?_)
 ·intros;refine gr 36 39 ?_;refine sJ c163r9.eq_1 ?_
  intro bk hbk
  refine app8 (L1:=[]) (L2:=[_]) (x:=1) rfl rfl hys3 (by simp;omega) fun A' c' zc' hzc=>?_
  refine sI ?_
  intro _
  refine go_ghost (ghost_sub (.cons _ (List.Sublist.refl _))) ?_
  (repeat first | refine go_skip ?_ | refine go_b ?_)
  refine hrest _ [] _ _ 1 (by rw[if_pos h5]) hzc ?_
  (refine sI ?_;try with_reducible exact True.intro)
 ·intros;refine gr 39 42 ?_;refine sJ c163r10.eq_1 ?_
  intro bk hbk
  refine app8 (L1:=[]) (L2:=[_]) (x:=0) rfl rfl hys3 (by simp;omega) fun A' c' zc' hzc=>?_
  refine sI ?_
  intro _
  refine go_ghost (ghost_sub (.cons _ (List.Sublist.refl _))) ?_
  (repeat first | refine go_skip ?_ | refine go_b ?_)
  refine hrest _ [] _ _ 0 (by rw[if_neg (by rw[h5];simp)]) hzc ?_
  (refine sI ?_;try with_reducible exact True.intro)
theorem Put_ok(x:Rec)(base stamp:Int)(G:Nat→Option Obj):FnO Tryz.prog 201 #[.agg (cellR x).toArray,.int .i64 base,.int .i64 stamp] G [] (fun _ L' r=>OwnE (putR x base stamp) L' r):=by
 refine F201.fnO (by simp) noRegs_nil (go_of ?_)
 unfold c201
 have hck:=Check_ok x
 unfold cellR at hck ⊢
 intros;refine gr 0 0 ?_;refine sJ c201r0.eq_1 ?_
 intros;refine gr 11 13 ?_;refine sJ c201r1.eq_1 ?_
 refine(hck G _ _).mono ?_;rintro _ _ ⟨rfl,rfl⟩;refine sI ?_
 intros;refine gr 13 14 ?_;refine sJ c201r2.eq_1 ?_
 intros;refine gc ?_;refine sI ?_
 refine gb (fun h1=>?_) (fun h1=>?_)
 ·intros;refine gr 15 16 ?_;refine sJ c201r3.eq_1 ?_
  (intros;try refine go_st ?_)
  refine go_ghost (ghost_nil none 5 1) ?_
  refine go_ret (retQ_o _ rfl (.cons_cons _ (List.nil_sublist _)) (noRegs_row noRegs_nil) ?_)
  rw[putR,if_pos (by simpa using h1)]
  exact⟨_,rfl,[],.nil,rfl⟩
 have h1:chkR x=0:=by simpa using h1
 have hbad:∀ (fr:List Td) (e:Env) (L:List Kx.Item),putR x base stamp=([],1)→go none Tryz.prog 46 v201.1 v201.2 (retQ o201 fun v h=>OwnE (putR x base stamp) h.L v) (Td.s ((SC.reg false c201r5).seq .ret) :: fr) e ⟨G,L,[]⟩:=fun fr e L hx=>by
  intros;refine gr 0 0 ?_;refine sJ c201r5.eq_1 ?_
  (intros;try refine go_st ?_)
  refine go_ghost (ghost_nil none 5 1) ?_
  refine go_ret (retQ_o _ rfl (.cons_cons _ (List.nil_sublist _)) (noRegs_row noRegs_nil) ?_)
  rw[hx]
  exact⟨_,rfl,[],.nil,rfl⟩
 have hpb:∀ (h:¬ (inO base=true∧inO stamp=true)),putR x base stamp=([],1):=fun h=>by rw[putR,if_neg (by simp[h1]),if_pos h]
 (repeat first | refine go_skip ?_ | refine go_b ?_)
 intros;refine gr 16 23 ?_;refine sJ c201r4.eq_1 ?_
 refine(in_ok base G _ _).mono ?_;rintro _ _ ⟨rfl,rfl⟩;refine sI ?_
 refine gd (fun h2=>?_) (fun h2=>?_)
 ·refine sI ?_
  intros;refine gc ?_;refine sI ?_
  exact hbad _ _ _ (hpb fun h=>by rw[h.1]at h2;cases h2)
 refine sI ?_
 refine(in_ok stamp G _ _).mono ?_;rintro _ _ ⟨rfl,rfl⟩;refine sI ?_
 intros;refine gc ?_;refine sI ?_
 refine gb (fun h3=>?_) (fun h3=>?_)
 ·exact hbad _ _ _ (hpb fun h=>by rw[h.2]at h3;cases h3)
 have h2:inO base=true:=by simpa using h2
 have h3:inO stamp=true:=by simpa using h3
 obtain⟨⟨ho,hst⟩,hk,hv⟩:=chk_small h1
 have hput:putR x base stamp=(prB x base stamp,0):=by rw[putR,if_neg (by simp[h1]),if_neg (by simp[h2,h3])]
 simp[inO]at h2 h3 ho hst
 have w1:IntKind.i64.wrap (x.off - base)=x.off - base:=by rw[w64_id] <;> omega
 have w2:IntKind.i64.wrap (x.stamp - stamp)=x.stamp - stamp:=by rw[w64_id] <;> omega
 have i1:I64 (x.off - base):=by unfold I64;omega
 have i2:I64 (x.stamp - stamp):=by unfold I64;omega
 have l1:=pvB_len (x.off - base)
 have l2:=pvB_len (x.stamp - stamp)
 (repeat first | refine go_skip ?_ | refine go_b ?_)
 have hrest:∀ (e:Env) (b:UInt8),b=(if x.dead=true then 1 else 0)→e 1=.int .i64 base→e 2=.int .i64 stamp→e 9=.int .u8 (b.toNat:Int) →
   go none Tryz.prog 46 v201.1 v201.2 (retQ o201 fun v h=>OwnE (putR x base stamp) h.L v) [Td.s ((SC.rgX c201r9).seq ((SC.rgX c201r10).seq .ret))] e ⟨G,[.reg 3 [.int .i64 x.off,.string x.key,.string x.val,.bool x.dead,.int .i64 x.stamp]],[]⟩:=fun e b hb e1 e2 e9=>by
  refine go_keep [1,2,9] ?_
  refine sJ3 @e1 @e2 @e9 ?_
  (intros;try refine go_st ?_);refine go_x _ (List.Sublist.refl _) (by decide) ?_;refine sJ3 c201r9.eq_1 @w1 @w2 ?_
  refine(PutVar_ok [] (x.off - base) i1 _ G SB.nil (by simp) _ []).mono ?_
  rintro r h' ⟨G1,L',rfl,hg1,ys,hys,rfl⟩
  simp only[List.nil_append]at hys ⊢
  refine⟨grow_L hg1 (.cons _ (List.Sublist.refl _)),?_⟩
  refine sI ?_
  refine callsH_gx F200.enters (gx_slv_at [] _ (by decide) hys) ?_
  rintro h' ⟨G2,rfl,hg2,hv2⟩
  refine(PutVar_ok _ (x.stamp - stamp) i2 _ G2 hv2 (by omega) _ []).mono ?_
  rintro r h' ⟨G3,L',rfl,hg3,ys3,hys3,rfl⟩
  refine⟨grow_L (hg1.trans (hg2.trans hg3)) (.cons _ (List.Sublist.refl _)),?_⟩
  refine sI ?_
  (intros;try refine go_st ?_);refine go_x _ (.cons _ (List.Sublist.refl _)) (by decide) ?_;refine sJ c201r10.eq_1 ?_
  intro bk hbk
  refine⟨grow_L (fun _ _ h=>h) (.cons _ (.cons _ (List.Sublist.refl _))),?_⟩
  refine sI ?_
  refine app8 (L1:=[]) (L2:=[_]) (x:=b) rfl rfl hys3 (by simp;omega) fun A' c' zc' hzc=>?_
  refine sI ?_
  refine⟨grow_L (fun _ _ h=>h) (.cons _ (.cons _ (List.Sublist.refl _))),?_⟩
  refine sI ?_
  refine callsH_gx F216.enters (gx_slv_at [_] _ (by decide) hzc) ?_
  rintro h' ⟨G4,rfl,hg4,hv4⟩
  refine(PutText_ok _ x.key _ G4 hv4 (by simp;omega) (by omega) _ []).mono ?_
  rintro r h' ⟨G5,L',rfl,hg5,ys5,hys5,rfl⟩
  refine⟨grow_L (hg4.trans hg5) (.cons _ (.cons _ (List.Sublist.refl _))),?_⟩
  refine sI ?_
  have l3:=ptB_len x.key
  refine callsH_gx F216.enters (gx_slv_at [] _ (by decide) hys5) ?_
  rintro h' ⟨G6,rfl,hg6,hv6⟩
  refine(PutText_ok _ x.val _ G6 hv6 (by simp;omega) (by omega) _ []).mono ?_
  rintro r h' ⟨G7,L',rfl,hg7,ys7,hys7,rfl⟩
  refine⟨grow_L (hg4.trans (hg5.trans (hg6.trans hg7))) (.cons _ (.cons _ (List.Sublist.refl _))),?_⟩
  refine sI ?_
  (intros;try refine go_st ?_)
  refine go_ret (retQ_o _ rfl (.cons_cons _ (List.nil_sublist _)) (noRegs_row noRegs_nil) ?_)
  rw[hput]
  subst hb
  exact⟨_,rfl,ys7,hys7,rfl⟩
 intros;refine gr 0 0 ?_;refine sJ c201r6.eq_1 ?_
 intros;refine gr 0 0 ?_;refine sJ c201r7.eq_1 ?_
 intros;refine gc ?_;refine sI ?_
 refine gb (fun h5=>?_) (fun h5=>?_)
 ·intros;refine gr 0 0 ?_;refine sJ c201r8.eq_1 ?_
  (repeat first | (with_reducible intro _) | refine go_skip ?_ | refine go_b ?_)
  refine hrest _ 1 (by rw[if_pos h5]) ?_ ?_ ?_ <;> (refine sI ?_;try with_reducible exact True.intro)
  rfl
 ·(repeat first | refine go_skip ?_ | refine go_b ?_)
  refine hrest _ 0 (by rw[if_neg (by rw[h5];simp)]) ?_ ?_ ?_ <;> (refine sI ?_;try with_reducible exact True.intro)
  rfl
theorem F117:Fun Tryz.prog 117 14 v117 c117 o117:=Fun.mk' Tryz.func117 Tryz.ntmps117 (by kernel_rfl) (by kernel_rfl) s117 q117
theorem F152:Fun Tryz.prog 152 25 v152 c152 o152:=Fun.mk' Tryz.func152 Tryz.ntmps152 (by kernel_rfl) (by kernel_rfl) s152 q152
theorem F153:Fun Tryz.prog 153 25 v153 c153 o153:=Fun.mk' Tryz.func153 Tryz.ntmps153 (by kernel_rfl) (by kernel_rfl) s153 q153
def IE(x:Int)(cs:List Value):Prop:=cs=[.int .i64 x]∧I64 x
def rng(m n:Int):Bool:=decide (0≤n) && decide (n≤m)
theorem take1{l:List Int}{k:Nat}{x y:Int}(h0:l[0]?=some y)(hx:l[k]?=some x)(f:Int→Int→Int)(hk:0 < k):((l.drop 1).take k).foldl f y=f (((l.drop 1).take (k - 1)).foldl f y) x:=by
 have hl:=List.getElem?_eq_some_iff.1 hx
 obtain⟨k,rfl⟩:∃ j,k=j+1:=⟨k - 1,by omega⟩
 have h1:(l.drop 1)[k]?=some x:=by rw[List.getElem?_drop,Nat.add_comm];exact hx
 have h2:=List.getElem?_eq_some_iff.1 h1
 rw[List.take_succ_eq_append_getElem h2.1,h2.2]
 simp
theorem Min_ok(l:List Int)(y:Int)(h0:l[0]?=some y)(v:Value)(G:Nat→Option Obj)(hl:SlV G IE 1 v l):FnS Tryz.prog 152 #[v] G (.int .i64 ((l.drop 1).foldl min y)):=by
 refine F152.fnS (by simp) (go_of ?_)
 obtain⟨A,c,rfl,hc,hm,hA⟩:=hl
 have hpos:=(List.getElem?_eq_some_iff.1 h0).1
 unfold c152
 intros;refine gr 0 0 ?_;refine sJ c152r0.eq_1 ?_
 intros;refine gr 5 7 ?_;refine sJ c152r1.eq_1 ?_
 intros;refine gc ?_;refine sI ?_
 refine gb (fun h1=>by simp at h1;omega) (fun h1=>?_)
 (repeat first | refine go_skip ?_ | refine go_b ?_)
 intros;refine gr 9 12 ?_;refine sJ c152r2.eq_1 ?_
 refine hA.x_l1 h0 rfl rfl ?_
 rintro a1 ha1 u1 ⟨hu,-⟩
 cases hu
 refine sI ?_
 intros;refine gr 0 0 ?_;refine sJ c152r3.eq_1 ?_
 (intros;try refine go_st ?_)
 refine go_loop (fun e h=>∃ k:Nat,(0 < k∧k≤l.length)∧e 4=.int .i64 k∧e 0=.slice A l.length c∧e 3=.int .i64 (((l.drop 1).take (k - 1)).foldl min y)∧h=⟨G,[],[]⟩) (fun e h=>l.length - iv (e 4)) ?_ ?_
 ·exact⟨1,⟨by omega,by omega⟩,by refine sI ?_;rfl,eE,by refine sI ?_;rfl,rfl⟩
 ·rintro e h ⟨k,⟨hk0,hk⟩,e4,e0,e3,rfl⟩
  refine go_keep [0,3,4] ?_
  refine sJ3 @e0 @e3 @e4 ?_
  intros;refine gr 12 15 ?_;refine sJ c152r4.eq_1 ?_
  intros;refine gc ?_;refine sI ?_
  refine gb (fun ht=>?_) (fun ht=>?_)
  ·have hkl:k < l.length:=by simpa using ht
   have hw3:=inc_i k c (by omega) hm
   obtain⟨x,hx⟩:∃ x,l[k]?=some x:=⟨l[k],List.getElem?_eq_getElem (by omega)⟩
   (repeat first | refine go_skip ?_ | refine go_b ?_)
   intros;refine gr 18 24 ?_;refine sJ c152r5.eq_1 ?_
   refine hA.x_l1 hx rfl rfl ?_
   rintro a1 ha1 u1 ⟨hu,-⟩
   cases hu
   refine sI ?_
   intros;refine gr 16 18 ?_;refine sJ2 c152r6.eq_1 @hw3 ?_
   (intros;try refine go_st ?_)
   refine go_l ⟨⟨k+1,⟨by omega,by omega⟩,eE,eE,by rw[Nat.add_sub_cancel,take1 h0 hx min hk0];(refine sI ?_;try with_reducible exact True.intro),rfl⟩,?_⟩
   refine sI ?_
   omega
  ·have hkl:k=l.length:=by simp at ht;omega
   subst hkl
   refine go_exit ?_
   refine sI ?_
   intros;refine gr 24 25 ?_;refine sJ c152r7.eq_1 ?_
   intros;refine rV ?_;simp only[push_cast,Nat.reduceBEq]
   rw[List.take_of_length_le (by simp)]
theorem Max_ok(l:List Int)(y:Int)(h0:l[0]?=some y)(v:Value)(G:Nat→Option Obj)(hl:SlV G IE 1 v l):FnS Tryz.prog 153 #[v] G (.int .i64 ((l.drop 1).foldl max y)):=by
 refine F153.fnS (by simp) (go_of ?_)
 obtain⟨A,c,rfl,hc,hm,hA⟩:=hl
 have hpos:=(List.getElem?_eq_some_iff.1 h0).1
 unfold c153
 intros;refine gr 0 0 ?_;refine sJ c153r0.eq_1 ?_
 intros;refine gr 5 7 ?_;refine sJ c153r1.eq_1 ?_
 intros;refine gc ?_;refine sI ?_
 refine gb (fun h1=>by simp at h1;omega) (fun h1=>?_)
 (repeat first | refine go_skip ?_ | refine go_b ?_)
 intros;refine gr 9 12 ?_;refine sJ c153r2.eq_1 ?_
 refine hA.x_l1 h0 rfl rfl ?_
 rintro a1 ha1 u1 ⟨hu,-⟩
 cases hu
 refine sI ?_
 intros;refine gr 0 0 ?_;refine sJ c153r3.eq_1 ?_
 (intros;try refine go_st ?_)
 refine go_loop (fun e h=>∃ k:Nat,(0 < k∧k≤l.length)∧e 4=.int .i64 k∧e 0=.slice A l.length c∧e 3=.int .i64 (((l.drop 1).take (k - 1)).foldl max y)∧h=⟨G,[],[]⟩) (fun e h=>l.length - iv (e 4)) ?_ ?_
 ·exact⟨1,⟨by omega,by omega⟩,by refine sI ?_;rfl,eE,by refine sI ?_;rfl,rfl⟩
 ·rintro e h ⟨k,⟨hk0,hk⟩,e4,e0,e3,rfl⟩
  refine go_keep [0,3,4] ?_
  refine sJ3 @e0 @e3 @e4 ?_
  intros;refine gr 12 15 ?_;refine sJ c153r4.eq_1 ?_
  intros;refine gc ?_;refine sI ?_
  refine gb (fun ht=>?_) (fun ht=>?_)
  ·have hkl:k < l.length:=by simpa using ht
   have hw3:=inc_i k c (by omega) hm
   obtain⟨x,hx⟩:∃ x,l[k]?=some x:=⟨l[k],List.getElem?_eq_getElem (by omega)⟩
   (repeat first | refine go_skip ?_ | refine go_b ?_)
   intros;refine gr 18 24 ?_;refine sJ c153r5.eq_1 ?_
   refine hA.x_l1 hx rfl rfl ?_
   rintro a1 ha1 u1 ⟨hu,-⟩
   cases hu
   refine sI ?_
   intros;refine gr 16 18 ?_;refine sJ2 c153r6.eq_1 @hw3 ?_
   (intros;try refine go_st ?_)
   refine go_l ⟨⟨k+1,⟨by omega,by omega⟩,eE,eE,by rw[Nat.add_sub_cancel,take1 h0 hx max hk0];(refine sI ?_;try with_reducible exact True.intro),rfl⟩,?_⟩
   refine sI ?_
   omega
  ·have hkl:k=l.length:=by simp at ht;omega
   subst hkl
   refine go_exit ?_
   refine sI ?_
   intros;refine gr 24 25 ?_;refine sJ c153r7.eq_1 ?_
   intros;refine rV ?_;simp only[push_cast,Nat.reduceBEq]
   rw[List.take_of_length_le (by simp)]
theorem min_all(m:Int):∀ (l:List Int) (y:Int),m≤l.foldl min y↔m≤y∧∀ x∈l,m≤x
 | [],y=>by simp
 | x :: l,y=>by
  have h1:m≤min y x↔m≤y∧m≤x:=by omega
  rw[List.foldl_cons,min_all m l,h1,and_assoc]
  simp
theorem max_all(m:Int):∀ (l:List Int) (y:Int),l.foldl max y≤m↔y≤m∧∀ x∈l,x≤m
 | [],y=>by simp
 | x :: l,y=>by
  have h1:max y x≤m↔y≤m∧x≤m:=by omega
  rw[List.foldl_cons,max_all m l,h1,and_assoc]
  simp
theorem within_all(m:Int)(l:List Int)(y:Int):(decide (0≤l.foldl min y) && decide (l.foldl max y≤m))=(y :: l).all (rng m):=by
 rw[Bool.eq_iff_iff]
 simp only[Bool.and_eq_true,decide_eq_true_eq,min_all,max_all,List.all_eq_true,rng,List.mem_cons]
 constructor
 ·rintro⟨⟨h1,h2⟩,h3,h4⟩ x (rfl | hx)
  ·exact⟨h1,h3⟩
  ·exact⟨h2 x hx,h4 x hx⟩
 ·intro h
  exact⟨⟨(h y (.inl rfl)).1,fun x hx=>(h x (.inr hx)).1⟩,(h y (.inl rfl)).2,fun x hx=>(h x (.inr hx)).2⟩
theorem within_ok(m:Int)(y:Int)(l:List Int)(v:Value)(G:Nat→Option Obj)(hl:SlV G IE 1 v (y :: l)):FnS Tryz.prog 117 #[.int .i64 m,v] G (.bool ((y :: l).all (rng m))):=by
 refine F117.fnS (by simp) (go_of ?_)
 rw[← within_all]
 unfold c117
 intros;refine gr 0 0 ?_;refine sJ c117r0.eq_1 ?_
 intros;refine gr 5 14 ?_;refine sJ c117r1.eq_1 ?_
 refine(Min_ok (y :: l) y rfl v G hl _ _).mono ?_;rintro _ _ ⟨rfl,rfl⟩;refine sI ?_
 refine gd (fun h1=>?_) (fun h1=>?_)
 ·refine sI ?_
  refine(Max_ok (y :: l) y rfl v G hl _ _).mono ?_;rintro _ _ ⟨rfl,rfl⟩;refine sI ?_
  intros;refine rV ?_;simp only[push_cast,Nat.reduceBEq]
  have h1:0≤l.foldl min y:=by simpa using h1
  simp[h1]
 ·refine sI ?_
  intros;refine rV ?_;simp only[push_cast,Nat.reduceBEq]
  have h1:¬ 0≤l.foldl min y:=by simpa using h1
  simp[h1]
end Go.Proofs.YtpmofpekcbghnaaGreat

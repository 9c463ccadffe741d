/- Parts of a proof, 20 texts in one file. No condition. -/
import Derived.Test.YtpmofpekcbghnaaGreatRows
import Derived.Laws.Strings
import Derived.Test.YtpmofpekcbghnaaGreatM1
import Derived.Test.YtpmofpekcbghnaaGreatM2
set_option linter.unusedSimpArgs false
set_option linter.unusedVariables false
namespace Go.Proofs.YtpmofpekcbghnaaGreat
open Go Go.Kx
open List (getElem?_eq_getElem mem_of_getElem? length_append append_nil append_assoc length_cons take_length)
abbrev ac(a b:Nat):SI:=⟨none,.mv a (.t b),none,0⟩
abbrev af(a:Nat)(b:Int):SI:=⟨none,.mv a (.i b),none,0⟩
abbrev ah(a b:Nat):SI:=⟨none,.ld a (.t b) none,none,0⟩
abbrev ai(a:Nat):SI:=⟨none,.nop,(some a),0⟩
abbrev aj(a b c:Nat):SI:=⟨none,.ext a (.t b) c,none,0⟩
abbrev ak(a b c:Nat):SI:=⟨none,.ldR a b c none,none,0⟩
abbrev am(a b c:Nat):SI:=⟨none,.flA a (.t b) c,none,0⟩
abbrev ao(a b c d:Nat):SI:=⟨none,.stR a b c (.t d),none,0⟩
abbrev aq(a b c d:Nat):SI:=⟨none,.ldR a b c (some d),none,0⟩
abbrev ar(a b:Nat):SI:=⟨none,.nck a (.t b),none,0⟩
abbrev au(a b c:Nat):SI:=⟨none,.call a b [(.t c)],none,0⟩
abbrev av(a b:Nat):SI:=⟨none,.len a false (.t b),none,0⟩
abbrev aw(a b c:Nat):SI:=⟨none,.pick a (.t b) (.b true) (.t c),none,0⟩
abbrev ay(a b c d:Nat):SI:=⟨none,.call a b [(.t c),(.t d)],none,0⟩
abbrev az(a:Nat):SI:=⟨none,.mv a (.b false),none,0⟩
abbrev aA(a b c:Nat):SI:=⟨none,.st (.t a) b (.t c),none,0⟩
abbrev aB(a b c:Nat):SI:=⟨some (a,false),.mv b (.t c),none,b⟩
abbrev aC(a b c d:Nat):SI:=⟨none,.ixA a (.t b) (.t c) d,none,0⟩
abbrev aD(a b c:Nat):SI:=⟨none,.pick a (.t b) (.t c) (.b false),none,0⟩
abbrev aE(a b:Nat)(c:Int):SI:=⟨none,.bin a .add (.t b) (.i c),none,0⟩
abbrev aF(a b:Nat):SI:=⟨none,.bxR a (.t b),none,0⟩
abbrev aG(a b c:Nat):SI:=⟨none,.ld a (.t b) (some c),none,0⟩
abbrev aH(a b c:Nat):SI:=⟨none,.bin a .lss (.t b) (.t c),none,0⟩
abbrev aI(a b c:Nat):SI:=⟨some (a,true),.mv b (.t c),none,b⟩
abbrev aJ(a:Nat):SI:=⟨none,.mv a (.v (.slice none 0 0)),none,0⟩
abbrev aK(a b:Nat):SI:=⟨some (a,false),.nop,(some b),99999⟩
abbrev aL(a b c d:Nat):SI:=⟨some (a,false),.ldR b c d none,none,b⟩
abbrev aM(a b:Nat):SI:=⟨some (a,true),.nop,(some b),99999⟩
abbrev aN(a b c d:Nat):SI:=⟨some (a,true),.ldR b c d none,none,b⟩
abbrev aO(a b:Nat):SI:=⟨none,.un a .not (.t b),none,0⟩
abbrev aP(a b:Nat)(c:Int):SI:=⟨none,.bin a .neq (.t b) (.i c),none,0⟩
abbrev aQ(a b:Nat):SI:=⟨none,.bx a (.t b),none,0⟩
abbrev aR(a b c d e f:Nat):SI:=⟨none,.app a (.t b) (.t c) d e f,none,0⟩
abbrev aS(a:Nat):SI:=⟨none,.alR a [(.int .i64 0),(.int .i64 0),(.int .i64 0),(.slice none 0 0),(.slice none 0 0)],none,0⟩
abbrev aT(a b:Nat)(c:Int):SI:=⟨none,.bin a .eql (.t b) (.i c),none,0⟩
abbrev aU(a b c:Nat):SI:=⟨some (a,false),.un b .not (.t c),none,b⟩
abbrev aV(a b:Nat)(c:Int):SI:=⟨none,.bin a .lss (.t b) (.i c),none,0⟩
abbrev aW(a b c:Nat):SI:=⟨some (a,false),.ld b (.t c) none,none,b⟩
abbrev aX(a b c:Nat)(d:Int):SI:=⟨some (a,true),.bin b .eql (.t c) (.i d),none,b⟩
abbrev aY(a b c:Nat):SI:=⟨some (a,false),.len b false (.t c),none,b⟩
abbrev aZ(a b c d:Nat):SI:=⟨some (a,true),.call b c [(.t d)],none,b⟩
abbrev a9(a b c:Nat)(d:Int):SI:=⟨some (a,false),.bin b .gtr (.t c) (.i d),none,b⟩
abbrev ba(a b c d:Nat):SI:=⟨some (a,false),.call b c [(.t d)],none,b⟩
abbrev bc(a b c d e:Nat):SI:=⟨none,.call a b [(.t c),(.t d),(.t e)],none,0⟩
abbrev bd(a b c:Nat):SI:=⟨none,.bin a .add (.t b) (.t c),none,0⟩
abbrev bf(a b c:Nat):SI:=⟨none,.bin a .eql (.t b) (.t c),none,0⟩
abbrev bg(a b:Nat)(c:Int):SI:=⟨none,.bin a .geq (.t b) (.i c),none,0⟩
abbrev bh(a b c:Nat):SI:=⟨none,.bin a .sub (.t b) (.t c),none,0⟩
abbrev bi(a b c:Nat)(d:Int):SI:=⟨some (a,false),.bin b .neq (.t c) (.i d),none,b⟩
abbrev bj(a:Nat):SI:=⟨none,.alR a [(.int .i64 0),(.int .i64 0),(.slice none 0 0)],none,0⟩
abbrev bl(a b c d e:Nat):SI:=⟨some (a,true),.ldR b c d (some e),none,b⟩
abbrev bm(a:Nat):SI:=⟨none,.alR a [(.int .i64 0),(.int .i64 0),(.int .i64 0),(.int .i64 0),(.int .i64 0),(.int .i64 0),(.int .i64 0),(.bool false),(.int .i64 0),(.slice none 0 0)],none,0⟩
abbrev bn(a:Nat):SI:=⟨none,.alR a [(.int .i64 0),(.slice none 0 0)],none,0⟩
abbrev bo(a b:Nat):SI:=⟨none,.cvI a .u64 (.t b),none,0⟩
abbrev bp(a:Nat):SI:=⟨none,.bld a [(.int .i64 0),(.int .i64 0),(.slice none 0 0)] [],none,0⟩
abbrev bq(a b c:Nat):SI:=⟨none,.bin a .neq (.t b) (.t c),none,0⟩
abbrev bt(a:Nat):SI:=⟨none,.mv a (.b true),none,0⟩
abbrev bu(a b c d:Nat):SI:=⟨some (a,true),.bin b .eql (.t c) (.t d),none,b⟩
abbrev bw(a b:Nat)(c:Int):SI:=⟨none,.bin a .gtr (.t b) (.i c),none,0⟩
abbrev bz(a:Nat):SI:=⟨none,.bld a [(.int .i64 0),(.int .i64 0),(.int .i64 0),(.int .i64 0),(.int .i64 0),(.int .i64 0),(.int .i64 0),(.bool false),(.int .i64 0),(.slice none 0 0)] [],none,0⟩
abbrev bA(a b c d:Nat):SI:=⟨none,.sl a (.t b) none (some (.t c)) none d,none,0⟩
abbrev bB(a b:Nat)(c:Int):SI:=⟨none,.bin a .sub (.t b) (.i c),none,0⟩
abbrev bC(a b c:Nat):SI:=⟨none,.mm a false (.t b) (.t c),none,0⟩
abbrev bD(a b:Nat)(c:Int):SI:=⟨none,.bin a .shr (.t b) (.v (.int .u64 c)),none,0⟩
abbrev bE(a b c d e:Nat):SI:=⟨some (a,true),.ixA b (.t c) (.t d) e,none,b⟩
abbrev bF(a:Nat):SI:=⟨none,.al a [(.int .i64 0),(.int .i64 0),(.int .i64 0),(.slice none 0 0),(.slice none 0 0)],none,0⟩
abbrev bG(a b c:Nat)(d:Int):SI:=⟨none,.call a b [(.t c),(.i d)],none,0⟩
abbrev bH(a b c:Nat):SI:=⟨some (a,true),.ld b (.t c) none,none,b⟩
abbrev bI(a b c:Nat)(d:Int):SI:=⟨some (a,false),.bin b .lss (.t c) (.i d),none,b⟩
abbrev bJ(a:Nat):SI:=⟨none,.al a [(.int .i64 0)],none,0⟩
abbrev bK(a b c:Nat):SI:=⟨none,.mkf a (.func b) [(.t c)],none,0⟩
abbrev bL(a b c d e f g:Nat):SI:=⟨none,.bls a b c d [(.int .i64 0),(.slice none 0 0)] [(e,f,(.t g))],none,0⟩
abbrev bM(a b c:Nat)(d:Int):SI:=⟨some (a,true),.bin b .leq (.t c) (.i d),none,b⟩
abbrev bN(a b c:Nat):SI:=⟨none,.cav a (.t b) [(.t c)],none,0⟩
abbrev bO(a b c d:Nat):SI:=⟨none,.cav a (.t b) [(.t c),(.t d)],none,0⟩
abbrev bP(a b:Nat)(c:Int)(d e:Nat):SI:=⟨none,.ixP a (.t b) (.i c) d e,none,0⟩
abbrev bQ(a:Nat):SI:=⟨none,.mv a (.v (.string ⟨#[]⟩)),none,0⟩
abbrev bR(a b c d e:Nat):SI:=⟨some (a,true),.call b c [(.t d),(.t e)],none,b⟩
abbrev bS(a b c d:Nat):SI:=⟨some (a,false),.bin b .neq (.t c) (.t d),none,b⟩
abbrev bT(a b c d:Nat):SI:=⟨none,.mkf a (.func b) [(.t c),(.t d)],none,0⟩
abbrev bU(a b c d:Nat):SI:=⟨some (a,false),.pick b (.t c) (.t d) (.b false),none,b⟩
abbrev bV(a b c:Nat):SI:=⟨none,.bin a .gtr (.t b) (.t c),none,0⟩
abbrev bW(a b:Nat):SI:=⟨none,.cvI a .i64 (.t b),none,0⟩
abbrev bX(a b c d:Nat):SI:=⟨some (a,true),.pick b (.t c) (.b true) (.t d),none,b⟩
abbrev bY(a:Nat):SI:=⟨none,.bld a [(.int .i64 0),(.slice none 0 0)] [],none,0⟩
abbrev bZ(a b c d e f g:Nat):SI:=⟨none,.bls a b c d [(.int .u8 0)] [(e,f,(.t g))],none,0⟩
abbrev cd(a b:Nat):SI:=⟨none,.call a b [],none,0⟩
abbrev cf(a b c d e:Nat):SI:=⟨some (a,false),.ldR b c d (some e),none,b⟩
abbrev ci(a b c:Nat):SI:=⟨some (a,true),.un b .not (.t c),none,b⟩
abbrev cj(a b:Nat)(c:Int):SI:=⟨none,.st (.t a) b (.i c),none,0⟩
abbrev ck(a b c:Nat):SI:=⟨none,.mm a true (.t b) (.t c),none,0⟩
abbrev cm(a b:Nat):SI:=⟨none,.isn a false (.t b),none,0⟩
abbrev cn(a:Nat):SI:=⟨none,.bl0 a,none,0⟩
abbrev cp(a b:Nat):SI:=⟨none,.len a true (.t b),none,0⟩
abbrev cr(a b:Nat):SI:=⟨none,.cvI a .u8 (.t b),none,0⟩
abbrev cv(a b c:Nat):SI:=⟨none,.bin a .xor (.t b) (.t c),none,0⟩
abbrev cw(a b c d e:Nat):SI:=⟨some (a,false),.call b c [(.t d),(.t e)],none,b⟩
abbrev cz(a b c d:Nat):SI:=⟨some (a,true),.ld b (.t c) (some d),none,b⟩
abbrev cA(a b c d:Nat):SI:=⟨some (a,false),.bin b .gtr (.t c) (.t d),none,b⟩
abbrev cB(a b c d:Nat):SI:=⟨some (a,false),.flA b (.t c) d,none,b⟩
abbrev cC(a b c:Nat)(d:Int):SI:=⟨some (a,true),.bin b .sub (.t c) (.i d),none,b⟩
abbrev cD(a:Nat):SI:=⟨none,.mv a (.i (-1)),none,0⟩
abbrev cE(a:Nat):SI:=⟨none,.mv a (.v .nilFunc),none,0⟩
abbrev cF(a:Nat):SI:=⟨none,.alR a [(.int .i64 0),(.string ⟨#[]⟩),(.string ⟨#[]⟩),(.bool false),(.int .i64 0)],none,0⟩
abbrev cG(a b c:Nat):SI:=⟨none,.bin a .geq (.t b) (.t c),none,0⟩
abbrev cH(a:Nat)(b:Int):SI:=⟨none,.mv a (.v (.int .u64 b)),none,0⟩
abbrev cI(a b c:Nat):SI:=⟨some (a,true),.len b false (.t c),none,b⟩
abbrev cJ(a:Nat):SI:=⟨none,.bld a [(.int .i64 0),(.int .i64 0),(.int .i64 0),(.slice none 0 0),(.slice none 0 0)] [],none,0⟩
abbrev cK(a b:Nat)(c:Int)(d:Nat):SI:=⟨none,.ixA a (.t b) (.i c) d,none,0⟩
abbrev cL(a b c d e f g:Nat):SI:=⟨none,.bls a b c d [(.int .i64 0)] [(e,f,(.t g))],none,0⟩
abbrev cM(a b c d e:Nat):SI:=⟨some (a,false),.ixA b (.t c) (.t d) e,none,b⟩
abbrev cN(a b c:Nat):SI:=⟨none,.call a b [(.v (.slice none 0 0)),(.t c)],none,0⟩
abbrev cO(a b:Nat):SI:=⟨none,.st (.t a) b (.b false),none,0⟩
abbrev cP(a b c d:Nat):SI:=⟨none,.sl a (.t b) (some (.t c)) none none d,none,0⟩
abbrev cQ(a b c d:Nat)(e:Int):SI:=⟨none,.call a b [(.t c),(.t d),(.i e)],none,0⟩
abbrev cR(a b:Nat):SI:=⟨none,.cav a (.t b) [],none,0⟩
abbrev cS(a b c d e:Nat):SI:=⟨none,.ixP a (.t b) (.t c) d e,none,0⟩
abbrev cT(a b c:Nat)(d:Int)(e f:Nat):SI:=⟨some (a,false),.ixP b (.t c) (.i d) e f,none,b⟩
abbrev cU(a:Nat)(b:Int):SI:=⟨none,.mv a (.v (.int .u32 b)),none,0⟩
abbrev cV(a b c:Nat)(d e:Int):SI:=⟨none,.call a b [(.t c),(.i d),(.i e)],none,0⟩
abbrev cW(a b c d:Nat):SI:=⟨none,.bld a [(.int .i64 0),(.int .i64 0),(.int .i64 0),(.slice none 0 0),(.slice none 0 0)] [(b,c,(.t d))],none,0⟩
abbrev cX(a b:Nat):SI:=⟨none,.bin a .eql (.t b) (.i (-1)),none,0⟩
abbrev cY(a b c d:Nat):SI:=⟨none,.bld a [(.int .i64 0),(.slice none 0 0)] [(b,c,(.t d))],none,0⟩
abbrev cZ(a b c d:Nat):SI:=⟨some (a,true),.bin b .geq (.t c) (.t d),none,b⟩
abbrev da(a:Nat):SI:=⟨none,.al a [(.int .i64 0),(.int .i64 0),(.int .i64 0),(.int .i64 0),(.int .i64 0),(.int .i64 0),(.int .i64 0),(.bool false),(.int .i64 0),(.slice none 0 0)],none,0⟩
abbrev dh(a:Nat):SI:=⟨none,.al a [(.int .i64 0),(.slice none 0 0)],none,0⟩
abbrev di(a b c d e f g:Nat):SI:=⟨none,.bls a b c d [(.int .i64 0),(.int .i64 0),(.int .i64 0),(.int .i64 0),(.int .i64 0),(.int .i64 0),(.int .i64 0),(.bool false),(.int .i64 0),(.slice none 0 0)] [(e,f,(.t g))],none,0⟩
abbrev dj(a b c d:Nat)(e:Int):SI:=⟨some (a,false),.call b c [(.t d),(.i e)],none,b⟩
abbrev dk(a:Nat):SI:=⟨none,.alR a [(.int .i64 0),(.int .i64 0)],none,0⟩
abbrev dl(a b c d e f:Nat):SI:=⟨none,.call a b [(.t c),(.t d),(.t e),(.t f)],none,0⟩
abbrev dm(a b c d:Nat):SI:=⟨some (a,true),.bin b .leq (.t c) (.t d),none,b⟩
abbrev dp(a b c d:Nat):SI:=⟨some (a,false),.bin b .lss (.t c) (.t d),none,b⟩
abbrev dq(a b c d e:Nat):SI:=⟨none,.app a (.v (.slice none 0 0)) (.t b) c d e,none,0⟩
abbrev dr(a b c d:Nat):SI:=⟨none,.call a b [(.t c),(.v (.func (.func d) #[] #[]))],none,0⟩
abbrev dt(a b:Nat)(c:Int):SI:=⟨none,.bin a .and (.t b) (.v (.int .u32 c)),none,0⟩
abbrev du(a b c:Nat)(d:Int)(e f g h i j k l m:Nat):SI:=⟨none,.bld a [(.int .i64 0),(.int .i64 0),(.int .i64 0),(.slice none 0 0),(.slice none 0 0)] [(b,c,(.i d)),(e,f,(.t g)),(h,i,(.t j)),(k,l,(.t m))],none,0⟩
abbrev dv(a:Nat):SI:=⟨none,.bld a [(.int .i64 0),(.string ⟨#[]⟩),(.string ⟨#[]⟩),(.bool false),(.int .i64 0)] [],none,0⟩
abbrev aa(l:J7):SC:=.reg false l
abbrev ab(a:J7)(n:Nat)(b:J7):SC:=.seq (.reg false a) (.cond (.t n) (.seq (.reg false b) .ret) .skip)
def c7r0:J7:=[az 6]
def c7r1:J7:=[cd 18 11,ac 7 18]
def c7r2:J7:=[ac 19 1,au 20 30 19,aO 21 20]
def c7r3:J7:=[ac 22 7,ac 6 22]
def c7r4:J7:=[ac 24 0,au 25 31 24,cV 26 13 25 4096 1,ac 23 26,aj 27 23 0,aj 28 23 1,aS 8,ao 8 0 5 27,ac 9 28]
def c7r5:J7:=[aq 29 8 0 5,ac 30 1,ay 31 32 29 30,aS 10,ao 10 0 5 31]
def c7r6:J7:=[aq 33 10 0 5,ac 34 2,ay 35 33 33 34,ac 32 35,aj 36 32 0,aj 37 32 1,aS 11,ao 11 0 5 36,ac 12 37]
def c7r7:J7:=[ac 38 9,aP 39 38 0,ac 40 39,aB 40 41 12,bi 40 42 41 0,aw 43 40 42]
def c7r8:J7:=[ac 44 7,ac 45 44,aI 45 46 9,aX 45 47 46 0,aD 48 45 47,ac 49 48,aM 49 11,aN 49 51 11 4,cI 49 52 51,aX 49 53 52 0,aD 54 49 53,ac 6 54]
def c7r9:J7:=[aq 56 11 0 5,ac 57 2,ay 58 33 56 57,ac 55 58,aj 59 55 0,aj 60 55 1,aS 13,ao 13 0 5 59,ac 14 60]
def c7r10:J7:=[aq 62 11 0 5,au 63 15 62,ac 61 63,aj 64 61 0,aj 65 61 1,bj 15,ao 15 0 3 64,ac 16 65]
def c7r11:J7:=[ac 66 14,aP 67 66 0,ac 68 67,aB 68 69 16,bi 68 70 69 0,aw 71 68 70,ac 72 71,cf 72 73 11 0 5,cf 72 74 13 0 5,cw 72 75 17 73 74,aU 72 76 75,aw 77 72 76]
def c7r12:J7:=[az 6]
def c7r13:J7:=[af 17 0]
def c7r14:J7:=[ac 78 17,ai 11,ak 80 11 4,av 81 80,aH 82 78 81]
def c7r15:List (Bool × SI):=[(true,ai 11),(true,ak 86 11 4),(true,ac 87 17),(true,aC 88 86 87 7),(true,am 89 88 0),(true,ah 90 89),(true,ac 91 2),(true,bf 92 90 91),(true,ac 93 92),(true,aM 93 11),(true,aN 93 95 11 4),(true,aI 93 96 17),(true,bE 93 97 95 96 7),(true,⟨some (93,true),.flA 98 (.t 97) 2,none,98⟩),(true,cz 93 99 98 3),(true,bl 93 101 15 0 3),(false,aZ 93 100 27 99),(false,aZ 93 102 27 101),(false,bR 93 103 29 100 102),(true,ci 93 104 103),(true,aD 105 93 104)]
def c7r16:J7:=[az 6]
def c7r17:J7:=[ac 83 17,aE 84 83 1,ac 17 84]
def c7r18:J7:=[ac 106 7,ac 107 106,bl 107 108 11 0 5,aI 107 109 2,bR 107 110 34 108 109,aD 111 107 110,ac 6 111]
def c7:SC:=(.seq (aa c7r0) (.seq (aa c7r1) (.seq (ab c7r2 21 c7r3) (.seq (aa c7r4) (.seq (aa c7r5) (.seq (aa c7r6) (.seq (ab c7r7 43 c7r8) (.seq (aa c7r9) (.seq (aa c7r10) (.seq (ab c7r11 77 c7r12) (.seq (.seq (aa c7r13) (.blk 0 (.loop (.seq (.seq (aa c7r14) (.cond (.t 82) .skip (.exit 0))) (.seq (.blk 1 (.seq (.rgX c7r15) (.cond (.t 105) (.seq (aa c7r16) .ret) .skip))) (aa c7r17)))))) (.seq (aa c7r18) .ret))))))))))))
def v7:Kb:=([8,10,11,13,15],[8,10,11,13,15,50,79,85,94])
def o7:Kd:=[.t 6]
def c11r0:J7:=[az 0]
def c11r1:J7:=[⟨none,.bls 26 3 3 1 [(.int .i64 0),(.int .i64 0),(.int .i64 0)] [(0,1,(.i 0)),(1,1,(.i 1)),(2,1,(.i 2))],none,0⟩,cV 27 13 26 4096 1,ac 25 27,aj 28 25 0,aj 29 25 1,aS 1,ao 1 0 5 28,ac 2 29]
def c11r2:RX:=.br [(true,aq 31 1 0 5)] (cd 32 43) (.br [] (ay 33 25 31 32) (.leaf [(true,ac 30 33),(true,aj 34 30 0),(true,aj 35 30 1),(true,aj 36 30 2),(false,bF 3),(false,aA 3 5 34),(true,ac 4 35),(true,ac 5 36)]) (bF 3) (.leaf [(false,ay 33 25 31 32),(true,ac 30 33),(true,aj 34 30 0),(true,aj 35 30 1),(true,aj 36 30 2),(false,aA 3 5 34),(true,ac 4 35),(true,ac 5 36)])) (bF 3) (.leaf [(false,cd 32 43),(false,ay 33 25 31 32),(true,ac 30 33),(true,aj 34 30 0),(true,aj 35 30 1),(true,aj 36 30 2),(false,aA 3 5 34),(true,ac 4 35),(true,ac 5 36)])
def c11r3:J7:=[aG 38 3 5,bG 39 33 38 1,ac 37 39,aj 40 37 0,aj 41 37 1,aS 6,ao 6 0 5 40,ac 7 41]
def c11r4:J7:=[aq 43 6 0 5,bG 44 44 43 2,ac 42 44,aj 45 42 0,aj 46 42 1,aS 8,ao 8 0 5 45,ac 9 46]
def c11r5:J7:=[aq 48 8 0 5,cV 49 35 48 0 0,ac 47 49,aj 50 47 0,aj 51 47 1,aS 10,ao 10 0 5 50,ac 11 51]
def c11r6:RX:=.br [(true,aq 53 10 0 5)] (cd 54 43) (.br [] (ay 55 25 53 54) (.leaf [(true,ac 52 55),(true,aj 56 52 0),(true,aj 57 52 1),(true,aj 58 52 2),(false,bF 12),(false,aA 12 5 56),(true,ac 13 57),(true,ac 14 58)]) (bF 12) (.leaf [(false,ay 55 25 53 54),(true,ac 52 55),(true,aj 56 52 0),(true,aj 57 52 1),(true,aj 58 52 2),(false,aA 12 5 56),(true,ac 13 57),(true,ac 14 58)])) (bF 12) (.leaf [(false,cd 54 43),(false,ay 55 25 53 54),(true,ac 52 55),(true,aj 56 52 0),(true,aj 57 52 1),(true,aj 58 52 2),(false,aA 12 5 56),(true,ac 13 57),(true,ac 14 58)])
def c11r7:J7:=[aq 60 10 0 5,bG 61 37 60 2,ac 59 61,aj 62 59 0,aj 63 59 1,aS 15,ao 15 0 5 62,ac 16 63]
def c11r8:J7:=[aq 65 10 0 5,bG 66 37 65 1,ac 64 66,aj 67 64 0,aj 68 64 1,aS 17,ao 17 0 5 67,ac 18 68]
def c11r9:J7:=[aq 70 17 0 5,au 71 15 70,ac 69 71,aj 72 69 0,aj 73 69 1,bj 19,ao 19 0 3 72,ac 20 73]
def c11r10:J7:=[aq 75 17 0 5,bG 76 36 75 0,ac 74 76,aj 77 74 0,aj 78 74 1,aS 21,ao 21 0 5 77,ac 22 78]
def c11r11:J7:=[aq 80 21 0 5,bG 81 36 80 0,ac 79 81,aj 82 79 0,aj 83 79 1,aS 23,ao 23 0 5 82,ac 24 83]
def c11r12:J7:=[ac 84 2,aP 85 84 0,ac 86 85,aB 86 87 5,bi 86 88 87 0,aw 89 86 88,ac 90 89,aB 90 91 7,bi 90 92 91 0,aw 93 90 92,ac 94 93,aB 94 95 9,bi 94 96 95 0,aw 97 94 96,ac 98 97,aB 98 99 11,bi 98 100 99 0,aw 101 98 100,ac 102 101,aB 102 103 18,bi 102 104 103 0,aw 105 102 104,ac 106 105,aB 106 107 20,bi 106 108 107 0,aw 109 106 108,ac 110 109,aB 110 111 22,bi 110 112 111 0,aw 113 110 112,ac 114 113,aK 114 17,aL 114 116 17 3,aY 114 117 116,bi 114 118 117 1,aw 119 114 118]
def c11r13:J7:=[az 0]
def c11r14:J7:=[ac 120 4,aT 121 120 0,ac 122 121,cz 122 123 3 5,aZ 122 124 20 123,aX 122 125 124 0,aD 126 122 125,ac 127 126,bl 127 128 6 0 5,aZ 127 129 20 128,aX 127 130 129 0,aD 131 127 130,ac 132 131,bl 132 133 8 0 5,aZ 132 134 20 133,aX 132 135 134 2,aD 136 132 135,ac 137 136,aM 137 10,aN 137 139 10 1,⟨some (137,true),.bin 140 .eql (.t 139) (.i (-1)),none,140⟩,aD 141 137 140,ac 142 141,aI 142 143 14,aX 142 144 143 180,aD 145 142 144,ac 146 145,aI 146 147 16,aX 146 148 147 181,aD 149 146 148,ac 150 149,aM 150 17,aN 150 152 17 0,aX 150 153 152 2,aD 154 150 153,ac 155 154,aM 155 17,aN 155 157 17 1,aX 155 158 157 1,aD 159 155 158,ac 160 159,aM 160 17,aN 160 162 17 3,⟨some (160,true),.ixA 163 (.t 162) (.i 0) 1,none,163⟩,bH 160 164 163,aX 160 165 164 1,aD 166 160 165,ac 167 166,bl 167 168 17 0 5,aZ 167 169 20 168,aX 167 170 169 2,aD 171 167 170,ac 172 171,bl 172 173 19 0 3,aZ 172 174 22 173,aX 172 175 174 2,aD 176 172 175,ac 177 176,aI 177 178 24,aX 177 179 178 150,aD 180 177 179,ac 181 180,bl 181 182 21 0 5,aZ 181 183 18 182,aX 181 184 183 0,aD 185 181 184,ac 186 185,⟨some (186,true),.bld 187 [(.int .i64 0),(.int .i64 0),(.int .i64 0),(.slice none 0 0),(.slice none 0 0)] [],none,187⟩,aZ 186 188 18 187,aX 186 189 188 1,aD 190 186 189,ac 0 190]
def c11:SC:=(.seq (aa c11r0) (.seq (aa c11r1) (.seq (.rgZ c11r2) (.seq (aa c11r3) (.seq (aa c11r4) (.seq (aa c11r5) (.seq (.rgZ c11r6) (.seq (aa c11r7) (.seq (aa c11r8) (.seq (aa c11r9) (.seq (aa c11r10) (.seq (aa c11r11) (.seq (ab c11r12 119 c11r13) (.seq (aa c11r14) .ret))))))))))))))
def v11:Kb:=([1,6,8,10,15,17,19,21,23],[1,6,8,10,15,17,19,21,23,115,138,151,156,161])
def o11:Kd:=[.t 0]
def c13r0:J7:=[aS 6,af 7 0]
def c13r1:J7:=[ac 14 1,bG 15 46 14 0,ac 13 15,aj 16 13 0,aj 17 13 1,bj 8,ao 8 0 3 16,ac 9 17]
def c13r2:J7:=[ac 18 9,aP 19 18 0,ac 20 19,aB 20 21 0,ba 20 22 47 21,aU 20 23 22,aw 24 20 23,ac 25 24,aB 25 26 0,aY 25 27 26,a9 25 28 27 5,aw 29 25 28,ac 30 29,aB 30 31 2,bI 30 32 31 1,aw 33 30 32,ac 34 33,aB 34 35 2,aB 34 36 0,aY 34 37 36,cA 34 38 35 37,aw 39 34 38]
def c13r3:J7:=[cJ 40,ao 6 0 5 40,af 7 1]
def c13r4:RX:=.br [(true,ac 41 0),(true,cK 42 41 0 1),(true,ah 43 42),(true,ac 44 2),(true,ac 45 0)] (au 46 48 45) (.leaf [(true,du 47 0 1 1 1 1 43 2 1 44 3 1 46),(false,bF 10),(false,aA 10 5 47)]) (bF 10) (.leaf [(false,au 46 48 45),(true,du 47 0 1 1 1 1 43 2 1 44 3 1 46),(false,aA 10 5 47)])
def c13r5:J7:=[ac 48 0,av 49 48,af 50 0]
def c13r6:J7:=[aH 51 50 49]
def c13r7:J7:=[aC 52 48 50 1,ah 53 52,ac 12 53]
def c13r8:J7:=[am 54 10 4,ah 55 54,ac 56 12,aq 57 8 0 3,⟨none,.bld 58 [(.int .i64 0),(.bool false),(.int .i64 0),(.int .i64 0),(.slice none 0 0),(.slice none 0 0),(.int .i64 0)] [(0,1,(.t 56)),(1,1,(.b true)),(2,3,(.t 57))],none,0⟩,⟨none,.bls 59 50 1 7 [(.int .i64 0),(.bool false),(.int .i64 0),(.int .i64 0),(.slice none 0 0),(.slice none 0 0),(.int .i64 0)] [(0,7,(.t 58))],none,0⟩,aR 60 55 59 50 7 88,am 61 10 4,aA 61 1 60]
def c13r9:J7:=[aE 62 50 1,ac 50 62]
def c13r10:J7:=[aG 63 10 5,ao 6 0 5 63,af 7 0]
def c13:SC:=(.seq (aa c13r0) (.seq (aa c13r1) (.seq (ab c13r2 39 c13r3) (.seq (.rgZ c13r4) (.seq (.seq (aa c13r5) (.blk 0 (.loop (.seq (aa c13r6) (.seq (.cond (.t 51) .skip (.exit 0)) (.seq (.blk 1 (.seq (aa c13r7) (aa c13r8))) (aa c13r9))))))) (.seq (aa c13r10) .ret))))))
def v13:Kb:=([6,8],[6,8])
def o13:Kd:=[.r 6 (some 5),.t 7]
def c15r0:J7:=[aF 1 0,bj 2,af 3 0]
def c15r1:J7:=[aq 6 1 0 5,au 7 18 6,ac 4 7]
def c15r2:J7:=[ac 8 4,aP 9 8 0]
def c15r3:J7:=[bp 10,ac 11 4,ao 2 0 3 10,ac 3 11]
def c15r4:J7:=[ai 1,ak 13 1 1,aV 14 13 0]
def c15r5:J7:=[bp 15,ao 2 0 3 15,af 3 180]
def c15r6:J7:=[aq 16 1 0 5,cW 17 0 5 16,aQ 18 17,ac 5 18]
def c15r7:J7:=[ac 19 5,ai 1,ak 21 1 1,ay 22 51 19 21,ar 23 22,am 24 23 2,aG 25 24 3,ao 2 0 3 25,af 3 0]
def c15:SC:=(.seq (aa c15r0) (.seq (.seq (aa c15r1) (ab c15r2 9 c15r3)) (.seq (ab c15r4 14 c15r5) (.seq (aa c15r6) (.seq (aa c15r7) .ret)))))
def v15:Kb:=([1,2],[1,2,12,20])
def o15:Kd:=[.r 2 (some 3),.t 3]
def c17r0:J7:=[aF 2 0,aF 3 1,az 4]
def c17r1:J7:=[ai 2,ak 8 2 0,ai 3,ak 10 3 0,bq 11 8 10,ac 12 11,aK 12 2,aL 12 14 2 1,aK 12 3,aL 12 16 3 1,bS 12 17 14 16,aw 18 12 17,ac 19 18,aK 19 2,aL 19 21 2 2,aK 19 3,aL 19 23 3 2,bS 19 24 21 23,aw 25 19 24,ac 26 25,aK 26 2,aL 26 28 2 3,aY 26 29 28,aK 26 3,aL 26 31 3 3,aY 26 32 31,bS 26 33 29 32,aw 34 26 33,ac 35 34,aK 35 2,aL 35 37 2 4,aY 35 38 37,aK 35 3,aL 35 40 3 4,aY 35 41 40,bS 35 42 38 41,aw 43 35 42]
def c17r2:J7:=[az 4]
def c17r3:J7:=[af 5 0]
def c17r4:J7:=[ac 44 5,ai 2,ak 46 2 3,av 47 46,aH 48 44 47]
def c17r5:J7:=[ai 2,ak 52 2 3,ac 53 5,aC 54 52 53 1,ah 55 54,ai 3,ak 57 3 3,ac 58 5,aC 59 57 58 1,ah 60 59,bq 61 55 60]
def c17r6:J7:=[az 4]
def c17r7:J7:=[ac 49 5,aE 50 49 1,ac 5 50]
def c17r8:J7:=[af 6 0]
def c17r9:J7:=[ac 62 6,ai 2,ak 64 2 4,av 65 64,aH 66 62 65]
def c17r10:List (Bool × SI):=[(true,ai 2),(true,ak 70 2 4),(true,ac 71 6),(true,aC 72 70 71 7),(true,aG 73 72 7),(true,ai 3),(true,ak 75 3 4),(true,ac 76 6),(true,aC 77 75 76 7),(true,aG 78 77 7),(false,ay 79 28 73 78),(true,aO 80 79)]
def c17r11:J7:=[az 4]
def c17r12:J7:=[ac 67 6,aE 68 67 1,ac 6 68]
def c17r13:J7:=[bt 4]
def c17:SC:=(.seq (aa c17r0) (.seq (ab c17r1 43 c17r2) (.seq (.seq (aa c17r3) (.blk 0 (.loop (.seq (.seq (aa c17r4) (.cond (.t 48) .skip (.exit 0))) (.seq (.blk 1 (.seq (.reg true c17r5) (.cond (.t 61) (.seq (aa c17r6) .ret) .skip))) (aa c17r7)))))) (.seq (.seq (aa c17r8) (.blk 2 (.loop (.seq (.seq (aa c17r9) (.cond (.t 66) .skip (.exit 2))) (.seq (.blk 3 (.seq (.rgX c17r10) (.cond (.t 80) (.seq (aa c17r11) .ret) .skip))) (aa c17r12)))))) (.seq (aa c17r13) .ret)))))
def v17:Kb:=([2,3],[2,3,7,9,13,15,20,22,27,30,36,39,45,51,56,63,69,74])
def o17:Kd:=[.t 4]
def c18r0:J7:=[aF 1 0,af 2 0]
def c18r1:J7:=[⟨none,.al 3 [(.slice none 0 0)],none,0⟩]
def c18r2:J7:=[ai 1,ak 8 1 4,av 9 8,af 10 0]
def c18r3:J7:=[aH 11 10 9]
def c18r4:J7:=[aC 12 8 10 7,aG 13 12 7,⟨none,.alR 5 [(.int .i64 0),(.bool false),(.int .i64 0),(.int .i64 0),(.slice none 0 0),(.slice none 0 0),(.int .i64 0)],none,0⟩,ao 5 0 7 13]
def c18r5:J7:=[ah 14 3,ai 5,ak 16 5 0,cL 17 3 1 1 0 1 16,aR 18 14 17 3 1 8,aA 3 1 18]
def c18r6:J7:=[aE 19 10 1,ac 10 19]
def c18r7:J7:=[ai 1,ak 21 1 0,au 22 53 21,aO 23 22,ac 24 23,aW 24 25 3,ba 24 26 47 25,aU 24 27 26,aw 28 24 27,ac 29 28,aW 29 30 3,aY 29 31 30,a9 29 32 31 5,aw 33 29 32,ac 34 33,aK 34 1,aL 34 36 1 2,bI 34 37 36 1,aw 38 34 37,ac 39 38,aK 39 1,aL 39 41 1 2,aW 39 42 3,aY 39 43 42,cA 39 44 41 43,aw 45 39 44,ac 46 45,aK 46 1,aL 46 48 1 4,⟨some (46,false),.call 49 54 [(.t 48),(.v (.func (.func 55) #[] #[]))],none,49⟩,aw 50 46 49]
def c18r8:J7:=[af 2 1]
def c18r9:J7:=[ai 1,ak 52 1 3,au 53 47 52,aO 54 53,ac 55 54,aK 55 1,aL 55 57 1 3,⟨some (55,false),.mkf 58 (.func 57) [(.t 3)],none,58⟩,cw 55 59 56 57 58,aw 60 55 59]
def c18r10:J7:=[af 2 1]
def c18r11:J7:=[ai 1,ak 62 1 1,cX 63 62]
def c18r12:J7:=[af 2 0]
def c18r13:J7:=[ah 64 3,ai 1,ak 66 1 1,ay 67 59 64 66,ac 6 67]
def c18r14:J7:=[ac 68 6,aV 69 68 0,ac 70 69,aK 70 1,aL 70 72 1 4,aB 70 73 6,cM 70 74 72 73 7,cB 70 75 74 1,aW 70 76 75,aU 70 77 76,aw 78 70 77,ac 79 78,aK 79 1,aL 79 81 1 3,aK 79 1,aL 79 83 1 1,cw 79 84 58 81 83,aU 79 85 84,aw 86 79 85]
def c18r15:J7:=[af 2 1]
def c18r16:J7:=[af 2 0]
def c18:SC:=(.seq (aa c18r0) (.seq (aa c18r1) (.seq (.seq (aa c18r2) (.blk 0 (.loop (.seq (aa c18r3) (.seq (.cond (.t 11) .skip (.exit 0)) (.seq (.blk 1 (.seq (aa c18r4) (aa c18r5))) (aa c18r6))))))) (.seq (ab c18r7 50 c18r8) (.seq (ab c18r9 60 c18r10) (.seq (ab c18r11 63 c18r12) (.seq (aa c18r13) (.seq (ab c18r14 86 c18r15) (.seq (aa c18r16) .ret)))))))))
def v18:Kb:=([1,5],[1,5,7,15,20,35,40,47,51,56,61,65,71,80,82])
def o18:Kd:=[.t 2]
def c20r0:J7:=[aQ 1 0,af 2 0]
def c20r1:J7:=[aG 6 1 5,au 7 18 6,aP 8 7 0]
def c20r2:J7:=[af 2 0]
def c20r3:J7:=[aG 9 1 5,cW 10 0 5 9,aQ 11 10,ac 3 11]
def c20r4:J7:=[am 12 1 1,ah 13 12,bg 14 13 0]
def c20r5:J7:=[ac 15 3,am 16 1 1,ah 17 16,ay 18 51 15 17,ar 19 18,am 20 19 6,ah 21 20,ac 2 21]
def c20r6:J7:=[bJ 4,cj 4 1 0]
def c20r7:J7:=[ac 22 3,au 23 61 22]
def c20r8:J7:=[ac 5 24]
def c20r9:J7:=[ah 25 4,ac 26 5,ar 27 26,am 28 27 6,ah 29 28,ck 30 25 29]
def c20r10:J7:=[aA 4 1 30]
def c20r11:J7:=[ah 31 4,ac 2 31]
def c20:SC:=(.seq (aa c20r0) (.seq (ab c20r1 8 c20r2) (.seq (aa c20r3) (.seq (ab c20r4 14 c20r5) (.seq (aa c20r6) (.seq (.seq (aa c20r7) (.blk 0 (.rf (.t 23) [24] (aa c20r8) (.blk 1 (.rgT c20r9 c20r10))))) (.seq (aa c20r11) .ret)))))))
def v20:Kb:=([],[])
def o20:Kd:=[.t 2]
def c22r0:J7:=[aF 1 0,af 2 0]
def c22r1:J7:=[aq 3 1 0 3,au 4 62 3,aP 5 4 0]
def c22r2:J7:=[af 2 0]
def c22r3:J7:=[aq 6 1 0 3,au 7 63 6,ac 2 7]
def c22:SC:=(.seq (aa c22r0) (.seq (ab c22r1 5 c22r2) (.seq (aa c22r3) .ret)))
def v22:Kb:=([1],[1])
def o22:Kd:=[.t 2]
def c24r0:J7:=[aF 2 0,aF 3 1,aS 4]
def c24r1:J7:=[aq 7 2 0 5,aS 5,ao 5 0 5 7]
def c24r2:J7:=[af 6 0]
def c24r3:J7:=[ai 3,ak 9 3 0]
def c24r4:J7:=[aT 11 9 0,ac 10 11]
def c24r5:J7:=[aq 13 2 0 5,ai 3,aq 15 3 3 10,ay 16 25 13 15,ac 12 16,aj 17 12 0,aj 18 12 1,aj 19 12 2,ao 5 0 5 17,ac 6 19]
def c24r6:J7:=[aT 21 9 1,ac 20 21]
def c24r7:J7:=[aq 23 2 0 5,ai 3,ak 25 3 1,ay 26 33 23 25,ac 22 26,aj 27 22 0,aj 28 22 1,ao 5 0 5 27,ac 6 28]
def c24r8:J7:=[aT 30 9 2,ac 29 30]
def c24r9:J7:=[aq 32 2 0 5,ai 3,ak 34 3 1,ay 35 44 32 34,ac 31 35,aj 36 31 0,aj 37 31 1,ao 5 0 5 36,ac 6 37]
def c24r10:J7:=[aT 39 9 3,ac 38 39]
def c24r11:J7:=[aq 41 2 0 5,ai 3,ak 43 3 1,ai 3,ak 45 3 2,bc 46 35 41 43 45,ac 40 46,aj 47 40 0,aj 48 40 1,ao 5 0 5 47,ac 6 48]
def c24r12:J7:=[aT 50 9 4,ac 49 50]
def c24r13:J7:=[aq 52 2 0 5,ai 3,ak 54 3 1,ay 55 36 52 54,ac 51 55,aj 56 51 0,aj 57 51 1,ao 5 0 5 56,ac 6 57]
def c24r14:J7:=[aT 59 9 5,ac 58 59]
def c24r15:J7:=[aq 61 2 0 5,ai 3,ak 63 3 1,ay 64 37 61 63,ac 60 64,aj 65 60 0,aj 66 60 1,ao 5 0 5 65,ac 6 66]
def c24r16:J7:=[ac 67 6,aP 68 67 0]
def c24r17:J7:=[aq 69 2 0 5,ao 4 0 5 69]
def c24r18:J7:=[aq 70 5 0 5,ao 4 0 5 70]
def c24:SC:=(.seq (aa c24r0) (.seq (aa c24r1) (.seq (aa c24r2) (.seq (.seq (aa c24r3) (.blk 0 (.seq (aa c24r4) (.cond (.t 10) (aa c24r5) (.seq (aa c24r6) (.cond (.t 20) (aa c24r7) (.seq (aa c24r8) (.cond (.t 29) (aa c24r9) (.seq (aa c24r10) (.cond (.t 38) (aa c24r11) (.seq (aa c24r12) (.cond (.t 49) (aa c24r13) (.seq (aa c24r14) (.cond (.t 58) (aa c24r15) .skip)))))))))))))) (.seq (ab c24r16 68 c24r17) (.seq (aa c24r18) .ret))))))
def v24:Kb:=([2,3,4,5],[2,3,4,5,8,14,24,33,42,44,53,62])
def o24:Kd:=[.r 4 (some 5)]
def c25r0:J7:=[aF 2 0,aQ 3 1,aS 4,bJ 5,af 6 0]
def c25r1:J7:=[aq 8 2 0 5,bT 9 66 3 5,ay 10 65 8 9,ac 7 10,aj 11 7 0,aj 12 7 1,ao 4 0 5 11,ac 6 12]
def c25r2:J7:=[ac 13 6,aP 14 13 0]
def c25r3:J7:=[cJ 15,ac 16 6,ao 4 0 5 15,cj 5 1 0,ac 6 16]
def c25r4:List WI:=[(true,false,aq 17 4 0 5),(true,false,ah 18 5),(false,false,ao 4 0 5 17),(false,true,aA 5 1 18),(true,false,af 6 0)]
def c25:SC:=(.seq (aa c25r0) (.seq (aa c25r1) (.seq (ab c25r2 14 c25r3) (.seq (.rgW c25r4) .ret))))
def v25:Kb:=([2,4],[2,4])
def o25:Kd:=[.r 4 (some 5),.c 5 none,.t 6]
def c27r0:J7:=[aF 1 0,aJ 2]
def c27r1:J7:=[aq 3 1 0 3,au 4 62 3,aP 5 4 0]
def c27r2:J7:=[aJ 2]
def c27r3:J7:=[aq 6 1 0 3,ai 1,ak 8 1 1,ay 9 76 6 8,au 10 75 9,ac 2 10]
def c27:SC:=(.seq (aa c27r0) (.seq (ab c27r1 5 c27r2) (.seq (aa c27r3) .ret)))
def v27:Kb:=([1],[1,7])
def o27:Kd:=[.t 2]
def c28r0:J7:=[aF 2 0,aF 3 1,az 4]
def c28r1:J7:=[ai 2,ak 6 2 0,ai 3,ak 8 3 0,bf 9 6 8,ac 10 9,aM 10 2,aN 10 12 2 1,aM 10 3,aN 10 14 3 1,⟨some (10,true),.eqb 15 false (.t 12) (.t 14),none,15⟩,aD 16 10 15,ac 17 16,aM 17 2,aN 17 19 2 6,aM 17 3,aN 17 21 3 6,bu 17 22 19 21,aD 23 17 22,ac 24 23,aM 24 2,bl 24 26 2 2 3,aM 24 3,bl 24 28 3 2 3,bR 24 29 77 26 28,aD 30 24 29,ac 31 30,aM 31 2,aN 31 33 2 5,aM 31 3,aN 31 35 3 5,bR 31 36 78 33 35,aD 37 31 36,ac 4 37]
def c28:SC:=(.seq (aa c28r0) (.seq (aa c28r1) .ret))
def v28:Kb:=([2,3],[2,3,5,7,11,13,18,20,25,27,32,34])
def o28:Kd:=[.t 4]
def c29r0:J7:=[az 4]
def c29r1:J7:=[ac 6 0,av 7 6,ac 8 1,av 9 8,bq 10 7 9]
def c29r2:J7:=[az 4]
def c29r3:J7:=[ac 11 0,av 12 11,af 13 0]
def c29r4:J7:=[aH 14 13 12]
def c29r5:J7:=[ac 15 13,ac 5 15]
def c29r6:List (Bool × SI):=[(true,ac 16 0),(true,ac 17 5),(true,aC 18 16 17 10),(true,aG 19 18 10),(true,ac 20 1),(true,ac 21 5),(true,aC 22 20 21 10),(true,aG 23 22 10),(false,ay 24 79 19 23),(true,aO 25 24)]
def c29r7:J7:=[az 4]
def c29r8:J7:=[aE 26 13 1,ac 13 26]
def c29r9:J7:=[bt 4]
def c29:SC:=(.seq (aa c29r0) (.seq (ab c29r1 10 c29r2) (.seq (.seq (aa c29r3) (.blk 0 (.loop (.seq (aa c29r4) (.seq (.cond (.t 14) .skip (.exit 0)) (.seq (.blk 1 (.seq (aa c29r5) (.seq (.rgX c29r6) (.cond (.t 25) (.seq (aa c29r7) .ret) .skip)))) (aa c29r8))))))) (.seq (aa c29r9) .ret))))
def v29:Kb:=([],[])
def o29:Kd:=[.t 4]
def c30r0:J7:=[az 2]
def c30r1:J7:=[af 3 0]
def c30r2:J7:=[ac 4 3,ac 5 0,av 6 5,aH 7 4 6,ac 8 7,aI 8 9 3,⟨some (8,true),.bin 10 .lss (.t 9) (.i 50),none,10⟩,aD 11 8 10]
def c30r3:J7:=[ac 14 0,ac 15 3,aC 16 14 15 13,am 17 16 3,aG 18 17 10,au 19 64 18,aO 20 19]
def c30r4:J7:=[az 2]
def c30r5:J7:=[ac 12 3,aE 13 12 1,ac 3 13]
def c30r6:J7:=[ac 21 0,av 22 21,⟨none,.bin 23 .leq (.t 22) (.i 24),none,0⟩,ac 2 23]
def c30:SC:=(.seq (aa c30r0) (.seq (.seq (aa c30r1) (.blk 0 (.loop (.seq (.seq (aa c30r2) (.cond (.t 11) .skip (.exit 0))) (.seq (.blk 1 (ab c30r3 20 c30r4)) (aa c30r5)))))) (.seq (aa c30r6) .ret)))
def v30:Kb:=([],[])
def o30:Kd:=[.t 2]
def c31r0:J7:=[aJ 2]
def c31r1:J7:=[aJ 3]
def c31r2:J7:=[af 4 0]
def c31r3:J7:=[ac 5 4,ac 6 0,⟨none,.bin 7 .and (.t 6) (.i 65535),none,0⟩,⟨none,.bin 8 .rem (.t 7) (.i 5),none,0⟩,⟨none,.bin 9 .add (.i 1) (.t 8),none,0⟩,aH 10 5 9]
def c31r4:J7:=[ac 13 3,ac 14 4,cL 15 3 1 1 0 1 14,aR 16 13 15 3 1 8,ac 3 16]
def c31r5:J7:=[ac 11 4,aE 12 11 1,ac 4 12]
def c31r6:J7:=[ac 17 3,ac 2 17]
def c31:SC:=(.seq (aa c31r0) (.seq (aa c31r1) (.seq (.seq (aa c31r2) (.blk 0 (.loop (.seq (.seq (aa c31r3) (.cond (.t 10) .skip (.exit 0))) (.seq (.blk 1 (aa c31r4)) (aa c31r5)))))) (.seq (aa c31r6) .ret))))
def v31:Kb:=([],[])
def o31:Kd:=[.t 2]
def c32r0:J7:=[aF 2 0,aS 4]
def c32r1:J7:=[af 5 0]
def c32r2:J7:=[ac 7 5,ac 8 1,av 9 8,aH 10 7 9]
def c32r3:J7:=[ac 13 1,ac 14 5,aC 15 13 14 13,aG 16 15 13,⟨none,.alR 6 [(.int .i64 0),(.int .i64 0),(.int .i64 0),(.int .i64 0),(.int .i64 0),(.int .i64 0),(.int .i64 0),(.int .i64 0),(.int .i64 0),(.int .i64 0),(.bool false),(.int .i64 0),(.slice none 0 0)],none,0⟩,ao 6 0 13 16]
def c32r4:J7:=[ai 6,⟨none,.stR 6 2 1 (.i 0),none,0⟩]
def c32r5:J7:=[aq 18 2 0 5,aq 19 6 0 13,ay 20 24 18 19,ao 2 0 5 20]
def c32r6:J7:=[ac 11 5,aE 12 11 1,ac 5 12]
def c32r7:J7:=[aq 21 2 0 5,ao 4 0 5 21]
def c32:SC:=(.seq (aa c32r0) (.seq (.seq (aa c32r1) (.blk 0 (.loop (.seq (.seq (aa c32r2) (.cond (.t 10) .skip (.exit 0))) (.seq (.blk 1 (.seq (aa c32r3) (.seq (aa c32r4) (aa c32r5)))) (aa c32r6)))))) (.seq (aa c32r7) .ret)))
def v32:Kb:=([2,4,6],[2,4,6,17])
def o32:Kd:=[.r 4 (some 5)]
def c33r0:J7:=[aF 2 0,aQ 3 1,aS 4,af 5 0]
def c33r1:J7:=[aq 6 2 0 5,ah 7 3,bK 8 81 3,bc 9 80 6 7 8,aj 10 9 0,aj 11 9 1,ao 4 0 5 10,ac 5 11]
def c33:SC:=(.seq (aa c33r0) (.seq (aa c33r1) .ret))
def v33:Kb:=([2,4],[2,4])
def o33:Kd:=[.r 4 (some 5),.t 5]
def c34r0:J7:=[aF 2 0,az 4]
def c34r1:J7:=[af 5 0]
def c34r2:J7:=[ac 6 5,ai 2,ak 8 2 3,av 9 8,aH 10 6 9]
def c34r3:J7:=[ai 2,ak 14 2 3,ac 15 5,aC 16 14 15 1,ah 17 16,ac 18 1,bf 19 17 18]
def c34r4:J7:=[bt 4]
def c34r5:J7:=[ac 11 5,aE 12 11 1,ac 5 12]
def c34r6:J7:=[az 4]
def c34:SC:=(.seq (aa c34r0) (.seq (.seq (aa c34r1) (.blk 0 (.loop (.seq (.seq (aa c34r2) (.cond (.t 10) .skip (.exit 0))) (.seq (.blk 1 (ab c34r3 19 c34r4)) (aa c34r5)))))) (.seq (aa c34r6) .ret)))
def v34:Kb:=([2],[2,7,13])
def o34:Kd:=[.t 4]
def c35r0:J7:=[aF 3 0,aQ 4 1,aQ 5 2,aS 6,af 7 0]
def c35r1:J7:=[aq 8 3 0 5,ah 9 4,bT 10 85 5 4,bc 11 80 8 9 10,aj 12 11 0,aj 13 11 1,ao 6 0 5 12,ac 7 13]
def c35:SC:=(.seq (aa c35r0) (.seq (aa c35r1) .ret))
def v35:Kb:=([3,6],[3,6])
def o35:Kd:=[.r 6 (some 5),.t 7]
def c36r0:J7:=[aF 2 0,aS 4,af 5 0]
def c36r1:J7:=[aq 6 2 0 5,ac 7 1,⟨none,.call 8 80 [(.t 6),(.t 7),(.v (.func (.func 88) #[] #[]))],none,0⟩,aj 9 8 0,aj 10 8 1,ao 4 0 5 9,ac 5 10]
def c36:SC:=(.seq (aa c36r0) (.seq (aa c36r1) .ret))
def v36:Kb:=([2,4],[2,4])
def o36:Kd:=[.r 4 (some 5),.t 5]
def c37r0:J7:=[aF 2 0,aQ 3 1,aS 4,af 5 0]
def c37r1:J7:=[aq 6 2 0 5,ah 7 3,bK 8 91 3,bc 9 80 6 7 8,aj 10 9 0,aj 11 9 1,ao 4 0 5 10,ac 5 11]
def c37:SC:=(.seq (aa c37r0) (.seq (aa c37r1) .ret))
def v37:Kb:=([2,4],[2,4])
def o37:Kd:=[.r 4 (some 5),.t 5]
def c43r0:J7:=[bm 0]
def c43r1:J7:=[⟨none,.bld 1 [(.int .i64 0),(.string ⟨#[]⟩),(.string ⟨#[]⟩),(.bool false),(.int .i64 0)] [(2,1,(.v (.string ⟨#[118]⟩)))],none,0⟩,⟨none,.bld 2 [(.int .i64 0),(.string ⟨#[]⟩),(.string ⟨#[]⟩),(.bool false),(.int .i64 0)] [(0,1,(.i 1)),(2,1,(.v (.string ⟨#[119]⟩)))],none,0⟩,⟨none,.bls 3 103 2 5 [(.int .i64 0),(.string ⟨#[]⟩),(.string ⟨#[]⟩),(.bool false),(.int .i64 0),(.int .i64 0),(.string ⟨#[]⟩),(.string ⟨#[]⟩),(.bool false),(.int .i64 0)] [(0,5,(.t 1)),(5,5,(.t 2))],none,0⟩,⟨none,.bld 4 [(.int .i64 0),(.int .i64 0),(.int .i64 0),(.int .i64 0),(.int .i64 0),(.int .i64 0),(.int .i64 0),(.bool false),(.int .i64 0),(.slice none 0 0)] [(1,1,(.i 1)),(4,1,(.i (-1))),(9,1,(.t 3))],none,0⟩,ao 0 0 10 4]
def c43:SC:=(.seq (aa c43r0) (.seq (aa c43r1) .ret))
def v43:Kb:=([0],[0])
def o43:Kd:=[.r 0 (some 10)]
def c44r0:J7:=[aF 2 0,aQ 3 1,aS 4,af 5 0]
def c44r1:J7:=[aq 6 2 0 5,ah 7 3,bK 8 102 3,bc 9 80 6 7 8,aj 10 9 0,aj 11 9 1,ao 4 0 5 10,ac 5 11]
def c44:SC:=(.seq (aa c44r0) (.seq (aa c44r1) .ret))
def v44:Kb:=([2,4],[2,4])
def o44:Kd:=[.r 4 (some 5),.t 5]
def c46r0:J7:=[bj 4,af 5 0]
def c46r1:J7:=[ac 6 0,ac 7 1,ay 8 103 6 7,aO 9 8]
def c46r2:J7:=[bp 10,ao 4 0 3 10,af 5 1]
def c46r3:J7:=[ac 11 0,ac 12 1,ac 13 1,cY 14 0 1 13,bL 15 120 1 2 0 2 14,⟨none,.bld 16 [(.int .i64 0),(.int .i64 0),(.slice none 0 0)] [(0,1,(.t 11)),(1,1,(.t 12)),(2,1,(.t 15))],none,0⟩,ao 4 0 3 16,af 5 0]
def c46:SC:=(.seq (aa c46r0) (.seq (ab c46r1 9 c46r2) (.seq (aa c46r3) .ret)))
def v46:Kb:=([4],[4])
def o46:Kd:=[.r 4 (some 3),.t 5]
def c47r0:J7:=[az 2]
def c47r1:J7:=[ac 5 0,av 6 5,af 7 0]
def c47r2:J7:=[aH 8 7 6]
def c47r3:J7:=[ac 9 7,aC 10 5 7 1,ah 11 10,ac 3 9,ac 4 11]
def c47r4:J7:=[ac 12 4,au 13 53 12,aO 14 13,ac 15 14,aB 15 16 3,a9 15 17 16 0,aB 15 18 17,aI 18 19 0,aI 18 20 3,cC 18 21 20 1,bE 18 22 19 21 1,bH 18 23 22,aI 18 24 4,cZ 18 25 23 24,bU 15 26 18 25,aw 27 15 26]
def c47r5:J7:=[az 2]
def c47r6:J7:=[aE 28 7 1,ac 7 28]
def c47r7:J7:=[ac 29 0,av 30 29,bw 31 30 0,ac 2 31]
def c47:SC:=(.seq (aa c47r0) (.seq (.seq (aa c47r1) (.blk 0 (.loop (.seq (aa c47r2) (.seq (.cond (.t 8) .skip (.exit 0)) (.seq (.blk 1 (.seq (aa c47r3) (ab c47r4 27 c47r5))) (aa c47r6))))))) (.seq (aa c47r7) .ret)))
def v47:Kb:=([],[])
def o47:Kd:=[.t 2]
def c48r0:J7:=[aJ 2]
def c48r1:J7:=[ac 3 0,cm 4 3]
def c48r2:J7:=[aJ 2]
def c48r3:J7:=[cn 5,ac 6 0,aR 7 5 6 3 1 8,ac 2 7]
def c48:SC:=(.seq (aa c48r0) (.seq (ab c48r1 4 c48r2) (.seq (aa c48r3) .ret)))
def v48:Kb:=([],[])
def o48:Kd:=[.t 2]
def c51r0:J7:=[⟨none,.mv 4 (.v (.pointer none)),none,0⟩]
def c51r1:J7:=[ac 8 0,ar 9 8,am 10 9 0,am 11 10 4,ah 12 11,ac 13 1,⟨none,.call 14 105 [(.t 12),(.t 13),(.v (.func (.func 106) #[] #[]))],none,0⟩,ac 7 14,aj 15 7 0,aj 16 7 1,ac 5 15,ac 6 16]
def c51r2:J7:=[ac 17 6,aO 18 17]
def c51r3:J7:=[⟨none,.mv 4 (.v (.pointer none)),none,0⟩]
def c51r4:J7:=[ac 19 0,ar 20 19,am 21 20 0,am 22 21 4,ah 23 22,ac 24 5,aC 25 23 24 7,ac 4 25]
def c51:SC:=(.seq (aa c51r0) (.seq (aa c51r1) (.seq (ab c51r2 18 c51r3) (.seq (aa c51r4) .ret))))
def v51:Kb:=([],[])
def o51:Kd:=[.t 4]
def c53r0:J7:=[az 2]
def c53r1:J7:=[ac 3 0,bg 4 3 0,ac 5 4,aI 5 6 0,bM 5 7 6 1048576,aD 8 5 7,ac 2 8]
def c53:SC:=(.seq (aa c53r0) (.seq (aa c53r1) .ret))
def v53:Kb:=([],[])
def o53:Kd:=[.t 2]
def c54r0:J7:=[az 4]
def c54r1:J7:=[ac 5 0,ac 6 1,ay 7 107 5 6,bg 8 7 0,ac 4 8]
def c54:SC:=(.seq (aa c54r0) (.seq (aa c54r1) .ret))
def v54:Kb:=([],[])
def o54:Kd:=[.t 4]
def c55r0:J7:=[aF 1 0,az 2]
def c55r1:J7:=[ai 1,ak 5 1 0,au 6 53 5,aO 7 6,ac 8 7,aK 8 1,aL 8 10 1 5,ba 8 11 108 10,bi 8 12 11 0,aw 13 8 12,ac 14 13,aK 14 1,aL 14 16 1 6,bI 14 17 16 0,aw 18 14 17,ac 19 18,aK 19 1,aL 19 21 1 6,a9 19 22 21 1099511627777,aw 23 19 22]
def c55r2:J7:=[bt 2]
def c55r3:J7:=[ai 1,aq 25 1 2 3,bj 3,ao 3 0 3 25]
def c55r4:J7:=[ai 1,ak 27 1 1,aO 28 27]
def c55r5:J7:=[aq 30 3 0 3,au 31 89 30,ac 29 31,aj 32 29 0,aj 33 29 1,ao 3 0 3 32]
def c55r6:List (Bool × SI):=[(true,aq 34 3 0 3),(false,au 35 62 34),(true,aP 36 35 0),(true,ac 37 36),(true,aK 37 1),(true,aL 37 39 1 1),(true,aB 37 40 39),(true,aM 40 1),(true,aN 40 42 1 6),(true,bl 40 43 1 0 7),(false,aZ 40 44 68 43),(true,⟨some (40,true),.bin 45 .gtr (.t 42) (.t 44),none,45⟩),(true,bU 37 46 40 45),(true,aw 47 37 46),(true,ac 2 47)]
def c55:SC:=(.seq (aa c55r0) (.seq (ab c55r1 23 c55r2) (.seq (aa c55r3) (.seq (.seq (aa c55r4) (.cond (.t 28) (aa c55r5) .skip)) (.seq (.rgX c55r6) .ret)))))
def v55:Kb:=([1,3],[1,3,4,9,15,20,24,26,38,41])
def o55:Kd:=[.t 2]
def c56r0:J7:=[az 4]
def c56r1:J7:=[ac 5 0,ac 6 1,ay 7 109 5 6,bg 8 7 0,ac 4 8]
def c56:SC:=(.seq (aa c56r0) (.seq (aa c56r1) .ret))
def v56:Kb:=([],[])
def o56:Kd:=[.t 4]
def c57r0:J7:=[az 3]
def c57r1:J7:=[ah 4 1,ac 5 0,ay 6 58 4 5,aO 7 6,ac 3 7]
def c57:SC:=(.seq (aa c57r0) (.seq (aa c57r1) .ret))
def v57:Kb:=([],[])
def o57:Kd:=[.t 3]
def c58r0:J7:=[az 4]
def c58r1:J7:=[ac 5 0,ac 6 1,ay 7 59 5 6,bg 8 7 0,ac 4 8]
def c58:SC:=(.seq (aa c58r0) (.seq (aa c58r1) .ret))
def v58:Kb:=([],[])
def o58:Kd:=[.t 4]
def c59r0:J7:=[af 4 0]
def c59r1:J7:=[ac 6 0,av 7 6,af 8 0]
def c59r2:J7:=[aH 9 8 7]
def c59r3:J7:=[ac 10 8,ac 5 10]
def c59r4:J7:=[ac 11 1,ac 12 0,ac 13 5,aC 14 12 13 1,ah 15 14,bf 16 11 15]
def c59r5:J7:=[ac 17 5,ac 4 17]
def c59r6:J7:=[aE 18 8 1,ac 8 18]
def c59r7:J7:=[cD 4]
def c59:SC:=(.seq (aa c59r0) (.seq (.seq (aa c59r1) (.blk 0 (.loop (.seq (aa c59r2) (.seq (.cond (.t 9) .skip (.exit 0)) (.seq (.blk 1 (.seq (aa c59r3) (ab c59r4 16 c59r5))) (aa c59r6))))))) (.seq (aa c59r7) .ret)))
def v59:Kb:=([],[])
def o59:Kd:=[.t 4]
def c61r0:J7:=[aQ 1 0,cE 2]
def c61r1:J7:=[bK 3 111 1,ac 2 3]
def c61:SC:=(.seq (aa c61r0) (.seq (aa c61r1) .ret))
def v61:Kb:=([],[])
def o61:Kd:=[.t 2]
def c62r0:J7:=[aF 1 0,af 2 0]
def c62r1:J7:=[ai 1,ak 6 1 0,ai 1,ak 8 1 1,ay 9 103 6 8,aO 10 9,ac 11 10,aK 11 1,aL 11 13 1 2,aY 11 14 13,⟨some (11,false),.bin 15 .eql (.t 14) (.i 0),none,15⟩,aw 16 11 15]
def c62r2:J7:=[af 2 1]
def c62r3:J7:=[ai 1,ak 18 1 2,av 19 18,af 20 0]
def c62r4:J7:=[aH 21 20 19]
def c62r5:J7:=[ac 22 20,aC 23 18 20 2,aG 24 23 2,bn 4,ac 3 22,ao 4 0 2 24]
def c62r6:List (Bool × SI):=[(true,ai 4),(true,ak 26 4 1),(true,av 27 26),(true,ai 1),(true,ak 29 1 0),(true,bV 30 27 29),(true,ac 31 30),(true,cf 31 32 4 0 2),(false,ba 31 33 112 32),(true,aU 31 34 33),(true,aw 35 31 34),(true,ac 36 35),(true,aB 36 37 3),(true,a9 36 38 37 0),(true,aB 36 39 38),(true,aM 39 1),(true,aN 39 41 1 2),(true,aI 39 42 3),(true,cC 39 43 42 1),(true,bE 39 44 41 43 2),(true,cz 39 45 44 2),(true,bl 39 46 4 0 2),(false,bR 39 47 113 45 46),(true,ci 39 48 47),(true,bU 36 49 39 48),(true,aw 50 36 49)]
def c62r7:J7:=[af 2 1]
def c62r8:J7:=[aE 51 20 1,ac 20 51]
def c62r9:J7:=[ai 1,ak 53 1 2,av 54 53,bw 55 54 256]
def c62r10:J7:=[af 2 2]
def c62r11:J7:=[af 2 0]
def c62:SC:=(.seq (aa c62r0) (.seq (ab c62r1 16 c62r2) (.seq (.seq (aa c62r3) (.blk 0 (.loop (.seq (aa c62r4) (.seq (.cond (.t 21) .skip (.exit 0)) (.seq (.blk 1 (.seq (aa c62r5) (.seq (.rgX c62r6) (.cond (.t 50) (.seq (aa c62r7) .ret) .skip)))) (aa c62r8))))))) (.seq (ab c62r9 55 c62r10) (.seq (aa c62r11) .ret)))))
def v62:Kb:=([1,4],[1,4,5,7,12,17,25,28,40,52])
def o62:Kd:=[.t 2]
def c63r0:J7:=[aF 1 0,af 2 0]
def c63r1:List (Bool × SI):=[(true,ai 1),(true,ak 4 1 1),(true,ai 1),(true,ak 6 1 2),(true,aq 7 1 0 3),(false,au 8 115 7),(true,aC 9 6 8 2),(true,aG 10 9 2),(false,au 11 114 10),(true,ck 12 4 11),(true,ac 2 12)]
def c63:SC:=(.seq (aa c63r0) (.seq (.rgX c63r1) .ret))
def v63:Kb:=([1],[1,3,5])
def o63:Kd:=[.t 2]
def c64r0:J7:=[aF 1 0,az 2]
def c64r1:J7:=[af 3 0]
def c64r2:J7:=[ai 1,ak 7 1 9,av 8 7,af 9 0]
def c64r3:J7:=[aH 10 9 8]
def c64r4:J7:=[aC 11 7 9 5,aG 12 11 5,cF 5,ao 5 0 5 12]
def c64r5:J7:=[ac 13 3,ai 5,ak 15 5 1,cp 16 15,ai 5,ak 18 5 2,cp 19 18,bd 20 16 19,bd 21 13 20,ac 3 21]
def c64r6:J7:=[ac 22 3,bw 23 22 20000]
def c64r7:J7:=[az 2]
def c64r8:J7:=[aE 24 9 1,ac 9 24]
def c64r9:J7:=[ai 1,ak 26 1 9,av 27 26,⟨none,.bin 28 .leq (.t 27) (.i 100),none,0⟩,ac 2 28]
def c64:SC:=(.seq (aa c64r0) (.seq (aa c64r1) (.seq (.seq (aa c64r2) (.blk 0 (.loop (.seq (aa c64r3) (.seq (.cond (.t 10) .skip (.exit 0)) (.seq (.blk 1 (.seq (aa c64r4) (.seq (aa c64r5) (ab c64r6 23 c64r7)))) (aa c64r8))))))) (.seq (aa c64r9) .ret))))
def v64:Kb:=([1,5],[1,5,6,14,17,25])
def o64:Kd:=[.t 2]
def c65r0:J7:=[aF 2 0,aS 4,af 5 0]
def c65r1:J7:=[aq 9 2 0 5,au 10 18 9,ac 6 10]
def c65r2:J7:=[ac 11 6,aP 12 11 0]
def c65r3:J7:=[cJ 13,ac 14 6,ao 4 0 5 13,ac 5 14]
def c65r4:List (Bool × SI):=[(true,ai 2),(true,ak 16 2 4),(true,ai 2),(true,ak 19 2 3),(false,au 17 116 16),(true,ai 2),(false,au 20 48 19)]
def c65r5:J7:=[ao 2 4 1 17,ai 2,ao 2 3 1 20]
def c65r6:J7:=[aq 23 2 0 5,cW 24 0 5 23,aQ 25 24,ac 7 25]
def c65r7:J7:=[ac 26 1,ac 27 7,bN 28 26 27,ac 8 28]
def c65r8:J7:=[ac 29 8,aP 30 29 0]
def c65r9:J7:=[cJ 31,ac 32 8,ao 4 0 5 31,ac 5 32]
def c65r10:J7:=[ac 33 7,ar 34 33,am 35 34 0,aG 36 35 5,ao 4 0 5 36,af 5 0]
def c65:SC:=(.seq (aa c65r0) (.seq (.seq (aa c65r1) (ab c65r2 12 c65r3)) (.seq (.rgY c65r4 c65r5) (.seq (aa c65r6) (.seq (.seq (aa c65r7) (ab c65r8 30 c65r9)) (.seq (aa c65r10) .ret))))))
def v65:Kb:=([2,4],[2,4,15,18,21,22])
def o65:Kd:=[.r 4 (some 5),.t 5]
def c66r0:J7:=[af 4 0]
def c66r1:J7:=[ac 8 0,ar 9 8,am 10 9 0,am 11 10 1,ah 12 11,aV 13 12 0]
def c66r2:J7:=[af 4 180]
def c66r3:J7:=[ac 14 0,ar 15 14,am 16 15 0,am 17 16 3,ah 18 17,av 19 18,ac 20 0,ar 21 20,am 22 21 0,am 23 22 2,ah 24 23,aH 25 19 24]
def c66r4:J7:=[af 4 181]
def c66r5:J7:=[ac 26 0,ac 27 0,ar 28 27,am 29 28 0,am 30 29 1,ah 31 30,ay 32 51 26 31,ac 5 32]
def c66r6:RX:=.br [(true,aG 34 1 10),(true,ac 35 5),(true,ar 36 35),(true,aG 37 36 7)] (au 38 68 37) (.br [] (ay 39 67 34 38) (.leaf [(true,ac 33 39),(true,aj 40 33 0),(true,aj 41 33 1),(false,da 6),(false,aA 6 10 40),(true,ac 7 41)]) (da 6) (.leaf [(false,ay 39 67 34 38),(true,ac 33 39),(true,aj 40 33 0),(true,aj 41 33 1),(false,aA 6 10 40),(true,ac 7 41)])) (da 6) (.leaf [(false,au 38 68 37),(false,ay 39 67 34 38),(true,ac 33 39),(true,aj 40 33 0),(true,aj 41 33 1),(false,aA 6 10 40),(true,ac 7 41)])
def c66r7:J7:=[ac 42 7,aP 43 42 0]
def c66r8:J7:=[ac 44 7,ac 4 44]
def c66r9:List (Bool × SI):=[(true,ac 45 0),(true,ar 46 45),(true,am 47 46 0),(true,am 48 47 0),(true,ah 49 48),(true,am 50 6 0),(true,ah 51 50),(true,am 52 6 3)]
def c66r10:J7:=[aA 52 1 49,aA 2 1 51]
def c66r11:List WI:=[(true,false,ac 54 5),(true,false,ac 55 5),(true,false,ar 56 55),(true,false,am 57 56 2),(true,false,aG 58 57 3),(true,false,aG 59 6 10),(false,true,ay 60 69 58 59),(true,false,ac 53 60),(true,false,aj 61 53 0),(true,false,aj 62 53 1),(true,false,ar 63 54),(true,false,am 64 63 2),(false,true,aA 64 3 61),(true,false,ac 7 62)]
def c66r12:J7:=[ac 65 7,aP 66 65 0]
def c66r13:J7:=[ac 67 7,ac 4 67]
def c66r14:List WI:=[(true,false,ac 69 5),(true,false,ac 70 5),(true,false,ar 71 70),(true,false,am 72 71 5),(true,false,ah 73 72),(true,false,ac 74 0),(true,false,ar 75 74),(true,false,am 76 75 0),(true,false,am 77 76 0),(true,false,ah 78 77),(true,false,ah 79 2),(false,true,bc 80 70 73 78 79),(true,false,ac 68 80),(true,false,aj 81 68 0),(true,false,aj 82 68 1),(true,false,ar 83 69),(true,false,am 84 83 5),(false,true,aA 84 1 81),(true,false,ac 7 82)]
def c66r15:J7:=[ac 85 7,aP 86 85 0]
def c66r16:J7:=[ac 87 7,ac 4 87]
def c66r17:J7:=[ac 88 0,au 89 71 88]
def c66r18:J7:=[af 4 0]
def c66:SC:=(.seq (aa c66r0) (.seq (ab c66r1 13 c66r2) (.seq (.seq (.reg true c66r3) (.cond (.t 25) (.seq (aa c66r4) .ret) .skip)) (.seq (aa c66r5) (.seq (.rgZ c66r6) (.seq (ab c66r7 43 c66r8) (.seq (.rgY c66r9 c66r10) (.seq (.seq (.rgW c66r11) (ab c66r12 66 c66r13)) (.seq (.seq (.rgW c66r14) (ab c66r15 86 c66r16)) (.seq (aa c66r17) (.seq (aa c66r18) .ret)))))))))))
def v66:Kb:=([],[])
def o66:Kd:=[.t 4]
def c67r0:J7:=[aF 2 0,bm 4,af 5 0]
def c67r1:J7:=[ac 10 1,cL 11 3 1 1 0 1 10,⟨none,.call 12 117 [(.i 1099511627776),(.t 11)],none,0⟩,aO 13 12]
def c67r2:J7:=[bz 14,ao 4 0 10 14,af 5 1]
def c67r3:J7:=[aq 15 2 0 10,au 16 118 15,ac 6 16]
def c67r4:J7:=[ac 17 6,aP 18 17 0]
def c67r5:J7:=[bz 19,ac 20 6,ao 4 0 10 19,ac 5 20]
def c67r6:J7:=[ac 21 1,ai 2,ak 23 2 0,bh 24 21 23,ac 7 24]
def c67r7:List WI:=[(true,false,ac 25 1),(true,false,ai 2),(true,false,ak 27 2 1),(true,false,ac 28 7),(true,false,bd 29 27 28),(true,false,ai 2),(true,false,ak 31 2 9),(true,false,ai 2),(false,false,au 32 119 31),(false,true,ao 2 0 1 25),(true,false,ai 2),(false,true,ao 2 1 1 29),(true,false,ai 2),(false,true,ao 2 9 1 32)]
def c67r8:J7:=[ai 2,ak 37 2 9,av 38 37,af 39 0]
def c67r9:J7:=[aH 40 39 38]
def c67r10:J7:=[ac 41 39,ac 8 41]
def c67r11:J7:=[ai 2,ak 43 2 9,ac 44 8,aC 45 43 44 5,am 46 45 0,ah 47 46,ac 48 7,bd 49 47 48,aC 50 43 44 5,am 51 50 0,aA 51 1 49]
def c67r12:J7:=[aE 52 39 1,ac 39 52]
def c67r13:J7:=[aq 53 2 0 10,au 54 118 53,ac 9 54]
def c67r14:J7:=[ac 55 9,aP 56 55 0]
def c67r15:J7:=[bz 57,ac 58 9,ao 4 0 10 57,ac 5 58]
def c67r16:J7:=[aq 59 2 0 10,ao 4 0 10 59,af 5 0]
def c67:SC:=(.seq (aa c67r0) (.seq (ab c67r1 13 c67r2) (.seq (.seq (aa c67r3) (ab c67r4 18 c67r5)) (.seq (aa c67r6) (.seq (.rgW c67r7) (.seq (.seq (aa c67r8) (.blk 0 (.loop (.seq (aa c67r9) (.seq (.cond (.t 40) .skip (.exit 0)) (.seq (.blk 1 (.seq (aa c67r10) (aa c67r11))) (aa c67r12))))))) (.seq (.seq (aa c67r13) (ab c67r14 56 c67r15)) (.seq (aa c67r16) .ret))))))))
def v67:Kb:=([2,4],[2,4,22,26,30,33,34,35,36,42])
def o67:Kd:=[.r 4 (some 10),.t 5]
def c68r0:J7:=[aF 1 0,af 2 0]
def c68r1:J7:=[ai 1,aq 4 1 2 3,au 5 22 4,ac 2 5]
def c68:SC:=(.seq (aa c68r0) (.seq (aa c68r1) .ret))
def v68:Kb:=([1],[1,3])
def o68:Kd:=[.t 2]
def c69r0:J7:=[aF 2 0,aF 3 1,bj 4,af 5 0]
def c69r1:J7:=[aq 11 2 0 3,au 12 62 11,ac 6 12]
def c69r2:J7:=[ac 13 6,aT 14 13 0]
def c69r3:J7:=[aq 15 3 0 10,au 16 118 15,ac 6 16]
def c69r4:J7:=[ac 18 6,aP 19 18 0,ac 17 19]
def c69r5:J7:=[bp 20,ac 21 6,ao 4 0 3 20,ac 5 21]
def c69r6:List (Bool × SI):=[(true,ai 3),(true,ak 24 3 0),(true,aq 25 2 0 3),(false,au 26 63 25),(true,aH 27 24 26),(true,ac 22 27)]
def c69r7:J7:=[bp 28,ao 4 0 3 28,af 5 71]
def c69r8:List (Bool × SI):=[(true,aq 30 3 0 10),(true,ai 2),(true,ak 33 2 0),(false,au 31 120 30),(true,bV 34 31 33),(true,ac 29 34)]
def c69r9:J7:=[bp 35,ao 4 0 3 35,af 5 70]
def c69r10:J7:=[aq 36 2 0 3,au 37 115 36,ac 7 37]
def c69r11:RX:=.br [(true,ai 2),(true,ak 40 2 2),(true,ac 41 7),(true,aC 42 40 41 2),(true,aG 43 42 2),(true,aq 44 3 0 10),(true,ai 2),(true,ak 46 2 0)] (bc 47 121 43 44 46) (.leaf [(true,ac 38 47),(true,aj 48 38 0),(true,aj 49 38 1),(false,dh 8),(false,aA 8 2 48),(true,ac 9 49)]) (dh 8) (.leaf [(false,bc 47 121 43 44 46),(true,ac 38 47),(true,aj 48 38 0),(true,aj 49 38 1),(false,aA 8 2 48),(true,ac 9 49)])
def c69r12:J7:=[ac 50 9,aT 51 50 0]
def c69r13:RX:=.br [(true,aq 52 2 0 3),(true,ai 2),(true,ak 54 2 2),(true,ac 55 7),(true,bA 56 54 55 2),(true,aG 58 8 2)] (au 57 86 56) (.leaf [(false,bL 59 120 1 2 0 2 58),(false,aR 60 57 59 120 2 32),(false,ay 61 122 52 60),(false,ao 4 0 3 61),(true,af 5 0)]) (bL 59 120 1 2 0 2 58) (.leaf [(false,au 57 86 56),(false,aR 60 57 59 120 2 32),(false,ay 61 122 52 60),(false,ao 4 0 3 61),(true,af 5 0)])
def c69r14:J7:=[ai 2,ak 63 2 2,av 64 63,aT 65 64 256]
def c69r15:J7:=[bp 66,ao 4 0 3 66,af 5 2]
def c69r16:J7:=[ai 3,ak 69 3 0,aq 70 3 0 10,di 71 43 1 10 0 10 70,ai 2,ak 73 2 0,bc 74 123 69 71 73,ac 67 74,aj 75 67 0,aj 76 67 1,bn 10,ao 10 0 2 75,ac 6 76]
def c69r17:J7:=[ac 77 6,aP 78 77 0]
def c69r18:J7:=[bp 79,ac 80 6,ao 4 0 3 79,ac 5 80]
def c69r19:RX:=.br [(true,aq 81 2 0 3),(true,ai 2),(true,ak 83 2 2),(true,aq 85 10 0 2)] (au 84 86 83) (.leaf [(false,bL 86 120 1 2 0 2 85),(false,aR 87 84 86 120 2 32),(false,ay 88 122 81 87),(false,ao 4 0 3 88),(true,af 5 0)]) (bL 86 120 1 2 0 2 85) (.leaf [(false,au 84 86 83),(false,aR 87 84 86 120 2 32),(false,ay 88 122 81 87),(false,ao 4 0 3 88),(true,af 5 0)])
def c69:SC:=(.seq (aa c69r0) (.seq (aa c69r1) (.seq (.seq (aa c69r2) (.cond (.t 14) (aa c69r3) .skip)) (.seq (.blk 0 (.seq (aa c69r4) (.cond (.t 17) (.seq (aa c69r5) .ret) (.seq (.rgX c69r6) (.cond (.t 22) (.seq (aa c69r7) .ret) (.seq (.rgX c69r8) (.cond (.t 29) (.seq (aa c69r9) .ret) .skip))))))) (.seq (aa c69r10) (.seq (.seq (.rgZ c69r11) (.seq (aa c69r12) (.cond (.t 51) (.seq (.rgZ c69r13) .ret) .skip))) (.seq (ab c69r14 65 c69r15) (.seq (aa c69r16) (.seq (ab c69r17 78 c69r18) (.seq (.rgZ c69r19) .ret))))))))))
def v69:Kb:=([2,3,4,10],[2,3,4,10,23,32,39,45,53,62,68,72,82])
def o69:Kd:=[.r 4 (some 3),.t 5]
def c70r0:J7:=[aJ 6,af 7 0]
def c70r1:J7:=[ac 11 0,au 12 108 11,aP 13 12 0,ac 14 13,aB 14 15 1,dj 14 16 124 15 1048576,aU 14 17 16,aw 18 14 17,ac 19 18,aB 19 20 2,dj 19 21 124 20 1099511627776,aU 19 22 21,aw 23 19 22]
def c70r2:J7:=[aJ 6,af 7 1]
def c70r3:J7:=[ac 24 0,au 25 125 24,ac 26 1,ac 27 2,⟨none,.bld 28 [(.int .i64 0),(.int .i64 0)] [(0,1,(.t 26)),(1,1,(.t 27))],none,0⟩,dk 9,ac 8 25,ao 9 0 2 28]
def c70r4:J7:=[ac 29 0,av 30 29,aT 31 30 0]
def c70r5:J7:=[ac 32 8,aq 33 9 0 2,⟨none,.bls 34 151 1 2 [(.int .i64 0),(.int .i64 0)] [(0,2,(.t 33))],none,0⟩,aR 35 32 34 151 2 16,ac 6 35,af 7 0]
def c70r6:J7:=[ac 36 8,ac 37 8,av 38 37,bB 39 38 1,aC 40 36 39 2,ac 10 40]
def c70r7:J7:=[ac 46 1,ac 47 10,ar 48 47,am 49 48 0,ah 50 49,aH 51 46 50,ac 45 51]
def c70r8:J7:=[aJ 6,af 7 100]
def c70r9:J7:=[ac 53 1,ac 54 10,ar 55 54,am 56 55 0,ah 57 56,bf 58 53 57,ac 52 58]
def c70r10:J7:=[ac 60 2,ac 61 10,ar 62 61,am 63 62 1,ah 64 63,aH 65 60 64,ac 59 65]
def c70r11:J7:=[aJ 6,af 7 71]
def c70r12:J7:=[ac 67 2,ac 68 10,ar 69 68,am 70 69 1,ah 71 70,bf 72 67 71,ac 66 72]
def c70r13:J7:=[ac 73 10,aq 74 9 0 2,ar 75 73,aA 75 2 74]
def c70r14:J7:=[ac 41 8,aq 42 9 0 2,⟨none,.bls 43 151 1 2 [(.int .i64 0),(.int .i64 0)] [(0,2,(.t 42))],none,0⟩,aR 44 41 43 151 2 16,ac 8 44]
def c70r15:J7:=[ac 76 8,ac 6 76,af 7 0]
def c70:SC:=(.seq (aa c70r0) (.seq (ab c70r1 23 c70r2) (.seq (aa c70r3) (.seq (ab c70r4 31 c70r5) (.seq (.seq (aa c70r6) (.blk 0 (.seq (aa c70r7) (.cond (.t 45) (.seq (aa c70r8) .ret) (.seq (aa c70r9) (.cond (.t 52) .skip (.seq (aa c70r10) (.cond (.t 59) (.seq (aa c70r11) .ret) (.seq (aa c70r12) (.cond (.t 66) (aa c70r13) (aa c70r14))))))))))) (.seq (aa c70r15) .ret))))))
def v70:Kb:=([9],[9])
def o70:Kd:=[.t 6,.t 7]
def c71r0:J7:=[ac 5 0,ac 6 0,ar 7 6,am 8 7 0,am 9 8 1,ah 10 9,ay 11 51 5 10,⟨none,.al 2 [(.pointer none)],none,0⟩,aA 2 1 11]
def c71r1:J7:=[ac 12 0,ar 13 12,am 14 13 0,am 15 14 1,ah 16 15,aV 17 16 0,ac 18 17,aW 18 19 2,⟨some (18,false),.eqf 20 false [3] (.t 19) (.v (.pointer none)),none,20⟩,aw 21 18 20]
def c71r2:J7:=[ah 22 2,ar 23 22,aG 24 23 7,au 25 68 24,bJ 3,aA 3 1 25]
def c71r3:J7:=[ac 26 0,au 27 61 26]
def c71r4:J7:=[ac 4 28]
def c71r5:J7:=[ac 29 4,ah 30 2,⟨none,.eqf 31 true [3] (.t 29) (.t 30),none,0⟩]
def c71r6:List (Bool × SI):=[(true,ah 32 3),(true,ac 33 4),(true,ar 34 33),(true,am 35 34 5),(true,ah 36 35),(true,ac 37 4),(true,ar 38 37),(true,aG 39 38 7),(true,ah 41 2),(true,ar 42 41),(true,am 43 42 5),(true,ah 44 43),(true,ah 45 2),(true,ar 46 45),(true,aG 47 46 7),(false,au 40 68 39),(false,au 48 68 47),(false,dl 49 126 36 40 44 48),(true,bC 50 32 49)]
def c71r7:J7:=[aA 3 1 50]
def c71r8:J7:=[ah 51 2,ah 52 2,ar 53 52,am 54 53 6,ah 55 54,ah 56 3,ck 57 55 56,ar 58 51,am 59 58 6]
def c71r9:J7:=[aA 59 1 57]
def c71:SC:=(.seq (aa c71r0) (.seq (.seq (aa c71r1) (.cond (.t 21) .ret .skip)) (.seq (aa c71r2) (.seq (.seq (aa c71r3) (.blk 0 (.rf (.t 27) [28] (aa c71r4) (.blk 1 (.seq (aa c71r5) (.cond (.t 31) (.rgY c71r6 c71r7) .skip)))))) (.rgT c71r8 c71r9)))))
def v71:Kb:=([],[])
def o71:Kd:=[]
def c75r0:J7:=[aJ 2]
def c75r1:J7:=[ac 3 0,cN 4 129 3,ac 2 4]
def c75:SC:=(.seq (aa c75r0) (.seq (aa c75r1) .ret))
def v75:Kb:=([],[])
def o75:Kd:=[.t 2]
def c76r0:J7:=[aQ 2 0,aQ 3 1,cE 4]
def c76r1:J7:=[bT 5 130 2 3,ac 4 5]
def c76:SC:=(.seq (aa c76r0) (.seq (aa c76r1) .ret))
def v76:Kb:=([],[])
def o76:Kd:=[.t 4]
def c77r0:J7:=[aF 2 0,aF 3 1,az 4]
def c77r1:J7:=[ai 2,ak 7 2 0,ai 3,ak 9 3 0,bq 10 7 9,ac 11 10,aK 11 2,aL 11 13 2 1,aK 11 3,aL 11 15 3 1,bS 11 16 13 15,aw 17 11 16,ac 18 17,aK 18 2,aL 18 20 2 2,aY 18 21 20,aK 18 3,aL 18 23 3 2,aY 18 24 23,bS 18 25 21 24,aw 26 18 25]
def c77r2:J7:=[az 4]
def c77r3:J7:=[af 5 0]
def c77r4:J7:=[ac 27 5,ai 2,ak 29 2 2,av 30 29,aH 31 27 30]
def c77r5:List (Bool × SI):=[(true,ai 2),(true,ak 35 2 2),(true,ac 36 5),(true,aC 37 35 36 2),(true,aG 38 37 2),(true,ai 3),(true,ak 40 3 2),(true,ac 41 5),(true,aC 42 40 41 2),(true,aG 43 42 2),(false,ay 44 132 38 43),(true,aO 45 44)]
def c77r6:J7:=[az 4]
def c77r7:J7:=[ac 32 5,aE 33 32 1,ac 5 33]
def c77r8:J7:=[bt 4]
def c77:SC:=(.seq (aa c77r0) (.seq (ab c77r1 26 c77r2) (.seq (.seq (aa c77r3) (.blk 0 (.loop (.seq (.seq (aa c77r4) (.cond (.t 31) .skip (.exit 0))) (.seq (.blk 1 (.seq (.rgX c77r5) (.cond (.t 45) (.seq (aa c77r6) .ret) .skip))) (aa c77r7)))))) (.seq (aa c77r8) .ret))))
def v77:Kb:=([2,3],[2,3,6,8,12,14,19,22,28,34,39])
def o77:Kd:=[.t 4]
def c78r0:J7:=[az 4]
def c78r1:J7:=[ac 6 0,av 7 6,ac 8 1,av 9 8,bq 10 7 9]
def c78r2:J7:=[az 4]
def c78r3:J7:=[ac 11 0,av 12 11,af 13 0]
def c78r4:J7:=[aH 14 13 12]
def c78r5:J7:=[ac 15 13,ac 5 15]
def c78r6:J7:=[ac 16 0,ac 17 5,aC 18 16 17 2,aG 19 18 2,ac 20 1,ac 21 5,aC 22 20 21 2,aG 23 22 2,⟨none,.eqf 24 true [0,0] (.t 19) (.t 23),none,0⟩]
def c78r7:J7:=[az 4]
def c78r8:J7:=[aE 25 13 1,ac 13 25]
def c78r9:J7:=[bt 4]
def c78:SC:=(.seq (aa c78r0) (.seq (ab c78r1 10 c78r2) (.seq (.seq (aa c78r3) (.blk 0 (.loop (.seq (aa c78r4) (.seq (.cond (.t 14) .skip (.exit 0)) (.seq (.blk 1 (.seq (aa c78r5) (.seq (.reg true c78r6) (.cond (.t 24) (.seq (aa c78r7) .ret) .skip)))) (aa c78r8))))))) (.seq (aa c78r9) .ret))))
def v78:Kb:=([],[])
def o78:Kd:=[.t 4]
def c79r0:J7:=[aF 2 0,aF 3 1,az 4]
def c79r1:J7:=[ai 2,ak 6 2 0,ai 3,ak 8 3 0,bf 9 6 8,ac 10 9,aM 10 2,aN 10 12 2 1,aM 10 3,aN 10 14 3 1,bu 10 15 12 14,aD 16 10 15,ac 17 16,aM 17 2,aN 17 19 2 2,aM 17 3,aN 17 21 3 2,bu 17 22 19 21,aD 23 17 22,ac 24 23,aM 24 2,aN 24 26 2 3,aM 24 3,aN 24 28 3 3,bu 24 29 26 28,aD 30 24 29,ac 31 30,aM 31 2,aN 31 33 2 4,aM 31 3,aN 31 35 3 4,bu 31 36 33 35,aD 37 31 36,ac 38 37,aM 38 2,aN 38 40 2 5,aM 38 3,aN 38 42 3 5,bu 38 43 40 42,aD 44 38 43,ac 45 44,aM 45 2,aN 45 47 2 6,aM 45 3,aN 45 49 3 6,bu 45 50 47 49,aD 51 45 50,ac 52 51,aM 52 2,aN 52 54 2 7,aM 52 3,aN 52 56 3 7,⟨some (52,true),.eqb 57 false (.t 54) (.t 56),none,57⟩,aD 58 52 57,ac 59 58,aM 59 2,aN 59 61 2 8,aM 59 3,aN 59 63 3 8,bu 59 64 61 63,aD 65 59 64,ac 66 65,aM 66 2,aN 66 68 2 9,aM 66 3,aN 66 70 3 9,bR 66 71 133 68 70,aD 72 66 71,ac 4 72]
def c79:SC:=(.seq (aa c79r0) (.seq (aa c79r1) .ret))
def v79:Kb:=([2,3],[2,3,5,7,11,13,18,20,25,27,32,34,39,41,46,48,53,55,60,62,67,69])
def o79:Kd:=[.t 4]
def c80r0:J7:=[aF 3 0,aQ 4 1,aQ 5 2,aS 6,af 7 0]
def c80r1:J7:=[aq 8 3 0 5,bT 9 134 4 5,ay 10 65 8 9,aj 11 10 0,aj 12 10 1,ao 6 0 5 11,ac 7 12]
def c80:SC:=(.seq (aa c80r0) (.seq (aa c80r1) .ret))
def v80:Kb:=([3,6],[3,6])
def o80:Kd:=[.r 6 (some 5),.t 7]
def c81r0:J7:=[af 5 0]
def c81r1:J7:=[ac 10 0,ar 11 10,am 12 11 0,am 13 12 1,ah 14 13,aV 15 14 0,ac 16 15,aB 16 17 1,⟨some (16,false),.nck 18 (.t 17),none,18⟩,cB 16 19 18 1,aW 16 20 19,aU 16 21 20,aw 22 16 21]
def c81r2:J7:=[af 5 180]
def c81r3:J7:=[ah 23 2,ac 24 0,ar 25 24,am 26 25 0,am 27 26 1,ah 28 27,bf 29 23 28]
def c81r4:J7:=[af 5 0]
def c81r5:J7:=[ac 30 0,ac 31 0,ar 32 31,am 33 32 0,am 34 33 1,ah 35 34,ay 36 51 30 35,ac 6 36]
def c81r6:J7:=[ac 37 1,ac 38 6,ar 39 38,aG 40 39 7,ay 41 82 37 40]
def c81r7:J7:=[ac 42 1,ar 43 42,aG 44 43 7,au 45 68 44,ac 7 45]
def c81r8:J7:=[ac 46 1,ac 47 1,ar 48 47,am 49 48 6,ah 50 49,ac 51 7,bC 52 50 51,ar 53 46,am 54 53 6,aA 54 1 52]
def c81r9:List (Bool × SI):=[(true,ac 56 0),(true,ar 57 56),(true,am 58 57 0),(true,am 59 58 3),(true,ah 60 59),(true,ah 61 2),(false,ay 62 83 60 61),(true,ac 55 62),(true,aj 63 55 0),(true,aj 64 55 1),(true,ac 8 63),(true,ac 9 64)]
def c81r10:J7:=[ac 65 7,ac 66 6,ar 67 66,am 68 67 6,ah 69 68,cG 70 65 69,ac 71 70,aI 71 72 9,ci 71 73 72,aD 74 71 73]
def c81r11:List (Bool × SI):=[(true,ac 75 0),(true,ac 76 0),(true,ar 77 76),(true,am 78 77 0),(true,am 79 78 3),(true,ah 80 79),(true,ac 81 8),(true,ah 82 2),(false,cL 83 3 1 1 0 1 82),(false,bc 84 84 80 81 83),(true,ar 85 75),(true,am 86 85 0),(true,am 87 86 3)]
def c81r12:J7:=[aA 87 1 84]
def c81r13:J7:=[ac 88 0,au 89 71 88]
def c81r14:J7:=[ac 90 1,ac 91 1,ar 92 91,am 93 92 6,ah 94 93,ac 95 6,ar 96 95,am 97 96 6,ah 98 97,ck 99 94 98,ac 100 7,bC 101 99 100,ar 102 90,am 103 102 6]
def c81r15:J7:=[aA 103 1 101]
def c81r16:J7:=[af 5 0]
def c81:SC:=(.seq (aa c81r0) (.seq (ab c81r1 22 c81r2) (.seq (.seq (.reg true c81r3) (.cond (.t 29) (.seq (aa c81r4) .ret) .skip)) (.seq (aa c81r5) (.seq (aa c81r6) (.seq (aa c81r7) (.seq (aa c81r8) (.seq (.seq (.rgX c81r9) (.seq (aa c81r10) (.cond (.t 74) (.rgY c81r11 c81r12) .skip))) (.seq (aa c81r13) (.seq (.rgT c81r14 c81r15) (.seq (aa c81r16) .ret)))))))))))
def v81:Kb:=([],[])
def o81:Kd:=[.t 5]
def c82r0:J7:=[aF 3 1]
def c82r1:List (Bool × SI):=[(true,ac 8 0),(true,ar 9 8),(true,am 10 9 5),(true,ah 11 10),(true,ac 12 0),(true,ar 13 12),(true,aG 14 13 7),(true,ai 3),(true,ak 17 3 5),(true,aq 18 3 0 7),(false,au 15 68 14),(false,au 19 68 18),(false,dl 20 126 11 15 17 19),(true,ac 4 20)]
def c82r2:J7:=[ai 3,aq 22 3 2 3,bj 5,ao 5 0 3 22,az 6]
def c82r3:J7:=[ac 23 0,ar 24 23,am 25 24 2,am 26 25 1,ah 27 26,ac 7 27]
def c82r4:J7:=[ac 28 7,ai 3,⟨none,.nop,none,0⟩,ak 31 3 3,bf 32 28 31,ac 33 32,aI 33 34 4,aI 33 35 7,cZ 33 36 34 35,aD 37 33 36]
def c82r5:List WI:=[(true,false,ac 39 0),(true,false,ar 40 39),(true,false,am 41 40 2),(true,false,aG 42 41 3),(true,false,ai 3),(true,false,aq 44 3 2 3),(true,false,ac 45 4),(true,false,ac 46 0),(true,false,ar 47 46),(true,false,aG 48 47 7),(false,false,au 49 68 48),(true,false,bC 50 45 49),(false,true,bc 51 135 42 44 50),(true,false,ac 38 51),(true,false,aj 52 38 0),(true,false,aj 53 38 1),(false,true,ao 5 0 3 52),(true,false,ac 6 53)]
def c82r6:J7:=[ac 54 6,aO 55 54]
def c82r7:J7:=[ai 3,aq 57 3 2 3,ao 5 0 3 57]
def c82r8:List WI:=[(true,false,ac 58 0),(true,false,ac 59 0),(true,false,aq 60 5 0 3),(true,false,ai 3),(true,false,ak 62 3 5),(true,false,ar 63 58),(true,false,am 64 63 2),(false,false,aA 64 3 60),(true,false,ar 65 59),(true,false,am 66 65 5),(false,true,aA 66 1 62)]
def c82:SC:=(.seq (aa c82r0) (.seq (.rgX c82r1) (.seq (aa c82r2) (.seq (.seq (aa c82r3) (.seq (aa c82r4) (.cond (.t 37) (.rgW c82r5) .skip))) (.seq (.seq (aa c82r6) (.cond (.t 55) (aa c82r7) .skip)) (.rgW c82r8))))))
def v82:Kb:=([3,5],[3,5,16,21,29,30,43,56,61])
def o82:Kd:=[]
def c83r0:J7:=[af 4 0,az 5]
def c83r1:J7:=[ac 10 0,av 11 10,ac 6 11]
def c83r2:J7:=[ac 12 6,af 7 0,ac 8 12]
def c83r3:J7:=[ac 13 7,ac 14 8,aH 15 13 14]
def c83r4:J7:=[ac 16 7,ac 17 8,bd 18 16 17,bo 19 18,bD 20 19 1,bW 21 20,ac 9 21]
def c83r5:J7:=[ac 22 0,ac 23 9,aC 24 22 23 1,ah 25 24,ac 26 1,ay 27 136 25 26]
def c83r6:J7:=[ac 28 9,aE 29 28 1,ac 7 29]
def c83r7:J7:=[ac 30 9,ac 8 30]
def c83r8:J7:=[ac 31 7,ac 32 7,ac 33 6,aH 34 32 33,ac 35 34,aI 35 36 0,aI 35 37 7,bE 35 38 36 37 1,bH 35 39 38,aI 35 40 1,bu 35 41 39 40,aI 35 42 41,aB 42 43 0,aB 42 44 7,cM 42 45 43 44 1,aW 42 46 45,ba 42 47 137 46,aB 42 48 47,aI 48 49 1,aZ 48 50 137 49,bU 42 51 48 50,bX 35 52 42 51,aD 53 35 52,ac 4 31,ac 5 53]
def c83:SC:=(.seq (aa c83r0) (.seq (aa c83r1) (.seq (aa c83r2) (.seq (.blk 0 (.loop (.seq (.seq (aa c83r3) (.cond (.t 15) .skip (.exit 0))) (.blk 1 (.seq (aa c83r4) (.seq (aa c83r5) (.cond (.t 27) (aa c83r6) (aa c83r7)))))))) (.seq (aa c83r8) .ret)))))
def v83:Kb:=([],[])
def o83:Kd:=[.t 4,.t 5]
def c85r0:J7:=[af 6 0]
def c85r1:J7:=[ah 10 2,aV 11 10 0,ac 9 11]
def c85r2:J7:=[af 6 1]
def c85r3:J7:=[ac 13 1,ar 14 13,am 15 14 1,ah 16 15,aO 17 16,ac 12 17]
def c85r4:J7:=[af 6 180]
def c85r5:J7:=[ac 18 1,ar 19 18,am 20 19 2,am 21 20 2,ah 22 21,au 23 86 22,ac 7 23]
def c85r6:J7:=[ac 24 7,ac 25 7,av 26 25,bB 27 26 1,aC 28 24 27 2,ac 8 28]
def c85r7:J7:=[ac 29 8,ac 30 8,ar 31 30,am 32 31 1,ah 33 32,ac 34 8,ar 35 34,am 36 35 1,ah 37 36,av 38 37,ah 39 2,ac 40 8,ar 41 40,am 42 41 1,ah 43 42,av 44 43,bC 45 39 44,bh 46 38 45,bA 47 33 46 1,ar 48 29,am 49 48 1]
def c85r8:J7:=[aA 49 1 47]
def c85r9:J7:=[ac 50 1,ac 51 1,ac 52 7,ar 53 50,am 54 53 1,cO 54 1,ar 55 51,am 56 55 2,am 57 56 2,aA 57 1 52]
def c85r10:J7:=[ac 58 0,ar 59 58,am 60 59 0,am 61 60 1,ah 62 61,ah 63 3,bf 64 62 63]
def c85r11:J7:=[ac 65 0,ar 66 65,am 67 66 0,am 68 67 1,⟨none,.st (.t 68) 1 (.i (-1)),none,0⟩]
def c85r12:J7:=[ac 69 0,ar 70 69,am 71 70 0,am 72 71 3,ah 73 72,av 74 73,bw 75 74 1]
def c85r13:J7:=[ac 76 0,ah 77 3,ay 78 87 76 77]
def c85r14:J7:=[ac 79 0,au 80 71 79]
def c85r15:J7:=[af 6 0]
def c85:SC:=(.seq (aa c85r0) (.seq (.blk 0 (.seq (aa c85r1) (.cond (.t 9) (.seq (aa c85r2) .ret) (ab c85r3 12 c85r4)))) (.seq (aa c85r5) (.seq (aa c85r6) (.seq (.rgT c85r7 c85r8) (.seq (aa c85r9) (.seq (.seq (.reg true c85r10) (.cond (.t 64) (aa c85r11) .skip)) (.seq (.seq (aa c85r12) (.cond (.t 75) (aa c85r13) .skip)) (.seq (aa c85r14) (.seq (aa c85r15) .ret))))))))))
def v85:Kb:=([],[])
def o85:Kd:=[.t 6]
def c86r0:J7:=[aJ 2]
def c86r1:J7:=[ac 3 0,cm 4 3]
def c86r2:J7:=[aJ 2]
def c86r3:J7:=[cn 5,ac 6 0,aR 7 5 6 120 2 32,ac 2 7]
def c86:SC:=(.seq (aa c86r0) (.seq (ab c86r1 4 c86r2) (.seq (aa c86r3) .ret)))
def v86:Kb:=([],[])
def o86:Kd:=[.t 2]
def c87r0:J7:=[aQ 3 1]
def c87r1:J7:=[ac 4 0,ac 5 0,ar 6 5,am 7 6 0,am 8 7 3,ah 9 8,bK 10 141 3,ay 11 140 9 10,ar 12 4,am 13 12 0,am 14 13 3,aA 14 1 11]
def c87:SC:=(.seq (aa c87r0) (aa c87r1))
def v87:Kb:=([],[])
def o87:Kd:=[]
def c88r0:J7:=[af 4 0]
def c88r1:J7:=[ac 6 1,ar 7 6,am 8 7 1,ah 9 8]
def c88r2:J7:=[af 4 150]
def c88r3:J7:=[ac 10 1,ar 11 10,am 12 11 1,⟨none,.st (.t 12) 1 (.b true),none,0⟩]
def c88r4:J7:=[ac 14 1,ac 15 1,ar 16 15,am 17 16 2,aG 18 17 3,au 19 89 18,ac 13 19,aj 20 13 0,aj 21 13 1,ar 22 14,am 23 22 2,aA 23 3 20]
def c88r5:J7:=[ac 24 1,ar 25 24,aG 26 25 7,au 27 68 26,ac 5 27]
def c88r6:List WI:=[(true,false,ac 28 1),(true,false,ac 29 1),(true,false,ac 30 1),(true,false,ar 31 30),(true,false,am 32 31 5),(true,false,ah 33 32),(true,false,ac 34 5),(true,false,ac 36 1),(true,false,ar 37 36),(true,false,am 38 37 6),(true,false,ah 39 38),(true,false,ac 40 5),(true,false,bC 41 39 40),(false,false,ay 35 90 33 34),(true,false,ar 42 28),(true,false,am 43 42 5),(false,true,aA 43 1 35),(true,false,ar 44 29),(true,false,am 45 44 6),(false,true,aA 45 1 41)]
def c88r7:J7:=[af 4 0]
def c88:SC:=(.seq (aa c88r0) (.seq (ab c88r1 9 c88r2) (.seq (aa c88r3) (.seq (aa c88r4) (.seq (aa c88r5) (.seq (.rgW c88r6) (.seq (aa c88r7) .ret)))))))
def v88:Kb:=([],[])
def o88:Kd:=[.t 4]
def c89r0:J7:=[aF 1 0,bj 2,af 3 0]
def c89r1:J7:=[ai 1,ak 9 1 0,ai 1,ak 11 1 1,ay 12 103 9 11,aO 13 12,ac 14 13,aK 14 1,aL 14 16 1 2,aY 14 17 16,⟨some (14,false),.bin 18 .eql (.t 17) (.i 0),none,18⟩,aw 19 14 18,ac 20 19,aK 20 1,aL 20 22 1 2,⟨some (20,false),.ixA 23 (.t 22) (.i 0) 2,none,23⟩,cB 20 24 23 0,aW 20 25 24,ba 20 26 142 25,aU 20 27 26,aw 28 20 27]
def c89r2:J7:=[bp 29,ao 2 0 3 29,af 3 0]
def c89r3:J7:=[aq 30 1 0 3,⟨none,.call 31 122 [(.t 30),(.v (.slice none 0 0))],none,0⟩,ao 2 0 3 31]
def c89r4:J7:=[ai 1,ak 33 1 2,av 34 33,af 35 0]
def c89r5:J7:=[aH 36 35 34]
def c89r6:J7:=[ac 37 35,aC 38 33 35 2,aG 39 38 2,bn 5,ac 4 37,ao 5 0 2 39]
def c89r7:J7:=[ac 40 3,ai 5,ak 42 5 1,av 43 42,bd 44 40 43,ac 3 44]
def c89r8:List (Bool × SI):=[(true,ai 2),(true,ak 46 2 2),(true,av 47 46),(true,ac 48 4),(true,aH 49 47 48),(true,ac 50 49),(true,aB 50 51 4),(true,a9 50 52 51 0),(true,aB 50 53 52),(true,aM 53 1),(true,aN 53 55 1 2),(true,aI 53 56 4),(true,cC 53 57 56 1),(true,bE 53 58 55 57 2),(true,cz 53 59 58 2),(false,aZ 53 60 112 59),(true,ci 53 61 60),(true,aI 53 62 61),(true,aK 62 1),(true,aL 62 64 1 2),(true,aB 62 65 4),(true,⟨some (62,false),.bin 66 .sub (.t 65) (.i 1),none,66⟩),(true,cM 62 67 64 66 2),(true,⟨some (62,false),.ld 68 (.t 67) (some 2),none,68⟩),(true,cf 62 69 5 0 2),(false,cw 62 70 113 68 69),(true,aU 62 71 70),(true,bX 53 72 62 71),(true,bU 50 73 53 72),(true,aw 74 50 73)]
def c89r9:J7:=[aq 76 5 0 2,au 77 143 76,ac 75 77,aj 78 75 0,aj 79 75 1,bn 6,ao 6 0 2 78,ac 7 79]
def c89r10:J7:=[ac 80 3,ai 6,ak 82 6 1,av 83 82,bh 84 80 83,ac 3 84]
def c89r11:J7:=[ai 2,ak 86 2 2,aq 87 6 0 2,bL 88 120 1 2 0 2 87,aR 89 86 88 120 2 32,ai 2,ao 2 2 1 89]
def c89r12:J7:=[aE 91 35 1,ac 35 91]
def c89r13:J7:=[aq 92 2 0 3,ac 93 3,ao 2 0 3 92,ac 3 93]
def c89:SC:=(.seq (aa c89r0) (.seq (ab c89r1 28 c89r2) (.seq (aa c89r3) (.seq (.seq (aa c89r4) (.blk 0 (.loop (.seq (aa c89r5) (.seq (.cond (.t 36) .skip (.exit 0)) (.seq (.blk 1 (.seq (aa c89r6) (.seq (aa c89r7) (.seq (.seq (.rgX c89r8) (.cond (.t 74) (.exit 1) .skip)) (.seq (aa c89r9) (.seq (aa c89r10) (aa c89r11))))))) (aa c89r12))))))) (.seq (aa c89r13) .ret)))))
def v89:Kb:=([1,2,5,6],[1,2,5,6,8,10,15,21,32,41,45,54,63,81,85,90])
def o89:Kd:=[.r 2 (some 3),.t 3]
def c90r0:J7:=[aQ 2 0,aQ 3 1,aJ 4]
def c90r1:J7:=[ah 6 2,au 7 108 6,aP 8 7 0]
def c90r2:J7:=[aJ 4]
def c90r3:J7:=[ah 9 2,av 10 9,bT 11 145 2 3,ay 12 144 10 11,ac 5 12]
def c90r4:J7:=[ah 13 2,ac 14 5,bA 15 13 14 2,au 16 125 15,ac 4 16]
def c90:SC:=(.seq (aa c90r0) (.seq (ab c90r1 8 c90r2) (.seq (aa c90r3) (.seq (aa c90r4) .ret))))
def v90:Kb:=([],[])
def o90:Kd:=[.t 4]
def c91r0:J7:=[af 5 0]
def c91r1:J7:=[ac 7 1,ar 8 7,am 9 8 1,ah 10 9,aO 11 10,ac 6 11]
def c91r2:J7:=[af 5 180]
def c91r3:List (Bool × SI):=[(true,ac 13 0),(true,ar 14 13),(true,am 15 14 0),(true,am 16 15 3),(true,ah 17 16),(true,ah 18 2),(false,ay 19 58 17 18),(true,aO 20 19),(true,ac 12 20)]
def c91r4:J7:=[af 5 181]
def c91r5:J7:=[ac 22 0,ar 23 22,am 24 23 0,am 25 24 0,ah 26 25,aT 27 26 1048576,ac 21 27]
def c91r6:J7:=[af 5 2]
def c91r7:RX:=.br [(true,ac 28 0),(true,ac 29 0),(true,ac 30 0),(true,ar 31 30),(true,am 32 31 0),(true,am 33 32 0)] (ah 34 33) (.br [(true,aE 35 34 1),(true,ar 37 28),(true,am 38 37 0),(true,am 39 38 0)] (ah 36 2) (.leaf [(false,aA 39 1 35),(true,ar 40 29),(true,am 41 40 0),(true,am 42 41 1),(false,aA 42 1 36)]) (aA 39 1 35) (.leaf [(false,ah 36 2),(true,ar 40 29),(true,am 41 40 0),(true,am 42 41 1),(false,aA 42 1 36)])) (ah 36 2) (.leaf [(false,ah 34 33),(true,aE 35 34 1),(true,ar 37 28),(true,am 38 37 0),(true,am 39 38 0),(false,aA 39 1 35),(true,ar 40 29),(true,am 41 40 0),(true,am 42 41 1),(false,aA 42 1 36)])
def c91r8:J7:=[ac 43 0,au 44 71 43]
def c91r9:J7:=[af 5 0]
def c91:SC:=(.seq (aa c91r0) (.seq (.blk 0 (.seq (aa c91r1) (.cond (.t 6) (.seq (aa c91r2) .ret) (.seq (.rgX c91r3) (.cond (.t 12) (.seq (aa c91r4) .ret) (ab c91r5 21 c91r6)))))) (.seq (.rgZ c91r7) (.seq (aa c91r8) (.seq (aa c91r9) .ret)))))
def v91:Kb:=([],[])
def o91:Kd:=[.t 5]
def Fq : Sch := .br [(true, 0), (true, 1), (true, 2), (true, 3), (true, 4), (true, 5)] 6 (.br [(true, 7), (true, 9), (true, 10), (true, 11)] 8 (.leaf [(false, 12), (true, 13), (true, 14), (true, 15), (false, 16)]) 12 (.leaf [(false, 8), (true, 13), (true, 14), (true, 15), (false, 16)])) 8 (.leaf [(false, 6), (true, 7), (true, 9), (true, 10), (true, 11), (false, 12), (true, 13), (true, 14), (true, 15), (false, 16)])
theorem Ea : ZOk Tryz.prog Tryz.f91.ntmps v91.1 v91.2 (Jr 7 ((Tryz.f91.body).getD .skip)) c91r7 := ZOk.mk Fq (by kernel_rfl) (by kernel_rfl) (by kernel_rfl) (by kernel_rfl)
theorem s91 : jz Tryz.prog Tryz.f91.ntmps v91.1 v91.2 ((Tryz.f91.body).getD .skip) c91 := jz.mk [(7, .z c91r7)] (⟨⟨_, by kernel_rfl, Ea⟩, trivial⟩) (by kernel_rfl)
theorem q91 : fG Tryz.prog Tryz.f91.ntmps v91.1 v91.2 Tryz.f91.results.toList = some o91 := by kernel_rfl
def c102r0:J7:=[af 5 0]
def c102r1:J7:=[ac 7 0,ar 8 7,am 9 8 0,am 10 9 1,ah 11 10,aV 12 11 0,ac 6 12]
def c102r2:J7:=[af 5 180]
def c102r3:List (Bool × SI):=[(true,ah 14 2),(true,ac 15 0),(true,ar 16 15),(true,am 17 16 0),(true,am 18 17 1),(true,ah 19 18),(true,bf 20 14 19),(true,ac 21 20),(true,aB 21 22 0),(true,⟨some (21,false),.nck 23 (.t 22),none,23⟩),(true,cB 21 24 23 0),(true,cB 21 25 24 3),(true,aW 21 26 25),(true,aW 21 27 2),(false,cw 21 28 58 26 27),(true,aU 21 29 28),(true,aw 30 21 29),(true,ac 13 30)]
def c102r4:J7:=[af 5 181]
def c102r5:J7:=[ac 31 0,ah 32 2,ay 33 87 31 32]
def c102r6:J7:=[ac 34 0,au 35 71 34]
def c102r7:J7:=[af 5 0]
def c102:SC:=(.seq (aa c102r0) (.seq (.blk 0 (.seq (aa c102r1) (.cond (.t 6) (.seq (aa c102r2) .ret) (.seq (.rgX c102r3) (.cond (.t 13) (.seq (aa c102r4) .ret) .skip))))) (.seq (aa c102r5) (.seq (aa c102r6) (.seq (aa c102r7) .ret)))))
def v102:Kb:=([],[])
def o102:Kd:=[.t 5]
def c103r0:J7:=[az 4]
def c103r1:J7:=[ac 5 0,bg 6 5 256,ac 7 6,aI 7 8 0,bM 7 9 8 4096,aD 10 7 9,ac 11 10,aI 11 12 1,aZ 11 13 142 12,aD 14 11 13,ac 4 14]
def c103:SC:=(.seq (aa c103r0) (.seq (aa c103r1) .ret))
def v103:Kb:=([],[])
def o103:Kd:=[.t 4]
def c105r0:J7:=[af 6 0,az 7]
def c105r1:J7:=[ac 12 0,av 13 12,ac 8 13]
def c105r2:J7:=[ac 14 8,af 9 0,ac 10 14]
def c105r3:J7:=[ac 15 9,ac 16 10,aH 17 15 16]
def c105r4:J7:=[ac 18 9,ac 19 10,bd 20 18 19,bo 21 20,bD 22 21 1,bW 23 22,ac 11 23]
def c105r5:J7:=[ac 24 2,ac 25 0,ac 26 11,aC 27 25 26 7,aG 28 27 7,ac 29 1,bO 30 24 28 29,aV 31 30 0]
def c105r6:J7:=[ac 32 11,aE 33 32 1,ac 9 33]
def c105r7:J7:=[ac 34 11,ac 10 34]
def c105r8:J7:=[ac 35 9,ac 36 9,ac 37 8,aH 38 36 37,ac 39 38,aI 39 40 2,aI 39 41 0,aI 39 42 9,bE 39 43 41 42 7,cz 39 44 43 7,aI 39 45 1,⟨some (39,true),.cav 46 (.t 40) [(.t 44),(.t 45)],none,46⟩,aX 39 47 46 0,aD 48 39 47,ac 6 35,ac 7 48]
def c105:SC:=(.seq (aa c105r0) (.seq (aa c105r1) (.seq (aa c105r2) (.seq (.blk 0 (.loop (.seq (.seq (aa c105r3) (.cond (.t 17) .skip (.exit 0))) (.blk 1 (.seq (aa c105r4) (.seq (aa c105r5) (.cond (.t 31) (aa c105r6) (aa c105r7)))))))) (.seq (aa c105r8) .ret)))))
def v105:Kb:=([],[])
def o105:Kd:=[.t 6,.t 7]
def c106r0:J7:=[aF 2 0,af 4 0]
def c106r1:J7:=[ai 2,ak 6 2 0,ac 7 1,bh 8 6 7,ac 4 8]
def c106:SC:=(.seq (aa c106r0) (.seq (aa c106r1) .ret))
def v106:Kb:=([2],[2,5])
def o106:Kd:=[.t 4]
def c107r0:J7:=[af 4 0]
def c107r1:J7:=[ac 6 0,av 7 6,af 8 0]
def c107r2:J7:=[aH 9 8 7]
def c107r3:J7:=[ac 10 8,ac 5 10]
def c107r4:J7:=[ac 11 1,ac 12 0,ac 13 5,aC 14 12 13 7,aG 15 14 7,bN 16 11 15]
def c107r5:J7:=[ac 17 5,ac 4 17]
def c107r6:J7:=[aE 18 8 1,ac 8 18]
def c107r7:J7:=[cD 4]
def c107:SC:=(.seq (aa c107r0) (.seq (.seq (aa c107r1) (.blk 0 (.loop (.seq (aa c107r2) (.seq (.cond (.t 9) .skip (.exit 0)) (.seq (.blk 1 (.seq (aa c107r3) (ab c107r4 16 c107r5))) (aa c107r6))))))) (.seq (aa c107r7) .ret)))
def v107:Kb:=([],[])
def o107:Kd:=[.t 4]
def c108r0:J7:=[af 2 0]
def c108r1:J7:=[ac 5 0,av 6 5,af 7 0]
def c108r2:J7:=[aH 8 7 6]
def c108r3:J7:=[ac 9 7,aC 10 5 7 2,aG 11 10 2,dk 4,ac 3 9,ao 4 0 2 11]
def c108r4:J7:=[ai 4,ak 13 4 0,bG 14 124 13 1048576,aO 15 14,ac 16 15,aK 16 4,aL 16 18 4 1,dj 16 19 124 18 1099511627776,aU 16 20 19,aw 21 16 20]
def c108r5:J7:=[af 2 1]
def c108r6:J7:=[ac 22 3,bw 23 22 0,ac 24 23,aM 24 4,aN 24 26 4 0,aI 24 27 0,aI 24 28 3,cC 24 29 28 1,bE 24 30 27 29 2,⟨some (24,true),.flA 31 (.t 30) 0,none,31⟩,bH 24 32 31,⟨some (24,true),.bin 33 .sub (.t 26) (.t 32),none,33⟩,aM 24 4,aN 24 35 4 1,aI 24 36 0,aI 24 37 3,cC 24 38 37 1,bE 24 39 36 38 2,⟨some (24,true),.flA 40 (.t 39) 1,none,40⟩,bH 24 41 40,⟨some (24,true),.bin 42 .sub (.t 35) (.t 41),none,42⟩,⟨some (24,true),.mm 43 false (.t 33) (.t 42),none,43⟩,bM 24 44 43 0,aD 45 24 44]
def c108r7:J7:=[af 2 1]
def c108r8:J7:=[aE 46 7 1,ac 7 46]
def c108r9:J7:=[af 2 0]
def c108:SC:=(.seq (aa c108r0) (.seq (.seq (aa c108r1) (.blk 0 (.loop (.seq (aa c108r2) (.seq (.cond (.t 8) .skip (.exit 0)) (.seq (.blk 1 (.seq (aa c108r3) (.seq (ab c108r4 21 c108r5) (.seq (.reg true c108r6) (.cond (.t 45) (.seq (aa c108r7) .ret) .skip))))) (aa c108r8))))))) (.seq (aa c108r9) .ret)))
def v108:Kb:=([4],[4,12,17,25,34])
def o108:Kd:=[.t 2]
def c109r0:J7:=[af 4 0]
def c109r1:J7:=[ac 6 0,av 7 6,af 8 0]
def c109r2:J7:=[aH 9 8 7]
def c109r3:J7:=[ac 10 8,ac 5 10]
def c109r4:J7:=[ac 11 1,ac 12 0,ac 13 5,aC 14 12 13 1,ah 15 14,bN 16 11 15]
def c109r5:J7:=[ac 17 5,ac 4 17]
def c109r6:J7:=[aE 18 8 1,ac 8 18]
def c109r7:J7:=[cD 4]
def c109:SC:=(.seq (aa c109r0) (.seq (.seq (aa c109r1) (.blk 0 (.loop (.seq (aa c109r2) (.seq (.cond (.t 9) .skip (.exit 0)) (.seq (.blk 1 (.seq (aa c109r3) (ab c109r4 16 c109r5))) (aa c109r6))))))) (.seq (aa c109r7) .ret)))
def v109:Kb:=([],[])
def o109:Kd:=[.t 4]
def c111r0:J7:=[ah 5 1,ar 6 5,am 7 6 0,am 8 7 3,ah 9 8,av 10 9,af 11 0]
def c111r1:J7:=[aH 12 11 10]
def c111r2:J7:=[aC 13 9 11 1,ah 14 13,ac 4 14]
def c111r3:J7:=[ac 15 0,ah 16 1,ac 17 4,ay 18 51 16 17,bN 19 15 18,aO 20 19]
def c111r4:J7:=[aE 21 11 1,ac 11 21]
def c111:SC:=(.seq (aa c111r0) (.blk 0 (.loop (.seq (aa c111r1) (.seq (.cond (.t 12) .skip (.exit 0)) (.seq (.blk 1 (.seq (aa c111r2) (.seq (aa c111r3) (.cond (.t 20) .ret .skip)))) (aa c111r4)))))))
def v111:Kb:=([],[])
def o111:Kd:=[]
def c112r0:J7:=[aF 1 0,az 2]
def c112r1:J7:=[aq 6 1 0 2,au 7 131 6,ac 5 7,aj 8 5 0,aj 9 5 1,ac 3 8,ac 4 9]
def c112r2:J7:=[ai 1,ak 11 1 0,au 12 142 11,ac 13 12,aI 13 14 4,aM 13 1,aN 13 16 1 1,cI 13 17 16,bu 13 18 14 17,aD 19 13 18,ac 2 19]
def c112:SC:=(.seq (aa c112r0) (.seq (aa c112r1) (.seq (aa c112r2) .ret)))
def v112:Kb:=([1],[1,10,15])
def o112:Kd:=[.t 2]
def c113r0:J7:=[aF 2 0,aF 3 1,az 4]
def c113r1:List (Bool × SI):=[(true,ai 3),(true,ak 6 3 0),(true,ai 2),(true,ak 8 2 0),(true,bV 9 6 8),(true,ac 10 9),(true,aM 10 3),(true,aN 10 12 3 0),(true,bl 10 13 2 0 2),(false,aZ 10 14 114 13),(true,cZ 10 15 12 14),(true,aD 16 10 15),(true,ac 4 16)]
def c113:SC:=(.seq (aa c113r0) (.seq (.rgX c113r1) .ret))
def v113:Kb:=([2,3],[2,3,5,7,11])
def o113:Kd:=[.t 4]
def c114r0:J7:=[aQ 1 0,af 2 0]
def c114r1:J7:=[am 5 1 0,ah 6 5,bJ 3,aA 3 1 6]
def c114r2:J7:=[aG 7 1 2,au 8 151 7]
def c114r3:J7:=[bm 4,ao 4 0 10 9]
def c114r4:J7:=[ai 4,ak 12 4 1,aE 13 12 1,aA 3 1 13]
def c114r5:J7:=[ah 14 3,ac 2 14]
def c114:SC:=(.seq (aa c114r0) (.seq (aa c114r1) (.seq (.seq (aa c114r2) (.blk 0 (.rf (.t 8) [9,10] (aa c114r3) (.blk 1 (aa c114r4))))) (.seq (aa c114r5) .ret))))
def v114:Kb:=([4],[4,11])
def o114:Kd:=[.t 2]
def c115r0:J7:=[aF 1 0,af 2 0]
def c115r1:J7:=[ai 1,ak 4 1 2,av 5 4,bB 6 5 1,ac 2 6]
def c115:SC:=(.seq (aa c115r0) (.seq (aa c115r1) .ret))
def v115:Kb:=([1],[1,3])
def o115:Kd:=[.t 2]
def c116r0:J7:=[aJ 2]
def c116r1:J7:=[ac 3 0,cm 4 3]
def c116r2:J7:=[aJ 2]
def c116r3:J7:=[cn 5,ac 6 0,aR 7 5 6 50 7 88,ac 2 7]
def c116:SC:=(.seq (aa c116r0) (.seq (ab c116r1 4 c116r2) (.seq (aa c116r3) .ret)))
def v116:Kb:=([],[])
def o116:Kd:=[.t 2]
def c117r0:J7:=[az 4]
def c117r1:J7:=[ac 5 1,au 6 152 5,bg 7 6 0,ac 8 7,aI 8 9 1,aZ 8 10 153 9,aI 8 11 0,dm 8 12 10 11,aD 13 8 12,ac 4 13]
def c117:SC:=(.seq (aa c117r0) (.seq (aa c117r1) .ret))
def v117:Kb:=([],[])
def o117:Kd:=[.t 4]
theorem s117 : gZ Tryz.prog Tryz.f117.ntmps v117.1 v117.2 ((Tryz.f117.body).getD .skip) = some c117 := by kernel_rfl
theorem q117 : fG Tryz.prog Tryz.f117.ntmps v117.1 v117.2 Tryz.f117.results.toList = some o117 := by kernel_rfl
def c118r0:J7:=[aF 1 0,af 2 0]
def c118r1:J7:=[aq 6 1 0 10,au 7 154 6,ac 5 7,aj 8 5 0,aj 9 5 1,ac 3 8,ac 4 9]
def c118r2:J7:=[ac 10 4,ac 2 10]
def c118:SC:=(.seq (aa c118r0) (.seq (aa c118r1) (.seq (aa c118r2) .ret)))
def v118:Kb:=([1],[1])
def o118:Kd:=[.t 2]
def c119r0:J7:=[aJ 2]
def c119r1:J7:=[ac 3 0,cm 4 3]
def c119r2:J7:=[aJ 2]
def c119r3:J7:=[cn 5,ac 6 0,aR 7 5 6 103 5 56,ac 2 7]
def c119:SC:=(.seq (aa c119r0) (.seq (ab c119r1 4 c119r2) (.seq (aa c119r3) .ret)))
def v119:Kb:=([],[])
def o119:Kd:=[.t 2]
def c120r0:J7:=[aF 1 0,af 2 0]
def c120r1:J7:=[aq 6 1 0 10,au 7 154 6,ac 5 7,aj 8 5 0,aj 9 5 1,ac 3 8,ac 4 9]
def c120r2:J7:=[ac 10 3,av 11 10,ac 2 11]
def c120:SC:=(.seq (aa c120r0) (.seq (aa c120r1) (.seq (aa c120r2) .ret)))
def v120:Kb:=([1],[1])
def o120:Kd:=[.t 2]
def c121r0:J7:=[aF 3 0,aF 4 1,bn 6,af 7 0]
def c121r1:J7:=[aq 13 3 0 2,au 14 131 13,ac 12 14,aj 15 12 0,aj 16 12 1,ac 8 15,ac 9 16]
def c121r2:J7:=[ac 17 9,ai 3,ak 19 3 1,av 20 19,bq 21 17 20,ac 22 21,aK 22 3,aL 22 24 3 0,ba 22 25 155 24,aU 22 26 25,aw 27 22 26,ac 28 27,aB 28 29 2,ba 28 30 156 29,aU 28 31 30,aw 32 28 31]
def c121r3:J7:=[bY 33,ao 6 0 2 33,af 7 1]
def c121r4:J7:=[aq 35 4 0 10,au 36 154 35,ac 34 36,aj 37 34 0,aj 38 34 1,ac 10 37,ac 11 38]
def c121r5:J7:=[ac 40 11,aP 41 40 0,ac 39 41]
def c121r6:J7:=[bY 42,ac 43 11,ao 6 0 2 42,ac 7 43]
def c121r7:List (Bool × SI):=[(true,ai 4),(true,ak 46 4 0),(true,aq 47 3 0 2),(false,au 48 114 47),(true,aH 49 46 48),(true,ac 44 49)]
def c121r8:J7:=[bY 50,ao 6 0 2 50,af 7 71]
def c121r9:J7:=[ai 3,ak 53 3 1,av 54 53,ac 55 10,av 56 55,bd 57 54 56,ac 58 2,bV 59 57 58,ac 51 59]
def c121r10:J7:=[bY 60,ao 6 0 2 60,af 7 70]
def c121r11:List (Bool × SI):=[(true,ai 3),(true,ak 62 3 0),(true,ai 3),(true,ak 64 3 1),(true,ac 65 10),(false,⟨none,.bls 66 118 2 1 [(.slice none 0 0),(.slice none 0 0)] [(0,1,(.t 64)),(1,1,(.t 65))],none,0⟩),(false,au 67 157 66),(true,⟨none,.bld 68 [(.int .i64 0),(.slice none 0 0)] [(0,1,(.t 62)),(1,1,(.t 67))],none,0⟩)]
def c121r12:J7:=[ao 6 0 2 68,af 7 0]
def c121:SC:=(.seq (aa c121r0) (.seq (.seq (aa c121r1) (ab c121r2 32 c121r3)) (.seq (aa c121r4) (.seq (.blk 0 (.seq (aa c121r5) (.cond (.t 39) (.seq (aa c121r6) .ret) (.seq (.rgX c121r7) (.cond (.t 44) (.seq (aa c121r8) .ret) (ab c121r9 51 c121r10)))))) (.seq (.rgY c121r11 c121r12) .ret)))))
def v121:Kb:=([3,4,6],[3,4,6,18,23,45,52,61,63])
def o121:Kd:=[.r 6 (some 2),.t 7]
def c122r0:J7:=[aF 2 0,bj 4]
def c122r1:J7:=[ai 2,ak 6 2 0,ai 2,ak 8 2 1,ac 9 1,⟨none,.bld 10 [(.int .i64 0),(.int .i64 0),(.slice none 0 0)] [(0,1,(.t 6)),(1,1,(.t 8)),(2,1,(.t 9))],none,0⟩,ao 4 0 3 10]
def c122:SC:=(.seq (aa c122r0) (.seq (aa c122r1) .ret))
def v122:Kb:=([2,4],[2,4,5,7])
def o122:Kd:=[.r 4 (some 3)]
def c123r0:J7:=[bn 6,af 7 0]
def c123r1:J7:=[ac 13 0,au 14 158 13,ac 12 14,aj 15 12 0,aj 16 12 1,bn 8,ao 8 0 2 15,ac 9 16]
def c123r2:J7:=[ac 17 9,aP 18 17 0,ac 19 18,aB 19 20 2,ba 19 21 156 20,aU 19 22 21,aw 23 19 22]
def c123r3:J7:=[bY 24,ao 6 0 2 24,af 7 1]
def c123r4:J7:=[ac 25 1,av 26 25,af 27 0]
def c123r5:J7:=[aH 28 27 26]
def c123r6:J7:=[aC 29 25 27 10,aG 30 29 10,bm 11,ao 11 0 10 30]
def c123r7:J7:=[aq 32 8 0 2,aq 33 11 0 10,ac 34 2,bc 35 121 32 33 34,ac 31 35,aj 36 31 0,aj 37 31 1,ao 8 0 2 36,ac 9 37]
def c123r8:J7:=[ac 38 9,aP 39 38 0]
def c123r9:J7:=[bY 40,ac 41 9,ao 6 0 2 40,ac 7 41]
def c123r10:J7:=[aE 42 27 1,ac 27 42]
def c123r11:J7:=[aq 43 8 0 2,ao 6 0 2 43,af 7 0]
def c123:SC:=(.seq (aa c123r0) (.seq (aa c123r1) (.seq (ab c123r2 23 c123r3) (.seq (.seq (aa c123r4) (.blk 0 (.loop (.seq (aa c123r5) (.seq (.cond (.t 28) .skip (.exit 0)) (.seq (.blk 1 (.seq (aa c123r6) (.seq (aa c123r7) (ab c123r8 39 c123r9)))) (aa c123r10))))))) (.seq (aa c123r11) .ret)))))
def v123:Kb:=([6,8,11],[6,8,11])
def o123:Kd:=[.r 6 (some 2),.t 7]
def c124r0:J7:=[az 4]
def c124r1:J7:=[ac 5 0,bg 6 5 0,ac 7 6,aI 7 8 0,aI 7 9 1,dm 7 10 8 9,aD 11 7 10,ac 4 11]
def c124:SC:=(.seq (aa c124r0) (.seq (aa c124r1) .ret))
def v124:Kb:=([],[])
def o124:Kd:=[.t 4]
def c125r0:J7:=[aJ 2]
def c125r1:J7:=[ac 3 0,cm 4 3]
def c125r2:J7:=[aJ 2]
def c125r3:J7:=[cn 5,ac 6 0,aR 7 5 6 151 2 16,ac 2 7]
def c125:SC:=(.seq (aa c125r0) (.seq (ab c125r1 4 c125r2) (.seq (aa c125r3) .ret)))
def v125:Kb:=([],[])
def o125:Kd:=[.t 2]
def c126r0:J7:=[aQ 4 0,aQ 5 1,aQ 6 2,aQ 7 3,bJ 8]
def c126r1:J7:=[ah 15 4,au 16 108 15,aP 17 16 0,ac 18 17,aW 18 19 6,ba 18 20 108 19,bi 18 21 20 0,aw 22 18 21]
def c126r2:J7:=[cj 8 1 0]
def c126r3:J7:=[ah 23 4,au 24 159 23]
def c126r4:J7:=[dk 10,ao 10 0 2 26]
def c126r5:J7:=[ah 28 6,ai 10,ak 30 10 0,ah 31 7,bc 32 160 28 30 31,ac 27 32,aj 33 27 0,aj 34 27 1,ac 11 33,ac 12 34]
def c126r6:J7:=[ac 35 11,ai 10,ak 37 10 0,bf 38 35 37]
def c126r7:J7:=[ah 40 4,ai 10,ak 42 10 0,ah 43 5,bc 44 160 40 42 43,ac 39 44,aj 45 39 0,aj 46 39 1,ac 13 45,ac 14 46]
def c126r8:J7:=[ac 47 14,ac 48 12,bC 49 47 48,aA 8 1 49]
def c126r9:J7:=[cj 8 1 0]
def c126:SC:=(.seq (aa c126r0) (.seq (ab c126r1 22 c126r2) (.seq (.seq (aa c126r3) (.blk 0 (.rf (.t 24) [25,26] (aa c126r4) (.blk 1 (.seq (aa c126r5) (.seq (aa c126r6) (.cond (.t 38) (.seq (aa c126r7) (.seq (aa c126r8) .ret)) .skip))))))) (.seq (aa c126r9) .ret))))
def v126:Kb:=([10],[10,29,36,41])
def o126:Kd:=[.c 8 none]
def c129r0:J7:=[aQ 2 0,aJ 4]
def c129r1:J7:=[ac 6 1]
def c129r2:J7:=[bm 5,ao 5 0 10 7]
def c129r3:J7:=[ah 8 2,aq 9 5 0 10,di 10 43 1 10 0 10 9,aR 11 8 10 43 10 96,aA 2 1 11]
def c129r4:J7:=[ah 12 2,ac 4 12]
def c129:SC:=(.seq (aa c129r0) (.seq (.seq (aa c129r1) (.blk 0 (.rf (.t 6) [7] (aa c129r2) (.blk 1 (aa c129r3))))) (.seq (aa c129r4) .ret)))
def v129:Kb:=([5],[5])
def o129:Kd:=[.t 4]
def c130r0:J7:=[am 10 1 2,ah 11 10,av 12 11,af 13 0]
def c130r1:J7:=[aH 14 13 12]
def c130r2:J7:=[aC 15 11 13 2,aG 16 15 2,bn 5,ao 5 0 2 16]
def c130r3:J7:=[aq 18 5 0 2,au 19 131 18,ac 17 19,aj 20 17 0,aj 21 17 1,ac 6 20,ac 7 21]
def c130r4:J7:=[ac 22 6,av 23 22,af 24 0]
def c130r5:J7:=[aH 25 24 23]
def c130r6:J7:=[aC 26 22 24 10,aG 27 26 10,bm 9,ao 9 0 10 27]
def c130r7:J7:=[ai 9,ak 29 9 1,ah 30 2,cG 31 29 30,ac 32 31,aI 32 33 0,bl 32 34 9 0 10,⟨some (32,true),.cav 35 (.t 33) [(.t 34)],none,35⟩,ci 32 36 35,aD 37 32 36]
def c130r8:J7:=[aE 38 24 1,ac 24 38]
def c130r9:J7:=[aE 39 13 1,ac 13 39]
def c130:SC:=(.seq (aa c130r0) (.blk 0 (.loop (.seq (aa c130r1) (.seq (.cond (.t 14) .skip (.exit 0)) (.seq (.blk 1 (.seq (aa c130r2) (.seq (aa c130r3) (.seq (aa c130r4) (.blk 2 (.loop (.seq (aa c130r5) (.seq (.cond (.t 25) .skip (.exit 2)) (.seq (.blk 3 (.seq (aa c130r6) (.seq (aa c130r7) (.cond (.t 37) .ret .skip)))) (aa c130r8)))))))))) (aa c130r9)))))))
def v130:Kb:=([5,9],[5,9,28])
def o130:Kd:=[]
def c131r0:J7:=[aQ 1 0,⟨none,.al 2 [(.slice none 0 0)],none,0⟩,bJ 3]
def c131r1:J7:=[aG 6 1 2,au 7 151 6]
def c131r2:J7:=[bm 4,ao 4 0 10 8]
def c131r3:J7:=[ac 5 9]
def c131r4:J7:=[ah 10 2,aq 11 4 0 10,di 12 43 1 10 0 10 11,aR 13 10 12 43 10 96,ac 14 5,aA 2 1 13,aA 3 1 14]
def c131r5:List WI:=[(true,false,ah 15 2),(true,false,ah 16 3),(false,false,aA 2 1 15),(false,true,aA 3 1 16)]
def c131:SC:=(.seq (aa c131r0) (.seq (.seq (aa c131r1) (.blk 0 (.rf (.t 7) [8,9] (.seq (aa c131r2) (aa c131r3)) (.blk 1 (aa c131r4))))) (.seq (.rgW c131r5) .ret)))
def v131:Kb:=([4],[4])
def o131:Kd:=[.c 2 none,.c 3 none]
def c132r0:J7:=[aF 2 0,aF 3 1,az 4]
def c132r1:J7:=[ai 2,ak 6 2 0,ai 3,ak 8 3 0,bf 9 6 8,ac 10 9,aM 10 2,aN 10 12 2 1,aM 10 3,aN 10 14 3 1,bR 10 15 166 12 14,aD 16 10 15,ac 4 16]
def c132:SC:=(.seq (aa c132r0) (.seq (aa c132r1) .ret))
def v132:Kb:=([2,3],[2,3,5,7,11,13])
def o132:Kd:=[.t 4]
def c133r0:J7:=[az 4]
def c133r1:J7:=[ac 6 0,av 7 6,ac 8 1,av 9 8,bq 10 7 9]
def c133r2:J7:=[az 4]
def c133r3:J7:=[ac 11 0,av 12 11,af 13 0]
def c133r4:J7:=[aH 14 13 12]
def c133r5:J7:=[ac 15 13,ac 5 15]
def c133r6:J7:=[ac 16 0,ac 17 5,aC 18 16 17 5,aG 19 18 5,ac 20 1,ac 21 5,aC 22 20 21 5,aG 23 22 5,⟨none,.eqf 24 true [0,2,2,1,0] (.t 19) (.t 23),none,0⟩]
def c133r7:J7:=[az 4]
def c133r8:J7:=[aE 25 13 1,ac 13 25]
def c133r9:J7:=[bt 4]
def c133:SC:=(.seq (aa c133r0) (.seq (ab c133r1 10 c133r2) (.seq (.seq (aa c133r3) (.blk 0 (.loop (.seq (aa c133r4) (.seq (.cond (.t 14) .skip (.exit 0)) (.seq (.blk 1 (.seq (aa c133r5) (.seq (.reg true c133r6) (.cond (.t 24) (.seq (aa c133r7) .ret) .skip)))) (aa c133r8))))))) (.seq (aa c133r9) .ret))))
def v133:Kb:=([],[])
def o133:Kd:=[.t 4]
def c134r0:J7:=[af 4 0]
def c134r1:J7:=[ac 6 0,ah 7 1,ay 8 51 6 7,ac 5 8]
def c134r2:J7:=[ac 9 5,⟨none,.eqf 10 false [3] (.t 9) (.v (.pointer none)),none,0⟩]
def c134r3:J7:=[af 4 1]
def c134r4:J7:=[ah 11 2,ac 12 0,ac 13 5,bO 14 11 12 13,ac 4 14]
def c134:SC:=(.seq (aa c134r0) (.seq (aa c134r1) (.seq (ab c134r2 10 c134r3) (.seq (aa c134r4) .ret))))
def v134:Kb:=([],[])
def o134:Kd:=[.t 4]
def c135r0:J7:=[aF 3 0,aF 4 1,bj 6,az 7]
def c135r1:J7:=[aq 14 3 0 3,ac 15 2,ay 16 167 14 15,ac 13 16,aj 17 13 0,aj 18 13 1,ao 3 0 3 17,ac 8 18]
def c135r2:List (Bool × SI):=[(true,aq 19 3 0 3),(true,aq 21 4 0 3),(false,au 20 27 19),(false,au 22 27 21),(true,ac 9 20),(true,ac 10 22)]
def c135r3:J7:=[ac 23 8,aP 24 23 0,ac 25 24,aB 25 26 9,aY 25 27 26,aB 25 28 10,aY 25 29 28,cA 25 30 27 29,aw 31 25 30,ac 32 31,aB 32 33 9,aB 32 34 10,aB 32 35 9,aY 32 36 35,⟨some (32,false),.sl 37 (.t 34) none (some (.t 36)) none 10,none,37⟩,⟨some (32,false),.call 38 168 [(.t 33),(.t 37),(.v (.func (.func 169) #[] #[]))],none,38⟩,aU 32 39 38,aw 40 32 39]
def c135r4:J7:=[aq 41 3 0 3,ao 6 0 3 41,az 7]
def c135r5:J7:=[ac 42 10,ac 43 9,av 44 43,cP 45 42 44 10,av 46 45,af 47 0]
def c135r6:J7:=[aH 48 47 46]
def c135r7:J7:=[aC 49 45 47 10,aG 50 49 10,bm 12,ao 12 0 10 50]
def c135r8:J7:=[aq 52 3 0 3,aq 53 12 0 10,ay 54 69 52 53,ac 51 54,aj 55 51 0,aj 56 51 1,ao 3 0 3 55,ac 8 56]
def c135r9:J7:=[ac 57 8,aP 58 57 0]
def c135r10:J7:=[aq 59 3 0 3,ao 6 0 3 59,az 7]
def c135r11:J7:=[aE 60 47 1,ac 47 60]
def c135r12:J7:=[aq 61 3 0 3,ao 6 0 3 61,bt 7]
def c135:SC:=(.seq (aa c135r0) (.seq (aa c135r1) (.seq (.rgX c135r2) (.seq (ab c135r3 40 c135r4) (.seq (.seq (aa c135r5) (.blk 0 (.loop (.seq (aa c135r6) (.seq (.cond (.t 48) .skip (.exit 0)) (.seq (.blk 1 (.seq (aa c135r7) (.seq (aa c135r8) (ab c135r9 58 c135r10)))) (aa c135r11))))))) (.seq (aa c135r12) .ret))))))
def v135:Kb:=([3,4,6,12],[3,4,6,12])
def o135:Kd:=[.r 6 (some 3),.t 7]
def c136r0:J7:=[az 4]
def c136r1:J7:=[ac 5 0,au 6 170 5,ac 7 6,aI 7 8 1,aZ 7 9 170 8,ci 7 10 9,aD 11 7 10,ac 12 11,aB 12 13 0,aB 12 14 1,dp 12 15 13 14,aw 16 12 15,ac 4 16]
def c136:SC:=(.seq (aa c136r0) (.seq (aa c136r1) .ret))
def v136:Kb:=([],[])
def o136:Kd:=[.t 4]
def c137r0:J7:=[az 2]
def c137r1:J7:=[ac 3 0,ac 4 0,bq 5 3 4,ac 2 5]
def c137:SC:=(.seq (aa c137r0) (.seq (aa c137r1) .ret))
def v137:Kb:=([],[])
def o137:Kd:=[.t 2]
def c140r0:J7:=[aJ 4]
def c140r1:J7:=[ac 8 0,ac 9 1,ay 10 109 8 9,ac 5 10]
def c140r2:J7:=[ac 11 5,cX 12 11]
def c140r3:J7:=[ac 13 0,ac 4 13]
def c140r4:J7:=[ac 14 5,aE 15 14 1,ac 6 15]
def c140r5:J7:=[ac 16 6,ac 17 0,av 18 17,aH 19 16 18]
def c140r6:J7:=[ac 22 0,ac 23 6,aC 24 22 23 1,ah 25 24,ac 7 25]
def c140r7:J7:=[ac 26 1,ac 27 7,bN 28 26 27,aO 29 28]
def c140r8:J7:=[ac 30 0,ac 31 5,ac 32 7,aC 33 30 31 1,aA 33 1 32]
def c140r9:J7:=[ac 34 5,aE 35 34 1,ac 5 35]
def c140r10:J7:=[ac 20 6,aE 21 20 1,ac 6 21]
def c140r11:J7:=[ac 36 0,ac 37 5,cP 38 36 37 1,⟨none,.clr 99999 (.t 38) ([(.int .i64 0)]).toArray,none,0⟩]
def c140r12:J7:=[ac 39 0,ac 40 5,bA 41 39 40 1,ac 4 41]
def c140:SC:=(.seq (aa c140r0) (.seq (aa c140r1) (.seq (ab c140r2 12 c140r3) (.seq (.seq (aa c140r4) (.blk 0 (.loop (.seq (.seq (aa c140r5) (.cond (.t 19) .skip (.exit 0))) (.seq (.blk 1 (.seq (aa c140r6) (.seq (aa c140r7) (.cond (.t 29) (.seq (aa c140r8) (aa c140r9)) .skip)))) (aa c140r10)))))) (.seq (aa c140r11) (.seq (aa c140r12) .ret))))))
def v140:Kb:=([],[])
def o140:Kd:=[.t 4]
def c141r0:J7:=[az 3]
def c141r1:J7:=[ac 4 0,ah 5 1,bf 6 4 5,ac 3 6]
def c141:SC:=(.seq (aa c141r0) (.seq (aa c141r1) .ret))
def v141:Kb:=([],[])
def o141:Kd:=[.t 3]
def c142r0:J7:=[az 2]
def c142r1:J7:=[ac 3 0,bg 4 3 0,ac 5 4,aI 5 6 0,bM 5 7 6 1099511627776,aD 8 5 7,ac 2 8]
def c142:SC:=(.seq (aa c142r0) (.seq (aa c142r1) .ret))
def v142:Kb:=([],[])
def o142:Kd:=[.t 2]
def c143r0:J7:=[aF 1 0,bn 2,af 3 0]
def c143r1:J7:=[aq 7 1 0 2,au 8 131 7,ac 6 8,aj 9 6 0,aj 10 6 1,ac 4 9,ac 5 10]
def c143r2:List WI:=[(true,false,aq 11 1 0 2),(true,false,ac 12 5),(true,false,ai 1),(true,false,ak 15 1 1),(true,false,av 16 15),(true,false,ac 17 5),(true,false,bh 18 16 17),(false,false,ay 13 172 11 12),(false,false,ao 2 0 2 13),(true,false,ac 3 18)]
def c143:SC:=(.seq (aa c143r0) (.seq (aa c143r1) (.seq (.rgW c143r2) .ret)))
def v143:Kb:=([1,2],[1,2,14])
def o143:Kd:=[.r 2 (some 2),.t 3]
def c144r0:J7:=[af 4 0]
def c144r1:J7:=[ac 8 0,af 5 0,ac 6 8]
def c144r2:J7:=[ac 9 5,ac 10 6,aH 11 9 10]
def c144r3:J7:=[ac 12 5,ac 13 6,bd 14 12 13,bo 15 14,bD 16 15 1,bW 17 16,ac 7 17]
def c144r4:J7:=[ac 18 1,ac 19 7,bN 20 18 19,aO 21 20]
def c144r5:J7:=[ac 22 7,aE 23 22 1,ac 5 23]
def c144r6:J7:=[ac 24 7,ac 6 24]
def c144r7:J7:=[ac 25 5,ac 4 25]
def c144:SC:=(.seq (aa c144r0) (.seq (aa c144r1) (.seq (.blk 0 (.loop (.seq (.seq (aa c144r2) (.cond (.t 11) .skip (.exit 0))) (.blk 1 (.seq (aa c144r3) (.seq (aa c144r4) (.cond (.t 21) (aa c144r5) (aa c144r6)))))))) (.seq (aa c144r7) .ret))))
def v144:Kb:=([],[])
def o144:Kd:=[.t 4]
def c145r0:J7:=[az 4]
def c145r1:J7:=[ah 5 1,ac 6 0,aC 7 5 6 2,am 8 7 1,ah 9 8,ah 10 2,cG 11 9 10,ac 4 11]
def c145:SC:=(.seq (aa c145r0) (.seq (.reg true c145r1) .ret))
def v145:Kb:=([],[])
def o145:Kd:=[.t 4]
def c151r0:J7:=[aQ 1 0,cE 2]
def c151r1:J7:=[bK 3 177 1,ac 2 3]
def c151:SC:=(.seq (aa c151r0) (.seq (aa c151r1) .ret))
def v151:Kb:=([],[])
def o151:Kd:=[.t 2]
def c152r0:J7:=[af 2 0]
def c152r1:J7:=[ac 5 0,av 6 5,aV 7 6 1]
def c152r2:J7:=[ac 9 0,cK 10 9 0 1,ah 11 10,ac 3 11]
def c152r3:J7:=[af 4 1]
def c152r4:J7:=[ac 12 4,ac 13 0,av 14 13,aH 15 12 14]
def c152r5:J7:=[ac 18 3,ac 19 0,ac 20 4,aC 21 19 20 1,ah 22 21,bC 23 18 22,ac 3 23]
def c152r6:J7:=[ac 16 4,aE 17 16 1,ac 4 17]
def c152r7:J7:=[ac 24 3,ac 2 24]
def c152:SC:=(.seq (aa c152r0) (.seq (.seq (aa c152r1) (.cond (.t 7) .dead .skip)) (.seq (aa c152r2) (.seq (.seq (aa c152r3) (.blk 0 (.loop (.seq (.seq (aa c152r4) (.cond (.t 15) .skip (.exit 0))) (.seq (.blk 1 (aa c152r5)) (aa c152r6)))))) (.seq (aa c152r7) .ret)))))
def v152:Kb:=([],[])
def o152:Kd:=[.t 2]
theorem s152 : gZ Tryz.prog Tryz.f152.ntmps v152.1 v152.2 ((Tryz.f152.body).getD .skip) = some c152 := by kernel_rfl
theorem q152 : fG Tryz.prog Tryz.f152.ntmps v152.1 v152.2 Tryz.f152.results.toList = some o152 := by kernel_rfl
def c153r0:J7:=[af 2 0]
def c153r1:J7:=[ac 5 0,av 6 5,aV 7 6 1]
def c153r2:J7:=[ac 9 0,cK 10 9 0 1,ah 11 10,ac 3 11]
def c153r3:J7:=[af 4 1]
def c153r4:J7:=[ac 12 4,ac 13 0,av 14 13,aH 15 12 14]
def c153r5:J7:=[ac 18 3,ac 19 0,ac 20 4,aC 21 19 20 1,ah 22 21,ck 23 18 22,ac 3 23]
def c153r6:J7:=[ac 16 4,aE 17 16 1,ac 4 17]
def c153r7:J7:=[ac 24 3,ac 2 24]
def c153:SC:=(.seq (aa c153r0) (.seq (.seq (aa c153r1) (.cond (.t 7) .dead .skip)) (.seq (aa c153r2) (.seq (.seq (aa c153r3) (.blk 0 (.loop (.seq (.seq (aa c153r4) (.cond (.t 15) .skip (.exit 0))) (.seq (.blk 1 (aa c153r5)) (aa c153r6)))))) (.seq (aa c153r7) .ret)))))
def v153:Kb:=([],[])
def o153:Kd:=[.t 2]
theorem s153 : gZ Tryz.prog Tryz.f153.ntmps v153.1 v153.2 ((Tryz.f153.body).getD .skip) = some c153 := by kernel_rfl
theorem q153 : fG Tryz.prog Tryz.f153.ntmps v153.1 v153.2 Tryz.f153.results.toList = some o153 := by kernel_rfl
def c154r0:J7:=[aF 1 0,aJ 2,af 3 0]
def c154r1:J7:=[aq 5 1 0 10,au 6 179 5,aO 7 6]
def c154r2:J7:=[aJ 2,af 3 1]
def c154r3:J7:=[aq 8 1 0 10,au 9 180 8,ac 4 9]
def c154r4:J7:=[ac 10 4,av 11 10,bw 12 11 2048]
def c154r5:J7:=[aJ 2,af 3 2]
def c154r6:J7:=[ac 13 4,ac 2 13,af 3 0]
def c154:SC:=(.seq (aa c154r0) (.seq (ab c154r1 7 c154r2) (.seq (aa c154r3) (.seq (ab c154r4 12 c154r5) (.seq (aa c154r6) .ret)))))
def v154:Kb:=([1],[1])
def o154:Kd:=[.t 2,.t 3]
def c155r0:J7:=[az 2]
def c155r1:J7:=[ac 3 0,bg 4 3 0,ac 5 4,aI 5 6 0,bM 5 7 6 1099511627776,aD 8 5 7,ac 2 8]
def c155:SC:=(.seq (aa c155r0) (.seq (aa c155r1) .ret))
def v155:Kb:=([],[])
def o155:Kd:=[.t 2]
def c156r0:J7:=[az 2]
def c156r1:J7:=[ac 3 0,bg 4 3 1,ac 5 4,aI 5 6 0,bM 5 7 6 4096,aD 8 5 7,ac 2 8]
def c156:SC:=(.seq (aa c156r0) (.seq (aa c156r1) .ret))
def v156:Kb:=([],[])
def o156:Kd:=[.t 2]
def c157r0:J7:=[aJ 2]
def c157r1:J7:=[af 3 0]
def c157r2:J7:=[ac 9 0,av 10 9,af 11 0]
def c157r3:J7:=[aH 12 11 10]
def c157r4:J7:=[aC 13 9 11 1,ah 14 13,ac 5 14]
def c157r5:J7:=[ac 15 3,ac 16 5,av 17 16,bd 18 15 17,ac 3 18]
def c157r6:J7:=[ac 19 3,aV 20 19 0]
def c157r7:J7:=[aE 22 11 1,ac 11 22]
def c157r8:J7:=[ac 23 3,cN 24 181 23,ac 6 24]
def c157r9:J7:=[ac 25 0,av 26 25,af 27 0]
def c157r10:J7:=[aH 28 27 26]
def c157r11:J7:=[aC 29 25 27 1,ah 30 29,ac 8 30]
def c157r12:J7:=[ac 31 6,ac 32 8,aR 33 31 32 5 1 1,ac 6 33]
def c157r13:J7:=[aE 34 27 1,ac 27 34]
def c157r14:J7:=[ac 35 6,ac 2 35]
def c157:SC:=(.seq (aa c157r0) (.seq (aa c157r1) (.seq (.seq (aa c157r2) (.blk 0 (.loop (.seq (aa c157r3) (.seq (.cond (.t 12) .skip (.exit 0)) (.seq (.blk 1 (.seq (aa c157r4) (.seq (aa c157r5) (.seq (aa c157r6) (.cond (.t 20) .dead .skip))))) (aa c157r7))))))) (.seq (aa c157r8) (.seq (.seq (aa c157r9) (.blk 2 (.loop (.seq (aa c157r10) (.seq (.cond (.t 28) .skip (.exit 2)) (.seq (.blk 3 (.seq (aa c157r11) (aa c157r12))) (aa c157r13))))))) (.seq (aa c157r14) .ret))))))
def v157:Kb:=([],[])
def o157:Kd:=[.t 2]
def c158r0:J7:=[bn 2,af 3 0]
def c158r1:J7:=[ac 4 0,au 5 155 4,aO 6 5]
def c158r2:J7:=[bY 7,ao 2 0 2 7,af 3 1]
def c158r3:J7:=[ac 8 0,cY 9 0 1 8,ao 2 0 2 9,af 3 0]
def c158:SC:=(.seq (aa c158r0) (.seq (ab c158r1 6 c158r2) (.seq (aa c158r3) .ret)))
def v158:Kb:=([2],[2])
def o158:Kd:=[.r 2 (some 2),.t 3]
def c159r0:J7:=[aQ 1 0,cE 2]
def c159r1:J7:=[bK 3 182 1,ac 2 3]
def c159:SC:=(.seq (aa c159r0) (.seq (aa c159r1) .ret))
def v159:Kb:=([],[])
def o159:Kd:=[.t 2]
def c160r0:J7:=[af 6 0,af 7 0]
def c160r1:J7:=[af 8 0]
def c160r2:J7:=[ac 9 0,au 10 108 9,aT 11 10 0]
def c160r3:J7:=[ac 12 0,ac 13 1,ay 14 183 12 13,ac 8 14]
def c160r4:J7:=[ac 15 8,aT 16 15 0]
def c160r5:J7:=[cD 6,af 7 0]
def c160r6:J7:=[ac 17 8,ac 18 0,av 19 18,aH 20 17 19]
def c160r7:J7:=[ac 21 0,ac 22 8,aC 23 21 22 2,am 24 23 1,ah 25 24,ac 2 25]
def c160r8:J7:=[ac 26 0,ac 27 8,bB 28 27 1,aC 29 26 28 2,am 30 29 0,ah 31 30,ac 32 2,ac 6 31,ac 7 32]
def c160:SC:=(.seq (aa c160r0) (.seq (aa c160r1) (.seq (.seq (aa c160r2) (.cond (.t 11) (aa c160r3) .skip)) (.seq (ab c160r4 16 c160r5) (.seq (.seq (aa c160r6) (.cond (.t 20) (aa c160r7) .skip)) (.seq (aa c160r8) .ret))))))
def v160:Kb:=([],[])
def o160:Kd:=[.t 6,.t 7]
def c161r0:J7:=[aF 1 0,af 2 0]
def c161r1:J7:=[ai 1,ak 4 1 0,au 5 184 4,aO 6 5,ac 7 6,aK 7 1,aL 7 9 1 4,ba 7 10 184 9,aU 7 11 10,aw 12 7 11,ac 13 12,aK 13 1,aL 13 15 1 1,⟨some (13,false),.len 16 true (.t 15),none,16⟩,a9 13 17 16 64,aw 18 13 17,ac 19 18,aK 19 1,aL 19 21 1 2,⟨some (19,false),.len 22 true (.t 21),none,22⟩,a9 19 23 22 64,aw 24 19 23,ac 25 24,aK 25 1,aL 25 27 1 3,aB 25 28 27,aM 28 1,aN 28 30 1 1,⟨some (28,true),.bin 31 .eql (.t 30) (.v (.string ⟨#[]⟩)),none,31⟩,aI 28 32 31,aK 32 1,aL 32 34 1 2,⟨some (32,false),.bin 35 .neq (.t 34) (.v (.string ⟨#[]⟩)),none,35⟩,bX 28 36 32 35,bU 25 37 28 36,aw 38 25 37]
def c161r2:J7:=[af 2 1]
def c161r3:J7:=[af 2 0]
def c161:SC:=(.seq (aa c161r0) (.seq (ab c161r1 38 c161r2) (.seq (aa c161r3) .ret)))
def v161:Kb:=([1],[1,3,8,14,20,26,29,33])
def o161:Kd:=[.t 2]
theorem s161 : gZ Tryz.prog Tryz.f161.ntmps v161.1 v161.2 ((Tryz.f161.body).getD .skip) = some c161 := by kernel_rfl
theorem q161 : fG Tryz.prog Tryz.f161.ntmps v161.1 v161.2 Tryz.f161.results.toList = some o161 := by kernel_rfl
def c162r0:J7:=[aJ 4]
def c162r1:J7:=[ac 7 1,bo 8 7,⟨none,.bin 9 .mul (.v (.int .u64 2)) (.t 8),none,0⟩,ac 5 9]
def c162r2:J7:=[ac 10 1,aV 11 10 0]
def c162r3:J7:=[ac 12 1,aE 13 12 1,⟨none,.un 14 .neg (.t 13),none,0⟩,bo 15 14,⟨none,.bin 16 .mul (.v (.int .u64 2)) (.t 15),none,0⟩,⟨none,.bin 17 .add (.t 16) (.v (.int .u64 1)),none,0⟩,ac 5 17]
def c162r4:J7:=[ac 18 0,au 19 176 18,ac 6 19]
def c162r5:J7:=[ac 20 5,⟨none,.bin 21 .geq (.t 20) (.v (.int .u64 128)),none,0⟩]
def c162r6:J7:=[ac 22 6,ac 23 5,⟨none,.bin 24 .rem (.t 23) (.v (.int .u64 128)),none,0⟩,⟨none,.bin 25 .add (.v (.int .u64 128)) (.t 24),none,0⟩,cr 26 25,bZ 27 5 1 1 0 1 26,aR 28 22 27 5 1 1,ac 6 28]
def c162r7:J7:=[ac 29 5,⟨none,.bin 30 .quo (.t 29) (.v (.int .u64 128)),none,0⟩,ac 5 30]
def c162r8:J7:=[ac 31 6,ac 32 5,cr 33 32,bZ 34 5 1 1 0 1 33,aR 35 31 34 5 1 1,ac 4 35]
def c162:SC:=(.seq (aa c162r0) (.seq (aa c162r1) (.seq (.seq (aa c162r2) (.cond (.t 11) (aa c162r3) .skip)) (.seq (aa c162r4) (.seq (.blk 0 (.loop (.seq (.seq (aa c162r5) (.cond (.t 21) .skip (.exit 0))) (.blk 1 (.seq (aa c162r6) (aa c162r7)))))) (.seq (aa c162r8) .ret))))))
def v162:Kb:=([],[])
def o162:Kd:=[.t 4]
theorem s162 : gZ Tryz.prog Tryz.f162.ntmps v162.1 v162.2 ((Tryz.f162.body).getD .skip) = some c162 := by kernel_rfl
theorem q162 : fG Tryz.prog Tryz.f162.ntmps v162.1 v162.2 Tryz.f162.results.toList = some o162 := by kernel_rfl
def c163r0:J7:=[aF 3 0,aJ 6,af 7 0]
def c163r1:J7:=[aq 10 3 0 5,au 11 161 10,ac 8 11]
def c163r2:J7:=[ac 12 8,aP 13 12 0]
def c163r3:J7:=[ac 14 8,aJ 6,ac 7 14]
def c163r4:J7:=[ac 15 1,au 16 184 15,aO 17 16,ac 18 17,aB 18 19 2,ba 18 20 184 19,aU 18 21 20,aw 22 18 21]
def c163r5:J7:=[aJ 6,af 7 1]
def c163r6:J7:=[ai 3,ak 24 3 0,ac 25 1,bh 26 24 25,cN 27 162 26,ac 9 27]
def c163r7:J7:=[ac 28 9,ai 3,ak 30 3 4,ac 31 2,bh 32 30 31,ay 33 162 28 32,ac 9 33]
def c163r8:J7:=[ai 3,ak 35 3 3]
def c163r9:J7:=[ac 36 9,⟨none,.bls 37 5 1 1 [(.int .u8 0)] [(0,1,(.v (.int .u8 1)))],none,0⟩,aR 38 36 37 5 1 1,ac 9 38]
def c163r10:J7:=[ac 39 9,⟨none,.bls 40 5 1 1 [(.int .u8 0)] [(0,1,(.v (.int .u8 0)))],none,0⟩,aR 41 39 40 5 1 1,ac 9 41]
def c163r11:J7:=[ac 42 9,ai 3,ak 44 3 1,ay 45 185 42 44,ac 9 45]
def c163r12:J7:=[ac 46 9,ai 3,ak 48 3 2,ay 49 185 46 48,ac 6 49,af 7 0]
def c163:SC:=(.seq (aa c163r0) (.seq (aa c163r1) (.seq (ab c163r2 13 c163r3) (.seq (ab c163r4 22 c163r5) (.seq (aa c163r6) (.seq (aa c163r7) (.seq (.seq (aa c163r8) (.cond (.t 35) (aa c163r9) (aa c163r10))) (.seq (aa c163r11) (.seq (aa c163r12) .ret)))))))))
def v163:Kb:=([3],[3,23,29,34,43,47])
def o163:Kd:=[.t 6,.t 7]
theorem s163 : gZ Tryz.prog Tryz.f163.ntmps v163.1 v163.2 ((Tryz.f163.body).getD .skip) = some c163 := by kernel_rfl
theorem q163 : fG Tryz.prog Tryz.f163.ntmps v163.1 v163.2 Tryz.f163.results.toList = some o163 := by kernel_rfl
def c166r0:J7:=[az 4]
def c166r1:J7:=[ac 5 0,⟨none,.cvS 6 (.t 5),none,0⟩,ac 7 1,⟨none,.cvS 8 (.t 7),none,0⟩,bf 9 6 8,ac 4 9]
def c166:SC:=(.seq (aa c166r0) (.seq (aa c166r1) .ret))
def v166:Kb:=([],[])
def o166:Kd:=[.t 4]
def c167r0:J7:=[aQ 2 0,aQ 3 1,bj 4,af 5 0]
def c167r1:J7:=[aG 6 2 3,ah 7 3,bT 8 189 2 3,bc 9 188 6 7 8,aj 10 9 0,aj 11 9 1,ao 4 0 3 10,ac 5 11]
def c167:SC:=(.seq (aa c167r0) (.seq (aa c167r1) .ret))
def v167:Kb:=([4],[4])
def o167:Kd:=[.r 4 (some 3),.t 5]
def c168r0:J7:=[az 6]
def c168r1:J7:=[ac 10 0,av 11 10,ac 12 1,av 13 12,bq 14 11 13]
def c168r2:J7:=[az 6]
def c168r3:J7:=[ac 15 0,av 16 15,af 17 0]
def c168r4:J7:=[aH 18 17 16]
def c168r5:J7:=[ac 19 17,aC 20 15 17 10,aG 21 20 10,bm 8,ac 7 19,ao 8 0 10 21]
def c168r6:J7:=[ac 22 1,ac 23 7,aC 24 22 23 10,aG 25 24 10,bm 9,ao 9 0 10 25]
def c168r7:J7:=[ac 26 2,aq 27 8 0 10,aq 28 9 0 10,bO 29 26 27 28,aO 30 29]
def c168r8:J7:=[az 6]
def c168r9:J7:=[aE 31 17 1,ac 17 31]
def c168r10:J7:=[bt 6]
def c168:SC:=(.seq (aa c168r0) (.seq (ab c168r1 14 c168r2) (.seq (.seq (aa c168r3) (.blk 0 (.loop (.seq (aa c168r4) (.seq (.cond (.t 18) .skip (.exit 0)) (.seq (.blk 1 (.seq (aa c168r5) (.seq (aa c168r6) (ab c168r7 30 c168r8)))) (aa c168r9))))))) (.seq (aa c168r10) .ret))))
def v168:Kb:=([8,9],[8,9])
def o168:Kd:=[.t 6]
def c169r0:J7:=[aF 2 0,aF 3 1,az 4]
def c169r1:J7:=[ai 2,ak 7 2 9,ai 3,ak 9 3 9,ay 10 191 7 9,aO 11 10]
def c169r2:J7:=[az 4]
def c169r3:J7:=[⟨none,.mv 5 (.v (.func (.func 192) #[] #[])),none,0⟩]
def c169r4:List (Bool × SI):=[(true,ac 12 5),(true,aq 13 2 0 10),(true,ac 15 5),(true,aq 16 3 0 10),(false,bN 14 12 13),(false,bN 17 15 16),(true,⟨none,.eqf 18 false [0,0,0,0,0,0,0,0,0] (.t 14) (.t 17),none,0⟩),(true,ac 4 18)]
def c169:SC:=(.seq (aa c169r0) (.seq (ab c169r1 11 c169r2) (.seq (aa c169r3) (.seq (.rgX c169r4) .ret))))
def v169:Kb:=([2,3],[2,3,6,8])
def o169:Kd:=[.t 4]
def c170r0:J7:=[az 2]
def c170r1:J7:=[ac 3 0,ac 4 0,bq 5 3 4,ac 2 5]
def c170:SC:=(.seq (aa c170r0) (.seq (aa c170r1) .ret))
def v170:Kb:=([],[])
def o170:Kd:=[.t 2]
def c172r0:J7:=[aF 2 0,bn 4]
def c172r1:List (Bool × SI):=[(true,ai 2),(true,ak 6 2 0),(true,ai 2),(true,ak 8 2 1),(true,ac 9 1),(true,bA 10 8 9 1),(false,au 11 194 10),(true,⟨none,.bld 12 [(.int .i64 0),(.slice none 0 0)] [(0,1,(.t 6)),(1,1,(.t 11))],none,0⟩)]
def c172r2:J7:=[ao 4 0 2 12]
def c172:SC:=(.seq (aa c172r0) (.seq (.rgY c172r1 c172r2) .ret))
def v172:Kb:=([2,4],[2,4,5,7])
def o172:Kd:=[.r 4 (some 2)]
def c176r0:J7:=[aJ 2]
def c176r1:J7:=[ac 3 0,dq 4 3 5 1 1,ac 2 4]
def c176:SC:=(.seq (aa c176r0) (.seq (aa c176r1) .ret))
def v176:Kb:=([],[])
def o176:Kd:=[.t 2]
theorem s176 : gZ Tryz.prog Tryz.f176.ntmps v176.1 v176.2 ((Tryz.f176.body).getD .skip) = some c176 := by kernel_rfl
theorem q176 : fG Tryz.prog Tryz.f176.ntmps v176.1 v176.2 Tryz.f176.results.toList = some o176 := by kernel_rfl
def c177r0:J7:=[am 8 1 0,ah 9 8,af 3 0,ac 4 9]
def c177r1:J7:=[am 11 1 1,ah 12 11,ac 13 3,ay 14 178 12 13,ac 10 14,aj 15 10 0,aj 16 10 1,aj 17 10 2,bm 5,ao 5 0 10 15,ac 6 16,ac 7 17]
def c177r2:J7:=[ac 18 7,aP 19 18 0,ac 20 19,aK 20 5,aL 20 22 5 0,aB 20 23 4,dp 20 24 22 23,aw 25 20 24,ac 26 25,aB 26 27 0,cf 26 28 5 0 10,aB 26 29 6,⟨some (26,false),.cav 30 (.t 27) [(.t 28),(.t 29)],none,30⟩,aU 26 31 30,aw 32 26 31]
def c177r3:J7:=[ac 33 6,ai 5,ak 35 5 1,aE 36 35 1,ac 3 33,ac 4 36]
def c177:SC:=(.seq (.reg true c177r0) (.blk 0 (.loop (.blk 1 (.seq (aa c177r1) (.seq (.seq (aa c177r2) (.cond (.t 32) .ret .skip)) (.reg true c177r3)))))))
def v177:Kb:=([5],[5,21,34])
def o177:Kd:=[]
def c178r0:J7:=[bm 4,af 5 0,af 6 0]
def c178r1:J7:=[ac 12 0,ac 13 1,cQ 14 196 12 13 4,ac 11 14,aj 15 11 0,aj 16 11 1,ac 7 15,ac 6 16]
def c178r2:J7:=[ac 17 6,aP 18 17 0]
def c178r3:J7:=[bz 19,ac 20 6,ao 4 0 10 19,af 5 0,ac 6 20]
def c178r4:J7:=[ac 21 7,⟨none,.bin 22 .lss (.t 21) (.v (.int .u64 5)),none,0⟩,ac 23 22,aB 23 24 7,⟨some (23,false),.bin 25 .gtr (.t 24) (.v (.int .u64 2044)),none,25⟩,aw 26 23 25]
def c178r5:J7:=[bz 27,ao 4 0 10 27,af 5 0,af 6 11]
def c178r6:J7:=[ac 28 0,ac 29 1,aE 30 29 4,cP 31 28 30 1,ac 8 31]
def c178r7:J7:=[ac 32 8,av 33 32,bo 34 33,ac 35 7,aH 36 34 35]
def c178r8:J7:=[bz 37,ao 4 0 10 37,af 5 0,af 6 10]
def c178r9:J7:=[ac 39 8,ac 40 7,bA 41 39 40 1,au 42 197 41,ac 38 42,aj 43 38 0,aj 44 38 1,ac 9 43,ac 6 44]
def c178r10:J7:=[ac 45 6,aP 46 45 0]
def c178r11:J7:=[bz 47,ac 48 6,ao 4 0 10 47,af 5 0,ac 6 48]
def c178r12:J7:=[ac 50 9,au 51 198 50,ac 49 51,aj 52 49 0,aj 53 49 1,ao 4 0 10 52,ac 10 53]
def c178r13:J7:=[ac 54 10,aO 55 54,ac 56 55,cf 56 57 4 0 10,ba 56 58 118 57,bi 56 59 58 0,aw 60 56 59]
def c178r14:J7:=[bz 61,ao 4 0 10 61,af 5 0,af 6 11]
def c178r15:J7:=[aq 62 4 0 10,ac 63 1,aE 64 63 4,ac 65 7,bW 66 65,bd 67 64 66,ao 4 0 10 62,ac 5 67,af 6 0]
def c178:SC:=(.seq (aa c178r0) (.seq (aa c178r1) (.seq (ab c178r2 18 c178r3) (.seq (ab c178r4 26 c178r5) (.seq (aa c178r6) (.seq (ab c178r7 36 c178r8) (.seq (aa c178r9) (.seq (ab c178r10 46 c178r11) (.seq (aa c178r12) (.seq (ab c178r13 60 c178r14) (.seq (aa c178r15) .ret)))))))))))
def v178:Kb:=([4],[4])
def o178:Kd:=[.r 4 (some 10),.t 5,.t 6]
def c179r0:J7:=[aF 1 0,az 2]
def c179r1:J7:=[ai 1,ak 8 1 0,ai 1,ak 10 1 1,ai 1,ak 12 1 2,⟨none,.bls 13 3 3 1 [(.int .i64 0),(.int .i64 0),(.int .i64 0)] [(0,1,(.t 8)),(1,1,(.t 10)),(2,1,(.t 12))],none,0⟩,⟨none,.call 14 117 [(.i 1099511627776),(.t 13)],none,0⟩,aO 15 14,ac 16 15,aK 16 1,aL 16 18 1 3,aK 16 1,aL 16 20 1 5,aK 16 1,aL 16 22 1 6,⟨some (16,false),.bls 23 3 3 1 [(.int .i64 0),(.int .i64 0),(.int .i64 0)] [(0,1,(.t 18)),(1,1,(.t 20)),(2,1,(.t 22))],none,23⟩,⟨some (16,false),.call 24 117 [(.i 1048576),(.t 23)],none,24⟩,aU 16 25 24,aw 26 16 25]
def c179r2:J7:=[az 2]
def c179r3:J7:=[ai 1,ak 28 1 1,ai 1,ak 30 1 0,bh 31 28 30,ac 3 31]
def c179r4:J7:=[ac 33 3,aV 34 33 0,ac 35 34,aB 35 36 3,⟨some (35,false),.bin 37 .geq (.t 36) (.i 16),none,37⟩,aw 38 35 37,ac 39 38,aK 39 1,aL 39 41 1 2,aB 39 42 3,⟨some (39,false),.bin 43 .add (.t 41) (.t 42),none,43⟩,a9 39 44 43 1099511627776,aw 45 39 44,ac 46 45,aK 46 1,aL 46 48 1 6,aB 46 49 3,⟨some (46,false),.bin 50 .add (.t 48) (.t 49),none,50⟩,a9 46 51 50 1048576,aw 52 46 51,ac 32 52]
def c179r5:J7:=[az 2]
def c179r6:J7:=[ai 1,ak 55 1 4,⟨none,.bin 56 .lss (.t 55) (.i (-1)),none,0⟩,ac 57 56,aK 57 1,aL 57 59 1 4,a9 57 60 59 1099511627776,aw 61 57 60,ac 53 61]
def c179r7:J7:=[az 2]
def c179r8:J7:=[ai 1,ak 64 1 4,cX 65 64,ac 66 65,aM 66 1,aN 66 68 1 5,aM 66 1,aN 66 70 1 6,⟨some (66,true),.bin 71 .add (.t 68) (.t 70),none,71⟩,⟨some (66,true),.bin 72 .neq (.t 71) (.i 0),none,72⟩,aI 66 73 72,aK 73 1,aL 73 75 1 7,bX 66 76 73 75,aI 66 77 76,aK 77 1,aL 77 79 1 8,bi 77 80 79 0,bX 66 81 77 80,aD 82 66 81,ac 62 82]
def c179r9:J7:=[az 2]
def c179r10:J7:=[ai 1,ak 84 1 8]
def c179r11:J7:=[aT 86 84 0,ac 85 86]
def c179r12:J7:=[ai 1,ak 88 1 0,ac 4 88]
def c179r13:J7:=[ai 1,ak 90 1 9,av 91 90,af 92 0]
def c179r14:J7:=[aH 93 92 91]
def c179r15:J7:=[aC 94 90 92 5,aG 95 94 5,cF 6,ao 6 0 5 95]
def c179r16:J7:=[aq 96 6 0 5,au 97 199 96,aP 98 97 0,ac 99 98,aK 99 6,aL 99 101 6 0,aB 99 102 4,dp 99 103 101 102,aw 104 99 103,ac 105 104,aK 105 6,aL 105 107 6 0,aK 105 1,aL 105 109 1 1,cA 105 110 107 109,aw 111 105 110]
def c179r17:J7:=[az 2]
def c179r18:J7:=[ai 6,ak 113 6 0,aE 114 113 1,ac 4 114]
def c179r19:J7:=[aE 115 92 1,ac 92 115]
def c179r20:J7:=[bt 2]
def c179r21:J7:=[aT 117 84 1,ac 116 117]
def c179r22:J7:=[aT 118 84 2,ac 116 118]
def c179r23:J7:=[ac 119 3,aT 120 119 0,ac 121 120,aM 121 1,aN 121 123 1 9,cI 121 124 123,aX 121 125 124 0,aD 126 121 125,ac 127 126,aM 127 1,aN 127 129 1 7,aD 130 127 129,ac 2 130]
def c179r24:J7:=[az 2]
def c179:SC:=(.seq (aa c179r0) (.seq (ab c179r1 26 c179r2) (.seq (aa c179r3) (.seq (.blk 0 (.seq (aa c179r4) (.cond (.t 32) (.seq (aa c179r5) .ret) (.seq (aa c179r6) (.cond (.t 53) (.seq (aa c179r7) .ret) (ab c179r8 62 c179r9)))))) (.seq (.seq (aa c179r10) (.blk 1 (.seq (aa c179r11) (.cond (.t 85) (.seq (aa c179r12) (.seq (.seq (aa c179r13) (.blk 2 (.loop (.seq (aa c179r14) (.seq (.cond (.t 93) .skip (.exit 2)) (.seq (.blk 3 (.seq (aa c179r15) (.seq (ab c179r16 111 c179r17) (aa c179r18)))) (aa c179r19))))))) (.seq (aa c179r20) .ret))) (.seq (.seq (aa c179r21) (.cond (.t 116) .skip (aa c179r22))) (.cond (.t 116) (.seq (aa c179r23) .ret) .skip)))))) (.seq (aa c179r24) .ret))))))
def v179:Kb:=([1,6],[1,6,7,9,11,17,19,21,27,29,40,47,54,58,63,67,69,74,78,83,87,89,100,106,108,112,122,128])
def o179:Kd:=[.t 2]
theorem s179 : gZ Tryz.prog Tryz.f179.ntmps v179.1 v179.2 ((Tryz.f179.body).getD .skip) = some c179 := by kernel_rfl
theorem q179 : fG Tryz.prog Tryz.f179.ntmps v179.1 v179.2 Tryz.f179.results.toList = some o179 := by kernel_rfl
def c180r0:J7:=[aF 1 0,aJ 2]
def c180r1:J7:=[aJ 3]
def c180r2:J7:=[ai 1,ak 13 1 0,ai 1,ak 15 1 1,ai 1,ak 17 1 0,bh 18 15 17,ai 1,ak 20 1 2,ai 1,ak 22 1 3,ai 1,ak 24 1 4,ai 1,ak 26 1 5,ai 1,ak 28 1 6,⟨none,.bld 29 [(.int .i64 0),(.int .i64 0),(.int .i64 0),(.int .i64 0),(.int .i64 0),(.int .i64 0),(.int .i64 0)] [(0,1,(.t 13)),(1,1,(.t 18)),(2,1,(.t 20)),(3,1,(.t 22)),(4,1,(.t 24)),(5,1,(.t 26)),(6,1,(.t 28))],none,0⟩,af 30 0]
def c180r3:J7:=[aV 31 30 7]
def c180r4:J7:=[⟨none,.ixV 32 (.t 29) (.t 30) 7 1 none,none,0⟩,ac 5 32]
def c180r5:J7:=[ac 33 3,ac 34 5,ay 35 200 33 34,ac 3 35]
def c180r6:J7:=[aE 36 30 1,ac 30 36]
def c180r7:J7:=[ai 1,ak 38 1 8,cr 39 38,ac 6 39]
def c180r8:J7:=[ai 1,ak 41 1 7]
def c180r9:J7:=[ac 42 6,⟨none,.bin 43 .or (.t 42) (.v (.int .u8 4)),none,0⟩,ac 6 43]
def c180r10:List (Bool × SI):=[(true,ac 44 3),(true,ac 45 6),(true,ai 1),(true,ak 49 1 9),(true,av 50 49),(false,bZ 46 5 1 1 0 1 45),(false,aR 47 44 46 5 1 1),(false,ay 51 200 47 50),(true,ac 3 51)]
def c180r11:J7:=[ai 1,ak 53 1 9,av 54 53,bw 55 54 0]
def c180r12:J7:=[ai 1,ak 57 1 9,cK 58 57 0 5,am 59 58 4,ah 60 59,ac 7 60]
def c180r13:J7:=[ac 61 3,ac 62 7,ay 63 200 61 62,ac 3 63]
def c180r14:J7:=[ai 1,ak 65 1 9,av 66 65,af 67 0]
def c180r15:J7:=[aH 68 67 66]
def c180r16:J7:=[aC 69 65 67 5,aG 70 69 5,cF 9,ao 9 0 5 70]
def c180r17:J7:=[aq 72 9 0 5,ai 1,ak 74 1 0,ac 75 7,bc 76 201 72 74 75,ac 71 76,aj 77 71 0,aj 78 71 1,ac 10 77,ac 11 78]
def c180r18:J7:=[ac 79 3,ac 80 10,aR 81 79 80 5 1 1,ac 3 81]
def c180r19:J7:=[aE 82 67 1,ac 67 82]
def c180r20:J7:=[ac 83 3,au 84 202 83,ac 3 84]
def c180r21:J7:=[ac 85 3,av 86 85,bo 87 86,⟨none,.call 88 203 [(.v (.slice none 0 0)),(.t 87),(.i 4)],none,0⟩,ac 89 3,aR 90 88 89 5 1 1,ac 2 90]
def c180:SC:=(.seq (aa c180r0) (.seq (aa c180r1) (.seq (.seq (aa c180r2) (.blk 0 (.loop (.seq (aa c180r3) (.seq (.cond (.t 31) .skip (.exit 0)) (.seq (.blk 1 (.seq (aa c180r4) (aa c180r5))) (aa c180r6))))))) (.seq (aa c180r7) (.seq (.seq (aa c180r8) (.cond (.t 41) (aa c180r9) .skip)) (.seq (.rgX c180r10) (.seq (.seq (aa c180r11) (.cond (.t 55) (.seq (aa c180r12) (.seq (aa c180r13) (.seq (aa c180r14) (.blk 2 (.loop (.seq (aa c180r15) (.seq (.cond (.t 68) .skip (.exit 2)) (.seq (.blk 3 (.seq (aa c180r16) (.seq (aa c180r17) (aa c180r18)))) (aa c180r19))))))))) .skip)) (.seq (aa c180r20) (.seq (aa c180r21) .ret)))))))))
def v180:Kb:=([1,9],[1,9,12,14,16,19,21,23,25,27,37,40,48,52,56,64,73])
def o180:Kd:=[.t 2]
theorem s180 : gZ Tryz.prog Tryz.f180.ntmps v180.1 v180.2 ((Tryz.f180.body).getD .skip) = some c180 := by kernel_rfl
theorem q180 : fG Tryz.prog Tryz.f180.ntmps v180.1 v180.2 Tryz.f180.results.toList = some o180 := by kernel_rfl
def c181r0:J7:=[aJ 4]
def c181r1:J7:=[ac 5 1,aV 6 5 0]
def c181r2:J7:=[ac 8 1,ac 9 0,⟨none,.cpc 10 (.t 9),none,0⟩,ac 11 0,av 12 11,bh 13 10 12,bh 14 8 13,ac 1 14]
def c181r3:J7:=[ac 15 1,bw 16 15 0]
def c181r4:J7:=[ac 17 0,ac 18 0,⟨none,.cpc 19 (.t 18),none,0⟩,bA 20 17 19 1,ac 21 1,⟨none,.apz 22 5 1 1 (.t 20) (.t 21),none,0⟩,ac 23 0,av 24 23,bA 25 22 24 1,ac 0 25]
def c181r5:J7:=[ac 26 0,ac 4 26]
def c181:SC:=(.seq (aa c181r0) (.seq (.seq (aa c181r1) (.cond (.t 6) .dead .skip)) (.seq (.seq (aa c181r2) (.seq (aa c181r3) (.cond (.t 16) (aa c181r4) .skip))) (.seq (aa c181r5) .ret))))
def v181:Kb:=([],[])
def o181:Kd:=[.t 4]
def c182r0:J7:=[ah 4 1,av 5 4,bB 6 5 1,ac 3 6]
def c182r1:J7:=[ac 7 3,bg 8 7 0]
def c182r2:J7:=[ac 11 0,ac 12 3,ah 13 1,ac 14 3,aC 15 13 14 2,aG 16 15 2,bO 17 11 12 16,aO 18 17]
def c182r3:J7:=[ac 9 3,bB 10 9 1,ac 3 10]
def c182:SC:=(.seq (aa c182r0) (.blk 0 (.loop (.seq (.seq (aa c182r1) (.cond (.t 8) .skip (.exit 0))) (.seq (.blk 1 (.seq (aa c182r2) (.cond (.t 18) .ret .skip))) (aa c182r3))))))
def v182:Kb:=([],[])
def o182:Kd:=[]
def c183r0:J7:=[aQ 2 0,aQ 3 1,af 4 0]
def c183r1:J7:=[ah 5 2,av 6 5,bT 7 204 2 3,ay 8 144 6 7,ac 4 8]
def c183:SC:=(.seq (aa c183r0) (.seq (aa c183r1) .ret))
def v183:Kb:=([],[])
def o183:Kd:=[.t 4]
def c184r0:J7:=[az 2]
def c184r1:J7:=[ac 3 0,bg 4 3 0,ac 5 4,aI 5 6 0,bM 5 7 6 1099511627776,aD 8 5 7,ac 2 8]
def c184:SC:=(.seq (aa c184r0) (.seq (aa c184r1) .ret))
def v184:Kb:=([],[])
def o184:Kd:=[.t 2]
theorem s184 : gZ Tryz.prog Tryz.f184.ntmps v184.1 v184.2 ((Tryz.f184.body).getD .skip) = some c184 := by kernel_rfl
theorem q184 : fG Tryz.prog Tryz.f184.ntmps v184.1 v184.2 Tryz.f184.results.toList = some o184 := by kernel_rfl
def c185r0:J7:=[aJ 4]
def c185r1:J7:=[ac 5 0,ac 6 1,cp 7 6,ay 8 162 5 7,ac 9 1,aR 10 8 9 5 1 1,ac 4 10]
def c185:SC:=(.seq (aa c185r0) (.seq (aa c185r1) .ret))
def v185:Kb:=([],[])
def o185:Kd:=[.t 4]
theorem s185 : gZ Tryz.prog Tryz.f185.ntmps v185.1 v185.2 ((Tryz.f185.body).getD .skip) = some c185 := by kernel_rfl
theorem q185 : fG Tryz.prog Tryz.f185.ntmps v185.1 v185.2 Tryz.f185.results.toList = some o185 := by kernel_rfl
def c188r0:J7:=[aF 3 0,bj 6,af 7 0]
def c188r1:J7:=[aq 9 3 0 3,au 10 62 9,ac 8 10]
def c188r2:J7:=[ac 11 8,aP 12 11 0]
def c188r3:J7:=[bp 13,ac 14 8,ao 6 0 3 13,ac 7 14]
def c188r4:J7:=[aq 15 3 0 3,ac 16 1,ay 17 206 15 16,aO 18 17]
def c188r5:J7:=[bp 19,ao 6 0 3 19,af 7 90]
def c188r6:J7:=[ac 20 2,cR 21 20,ao 6 0 3 21,af 7 0]
def c188:SC:=(.seq (aa c188r0) (.seq (.seq (aa c188r1) (ab c188r2 12 c188r3)) (.seq (ab c188r4 18 c188r5) (.seq (aa c188r6) .ret))))
def v188:Kb:=([3,6],[3,6])
def o188:Kd:=[.r 6 (some 3),.t 7]
def c189r0:J7:=[bj 2]
def c189r1:J7:=[aJ 3]
def c189r2:J7:=[am 6 0 2,ah 7 6,av 8 7,af 9 0]
def c189r3:J7:=[aH 10 9 8]
def c189r4:J7:=[aC 11 7 9 2,aG 12 11 2,bn 5,ao 5 0 2 12]
def c189r5:J7:=[ai 5,ak 14 5 0,ah 15 1,aH 16 14 15]
def c189r6:J7:=[ac 17 3,aq 18 5 0 2,ah 19 1,ay 20 190 18 19,bL 21 120 1 2 0 2 20,aR 22 17 21 120 2 32,ac 3 22]
def c189r7:J7:=[aE 23 9 1,ac 9 23]
def c189r8:J7:=[ac 24 3,av 25 24,aT 26 25 0]
def c189r9:J7:=[ah 27 1,cY 28 0 1 27,bL 29 120 1 2 0 2 28,ac 3 29]
def c189r10:J7:=[aG 30 0 3,ac 31 3,ay 32 122 30 31,ao 2 0 3 32]
def c189:SC:=(.seq (aa c189r0) (.seq (aa c189r1) (.seq (.seq (aa c189r2) (.blk 0 (.loop (.seq (aa c189r3) (.seq (.cond (.t 10) .skip (.exit 0)) (.seq (.blk 1 (.seq (aa c189r4) (.seq (aa c189r5) (.cond (.t 16) (aa c189r6) .skip)))) (aa c189r7))))))) (.seq (.seq (aa c189r8) (.cond (.t 26) (aa c189r9) .skip)) (.seq (aa c189r10) .ret)))))
def v189:Kb:=([2,5],[2,5,13])
def o189:Kd:=[.r 2 (some 3)]
def c190r0:J7:=[aQ 2 0,aQ 3 1,dh 4]
def c190r1:J7:=[bJ 5,cj 5 1 0]
def c190r2:J7:=[aG 8 2 2,au 9 151 8]
def c190r3:J7:=[bm 6,ao 6 0 10 10]
def c190r4:J7:=[ac 7 11]
def c190r5:J7:=[ai 6,ak 13 6 1,ah 14 3,cG 15 13 14]
def c190r6:J7:=[ac 16 7,aA 5 1 16]
def c190r7:J7:=[aG 17 2 2,ah 18 5,ay 19 172 17 18,aA 4 2 19]
def c190:SC:=(.seq (aa c190r0) (.seq (aa c190r1) (.seq (.seq (aa c190r2) (.blk 0 (.rf (.t 9) [10,11] (.seq (aa c190r3) (aa c190r4)) (.blk 1 (.seq (.seq (aa c190r5) (.cond (.t 15) (.exit 0) .skip)) (aa c190r6)))))) (.seq (aa c190r7) .ret))))
def v190:Kb:=([6],[6,12])
def o190:Kd:=[.c 4 (some 2)]
def c191r0:J7:=[az 4]
def c191r1:J7:=[ac 6 0,av 7 6,ac 8 1,av 9 8,bq 10 7 9]
def c191r2:J7:=[az 4]
def c191r3:J7:=[ac 11 0,av 12 11,af 13 0]
def c191r4:J7:=[aH 14 13 12]
def c191r5:J7:=[ac 15 13,ac 5 15]
def c191r6:J7:=[ac 16 0,ac 17 5,aC 18 16 17 5,aG 19 18 5,ac 20 1,ac 21 5,aC 22 20 21 5,aG 23 22 5,⟨none,.eqf 24 true [0,2,2,1,0] (.t 19) (.t 23),none,0⟩]
def c191r7:J7:=[az 4]
def c191r8:J7:=[aE 25 13 1,ac 13 25]
def c191r9:J7:=[bt 4]
def c191:SC:=(.seq (aa c191r0) (.seq (ab c191r1 10 c191r2) (.seq (.seq (aa c191r3) (.blk 0 (.loop (.seq (aa c191r4) (.seq (.cond (.t 14) .skip (.exit 0)) (.seq (.blk 1 (.seq (aa c191r5) (.seq (.reg true c191r6) (.cond (.t 24) (.seq (aa c191r7) .ret) .skip)))) (aa c191r8))))))) (.seq (aa c191r9) .ret))))
def v191:Kb:=([],[])
def o191:Kd:=[.t 4]
def c192r0:J7:=[aF 1 0,⟨none,.alR 2 [(.int .i64 0),(.int .i64 0),(.int .i64 0),(.int .i64 0),(.int .i64 0),(.int .i64 0),(.int .i64 0),(.int .i64 0),(.int .i64 0)],none,0⟩]
def c192r1:J7:=[ai 1,ak 5 1 8,⟨none,.bin 6 .mul (.t 5) (.i 2),none,0⟩,ac 3 6]
def c192r2:J7:=[ai 1,ak 8 1 7]
def c192r3:J7:=[ac 9 3,aE 10 9 1,ac 3 10]
def c192r4:J7:=[ai 1,ak 12 1 0,ai 1,ak 14 1 1,ai 1,ak 16 1 2,ai 1,ak 18 1 3,ai 1,ak 20 1 4,ai 1,ak 22 1 5,ai 1,ak 24 1 6,ai 1,ak 26 1 8,ac 27 3,ai 1,ak 29 1 8,⟨none,.bin 30 .mul (.t 29) (.i 2),none,0⟩,bh 31 27 30,⟨none,.bld 32 [(.int .i64 0),(.int .i64 0),(.int .i64 0),(.int .i64 0),(.int .i64 0),(.int .i64 0),(.int .i64 0),(.int .i64 0),(.int .i64 0)] [(0,1,(.t 12)),(1,1,(.t 14)),(2,1,(.t 16)),(3,1,(.t 18)),(4,1,(.t 20)),(5,1,(.t 22)),(6,1,(.t 24)),(7,1,(.t 26)),(8,1,(.t 31))],none,0⟩,ao 2 0 9 32]
def c192:SC:=(.seq (aa c192r0) (.seq (aa c192r1) (.seq (.seq (aa c192r2) (.cond (.t 8) (aa c192r3) .skip)) (.seq (aa c192r4) .ret))))
def v192:Kb:=([1,2],[1,2,4,7,11,13,15,17,19,21,23,25,28])
def o192:Kd:=[.r 2 (some 9)]
def c194r0:J7:=[aJ 2]
def c194r1:J7:=[ac 3 0,cm 4 3]
def c194r2:J7:=[aJ 2]
def c194r3:J7:=[cn 5,ac 6 0,aR 7 5 6 5 1 1,ac 2 7]
def c194:SC:=(.seq (aa c194r0) (.seq (ab c194r1 4 c194r2) (.seq (aa c194r3) .ret)))
def v194:Kb:=([],[])
def o194:Kd:=[.t 2]
theorem s194 : gZ Tryz.prog Tryz.f194.ntmps v194.1 v194.2 ((Tryz.f194.body).getD .skip) = some c194 := by kernel_rfl
theorem q194 : fG Tryz.prog Tryz.f194.ntmps v194.1 v194.2 Tryz.f194.results.toList = some o194 := by kernel_rfl
def c196r0:J7:=[cH 6 0,af 7 0]
def c196r1:J7:=[ac 12 2,aV 13 12 1,ac 14 13,aB 14 15 2,a9 14 16 15 8,aw 17 14 16,ac 18 17,aB 18 19 1,bI 18 20 19 0,aw 21 18 20]
def c196r2:J7:=[cH 6 0,af 7 1]
def c196r3:J7:=[ac 22 0,ac 23 1,ay 24 210 22 23,ac 8 24]
def c196r4:J7:=[ac 25 8,av 26 25,ac 27 2,aH 28 26 27]
def c196r5:J7:=[cH 6 0,af 7 10]
def c196r6:J7:=[cH 9 0]
def c196r7:J7:=[ac 29 8,ac 30 2,bA 31 29 30 1,av 32 31,af 33 0]
def c196r8:J7:=[aH 34 33 32]
def c196r9:J7:=[aC 35 31 33 1,ah 36 35,ac 11 36]
def c196r10:J7:=[ac 37 9,⟨none,.bin 38 .shl (.t 37) (.v (.int .u64 8)),none,0⟩,ac 39 11,bo 40 39,⟨none,.bin 41 .or (.t 38) (.t 40),none,0⟩,ac 9 41]
def c196r11:J7:=[aE 42 33 1,ac 33 42]
def c196r12:J7:=[ac 43 9,ac 6 43,af 7 0]
def c196:SC:=(.seq (aa c196r0) (.seq (ab c196r1 21 c196r2) (.seq (aa c196r3) (.seq (ab c196r4 28 c196r5) (.seq (aa c196r6) (.seq (.seq (aa c196r7) (.blk 0 (.loop (.seq (aa c196r8) (.seq (.cond (.t 34) .skip (.exit 0)) (.seq (.blk 1 (.seq (aa c196r9) (aa c196r10))) (aa c196r11))))))) (.seq (aa c196r12) .ret)))))))
def v196:Kb:=([],[])
def o196:Kd:=[.t 6,.t 7]
def c197r0:J7:=[aJ 2,af 3 0]
def c197r1:J7:=[ac 7 0,av 8 7,bB 9 8 4,ac 4 9]
def c197r2:J7:=[ac 10 4,aV 11 10 0]
def c197r3:J7:=[aJ 2,af 3 10]
def c197r4:J7:=[ac 13 0,ac 14 4,cQ 15 196 13 14 4,ac 12 15,aj 16 12 0,aj 17 12 1,ac 5 16,ac 6 17]
def c197r5:J7:=[ac 18 6,aP 19 18 0,ac 20 19,aB 20 21 5,aB 20 22 0,aB 20 23 4,⟨some (20,false),.sl 24 (.t 22) none (some (.t 23)) none 1,none,24⟩,ba 20 25 211 24,⟨some (20,false),.cvI 26 .u64 (.t 25),none,26⟩,bS 20 27 21 26,aw 28 20 27]
def c197r6:J7:=[aJ 2,af 3 20]
def c197r7:J7:=[ac 29 0,ac 30 4,bA 31 29 30 1,dq 32 31 5 1 1,ac 2 32,af 3 0]
def c197:SC:=(.seq (aa c197r0) (.seq (aa c197r1) (.seq (ab c197r2 11 c197r3) (.seq (.seq (aa c197r4) (ab c197r5 28 c197r6)) (.seq (aa c197r7) .ret)))))
def v197:Kb:=([],[])
def o197:Kd:=[.t 2,.t 3]
def c198r0:J7:=[aQ 1 0,bm 2,⟨none,.al 3 [(.bool false)],none,0⟩]
def c198r1:J7:=[bJ 4,cj 4 1 0]
def c198r2:J7:=[⟨none,.st (.t 3) 1 (.b true),none,0⟩]
def c198r3:J7:=[⟨none,.mkf 15 (.func 212) [(.t 1),(.t 4),(.t 3)],none,0⟩,ac 5 15]
def c198r4:J7:=[⟨none,.al 6 [(.int .i64 0),(.int .i64 0),(.int .i64 0),(.int .i64 0),(.int .i64 0),(.int .i64 0),(.int .i64 0)],none,0⟩]
def c198r5:J7:=[af 16 0]
def c198r6:J7:=[aV 17 16 7]
def c198r7:J7:=[ac 18 16,ac 7 18]
def c198r8:J7:=[ac 19 7,ac 20 5,cR 21 20,cS 22 6 19 7 1,aA 22 1 21]
def c198r9:J7:=[aE 23 16 1,ac 16 23]
def c198r10:J7:=[ah 24 3,aO 25 24,ac 26 25,aW 26 27 4,aW 26 28 1,aY 26 29 28,⟨some (26,false),.bin 30 .geq (.t 27) (.t 29),none,30⟩,aw 31 26 30,ac 32 31,aW 32 33 1,aW 32 34 4,cM 32 35 33 34 1,aW 32 36 35,⟨some (32,false),.bin 37 .geq (.t 36) (.v (.int .u8 8)),none,37⟩,aw 38 32 37,ac 39 38,cT 39 40 6 0 7 1,aW 39 41 40,bI 39 42 41 0,aw 43 39 42,ac 44 43,cT 44 45 6 0 7 1,aW 44 46 45,a9 44 47 46 1099511627776,aw 48 44 47,ac 49 48,cT 49 50 6 1 7 1,aW 49 51 50,bI 49 52 51 0,aw 53 49 52,ac 54 53,cT 54 55 6 1 7 1,aW 54 56 55,⟨some (54,false),.bin 57 .geq (.t 56) (.i 16),none,57⟩,aw 58 54 57]
def c198r11:J7:=[bz 59,ao 2 0 10 59,cO 3 1]
def c198r12:J7:=[ah 60 1,ah 61 4,aC 62 60 61 1,ah 63 62,ac 8 63]
def c198r13:J7:=[ah 64 4,aE 65 64 1,aA 4 1 65]
def c198r14:J7:=[bP 66 6 0 7 1,ah 67 66,bP 68 6 0 7 1,ah 69 68,bP 70 6 1 7 1,ah 71 70,bd 72 69 71,bP 73 6 2 7 1,ah 74 73,bP 75 6 3 7 1,ah 76 75,bP 77 6 4 7 1,ah 78 77,bP 79 6 5 7 1,ah 80 79,bP 81 6 6 7 1,ah 82 81,ac 83 8,⟨none,.bin 84 .and (.t 83) (.v (.int .u8 4)),none,0⟩,⟨none,.bin 85 .neq (.t 84) (.v (.int .u8 0)),none,0⟩,ac 86 8,⟨none,.bin 87 .andNot (.t 86) (.v (.int .u8 4)),none,0⟩,bW 88 87,⟨none,.bld 89 [(.int .i64 0),(.int .i64 0),(.int .i64 0),(.int .i64 0),(.int .i64 0),(.int .i64 0),(.int .i64 0),(.bool false),(.int .i64 0),(.slice none 0 0)] [(0,1,(.t 67)),(1,1,(.t 72)),(2,1,(.t 74)),(3,1,(.t 76)),(4,1,(.t 78)),(5,1,(.t 80)),(6,1,(.t 82)),(7,1,(.t 85)),(8,1,(.t 88))],none,0⟩,ao 2 0 10 89]
def c198r15:J7:=[ac 90 5,cR 91 90,ac 9 91]
def c198r16:J7:=[ah 92 3,aO 93 92,ac 94 93,aB 94 95 9,bI 94 96 95 0,aw 97 94 96,ac 98 97,aB 98 99 9,a9 98 100 99 16,aw 101 98 100]
def c198r17:J7:=[bz 102,ao 2 0 10 102,cO 3 1]
def c198r18:J7:=[af 10 0]
def c198r19:J7:=[ac 103 9,bw 104 103 0]
def c198r20:J7:=[ac 105 5,cR 106 105,ac 10 106]
def c198r21:J7:=[af 11 0]
def c198r22:J7:=[ac 107 11,ac 108 9,aH 109 107 108,ac 110 109,bH 110 111 3,aD 112 110 111]
def c198r23:J7:=[ah 116 1,ah 117 4,ai 2,ak 119 2 0,ac 120 10,dl 121 214 116 117 119 120,ac 115 121,aj 122 115 0,aj 123 115 1,aj 124 115 2,cF 12,ao 12 0 5 122,ac 13 123,ac 14 124]
def c198r24:J7:=[ah 125 3,ac 126 125,aI 126 127 14,aX 126 128 127 0,aD 129 126 128,ac 130 129,aI 130 131 11,⟨some (130,true),.bin 132 .gtr (.t 131) (.i 0),none,132⟩,aI 130 133 132,aK 133 12,aL 133 135 12 4,aB 133 136 10,⟨some (133,false),.bin 137 .eql (.t 135) (.t 136),none,137⟩,bX 130 138 133 137,aD 139 130 138,aA 3 1 139]
def c198r25:J7:=[ac 140 13,aA 4 1 140]
def c198r26:J7:=[ai 2,ak 142 2 9,aq 143 12 0 5,⟨none,.bls 144 103 1 5 [(.int .i64 0),(.string ⟨#[]⟩),(.string ⟨#[]⟩),(.bool false),(.int .i64 0)] [(0,5,(.t 143))],none,0⟩,aR 145 142 144 103 5 56,ai 2,ao 2 9 1 145]
def c198r27:J7:=[ac 113 11,aE 114 113 1,ac 11 114]
def c198r28:List WI:=[(true,false,aq 147 2 0 10),(true,false,ah 148 3),(true,false,ac 149 148),(true,false,bH 149 150 4),(true,false,bH 149 151 1),(true,false,cI 149 152 151),(true,false,bu 149 153 150 152),(true,false,aD 154 149 153),(false,false,ao 2 0 10 147),(false,true,aA 3 1 154)]
def c198:SC:=(.seq (aa c198r0) (.seq (aa c198r1) (.seq (aa c198r2) (.seq (aa c198r3) (.seq (aa c198r4) (.seq (.seq (aa c198r5) (.blk 0 (.loop (.seq (aa c198r6) (.seq (.cond (.t 17) .skip (.exit 0)) (.seq (.blk 1 (.seq (aa c198r7) (aa c198r8))) (aa c198r9))))))) (.seq (ab c198r10 58 c198r11) (.seq (aa c198r12) (.seq (aa c198r13) (.seq (aa c198r14) (.seq (aa c198r15) (.seq (ab c198r16 101 c198r17) (.seq (aa c198r18) (.seq (.seq (aa c198r19) (.cond (.t 104) (aa c198r20) .skip)) (.seq (.seq (aa c198r21) (.blk 2 (.loop (.seq (.seq (aa c198r22) (.cond (.t 112) .skip (.exit 2))) (.seq (.blk 3 (.seq (aa c198r23) (.seq (aa c198r24) (.seq (aa c198r25) (aa c198r26))))) (aa c198r27)))))) (.seq (.rgW c198r28) .ret))))))))))))))))
def v198:Kb:=([2,12],[2,12,118,134,141,146])
def o198:Kd:=[.r 2 (some 10),.c 3 none]
def c199r0:J7:=[aF 1 0,af 2 0]
def c199r1:J7:=[ai 1,ak 5 1 0,au 6 215 5,aO 7 6,ac 3 7]
def c199r2:J7:=[ai 1,ak 9 1 4,au 10 215 9,aO 11 10,ac 3 11]
def c199r3:J7:=[ai 1,ak 13 1 1,cp 14 13,ai 1,ak 16 1 2,cp 17 16,ck 18 14 17,bw 19 18 64,ac 3 19]
def c199r4:J7:=[af 2 1]
def c199r5:J7:=[ai 1,ak 22 1 3,ac 23 22,aM 23 1,aN 23 25 1 1,⟨some (23,true),.bin 26 .eql (.t 25) (.v (.string ⟨#[]⟩)),none,26⟩,aI 23 27 26,aK 27 1,aL 27 29 1 2,⟨some (27,false),.bin 30 .neq (.t 29) (.v (.string ⟨#[]⟩)),none,30⟩,bX 23 31 27 30,aD 32 23 31,ac 20 32]
def c199r6:J7:=[af 2 1]
def c199r7:J7:=[af 2 0]
def c199:SC:=(.seq (aa c199r0) (.seq (.blk 0 (.seq (.seq (aa c199r1) (.cond (.t 3) .skip (.seq (aa c199r2) (.cond (.t 3) .skip (aa c199r3))))) (.cond (.t 3) (.seq (aa c199r4) .ret) (ab c199r5 20 c199r6)))) (.seq (aa c199r7) .ret)))
def v199:Kb:=([1],[1,4,8,12,15,21,24,28])
def o199:Kd:=[.t 2]
theorem s199 : gZ Tryz.prog Tryz.f199.ntmps v199.1 v199.2 ((Tryz.f199.body).getD .skip) = some c199 := by kernel_rfl
theorem q199 : fG Tryz.prog Tryz.f199.ntmps v199.1 v199.2 Tryz.f199.results.toList = some o199 := by kernel_rfl
def c200r0:J7:=[aJ 4]
def c200r1:J7:=[ac 7 1,bo 8 7,⟨none,.bin 9 .shl (.t 8) (.v (.int .u64 1)),none,0⟩,ac 10 1,bD 11 10 63,bo 12 11,cv 13 9 12,ac 5 13]
def c200r2:J7:=[ac 14 0,au 15 194 14,ac 6 15]
def c200r3:J7:=[ac 16 5,⟨none,.bin 17 .geq (.t 16) (.v (.int .u64 128)),none,0⟩]
def c200r4:J7:=[ac 20 6,ac 21 5,cr 22 21,⟨none,.bin 23 .or (.t 22) (.v (.int .u8 128)),none,0⟩,bZ 24 5 1 1 0 1 23,aR 25 20 24 5 1 1,ac 6 25]
def c200r5:J7:=[ac 18 5,bD 19 18 7,ac 5 19]
def c200r6:J7:=[ac 26 6,ac 27 5,cr 28 27,bZ 29 5 1 1 0 1 28,aR 30 26 29 5 1 1,ac 4 30]
def c200:SC:=(.seq (aa c200r0) (.seq (aa c200r1) (.seq (aa c200r2) (.seq (.blk 0 (.loop (.seq (.seq (aa c200r3) (.cond (.t 17) .skip (.exit 0))) (.seq (.blk 1 (aa c200r4)) (aa c200r5))))) (.seq (aa c200r6) .ret)))))
def v200:Kb:=([],[])
def o200:Kd:=[.t 4]
theorem s200 : gZ Tryz.prog Tryz.f200.ntmps v200.1 v200.2 ((Tryz.f200.body).getD .skip) = some c200 := by kernel_rfl
theorem q200 : fG Tryz.prog Tryz.f200.ntmps v200.1 v200.2 Tryz.f200.results.toList = some o200 := by kernel_rfl
def c201r0:J7:=[aF 3 0,aJ 6,af 7 0]
def c201r1:J7:=[aq 11 3 0 5,au 12 199 11,ac 8 12]
def c201r2:J7:=[ac 13 8,aP 14 13 0]
def c201r3:J7:=[ac 15 8,aJ 6,ac 7 15]
def c201r4:J7:=[ac 16 1,au 17 215 16,aO 18 17,ac 19 18,aB 19 20 2,ba 19 21 215 20,aU 19 22 21,aw 23 19 22]
def c201r5:J7:=[aJ 6,af 7 1]
def c201r6:J7:=[⟨none,.mv 9 (.v (.int .u8 0)),none,0⟩]
def c201r7:J7:=[ai 3,ak 25 3 3]
def c201r8:J7:=[⟨none,.mv 9 (.v (.int .u8 1)),none,0⟩]
def c201r9:List (Bool × SI):=[(true,ai 3),(true,ak 27 3 0),(true,ac 28 1),(true,bh 29 27 28),(true,ai 3),(true,ak 32 3 4),(true,ac 33 2),(true,bh 34 32 33),(false,cN 30 200 29),(false,ay 35 200 30 34),(true,ac 10 35)]
def c201r10:List (Bool × SI):=[(true,ac 36 10),(true,ac 37 9),(true,ai 3),(true,ak 41 3 1),(true,ai 3),(true,ak 44 3 2),(false,bZ 38 5 1 1 0 1 37),(false,aR 39 36 38 5 1 1),(false,ay 42 216 39 41),(false,ay 45 216 42 44),(true,ac 6 45),(true,af 7 0)]
def c201:SC:=(.seq (aa c201r0) (.seq (.seq (aa c201r1) (ab c201r2 14 c201r3)) (.seq (ab c201r4 23 c201r5) (.seq (aa c201r6) (.seq (.seq (aa c201r7) (.cond (.t 25) (aa c201r8) .skip)) (.seq (.rgX c201r9) (.seq (.rgX c201r10) .ret)))))))
def v201:Kb:=([3],[3,24,26,31,40,43])
def o201:Kd:=[.t 6,.t 7]
theorem s201 : gZ Tryz.prog Tryz.f201.ntmps v201.1 v201.2 ((Tryz.f201.body).getD .skip) = some c201 := by kernel_rfl
theorem q201 : fG Tryz.prog Tryz.f201.ntmps v201.1 v201.2 Tryz.f201.results.toList = some o201 := by kernel_rfl
def c202r0:J7:=[aJ 2]
def c202r1:J7:=[ac 3 0,dq 4 3 5 1 1,ac 5 0,au 6 211 5,bo 7 6,cQ 8 203 4 7 4,ac 2 8]
def c202:SC:=(.seq (aa c202r0) (.seq (aa c202r1) .ret))
def v202:Kb:=([],[])
def o202:Kd:=[.t 2]
theorem s202 : gZ Tryz.prog Tryz.f202.ntmps v202.1 v202.2 ((Tryz.f202.body).getD .skip) = some c202 := by kernel_rfl
theorem q202 : fG Tryz.prog Tryz.f202.ntmps v202.1 v202.2 Tryz.f202.results.toList = some o202 := by kernel_rfl
def c203r0:J7:=[aJ 6]
def c203r1:J7:=[ac 9 0,au 10 194 9,ac 7 10]
def c203r2:J7:=[ac 11 2,aV 12 11 1,ac 13 12,aB 13 14 2,a9 13 15 14 8,aw 16 13 15]
def c203r3:J7:=[ac 17 7,ac 6 17]
def c203r4:J7:=[ac 18 2,bB 19 18 1,⟨none,.bin 20 .mul (.i 8) (.t 19),none,0⟩,ac 8 20]
def c203r5:J7:=[ac 21 8,bg 22 21 0]
def c203r6:J7:=[ac 25 7,ac 26 1,ac 27 8,⟨none,.bin 28 .shr (.t 26) (.t 27),none,0⟩,cr 29 28,bZ 30 5 1 1 0 1 29,aR 31 25 30 5 1 1,ac 7 31]
def c203r7:J7:=[ac 23 8,bB 24 23 8,ac 8 24]
def c203r8:J7:=[ac 32 7,ac 6 32]
def c203:SC:=(.seq (aa c203r0) (.seq (aa c203r1) (.seq (ab c203r2 16 c203r3) (.seq (.seq (aa c203r4) (.blk 0 (.loop (.seq (.seq (aa c203r5) (.cond (.t 22) .skip (.exit 0))) (.seq (.blk 1 (aa c203r6)) (aa c203r7)))))) (.seq (aa c203r8) .ret)))))
def v203:Kb:=([],[])
def o203:Kd:=[.t 6]
theorem s203 : gZ Tryz.prog Tryz.f203.ntmps v203.1 v203.2 ((Tryz.f203.body).getD .skip) = some c203 := by kernel_rfl
theorem q203 : fG Tryz.prog Tryz.f203.ntmps v203.1 v203.2 Tryz.f203.results.toList = some o203 := by kernel_rfl
def c204r0:J7:=[az 4]
def c204r1:J7:=[ah 5 1,ac 6 0,aC 7 5 6 2,am 8 7 0,ah 9 8,ah 10 2,bV 11 9 10,ac 4 11]
def c204:SC:=(.seq (aa c204r0) (.seq (.reg true c204r1) .ret))
def v204:Kb:=([],[])
def o204:Kd:=[.t 4]
def c206r0:J7:=[aF 2 0,az 4]
def c206r1:J7:=[ai 2,ak 6 2 1,ac 7 1,⟨none,.bin 8 .leq (.t 6) (.t 7),none,0⟩,ac 9 8,aI 9 10 1,bl 9 11 2 0 3,aZ 9 12 63 11,dm 9 13 10 12,aD 14 9 13,ac 4 14]
def c206:SC:=(.seq (aa c206r0) (.seq (aa c206r1) .ret))
def v206:Kb:=([2],[2,5])
def o206:Kd:=[.t 4]
def c210r0:J7:=[aJ 4]
def c210r1:J7:=[ac 5 0,ac 6 1,ac 7 0,av 8 7,bC 9 6 8,cP 10 5 9 1,ac 4 10]
def c210:SC:=(.seq (aa c210r0) (.seq (aa c210r1) .ret))
def v210:Kb:=([],[])
def o210:Kd:=[.t 4]
def c211r0:J7:=[cU 2 0]
def c211r1:J7:=[cd 7 220,ac 3 7]
def c211r2:J7:=[cU 4 4294967295]
def c211r3:J7:=[ac 8 0,av 9 8,af 10 0]
def c211r4:J7:=[aH 11 10 9]
def c211r5:J7:=[aC 12 8 10 1,ah 13 12,ac 6 13]
def c211r6:J7:=[ac 14 3,ac 15 4,ac 16 6,bO 17 14 15 16,ac 4 17]
def c211r7:J7:=[aE 18 10 1,ac 10 18]
def c211r8:J7:=[ac 19 4,⟨none,.un 20 .xor (.t 19),none,0⟩,ac 2 20]
def c211:SC:=(.seq (aa c211r0) (.seq (aa c211r1) (.seq (aa c211r2) (.seq (.seq (aa c211r3) (.blk 0 (.loop (.seq (aa c211r4) (.seq (.cond (.t 11) .skip (.exit 0)) (.seq (.blk 1 (.seq (aa c211r5) (aa c211r6))) (aa c211r7))))))) (.seq (aa c211r8) .ret)))))
def v211:Kb:=([],[])
def o211:Kd:=[.t 2]
theorem s211 : gZ Tryz.prog Tryz.f211.ntmps v211.1 v211.2 ((Tryz.f211.body).getD .skip) = some c211 := by kernel_rfl
theorem q211 : fG Tryz.prog Tryz.f211.ntmps v211.1 v211.2 Tryz.f211.results.toList = some o211 := by kernel_rfl
def c212r0:J7:=[af 3 0]
def c212r1:J7:=[ah 8 0,ah 9 1,ay 10 213 8 9,ac 7 10,aj 11 7 0,aj 12 7 1,aj 13 7 2,ac 4 11,ac 5 12,ac 6 13]
def c212r2:J7:=[ac 14 6,aP 15 14 0]
def c212r3:J7:=[cO 2 1]
def c212r4:J7:=[af 3 0]
def c212r5:J7:=[ac 16 5,aA 1 1 16]
def c212r6:J7:=[ac 17 4,ac 3 17]
def c212:SC:=(.seq (aa c212r0) (.seq (aa c212r1) (.seq (.seq (aa c212r2) (.cond (.t 15) (.seq (aa c212r3) (.seq (aa c212r4) .ret)) .skip)) (.seq (aa c212r5) (.seq (aa c212r6) .ret)))))
def v212:Kb:=([],[])
def o212:Kd:=[.t 3]
def c213r0:J7:=[af 4 0,af 5 0,af 6 0]
def c213r1:J7:=[ac 10 1,aV 11 10 0]
def c213r2:J7:=[af 4 0,af 5 0,af 6 1]
def c213r3:J7:=[cH 7 0]
def c213r4:J7:=[ac 12 0,ac 13 1,ay 14 210 12 13,av 15 14,af 16 0]
def c213r5:J7:=[aH 17 16 15]
def c213r6:J7:=[ac 18 16,aC 19 14 16 1,ah 20 19,ac 8 18,ac 9 20]
def c213r7:J7:=[ac 21 8,aT 22 21 9,ac 23 22,aI 23 24 9,⟨some (23,true),.bin 25 .gtr (.t 24) (.v (.int .u8 1)),none,25⟩,aD 26 23 25,ac 27 26,aB 27 28 8,a9 27 29 28 0,aB 27 30 29,aI 30 31 9,⟨some (30,true),.bin 32 .eql (.t 31) (.v (.int .u8 0)),none,32⟩,bU 27 33 30 32,aw 34 27 33]
def c213r8:J7:=[af 4 0,af 5 0,af 6 11]
def c213r9:J7:=[ac 35 7,ac 36 9,⟨none,.bin 37 .and (.t 36) (.v (.int .u8 127)),none,0⟩,bo 38 37,ac 39 8,⟨none,.bin 40 .mul (.i 7) (.t 39),none,0⟩,⟨none,.bin 41 .shl (.t 38) (.t 40),none,0⟩,⟨none,.bin 42 .or (.t 35) (.t 41),none,0⟩,ac 7 42]
def c213r10:J7:=[ac 43 9,⟨none,.bin 44 .lss (.t 43) (.v (.int .u8 128)),none,0⟩]
def c213r11:J7:=[ac 45 7,bD 46 45 1,bW 47 46,ac 48 7,⟨none,.bin 49 .and (.t 48) (.v (.int .u64 1)),none,0⟩,bW 50 49,⟨none,.un 51 .neg (.t 50),none,0⟩,cv 52 47 51,ac 53 1,ac 54 8,bd 55 53 54,aE 56 55 1,ac 4 52,ac 5 56,af 6 0]
def c213r12:J7:=[aE 57 16 1,ac 16 57]
def c213r13:J7:=[af 4 0,af 5 0,af 6 10]
def c213:SC:=(.seq (aa c213r0) (.seq (ab c213r1 11 c213r2) (.seq (aa c213r3) (.seq (.seq (aa c213r4) (.blk 0 (.loop (.seq (aa c213r5) (.seq (.cond (.t 17) .skip (.exit 0)) (.seq (.blk 1 (.seq (aa c213r6) (.seq (ab c213r7 34 c213r8) (.seq (aa c213r9) (ab c213r10 44 c213r11))))) (aa c213r12))))))) (.seq (aa c213r13) .ret)))))
def v213:Kb:=([],[])
def o213:Kd:=[.t 4,.t 5,.t 6]
def c214r0:J7:=[cF 8,af 9 0,af 10 0]
def c214r1:J7:=[ac 13 2,au 14 215 13,aO 15 14,ac 16 15,aB 16 17 3,ba 16 18 215 17,aU 16 19 18,aw 20 16 19,ac 21 20,aB 21 22 1,bI 21 23 22 0,aw 24 21 23,ac 25 24,aB 25 26 1,aB 25 27 0,aY 25 28 27,cA 25 29 26 28,aw 30 25 29]
def c214r2:J7:=[dv 31,ao 8 0 5 31,af 9 0,af 10 1]
def c214r3:J7:=[ac 32 0,ac 33 1,⟨none,.bld 34 [(.slice none 0 0),(.int .i64 0),(.int .i64 0)] [(0,1,(.t 32)),(1,1,(.t 33))],none,0⟩,aQ 35 34,ac 11 35]
def c214r4:J7:=[⟨none,.mv 12 (.v (.func (.func 221) #[] #[])),none,0⟩]
def c214r5:J7:=[ac 36 2,ac 37 11,dr 38 224 37 213,ay 39 223 36 38,ai 8,ao 8 0 1 39]
def c214r6:J7:=[ac 41 3,ac 42 11,dr 43 224 42 213,ay 44 223 41 43,ai 8,ao 8 4 1 44]
def c214r7:J7:=[ac 46 11,dr 47 225 46 226,ai 8,ao 8 3 1 47]
def c214r8:J7:=[ac 49 11,ac 50 12,ay 51 227 49 50,ac 52 11,ac 53 12,ay 54 227 52 53,ai 8,ao 8 1 1 51,ai 8,ao 8 2 1 54]
def c214r9:J7:=[ac 57 11,ar 58 57,am 59 58 2,ah 60 59,aT 61 60 0]
def c214r10:J7:=[ac 62 11,aq 63 8 0 5,au 64 199 63,ar 65 62,am 66 65 2,aA 66 1 64]
def c214r11:J7:=[ac 67 11,ar 68 67,am 69 68 2,ah 70 69,aP 71 70 0]
def c214r12:List WI:=[(true,false,dv 72),(true,false,ac 73 11),(true,false,ar 74 73),(true,false,am 75 74 2),(true,false,ah 76 75),(false,false,ao 8 0 5 72),(true,false,af 9 0),(true,false,ac 10 76)]
def c214r13:List WI:=[(true,false,aq 77 8 0 5),(true,false,ac 78 11),(true,false,ar 79 78),(true,false,am 80 79 1),(true,false,ah 81 80),(false,false,ao 8 0 5 77),(true,false,ac 9 81),(true,false,af 10 0)]
def c214:SC:=(.seq (aa c214r0) (.seq (ab c214r1 30 c214r2) (.seq (aa c214r3) (.seq (aa c214r4) (.seq (aa c214r5) (.seq (aa c214r6) (.seq (aa c214r7) (.seq (aa c214r8) (.seq (.seq (aa c214r9) (.cond (.t 61) (aa c214r10) .skip)) (.seq (.seq (aa c214r11) (.cond (.t 71) (.seq (.rgW c214r12) .ret) .skip)) (.seq (.rgW c214r13) .ret)))))))))))
def v214:Kb:=([8],[8,40,45,48,55,56])
def o214:Kd:=[.r 8 (some 5),.t 9,.t 10]
def c215r0:J7:=[az 2]
def c215r1:J7:=[ac 3 0,bg 4 3 0,ac 5 4,aI 5 6 0,bM 5 7 6 1099511627776,aD 8 5 7,ac 2 8]
def c215:SC:=(.seq (aa c215r0) (.seq (aa c215r1) .ret))
def v215:Kb:=([],[])
def o215:Kd:=[.t 2]
theorem s215 : gZ Tryz.prog Tryz.f215.ntmps v215.1 v215.2 ((Tryz.f215.body).getD .skip) = some c215 := by kernel_rfl
theorem q215 : fG Tryz.prog Tryz.f215.ntmps v215.1 v215.2 Tryz.f215.results.toList = some o215 := by kernel_rfl
def c216r0:J7:=[aJ 4]
def c216r1:J7:=[ac 5 0,ac 6 1,cp 7 6,ay 8 200 5 7,ac 9 1,aR 10 8 9 5 1 1,ac 4 10]
def c216:SC:=(.seq (aa c216r0) (.seq (aa c216r1) .ret))
def v216:Kb:=([],[])
def o216:Kd:=[.t 4]
theorem s216 : gZ Tryz.prog Tryz.f216.ntmps v216.1 v216.2 ((Tryz.f216.body).getD .skip) = some c216 := by kernel_rfl
theorem q216 : fG Tryz.prog Tryz.f216.ntmps v216.1 v216.2 Tryz.f216.results.toList = some o216 := by kernel_rfl
def c220r0:J7:=[cE 0]
def c220r1:J7:=[⟨none,.al 1 [(.int .u32 0),(.int .u32 0),(.int .u32 0),(.int .u32 0),(.int .u32 0),(.int .u32 0),(.int .u32 0),(.int .u32 0),(.int .u32 0),(.int .u32 0),(.int .u32 0),(.int .u32 0),(.int .u32 0),(.int .u32 0),(.int .u32 0),(.int .u32 0)],none,0⟩]
def c220r2:J7:=[af 3 0]
def c220r3:J7:=[aV 4 3 16]
def c220r4:J7:=[ac 5 3,ac 2 5]
def c220r5:J7:=[ac 6 2,ac 7 2,⟨none,.cvI 8 .u32 (.t 7),none,0⟩,au 9 230 8,cS 10 1 6 16 1,aA 10 1 9]
def c220r6:J7:=[aE 11 3 1,ac 3 11]
def c220r7:J7:=[bK 12 231 1,ac 0 12]
def c220:SC:=(.seq (aa c220r0) (.seq (aa c220r1) (.seq (.seq (aa c220r2) (.blk 0 (.loop (.seq (aa c220r3) (.seq (.cond (.t 4) .skip (.exit 0)) (.seq (.blk 1 (.seq (aa c220r4) (aa c220r5))) (aa c220r6))))))) (.seq (aa c220r7) .ret))))
def v220:Kb:=([],[])
def o220:Kd:=[.t 0]
theorem s220 : gZ Tryz.prog Tryz.f220.ntmps v220.1 v220.2 ((Tryz.f220.body).getD .skip) = some c220 := by kernel_rfl
theorem q220 : fG Tryz.prog Tryz.f220.ntmps v220.1 v220.2 Tryz.f220.results.toList = some o220 := by kernel_rfl
def c221r0:J7:=[bQ 4,af 5 0,af 6 0]
def c221r1:J7:=[ac 7 0,ac 8 1,cQ 9 222 7 8 64,aj 10 9 0,aj 11 9 1,aj 12 9 2,ac 4 10,ac 5 11,ac 6 12]
def c221:SC:=(.seq (aa c221r0) (.seq (aa c221r1) .ret))
def v221:Kb:=([],[])
def o221:Kd:=[.t 4,.t 5,.t 6]
def c222r0:J7:=[bQ 6,af 7 0,af 8 0]
def c222r1:J7:=[ac 11 0,ac 12 1,ay 13 213 11 12,ac 10 13,aj 14 10 0,aj 15 10 1,aj 16 10 2,ac 9 14,ac 7 15,ac 8 16]
def c222r2:J7:=[ac 18 8,aP 19 18 0,ac 17 19]
def c222r3:J7:=[ac 20 8,bQ 6,af 7 0,ac 8 20]
def c222r4:J7:=[ac 22 9,aV 23 22 0,ac 21 23]
def c222r5:J7:=[bQ 6,af 7 0,af 8 11]
def c222r6:J7:=[ac 25 9,ac 26 2,bV 27 25 26,ac 24 27]
def c222r7:J7:=[bQ 6,af 7 0,af 8 2]
def c222r8:J7:=[ac 29 9,ac 30 0,av 31 30,ac 32 7,bh 33 31 32,bV 34 29 33,ac 28 34]
def c222r9:J7:=[bQ 6,af 7 0,af 8 10]
def c222r10:J7:=[ac 35 0,ac 36 7,ac 37 7,ac 38 9,bd 39 37 38,⟨none,.sl 40 (.t 35) (some (.t 36)) (some (.t 39)) none 1,none,0⟩,⟨none,.cvS 41 (.t 40),none,0⟩,ac 42 7,ac 43 9,bd 44 42 43,ac 6 41,ac 7 44,af 8 0]
def c222:SC:=(.seq (aa c222r0) (.seq (aa c222r1) (.seq (.blk 0 (.seq (aa c222r2) (.cond (.t 17) (.seq (aa c222r3) .ret) (.seq (aa c222r4) (.cond (.t 21) (.seq (aa c222r5) .ret) (.seq (aa c222r6) (.cond (.t 24) (.seq (aa c222r7) .ret) (ab c222r8 28 c222r9)))))))) (.seq (aa c222r10) .ret))))
def v222:Kb:=([],[])
def o222:Kd:=[.t 6,.t 7,.t 8]
def c223r0:J7:=[af 4 0]
def c223r1:J7:=[ac 5 1,⟨none,.bin 6 .lss (.t 5) (.i (-1099511627776)),none,0⟩,ac 7 6,aB 7 8 1,a9 7 9 8 1099511627776,aw 10 7 9]
def c223r2:J7:=[cD 4]
def c223r3:J7:=[ac 11 0,ac 12 1,bd 13 11 12,ac 4 13]
def c223:SC:=(.seq (aa c223r0) (.seq (ab c223r1 10 c223r2) (.seq (aa c223r3) .ret)))
def v223:Kb:=([],[])
def o223:Kd:=[.t 4]
def c224r0:J7:=[af 4 0]
def c224r1:J7:=[af 5 0]
def c224r2:J7:=[ac 6 0,ar 7 6,am 8 7 2,ah 9 8,aT 10 9 0]
def c224r3:List WI:=[(true,false,ac 12 0),(true,false,ac 13 0),(true,false,ac 14 1),(true,false,ac 15 0),(true,false,ar 16 15),(true,false,am 17 16 0),(true,false,ah 18 17),(true,false,ac 19 0),(true,false,ar 20 19),(true,false,am 21 20 1),(true,false,ah 22 21),(false,true,bO 23 14 18 22),(true,false,ac 11 23),(true,false,aj 24 11 0),(true,false,aj 25 11 1),(true,false,aj 26 11 2),(true,false,ac 5 24),(true,false,ar 27 12),(true,false,am 28 27 1),(false,true,aA 28 1 25),(true,false,ar 29 13),(true,false,am 30 29 2),(false,true,aA 30 1 26)]
def c224r4:J7:=[ac 31 5,ac 4 31]
def c224:SC:=(.seq (aa c224r0) (.seq (aa c224r1) (.seq (.seq (aa c224r2) (.cond (.t 10) (.rgW c224r3) .skip)) (.seq (aa c224r4) .ret))))
def v224:Kb:=([],[])
def o224:Kd:=[.t 4]
def c225r0:J7:=[az 4]
def c225r1:J7:=[az 5]
def c225r2:J7:=[ac 6 0,ar 7 6,am 8 7 2,ah 9 8,aT 10 9 0]
def c225r3:List WI:=[(true,false,ac 12 0),(true,false,ac 13 0),(true,false,ac 14 1),(true,false,ac 15 0),(true,false,ar 16 15),(true,false,am 17 16 0),(true,false,ah 18 17),(true,false,ac 19 0),(true,false,ar 20 19),(true,false,am 21 20 1),(true,false,ah 22 21),(false,true,bO 23 14 18 22),(true,false,ac 11 23),(true,false,aj 24 11 0),(true,false,aj 25 11 1),(true,false,aj 26 11 2),(true,false,ac 5 24),(true,false,ar 27 12),(true,false,am 28 27 1),(false,true,aA 28 1 25),(true,false,ar 29 13),(true,false,am 30 29 2),(false,true,aA 30 1 26)]
def c225r4:J7:=[ac 31 5,ac 4 31]
def c225:SC:=(.seq (aa c225r0) (.seq (aa c225r1) (.seq (.seq (aa c225r2) (.cond (.t 10) (.rgW c225r3) .skip)) (.seq (aa c225r4) .ret))))
def v225:Kb:=([],[])
def o225:Kd:=[.t 4]
def c226r0:J7:=[az 4,af 5 0,af 6 0]
def c226r1:J7:=[ac 8 1,ac 9 0,av 10 9,cG 11 8 10,ac 7 11]
def c226r2:J7:=[az 4,af 5 0,af 6 10]
def c226r3:J7:=[ac 13 0,ac 14 1,aC 15 13 14 1,ah 16 15,⟨none,.bin 17 .gtr (.t 16) (.v (.int .u8 1)),none,0⟩,ac 12 17]
def c226r4:J7:=[az 4,af 5 0,af 6 11]
def c226r5:J7:=[ac 18 0,ac 19 1,aC 20 18 19 1,ah 21 20,⟨none,.bin 22 .eql (.t 21) (.v (.int .u8 1)),none,0⟩,ac 23 1,aE 24 23 1,ac 4 22,ac 5 24,af 6 0]
def c226:SC:=(.seq (aa c226r0) (.seq (.blk 0 (.seq (aa c226r1) (.cond (.t 7) (.seq (aa c226r2) .ret) (ab c226r3 12 c226r4)))) (.seq (aa c226r5) .ret)))
def v226:Kb:=([],[])
def o226:Kd:=[.t 4,.t 5,.t 6]
def c227r0:J7:=[bQ 4]
def c227r1:J7:=[bQ 5]
def c227r2:J7:=[ac 6 0,ar 7 6,am 8 7 2,ah 9 8,aT 10 9 0]
def c227r3:List WI:=[(true,false,ac 12 0),(true,false,ac 13 0),(true,false,ac 14 1),(true,false,ac 15 0),(true,false,ar 16 15),(true,false,am 17 16 0),(true,false,ah 18 17),(true,false,ac 19 0),(true,false,ar 20 19),(true,false,am 21 20 1),(true,false,ah 22 21),(false,true,bO 23 14 18 22),(true,false,ac 11 23),(true,false,aj 24 11 0),(true,false,aj 25 11 1),(true,false,aj 26 11 2),(true,false,ac 5 24),(true,false,ar 27 12),(true,false,am 28 27 1),(false,true,aA 28 1 25),(true,false,ar 29 13),(true,false,am 30 29 2),(false,true,aA 30 1 26)]
def c227r4:J7:=[ac 31 5,ac 4 31]
def c227:SC:=(.seq (aa c227r0) (.seq (aa c227r1) (.seq (.seq (aa c227r2) (.cond (.t 10) (.rgW c227r3) .skip)) (.seq (aa c227r4) .ret))))
def v227:Kb:=([],[])
def o227:Kd:=[.t 4]
def c230r0:J7:=[cU 2 0]
def c230r1:J7:=[af 3 0]
def c230r2:J7:=[aV 4 3 4]
def c230r3:J7:=[ac 5 0,bD 6 5 1,ac 7 0,dt 8 7 1,⟨none,.un 9 .neg (.t 8),none,0⟩,⟨none,.bin 10 .and (.v (.int .u32 3988292384)) (.t 9),none,0⟩,cv 11 6 10,ac 0 11]
def c230r4:J7:=[aE 12 3 1,ac 3 12]
def c230r5:J7:=[ac 13 0,ac 2 13]
def c230:SC:=(.seq (aa c230r0) (.seq (.seq (aa c230r1) (.blk 0 (.loop (.seq (aa c230r2) (.seq (.cond (.t 4) .skip (.exit 0)) (.seq (.blk 1 (aa c230r3)) (aa c230r4))))))) (.seq (aa c230r5) .ret)))
def v230:Kb:=([],[])
def o230:Kd:=[.t 2]
theorem s230 : gZ Tryz.prog Tryz.f230.ntmps v230.1 v230.2 ((Tryz.f230.body).getD .skip) = some c230 := by kernel_rfl
theorem q230 : fG Tryz.prog Tryz.f230.ntmps v230.1 v230.2 Tryz.f230.results.toList = some o230 := by kernel_rfl
def c231r0:J7:=[cU 5 0]
def c231r1:J7:=[ac 6 0,ac 7 1,⟨none,.cvI 8 .u32 (.t 7),none,0⟩,cv 9 6 8,ac 0 9]
def c231r2:J7:=[ac 10 0,dt 11 10 15,cS 12 2 11 16 1,ah 13 12,ac 14 0,bD 15 14 4,cv 16 13 15,ac 0 16]
def c231r3:J7:=[ac 17 0,dt 18 17 15,cS 19 2 18 16 1,ah 20 19,ac 21 0,bD 22 21 4,cv 23 20 22,ac 5 23]
def c231:SC:=(.seq (aa c231r0) (.seq (aa c231r1) (.seq (aa c231r2) (.seq (aa c231r3) .ret))))
def v231:Kb:=([],[])
def o231:Kd:=[.t 5]
theorem s231 : gZ Tryz.prog Tryz.f231.ntmps v231.1 v231.2 ((Tryz.f231.body).getD .skip) = some c231 := by kernel_rfl
theorem q231 : fG Tryz.prog Tryz.f231.ntmps v231.1 v231.2 Tryz.f231.results.toList = some o231 := by kernel_rfl
theorem F176:Fun Tryz.prog 176 5 v176 c176 o176:=Fun.mk' Tryz.func176 Tryz.ntmps176 (by kernel_rfl) (by kernel_rfl) s176 q176
theorem F194:Fun Tryz.prog 194 8 v194 c194 o194:=Fun.mk' Tryz.func194 Tryz.ntmps194 (by kernel_rfl) (by kernel_rfl) s194 q194
def UE(x:UInt8)(cs:J6):Prop:=cs=[.int .u8 (x.toNat:Int)]
theorem UE1:∀ (x:UInt8) cs,UE x cs→∀ u∈cs,u.oneCell'=true:=fun x cs h u hu=>by
 rw[h]at hu;simp at hu;subst hu;rfl
abbrev SB(G:J5)(v:Value)(l:Kf):Prop:=SlV G UE 1 v l
abbrev sn(zs:Kf)(L':J8)(r:Value):Prop:=yv UE 5 1 zs L' r
theorem SB.le{G G':J5}{v:Value}{l:Kf}(h:SB G v l)(hg:Gle G G'):SB G' v l:=SlV.le h hg Kp
def sc(l:Kf):J6:=l.map fun b=>.int .u8 (b.toNat:Int)
theorem oD:∀ (l:Kf),Cells UE 1 l (sc l)
 | []=>.nil
 | b :: l=>.cons (cs:=[.int .u8 (b.toNat:Int)]) rfl rfl (oD l)
theorem np(s:ByteArray):byteCells s=sc s.data.toList:=rfl
theorem yU{P:Program}{h:H}{d:Nat}{l:J7}{e:Env}{K:Kj}{u:Value}{b:Nat}{zs:Kf}{zc:J6}{L1 L2:J8}{x:UInt8}{y:Int}(hL:h.L=.row (.slice (some ⟨b,0,none⟩) 1 1) 5 1 1 [.int .u8 y] :: L1++.row u 5 1 zs.length zc :: L2)(hy:y=(x.toNat:Int))
  (hc:Cells UE 1 zs zc) (hz:zs.length≤10000000)
  (hk:∀ A' c' zc',Cells UE 1 (zs++[x]) zc'→kR P l d e K (.slice A' (zs++[x]).length c') ⟨h.G,.row (.slice (some ⟨b,0,none⟩) 1 1) 5 1 1 [.int .u8 y] :: L1++.row (.slice A' (zs++[x]).length c') 5 1 (zs++[x]).length zc' :: L2,h.D⟩) :
  apX P u (.slice (some ⟨b,0,none⟩) 1 1) 5 1 1 d l e h K:=by
 subst hy;refine⟨.row (.slice (some ⟨b,0,none⟩) 1 1) 5 1 1 [.int .u8 (x.toNat:Int)] :: L1,zs.length,zc,L2,1,[.int .u8 (x.toNat:Int)],.inl hL,kX (h:=h) (by rw[hL];exact .head _) (UE1 x _ rfl) rfl,by unfold maxLen;omega,fun A' c'=>?_⟩;have:=hk A' c' (zc++[.int .u8 (x.toNat:Int)]) (hc.app (.one (show UE x [.int .u8 (x.toNat:Int)]from rfl) rfl))
 simp only[length_append,length_cons,List.length_nil,Nat.zero_add]at this;exact this
theorem Ew{P:Program}{h:H}{d:Nat}{l:J7}{e:Env}{K:Kj}{u:Value}{s:ByteArray}{zs:Kf}{zc:J6}{L1 L2:J8}(hr:Ay h.L u 5 1 L1 zs.length zc L2)(hc:Cells UE 1 zs zc)(hz:zs.length+s.size≤10000000)
  (hk:∀ A' c' zc',Cells UE 1 (zs++s.data.toList) zc'→kR P l d e K (.slice A' (zs++s.data.toList).length c') { h with L:=L1++.row (.slice A' (zs++s.data.toList).length c') 5 1 (zs++s.data.toList).length zc' :: L2 }) :
  apX P u (.string s) 5 1 1 d l e h K:=by
 refine⟨L1,zs.length,zc,L2,s.size,sc s.data.toList,hr,⟨fun u hu=>?_,?_,.inr (.inr ⟨s,rfl,rfl,np s,rfl⟩)⟩,by unfold maxLen;omega,fun A' c'=>?_⟩
 ·simp[sc]at hu;obtain⟨_,_,rfl⟩:=hu;rfl
 ·simp[sc]
 ·have:=hk A' c' (zc++sc s.data.toList) (hc.app (oD _));rw[length_append]at this;exact this
theorem vt(k:IntKind)(a b:Int):ff .mul (.int k a) (.int k b)=some (.int k (k.wrap (a * b))):=by simp[ff]
theorem wb(k:IntKind)(a b:Int):ff .add (.int k a) (.int k b)=some (.int k (k.wrap (a+b))):=by simp[ff]
theorem CB(k:IntKind)(a b:Nat)(hb:b≠0)(ha:(a:Int)≤k.max)(hk:k.signed=false):ff .quo (.int k a) (.int k b)=some (.int k ((a / b:Nat):Int)):=by
 have h1:¬ (b:Int)=0:=by omega
 have h2:k.wrap (((a / b:Nat):Int))=((a / b:Nat):Int):=by
  have hq:=Nat.div_le_self a b;generalize a / b=q at hq ⊢;cases k <;> simp[IntKind.signed]at hk <;> simp[IntKind.max,IntKind.signed,IntKind.bits]at ha <;> simp only[IntKind.wrap,IntKind.signed,IntKind.bits] <;> simp <;> omega
 simp only[ff];rw[if_pos trivial,if_neg h1];have:(a:Int).tdiv (b:Int)=((a / b:Nat):Int):=by rw[Int.tdiv_eq_ediv_of_nonneg (by omega)];rfl
 rw[this,h2]
theorem Df(k:IntKind)(a b:Nat)(hb:b≠0):ff .rem (.int k a) (.int k b)=some (.int k ((a % b:Nat):Int)):=by
 have h1:¬ (b:Int)=0:=by omega
 simp only[ff];rw[if_pos trivial,if_neg h1];have:(a:Int).tmod (b:Int)=((a % b:Nat):Int):=by rw[Int.tmod_eq_emod_of_nonneg (by omega)];rfl
 rw[this]
theorem fD{P:Program}{f:FuncId}{args:Array Value}{h:H}{M:H→Prop}{R:Value→H→Prop}(hE:gX P f)(hg:eD h M)(hc:∀ h',M h'→eh P f args h' R):eh P f args h R :=
 ⟨hE,fun β w hs=>by
  obtain⟨h1,m,s1,t1,d1,r1⟩:=hg β w hs
  exact((hc h1 m).2 β w s1).mono fun _ _ ⟨v,h2,a,⟨b1,b2⟩,c,d,r⟩=>⟨v,h2,a,⟨b1.trans d1,r1.trans b2⟩,c,t1.trans d,r⟩⟩
theorem SB.nil{G:J5}:SB G (.slice none 0 0) []:=⟨none,0,rfl,Nat.le_refl _,Nat.zero_le _,fun i x hx=>by simp at hx⟩
theorem BS(l:Kf)(v:Value)(G:J5)(hl:SB G v l)(hb:l.length≤1000000):
  FnO Tryz.prog 176 #[v] G [] (fun _ L' r=>sn l L' r):=by
 refine F176.fnO (by simp) dw (dI ?_);unfold c176;intros;refine gR 0 0 c176r0.eq_1 ?_;intros;refine gR 3 5 c176r1.eq_1 ?_;refine my (.inr ⟨⟨none,rfl⟩,rfl,rfl,rfl,rfl⟩) hl rfl UE1 (by unfold maxLen;omega) fun ys A c hc=>?_
 simp only[Nat.zero_add];refine sI ?_;intros;refine dy ?_;refine dG (dL _ rfl Kl (dz dw) ?_);exact⟨ys,hc,rfl⟩
theorem px(l:Kf)(v:Value)(G:J5)(hl:SB G v l)(hb:l.length≤1000000):
  FnO Tryz.prog 194 #[v] G [] (fun _ L' r=>sn l L' r):=by
 refine F194.fnO (by simp) dw (dI ?_);have hl0:=hl;obtain⟨A,c,rfl,hc,hm,hA⟩:=hl;unfold c194;intros;refine gR 0 0 c194r0.eq_1 ?_;intros;refine gR 3 4 c194r1.eq_1 ?_;intros;refine gC ?_;refine gb (fun ht=>?_) (fun ht=>?_)
 ·intros;refine gR 0 0 c194r2.eq_1 ?_;intros;refine dy ?_;have hA0:l=[]:=by
   match l,hA with
   | [],_=>rfl
   | x :: xs,hA=>obtain⟨a,_,ha,_⟩:=hA 0 x rfl;subst ha;cases ht
  subst hA0;refine dA (dW none 5 1) ?_;refine dG (dL _ rfl Kl (dz dw) ?_);exact⟨[],.nil,rfl⟩
 ·intros;refine gR 5 8 c194r3.eq_1 ?_;intro b hb';refine my (.inr ⟨⟨_,rfl⟩,rfl,rfl,rfl,rfl⟩) hl0 rfl UE1 (by unfold maxLen;omega) fun ys A c hc=>?_
  simp only[Nat.zero_add];refine sI ?_;intros;refine dy ?_;refine dG (dL _ rfl Kl (dz dw) ?_);exact⟨ys,hc,rfl⟩
theorem F200:Fun Tryz.prog 200 31 v200 c200 o200:=Fun.mk' Tryz.func200 Tryz.ntmps200 (by kernel_rfl) (by kernel_rfl) s200 q200
theorem F162:Fun Tryz.prog 162 36 v162 c162 o162:=Fun.mk' Tryz.func162 Tryz.ntmps162 (by kernel_rfl) (by kernel_rfl) s162 q162
def zig(n:Int):Nat:=if 0≤n then(2 * n).toNat else(-2 * n - 1).toNat
def oG:Nat→Nat→Kf
 | 0,z=>[UInt8.ofNat z]
 | f+1,z=>if z < 128 then[UInt8.ofNat z]else UInt8.ofNat (128+z % 128) :: oG f (z / 128)
def pvB(n:Int):Kf:=oG 9 (zig n)
theorem oI:∀ f z,(oG f z).length≤f+1∧1≤(oG f z).length
 | 0,z=>by simp[oG]
 | f+1,z=>by
  unfold oG;split
  ·simp
  ·have:=oI f (z / 128);simp;omega
theorem gD(n:Int):(pvB n).length≤10:=(oI 9 _).1
theorem pT{n:Int}(h:I64 n):zig n < 18446744073709551616:=by
 unfold zig I64 at *;split <;> omega
theorem sp{f z:Nat}(h:z < 128):oG f z=[UInt8.ofNat z]:=by
 cases f with
 | zero=>rfl
 | succ f=>exact if_pos h
def C4(p:Kf)(z0:Nat)(zs:Kf)(z:Nat):Prop:=∃ f,f≤9∧zs.length+f=p.length+9∧z < 2 * 128 ^ f∧zs++oG f z=p++oG 9 z0
theorem ql(p:Kf){z0:Nat}(h:z0 < 18446744073709551616):C4 p z0 p z0:=⟨9,Nat.le_refl _,rfl,by omega,rfl⟩
theorem sD{p zs:Kf}{z0 z:Nat}(h:C4 p z0 zs z)(hz:z < 128):zs++[UInt8.ofNat z]=p++oG 9 z0:=by
 obtain⟨f,_,_,_,h⟩:=h;rw[← h,sp hz]
theorem qm{p zs:Kf}{z0 z:Nat}(h:C4 p z0 zs z)(hz:¬ z < 128):C4 p z0 (zs++[UInt8.ofNat (128+z % 128)]) (z / 128):=by
 obtain⟨f,h1,h2,h3,h4⟩:=h;cases f with
 | zero=>simp at h3;omega
 | succ f =>
  refine⟨f,by omega,by simp;omega,by rw[Nat.pow_succ]at h3;omega,?_⟩;rw[← h4,oG,if_neg hz];simp
theorem s7{p zs:Kf}{z0 z:Nat}(h:C4 p z0 zs z):zs.length≤p.length+9:=by
 obtain⟨f,h1,h2,_⟩:=h;omega
theorem Fi(z:Nat):ff .or (.int .u8 (IntKind.u8.wrap (z:Int))) (.int .u8 128)=some (.int .u8 ((UInt8.ofNat (128+z % 128)).toNat:Int)):=by
 have key:∀ b:Fin 256,(BitVec.ofInt 8 ((b.val:Nat):Int) ||| BitVec.ofInt 8 128).toNat=128+b.val % 128:=by decide +kernel
 have h1:IntKind.u8.wrap (z:Int)=((z % 256:Nat):Int):=by rw[IntKind.wrap_u8];omega
 have h2:=key ⟨z % 256,Nat.mod_lt _ (by omega)⟩;rw[h1];simp only[ff];rw[if_pos trivial];have h3:(BitVec.ofInt IntKind.u8.bits ((z % 256:Nat):Int) ||| BitVec.ofInt IntKind.u8.bits 128).toNat=128+z % 128:=by
  refine h2.trans ?_;dsimp only;omega
 rw[h3];simp[IntKind.wrap_u8]
theorem tp(z:Nat):IntKind.u8.wrap (z:Int)=((UInt8.ofNat z).toNat:Int):=by
 rw[IntKind.wrap_u8];simp
theorem Ig(z:Nat):ff .shr (.int .u64 (z:Int)) (.int .u64 7)=some (.int .u64 ((z / 128:Nat):Int)):=by
 simp[ff,IntKind.bits];rw[Int.fdiv_eq_ediv_of_nonneg _ (by omega)]
theorem IR(n:Int):ff .shl (.int .u64 (IntKind.u64.wrap n)) (.int .u64 1)=some (.int .u64 (IntKind.u64.wrap (IntKind.u64.wrap n * 2))):=by
 simp[ff,IntKind.bits]
def sgn(n:Int):Int:=if 0≤n then 0 else -1
theorem EM{n:Int}(h:I64 n):ff .shr (.int .i64 n) (.int .u64 63)=some (.int .i64 (sgn n)):=by
 have h1:n.fdiv 9223372036854775808=sgn n:=by
  rw[Int.fdiv_eq_ediv_of_nonneg _ (by omega)];unfold sgn I64 at *;split <;> omega
 simp[ff,IntKind.bits,h1]
theorem BA{n:Int}(h:I64 n):ff .xor (.int .u64 (IntKind.u64.wrap (IntKind.u64.wrap n * 2))) (.int .u64 (IntKind.u64.wrap (sgn n)))=some (.int .u64 (zig n:Int)):=by
 have hz:=pT h;have key:(BitVec.ofInt 64 (IntKind.u64.wrap (IntKind.u64.wrap n * 2)) ^^^ BitVec.ofInt 64 (IntKind.u64.wrap (sgn n))).toNat=zig n:=by
  unfold I64 at h;by_cases h0:0≤n
  ·have e1:IntKind.u64.wrap (IntKind.u64.wrap n * 2)=2 * n:=by rw[IntKind.wrap_u64,IntKind.wrap_u64];omega
   have e2:IntKind.u64.wrap (sgn n)=0:=by rw[sgn,if_pos h0];rfl
   rw[e1,e2];have:BitVec.ofInt 64 0=0#64:=rfl;rw[this,BitVec.xor_zero,BitVec.toNat_ofInt];simp[zig,h0];omega
  ·have e1:IntKind.u64.wrap (IntKind.u64.wrap n * 2)=(2 * n) % 18446744073709551616:=by rw[IntKind.wrap_u64,IntKind.wrap_u64];omega
   have e2:IntKind.u64.wrap (sgn n)=18446744073709551615:=by rw[sgn,if_neg h0];rfl
   rw[e1,e2];have:BitVec.ofInt 64 18446744073709551615=BitVec.allOnes 64:=by decide
   rw[this,BitVec.xor_allOnes,BitVec.toNat_not,BitVec.toNat_ofInt];simp[zig,h0];omega
 simp only[ff];rw[if_pos trivial];have e3:(BitVec.ofInt IntKind.u64.bits (IntKind.u64.wrap (IntKind.u64.wrap n * 2)) ^^^ BitVec.ofInt IntKind.u64.bits (IntKind.u64.wrap (sgn n))).toNat=zig n:=key;rw[e3,IntKind.wrap_u64];congr 2;omega
theorem jt(l:Kf)(n:Int)(hn:I64 n)(v:Value)(G:J5)(hl:SB G v l)(hb:l.length≤100000):
  FnO Tryz.prog 200 #[v,.int .i64 n] G [] (fun _ L' r=>sn (l++pvB n) L' r):=by
 refine F200.fnO (by simp) dw (dI ?_);have hl0:=hl;obtain⟨A,c,rfl,hc,hm,hA⟩:=hl;unfold c200;intros;refine gR 0 0 c200r0.eq_1 ?_;intros;refine gr 7 14 ?_;(refine sJ4 c200r1.eq_1 @IR (EM hn) (BA hn) ?_);intros;refine gR 14 16 c200r2.eq_1 ?_;refine(px l _ G hl0 (by omega) _ []).mono ?_;rintro r h' ⟨G1,L',rfl,hg1,ys,hys,rfl⟩;refine sI ?_;intros;refine dy ?_
 refine dV (fun e h=>∃ (z:Nat) (zs:Kf) (zc:J6) (u:Value),(C4 l (zig n) zs z∧Cells UE 1 zs zc)∧e 5=.int .u64 (z:Int)∧e 6=u∧h.G=G1∧h.D=[]∧[Item.row u 5 1 zs.length zc].Sublist h.L) (fun e h=>iv (e 5)) ?_ ?_
 ·exact⟨zig n,l,ys,_,⟨ql l (pT hn),hys⟩,eE,eE,rfl,rfl,List.Sublist.refl _⟩
 ·rintro e ⟨G',L,D⟩ ⟨z,zs,zc,u,⟨hp,hcs⟩,e5,e6,hG,hD,hL⟩;dsimp only at hG hD hL;subst hG hD;refine dA (dE hL) ?_;refine dC [5,6] ?_;refine sJ2 @e5 @e6 ?_;have hlen:=s7 hp;intros;refine gR 16 17 c200r3.eq_1 ?_;intros;refine gC ?_;refine gb (fun ht=>?_) (fun ht=>?_)
  ·have hz:¬ z < 128:=by simp at ht;omega
   intros;refine gR2 20 26 c200r4.eq_1 @Fi ?_;intro bk hbk;refine yU (L1:=[]) (L2:=[]) rfl rfl hcs (by omega) fun A' c' zc' hzc=>?_
   refine sI ?_;intros;refine gR2 18 20 c200r5.eq_1 @Ig ?_;intros;refine dy ?_;refine ej ⟨⟨z / 128,_,zc',_,⟨qm hp hz,hzc⟩,eE,eE,rfl,rfl,.cons _ Kl⟩,?_⟩;refine sI ?_;simp[iv];omega
  ·have hz:z < 128:=by simp at ht;omega
   refine dS ?_;refine sI ?_;intros;refine gR2 26 31 c200r6.eq_1 @tp ?_;intro bk hbk;refine yU (L1:=[]) (L2:=[]) rfl rfl hcs (by omega) fun A' c' zc' hzc=>?_
   refine sI ?_;intros;refine dy ?_;rw[sD hp hz]at hzc ⊢;refine dG (dL _ rfl (.cons _ Kl) (dz dw) ?_);exact⟨zc',hzc,rfl⟩
theorem l6(l:Kf)(n:Int)(hn:I64 n)(v:Value)(G:J5)(hl:SB G v l)(hb:l.length≤100000):
  FnO Tryz.prog 162 #[v,.int .i64 n] G [] (fun _ L' r=>sn (l++pvB n) L' r):=by
 refine F162.fnO (by simp) dw (dI ?_);have hl0:=hl;have hn0:=hn;unfold I64 at hn;obtain⟨A,c,rfl,hc,hm,hA⟩:=hl;unfold c162;intros;refine gR 0 0 c162r0.eq_1 ?_;intros;refine gR2 7 10 c162r1.eq_1 @vt ?_
 have hrest:∀ (e:Env),e 0=.slice A l.length c→e 5=.int .u64 (zig n:Int)→go none Tryz.prog 36 v162.1 v162.2 (gl o162 fun v h=>sn (l++pvB n) h.L v) [Td.s ((SC.reg false c162r4).seq ((SC.blk 0 (((SC.reg false c162r5).seq (SC.cond (O.t 21) SC.skip (SC.exit 0))).seq (SC.blk 1 ((SC.reg false c162r6).seq (SC.reg false c162r7)))).loop).seq ((SC.reg false c162r8).seq SC.ret)))] e ⟨G,[],[]⟩:=fun e e0 e5=>by
  refine dC [0,5] ?_;refine sJ2 @e0 @e5 ?_;intros;refine gR 18 20 c162r4.eq_1 ?_;refine(BS l _ G hl0 (by omega) _ []).mono ?_;rintro r h' ⟨G1,L',rfl,hg1,ys,hys,rfl⟩;refine sI ?_;intros;refine dy ?_
  refine dV (fun e h=>∃ (z:Nat) (zs:Kf) (zc:J6) (u:Value),(C4 l (zig n) zs z∧Cells UE 1 zs zc∧z < 18446744073709551616)∧e 5=.int .u64 (z:Int)∧e 6=u∧h.G=G1∧h.D=[]∧[Item.row u 5 1 zs.length zc].Sublist h.L) (fun e h=>iv (e 5)) ?_ ?_
  ·exact⟨zig n,l,ys,_,⟨ql l (pT hn0),hys,pT hn0⟩,eE,eE,rfl,rfl,List.Sublist.refl _⟩
  ·rintro e ⟨G',L,D⟩ ⟨z,zs,zc,u,⟨hp,hcs,hzb⟩,e5,e6,hG,hD,hL⟩;dsimp only at hG hD hL;subst hG hD;refine dA (dE hL) ?_;refine dC [5,6] ?_;refine sJ2 @e5 @e6 ?_;have hlen:=s7 hp;intros;refine gR 20 21 c162r5.eq_1 ?_;intros;refine gC ?_;refine gb (fun ht=>?_) (fun ht=>?_)
   ·have hz:¬ z < 128:=by simp at ht;omega
    have hpm:=qm hp hz;have hdz:z / 128 < z:=by omega
    have hq:ff .quo (.int .u64 (z:Int)) (.int .u64 128)=some (.int .u64 ((z / 128:Nat):Int)):=CB .u64 z 128 (by decide) (by simp[IntKind.max,IntKind.signed,IntKind.bits];omega) rfl;generalize z / 128=q at hq hpm hdz;have hr:ff .rem (.int .u64 (z:Int)) (.int .u64 128)=some (.int .u64 ((z:Int) % 128)):=Df .u64 z 128 (by decide)
    have hw:IntKind.u8.wrap (IntKind.u64.wrap (128+(z:Int) % 128))=((UInt8.ofNat (128+z % 128)).toNat:Int):=by
     rw[← tp,IntKind.wrap_u64];congr 1;omega
    intros;refine gr 22 29 ?_;refine sJ3 c162r6.eq_1 @hr @wb ?_;intro bk hbk;refine yU (L1:=[]) (L2:=[]) rfl hw hcs (by omega) fun A' c' zc' hzc=>?_
    refine sI ?_;intros;refine gR2 29 31 c162r7.eq_1 @hq ?_;intros;refine dy ?_;refine ej ⟨⟨q,_,zc',_,⟨hpm,hzc,by omega⟩,eE,eE,rfl,rfl,.cons _ Kl⟩,?_⟩;refine sI ?_;omega
   ·have hz:z < 128:=by simp at ht;omega
    refine dS ?_;refine sI ?_;intros;refine gR2 31 36 c162r8.eq_1 @tp ?_;intro bk hbk;refine yU (L1:=[]) (L2:=[]) rfl rfl hcs (by omega) fun A' c' zc' hzc=>?_
    refine sI ?_;intros;refine dy ?_;rw[sD hp hz]at hzc ⊢;refine dG (dL _ rfl (.cons _ Kl) (dz dw) ?_);exact⟨zc',hzc,rfl⟩
 intros;refine gR 10 11 c162r2.eq_1 ?_;intros;refine gC ?_;refine gb (fun ht=>?_) (fun ht=>?_)
 ·have hz:IntKind.u64.wrap (IntKind.u64.wrap (2 * IntKind.u64.wrap (IntKind.i64.wrap (0 - IntKind.i64.wrap (n+1))))+1)=(zig n:Int):=by
   have h0:n < 0:=by simpa using ht
   have e1:IntKind.i64.wrap (n+1)=n+1:=by rw[dX] <;> omega
   have e2:IntKind.i64.wrap (0 - (n+1))=0 - (n+1):=by rw[dX] <;> omega
   rw[e1,e2];simp only[IntKind.wrap_u64,zig,if_neg (show ¬ 0≤n by omega)];omega
  intros;refine gr 12 18 ?_;refine sJ4 c162r3.eq_1 @vt @wb @hz ?_;intro _
  (repeat first | refine ek ?_ | refine kl ?_)
  refine hrest _ ?_ ?_ <;> (refine sI ?_;try with_reducible exact True.intro)
 ·have hz:IntKind.u64.wrap (2 * IntKind.u64.wrap n)=(zig n:Int):=by
   have h0:¬ n < 0:=by simpa using ht
   simp only[IntKind.wrap_u64,zig,if_pos (show 0≤n by omega)];omega
  (repeat first | refine ek ?_ | refine kl ?_)
  refine hrest _ ?_ ?_ <;> (refine sJ @hz ?_;try with_reducible exact True.intro)
theorem F215:Fun Tryz.prog 215 9 v215 c215 o215:=Fun.mk' Tryz.func215 Tryz.ntmps215 (by kernel_rfl) (by kernel_rfl) s215 q215
theorem F184:Fun Tryz.prog 184 9 v184 c184 o184:=Fun.mk' Tryz.func184 Tryz.ntmps184 (by kernel_rfl) (by kernel_rfl) s184 q184
theorem F216:Fun Tryz.prog 216 11 v216 c216 o216:=Fun.mk' Tryz.func216 Tryz.ntmps216 (by kernel_rfl) (by kernel_rfl) s216 q216
theorem F185:Fun Tryz.prog 185 11 v185 c185 o185:=Fun.mk' Tryz.func185 Tryz.ntmps185 (by kernel_rfl) (by kernel_rfl) s185 q185
theorem F199:Fun Tryz.prog 199 33 v199 c199 o199:=Fun.mk' Tryz.func199 Tryz.ntmps199 (by kernel_rfl) (by kernel_rfl) s199 q199
theorem F161:Fun Tryz.prog 161 39 v161 c161 o161:=Fun.mk' Tryz.func161 Tryz.ntmps161 (by kernel_rfl) (by kernel_rfl) s161 q161
def inO(n:Int):Bool:=decide (0≤n) && decide (n≤1099511627776)
theorem tY(n:Int)(G:J5):FnS Tryz.prog 215 #[.int .i64 n] G (.bool (inO n)):=by
 refine F215.fnS (by simp) (dI ?_);unfold c215;intros;refine gR 0 0 c215r0.eq_1 ?_;intros;refine gR 3 9 c215r1.eq_1 ?_;refine gd (fun h1=>?_) (fun h1=>?_)
 ·refine sI ?_;intros;refine rW ?_;have:0≤n:=by simpa using h1
  simp[inO,this]
 ·refine sI ?_;intros;refine rW ?_;have:¬ 0≤n:=by simpa using h1
  simp[inO,this]
theorem yV(n:Int)(G:J5):FnS Tryz.prog 184 #[.int .i64 n] G (.bool (inO n)):=by
 refine F184.fnS (by simp) (dI ?_);unfold c184;intros;refine gR 0 0 c184r0.eq_1 ?_;intros;refine gR 3 9 c184r1.eq_1 ?_;refine gd (fun h1=>?_) (fun h1=>?_)
 ·refine sI ?_;intros;refine rW ?_;have:0≤n:=by simpa using h1
  simp[inO,this]
 ·refine sI ?_;intros;refine rW ?_;have:¬ 0≤n:=by simpa using h1
  simp[inO,this]
def ptB(s:ByteArray):Kf:=pvB s.size++s.data.toList
theorem oE(s:ByteArray):(ptB s).length≤10+s.size:=by
 have:=gD s.size;simp[ptB];omega
theorem oe(l:Kf)(s:ByteArray)(v:Value)(G:J5)(hl:SB G v l)(hb:l.length≤100000)(hs:s.size≤100000):
  FnO Tryz.prog 216 #[v,.string s] G [] (fun _ L' r=>sn (l++ptB s) L' r):=by
 refine F216.fnO (by simp) dw (dI ?_);unfold c216;intros;refine gR 0 0 c216r0.eq_1 ?_;intros;refine gR 5 11 c216r1.eq_1 ?_;refine(jt l s.size (by unfold I64;omega) v G hl hb _ []).mono ?_;rintro r h' ⟨G1,L',rfl,hg1,ys,hys,rfl⟩;refine sI ?_;have hpl:=gD s.size;refine Ew (L1:=[]) (.inl rfl) hys (by rw[length_append];omega) fun A' c' zc' hzc=>?_
 refine sI ?_;intros;refine dy ?_;refine dG (dL _ rfl Kl (dz dw) ?_);rw[append_assoc]at hzc ⊢;exact⟨zc',hzc,rfl⟩
theorem ni(l:Kf)(s:ByteArray)(v:Value)(G:J5)(hl:SB G v l)(hb:l.length≤100000)(hs:s.size≤100000):
  FnO Tryz.prog 185 #[v,.string s] G [] (fun _ L' r=>sn (l++ptB s) L' r):=by
 refine F185.fnO (by simp) dw (dI ?_);unfold c185;intros;refine gR 0 0 c185r0.eq_1 ?_;intros;refine gR 5 11 c185r1.eq_1 ?_;refine(l6 l s.size (by unfold I64;omega) v G hl hb _ []).mono ?_;rintro r h' ⟨G1,L',rfl,hg1,ys,hys,rfl⟩;refine sI ?_;have hpl:=gD s.size;refine Ew (L1:=[]) (.inl rfl) hys (by rw[length_append];omega) fun A' c' zc' hzc=>?_
 refine sI ?_;intros;refine dy ?_;refine dG (dL _ rfl Kl (dz dw) ?_);rw[append_assoc]at hzc ⊢;exact⟨zc',hzc,rfl⟩
structure Rec where
 off:Int
 key:ByteArray
 val:ByteArray
 dead:Bool
 stamp:Int
def ia(x:Rec):J6:=[.int .i64 x.off,.string x.key,.string x.val,.bool x.dead,.int .i64 x.stamp]
def RR(x:Rec)(cs:J6):Prop:=cs=ia x∧(I64 x.off∧I64 x.stamp)∧x.key.size≤maxLen∧x.val.size≤maxLen
def isE(s:ByteArray):Bool:=s.toList == ByteArray.toList ⟨#[]⟩
def kz(x:Rec):Int:=if inO x.off=true∧inO x.stamp=true∧x.key.size≤64∧x.val.size≤64∧¬ (x.dead=true∧(isE x.key=true∨isE x.val=false))then 0 else 1
theorem xx(a:ByteArray):ff .eql (.string a) (.string ⟨#[]⟩)=some (.bool (isE a)):=rfl
theorem vn(a:ByteArray):ff .neq (.string a) (.string ⟨#[]⟩)=some (.bool (!isE a)):=rfl
theorem jV{x:Rec}(h:inO x.off=false∨inO x.stamp=false∨64 < x.key.size∨64 < x.val.size∨(x.dead=true∧(isE x.key=true∨isE x.val=false))):kz x=1:=by
 refine if_neg fun⟨h1,h2,h3,h4,h5⟩=>?_
 rcases h with h | h | h | h | h
 ·rw[h1]at h;cases h
 ·rw[h2]at h;cases h
 ·omega
 ·omega
 ·exact h5 h
theorem vR(x:Rec)(G:J5):FnS Tryz.prog 161 #[.agg (ia x).toArray] G (.int .i64 (kz x)):=by
 refine F161.fnS (by simp) (dI ?_);unfold c161 ia;intros;refine gR 0 0 c161r0.eq_1 ?_;have hbad:∀ (fr:Kc) (e:Env) (L:J8),kz x=1→go none Tryz.prog 39 v161.1 v161.2 (gl o161 fun v h=>v=.int .i64 (kz x)) (Td.s ((SC.reg false c161r2).seq .ret) :: fr) e ⟨G,L,[]⟩:=fun fr e L hx=>by
  intros;refine gR 0 0 c161r2.eq_1 ?_;intros;refine rW ?_;rw[hx]
 have hgood:∀ (e:Env) (L:J8),kz x=0→go none Tryz.prog 39 v161.1 v161.2 (gl o161 fun v h=>v=.int .i64 (kz x)) [Td.s ((SC.reg false c161r3).seq .ret)] e ⟨G,L,[]⟩:=fun e L hx=>by
  intros;refine gR 0 0 c161r3.eq_1 ?_;intros;refine rW ?_;rw[hx]
 intros;refine gR 4 38 c161r1.eq_1 ?_;refine fK (yV x.off G _ _) ?_;refine gd (fun h1=>?_) (fun h1=>?_)
 ·refine sI ?_;intros;refine gC ?_;exact hbad _ _ _ (jV (.inl (by simpa using h1)))
 refine sI ?_;refine fK (yV x.stamp G _ _) ?_;refine gd (fun h2=>?_) (fun h2=>?_)
 ·refine sI ?_;intros;refine gC ?_;exact hbad _ _ _ (jV (.inr (.inl (by simpa using h2))))
 refine sI ?_;refine gd (fun h3=>?_) (fun h3=>?_)
 ·refine sI ?_;intros;refine gC ?_;exact hbad _ _ _ (jV (.inr (.inr (.inl (by simp at h3;omega)))))
 refine sI ?_;refine gd (fun h4=>?_) (fun h4=>?_)
 ·refine sI ?_;intros;refine gC ?_;exact hbad _ _ _ (jV (.inr (.inr (.inr (.inl (by simp at h4;omega))))))
 refine sI ?_;have h1':inO x.off=true:=by simpa using h1
 have h2':inO x.stamp=true:=by simpa using h2
 have h3':x.key.size≤64:=by simp at h3;omega
 have h4':x.val.size≤64:=by simp at h4;omega
 refine gd (fun h5=>?_) (fun h5=>?_)
 ·refine sJ @xx ?_;refine gd (fun h6=>?_) (fun h6=>?_)
  ·refine sI ?_;intros;refine gC ?_;exact hbad _ _ _ (jV (.inr (.inr (.inr (.inr ⟨h5,.inl h6⟩)))))
  refine sJ @vn ?_;intros;refine gC ?_;refine gb (fun h7=>?_) (fun h7=>?_)
  ·exact hbad _ _ _ (jV (.inr (.inr (.inr (.inr ⟨h5,.inr (by simpa using h7)⟩)))))
  ·(repeat first | refine ek ?_ | refine kl ?_)
   refine hgood _ _ (if_pos ⟨h1',h2',h3',h4',fun h=>?_⟩);rcases h.2 with h | h
   ·rw[h6]at h;cases h
   ·simp[h]at h7
 ·refine sI ?_;intros;refine gC ?_
  (repeat first | refine ek ?_ | refine kl ?_)
  exact hgood _ _ (if_pos ⟨h1',h2',h3',h4',fun h=>by rw[h5]at h;cases h.1⟩)
theorem oN(x:Rec)(G:J5):FnS Tryz.prog 199 #[.agg (ia x).toArray] G (.int .i64 (kz x)):=by
 refine F199.fnS (by simp) (dI ?_);unfold c199 ia;intros;refine gR 0 0 c199r0.eq_1 ?_;have hbad:∀ (fr:Kc) (e:Env) (L:J8),kz x=1→go none Tryz.prog 33 v199.1 v199.2 (gl o199 fun v h=>v=.int .i64 (kz x)) (Td.s ((SC.reg false c199r4).seq .ret) :: fr) e ⟨G,L,[]⟩:=fun fr e L hx=>by
  intros;refine gR 0 0 c199r4.eq_1 ?_;intros;refine rW ?_;rw[hx]
 intros;refine gR 5 8 c199r1.eq_1 ?_;refine fK (tY x.off G _ _) ?_;intros;refine gC ?_;refine gb (fun h1=>?_) (fun h1=>?_)
 ·(repeat first | refine ek ?_ | refine kl ?_)
  intros;refine gC ?_;refine gb (fun _=>?_) (fun h=>by rw[h1]at h;cases h);exact hbad _ _ _ (jV (.inl (by simpa using h1)))
 intros;refine gR 9 12 c199r2.eq_1 ?_;refine fK (tY x.stamp G _ _) ?_;intros;refine gC ?_;refine gb (fun h2=>?_) (fun h2=>?_)
 ·(repeat first | refine ek ?_ | refine kl ?_)
  intros;refine gC ?_;refine gb (fun _=>?_) (fun h=>by rw[h2]at h;cases h);exact hbad _ _ _ (jV (.inr (.inl (by simpa using h2))))
 have h1':inO x.off=true:=by simpa using h1
 have h2':inO x.stamp=true:=by simpa using h2
 intros;refine gR 13 20 c199r3.eq_1 ?_;intros;refine gC ?_;refine gbD (fun h3=>?_) (fun h3=>?_)
 ·by_cases h4:64 < x.key.size
  ·exact hbad _ _ _ (jV (.inr (.inr (.inl h4))))
  ·exact hbad _ _ _ (jV (.inr (.inr (.inr (.inl (by omega))))))
 have h3':x.key.size≤64:=by omega
 have h4':x.val.size≤64:=by omega
 have hbad2:∀ (fr:Kc) (e:Env) (L:J8),kz x=1→go none Tryz.prog 33 v199.1 v199.2 (gl o199 fun v h=>v=.int .i64 (kz x)) (Td.s ((SC.reg false c199r6).seq .ret) :: fr) e ⟨G,L,[]⟩:=fun fr e L hx=>by
  intros;refine gR 0 0 c199r6.eq_1 ?_;intros;refine rW ?_;rw[hx]
 have hgood:∀ (e:Env) (L:J8),kz x=0→go none Tryz.prog 33 v199.1 v199.2 (gl o199 fun v h=>v=.int .i64 (kz x)) [Td.s ((SC.reg false c199r7).seq .ret)] e ⟨G,L,[]⟩:=fun e L hx=>by
  intros;refine gR 0 0 c199r7.eq_1 ?_;intros;refine rW ?_;rw[hx]
 intros;refine gR 22 33 c199r5.eq_1 ?_;refine gd (fun h5=>?_) (fun h5=>?_)
 ·refine sJ @xx ?_;refine gd (fun h6=>?_) (fun h6=>?_)
  ·refine sI ?_;intros;refine gC ?_;exact hbad2 _ _ _ (jV (.inr (.inr (.inr (.inr ⟨h5,.inl h6⟩)))))
  refine sJ @vn ?_;intros;refine gC ?_;refine gb (fun h7=>?_) (fun h7=>?_)
  ·exact hbad2 _ _ _ (jV (.inr (.inr (.inr (.inr ⟨h5,.inr (by simpa using h7)⟩)))))
  ·(repeat first | refine ek ?_ | refine kl ?_)
   refine hgood _ _ (if_pos ⟨h1',h2',h3',h4',fun h=>?_⟩);rcases h.2 with h | h
   ·rw[h6]at h;cases h
   ·simp[h]at h7
 ·refine sI ?_;intros;refine gC ?_
  (repeat first | refine ek ?_ | refine kl ?_)
  exact hgood _ _ (if_pos ⟨h1',h2',h3',h4',fun h=>by rw[h5]at h;cases h.1⟩)
theorem F201:Fun Tryz.prog 201 46 v201 c201 o201:=Fun.mk' Tryz.func201 Tryz.ntmps201 (by kernel_rfl) (by kernel_rfl) s201 q201
theorem F163:Fun Tryz.prog 163 50 v163 c163 o163:=Fun.mk' Tryz.func163 Tryz.ntmps163 (by kernel_rfl) (by kernel_rfl) s163 q163
def prB(x:Rec)(base stamp:Int):Kf:=pvB (x.off - base)++pvB (x.stamp - stamp)++[if x.dead=true then 1 else 0]++ptB x.key++ptB x.val
def nY(x:Rec)(base stamp:Int):Kf × Int:=if kz x≠0 then([],kz x)else if ¬ (inO base=true∧inO stamp=true)then([],1)else(prB x base stamp,0)
def zy(p:Kf × Int)(L':J8)(r:Value):Prop:=∃ u,r=.tuple #[u,.int .i64 p.2]∧sn p.1 L' u
theorem fN{x:Rec}(h:kz x=0):(inO x.off=true∧inO x.stamp=true)∧x.key.size≤64∧x.val.size≤64:=by
 by_cases h0:inO x.off=true∧inO x.stamp=true∧x.key.size≤64∧x.val.size≤64∧¬ (x.dead=true∧(isE x.key=true∨isE x.val=false))
 ·exact⟨⟨h0.1,h0.2.1⟩,h0.2.2.1,h0.2.2.2.1⟩
 ·rw[kz,if_neg h0]at h;cases h
theorem GD(x:Rec)(base stamp:Int)(G:J5):FnO Tryz.prog 163 #[.agg (ia x).toArray,.int .i64 base,.int .i64 stamp] G [] (fun _ L' r=>zy (nY x base stamp) L' r):=by
 refine F163.fnO (by simp) dw (dI ?_);unfold c163;have hck:=vR x;unfold ia at hck ⊢;intros;refine gR 0 0 c163r0.eq_1 ?_;intros;refine gR 10 12 c163r1.eq_1 ?_;refine fK (hck G _ _) ?_;intros;refine gR 12 13 c163r2.eq_1 ?_;intros;refine gC ?_;refine gb (fun h1=>?_) (fun h1=>?_)
 ·intros;refine gR 14 15 c163r3.eq_1 ?_;intros;refine dy ?_;refine dA (dW none 5 1) ?_;refine dG (dL _ rfl (.cons_cons _ Km) (dz dw) ?_);rw[nY,if_pos (by simpa using h1)];exact⟨_,rfl,[],.nil,rfl⟩
 have h1:kz x=0:=by simpa using h1
 have hbad:∀ (fr:Kc) (e:Env) (L:J8),nY x base stamp=([],1)→go none Tryz.prog 50 v163.1 v163.2 (gl o163 fun v h=>zy (nY x base stamp) h.L v) (Td.s ((SC.reg false c163r5).seq .ret) :: fr) e ⟨G,L,[]⟩:=fun fr e L hx=>by
  intros;refine gR 0 0 c163r5.eq_1 ?_;intros;refine dy ?_;refine dA (dW none 5 1) ?_;refine dG (dL _ rfl (.cons_cons _ Km) (dz dw) ?_);rw[hx];exact⟨_,rfl,[],.nil,rfl⟩
 have hpb:∀ (h:¬ (inO base=true∧inO stamp=true)),nY x base stamp=([],1):=fun h=>by rw[nY,if_neg (by simp[h1]),if_pos h]
 intros;refine gR 15 22 c163r4.eq_1 ?_;refine fK (yV base G _ _) ?_;refine gd (fun h2=>?_) (fun h2=>?_)
 ·refine sI ?_;intros;refine gC ?_;exact hbad _ _ _ (hpb fun h=>by rw[h.1]at h2;cases h2)
 refine sI ?_;refine fK (yV stamp G _ _) ?_;intros;refine gC ?_;refine gb (fun h3=>?_) (fun h3=>?_)
 ·exact hbad _ _ _ (hpb fun h=>by rw[h.2]at h3;cases h3)
 have h2:inO base=true:=by simpa using h2
 have h3:inO stamp=true:=by simpa using h3
 obtain⟨⟨ho,hst⟩,hk,hv⟩:=fN h1;have hput:nY x base stamp=(prB x base stamp,0):=by rw[nY,if_neg (by simp[h1]),if_neg (by simp[h2,h3])]
 simp[inO]at h2 h3 ho hst;have w1:IntKind.i64.wrap (x.off - base)=x.off - base:=by rw[dX] <;> omega
 have w2:IntKind.i64.wrap (x.stamp - stamp)=x.stamp - stamp:=by rw[dX] <;> omega
 have i1:I64 (x.off - base):=by unfold I64;omega
 have i2:I64 (x.stamp - stamp):=by unfold I64;omega
 have l1:=gD (x.off - base);have l2:=gD (x.stamp - stamp)
 (repeat first | refine ek ?_ | refine kl ?_)
 intros;refine gR2 24 28 c163r6.eq_1 @w1 ?_;refine(l6 [] (x.off - base) i1 _ G SB.nil (by simp) _ []).mono ?_;rintro r h' ⟨G1,L',rfl,hg1,ys,hys,rfl⟩;simp only[List.nil_append]at hys ⊢;refine sI ?_;intros;refine gR2 28 34 c163r7.eq_1 @w2 ?_;refine fD F162.enters (dT [] _ (by decide) hys) ?_;rintro h' ⟨G2,rfl,hg2,hv2⟩;refine(l6 _ (x.stamp - stamp) i2 _ G2 hv2 (by omega) _ []).mono ?_
 rintro r h' ⟨G3,L',rfl,hg3,ys3,hys3,rfl⟩;refine sI ?_;have hrest:∀ (e:Env) (L:J8) (u:Value) (zc:J6) (b:UInt8),b=(if x.dead=true then 1 else 0)→Cells UE 1 (pvB (x.off - base)++pvB (x.stamp - stamp)++[b]) zc→e 9=u →
   go none Tryz.prog 50 v163.1 v163.2 (gl o163 fun v h=>zy (nY x base stamp) h.L v) [Td.s ((SC.reg false c163r11).seq ((SC.reg false c163r12).seq .ret))] e ⟨G3,[.row u 5 1 (pvB (x.off - base)++pvB (x.stamp - stamp)++[b]).length zc,.reg 3 [.int .i64 x.off,.string x.key,.string x.val,.bool x.dead,.int .i64 x.stamp]],[]⟩:=fun e L u zc b hb hzc e9=>by
  refine dC [9] ?_;refine sJ @e9 ?_;intros;refine gR 42 46 c163r11.eq_1 ?_;refine fD F185.enters (dT [] _ (by decide) hzc) ?_;rintro h' ⟨G4,rfl,hg4,hv4⟩;refine(ni _ x.key _ G4 hv4 (by simp;omega) (by omega) _ []).mono ?_;rintro r h' ⟨G5,L',rfl,hg5,ys5,hys5,rfl⟩;refine sI ?_;have l3:=oE x.key;intros;refine gR 46 50 c163r12.eq_1 ?_;refine fD F185.enters (dT [] _ (by decide) hys5) ?_
  rintro h' ⟨G6,rfl,hg6,hv6⟩;refine(ni _ x.val _ G6 hv6 (by simp;omega) (by omega) _ []).mono ?_;rintro r h' ⟨G7,L',rfl,hg7,ys7,hys7,rfl⟩;refine sI ?_;intros;refine dy ?_;refine dG (dL _ rfl (.cons_cons _ Km) (dz dw) ?_);rw[hput];subst hb;exact⟨_,rfl,ys7,hys7,rfl⟩
 intros;refine gR 0 0 c163r8.eq_1 ?_;intros;refine gC ?_;refine gb (fun h5=>?_) (fun h5=>?_)
 ·intros;refine gR 36 39 c163r9.eq_1 ?_;intro bk hbk;refine yU (L1:=[]) (L2:=[_]) (x:=1) rfl rfl hys3 (by simp;omega) fun A' c' zc' hzc=>?_
  refine sI ?_;intro _;refine dA (dE (.cons _ Kl)) ?_
  (repeat first | refine ek ?_ | refine kl ?_)
  refine hrest _ [] _ _ 1 (by rw[if_pos h5]) hzc ?_
  (refine sI ?_;try with_reducible exact True.intro)
 ·intros;refine gR 39 42 c163r10.eq_1 ?_;intro bk hbk;refine yU (L1:=[]) (L2:=[_]) (x:=0) rfl rfl hys3 (by simp;omega) fun A' c' zc' hzc=>?_
  refine sI ?_;intro _;refine dA (dE (.cons _ Kl)) ?_
  (repeat first | refine ek ?_ | refine kl ?_)
  refine hrest _ [] _ _ 0 (by rw[if_neg (by rw[h5];simp)]) hzc ?_
  (refine sI ?_;try with_reducible exact True.intro)
theorem Eo(x:Rec)(base stamp:Int)(G:J5):FnO Tryz.prog 201 #[.agg (ia x).toArray,.int .i64 base,.int .i64 stamp] G [] (fun _ L' r=>zy (nY x base stamp) L' r):=by
 refine F201.fnO (by simp) dw (dI ?_);unfold c201;have hck:=oN x;unfold ia at hck ⊢;intros;refine gR 0 0 c201r0.eq_1 ?_;intros;refine gR 11 13 c201r1.eq_1 ?_;refine fK (hck G _ _) ?_;intros;refine gR 13 14 c201r2.eq_1 ?_;intros;refine gC ?_;refine gb (fun h1=>?_) (fun h1=>?_)
 ·intros;refine gR 15 16 c201r3.eq_1 ?_;intros;refine dy ?_;refine dA (dW none 5 1) ?_;refine dG (dL _ rfl (.cons_cons _ Km) (dz dw) ?_);rw[nY,if_pos (by simpa using h1)];exact⟨_,rfl,[],.nil,rfl⟩
 have h1:kz x=0:=by simpa using h1
 have hbad:∀ (fr:Kc) (e:Env) (L:J8),nY x base stamp=([],1)→go none Tryz.prog 46 v201.1 v201.2 (gl o201 fun v h=>zy (nY x base stamp) h.L v) (Td.s ((SC.reg false c201r5).seq .ret) :: fr) e ⟨G,L,[]⟩:=fun fr e L hx=>by
  intros;refine gR 0 0 c201r5.eq_1 ?_;intros;refine dy ?_;refine dA (dW none 5 1) ?_;refine dG (dL _ rfl (.cons_cons _ Km) (dz dw) ?_);rw[hx];exact⟨_,rfl,[],.nil,rfl⟩
 have hpb:∀ (h:¬ (inO base=true∧inO stamp=true)),nY x base stamp=([],1):=fun h=>by rw[nY,if_neg (by simp[h1]),if_pos h]
 (repeat first | refine ek ?_ | refine kl ?_)
 intros;refine gR 16 23 c201r4.eq_1 ?_;refine fK (tY base G _ _) ?_;refine gd (fun h2=>?_) (fun h2=>?_)
 ·refine sI ?_;intros;refine gC ?_;exact hbad _ _ _ (hpb fun h=>by rw[h.1]at h2;cases h2)
 refine sI ?_;refine fK (tY stamp G _ _) ?_;intros;refine gC ?_;refine gb (fun h3=>?_) (fun h3=>?_)
 ·exact hbad _ _ _ (hpb fun h=>by rw[h.2]at h3;cases h3)
 have h2:inO base=true:=by simpa using h2
 have h3:inO stamp=true:=by simpa using h3
 obtain⟨⟨ho,hst⟩,hk,hv⟩:=fN h1;have hput:nY x base stamp=(prB x base stamp,0):=by rw[nY,if_neg (by simp[h1]),if_neg (by simp[h2,h3])]
 simp[inO]at h2 h3 ho hst;have w1:IntKind.i64.wrap (x.off - base)=x.off - base:=by rw[dX] <;> omega
 have w2:IntKind.i64.wrap (x.stamp - stamp)=x.stamp - stamp:=by rw[dX] <;> omega
 have i1:I64 (x.off - base):=by unfold I64;omega
 have i2:I64 (x.stamp - stamp):=by unfold I64;omega
 have l1:=gD (x.off - base);have l2:=gD (x.stamp - stamp)
 (repeat first | refine ek ?_ | refine kl ?_)
 have hrest:∀ (e:Env) (b:UInt8),b=(if x.dead=true then 1 else 0)→e 1=.int .i64 base→e 2=.int .i64 stamp→e 9=.int .u8 (b.toNat:Int) →
   go none Tryz.prog 46 v201.1 v201.2 (gl o201 fun v h=>zy (nY x base stamp) h.L v) [Td.s ((SC.rgX c201r9).seq ((SC.rgX c201r10).seq .ret))] e ⟨G,[.reg 3 [.int .i64 x.off,.string x.key,.string x.val,.bool x.dead,.int .i64 x.stamp]],[]⟩:=fun e b hb e1 e2 e9=>by
  refine dC [1,2,9] ?_;refine sJ3 @e1 @e2 @e9 ?_;intros;refine dy ?_;refine nP _ Kl (by decide) ?_;refine sJ3 c201r9.eq_1 @w1 @w2 ?_;refine(jt [] (x.off - base) i1 _ G SB.nil (by simp) _ []).mono ?_;rintro r h' ⟨G1,L',rfl,hg1,ys,hys,rfl⟩;simp only[List.nil_append]at hys ⊢;refine⟨dO hg1 (.cons _ Kl),?_⟩;refine sI ?_;refine fD F200.enters (dT [] _ (by decide) hys) ?_;rintro h' ⟨G2,rfl,hg2,hv2⟩
  refine(jt _ (x.stamp - stamp) i2 _ G2 hv2 (by omega) _ []).mono ?_;rintro r h' ⟨G3,L',rfl,hg3,ys3,hys3,rfl⟩;refine⟨dO (hg1.trans (hg2.trans hg3)) (.cons _ Kl),?_⟩;refine sI ?_;intros;refine dy ?_;refine nP _ (.cons _ Kl) (by decide) ?_;refine sJ c201r10.eq_1 ?_;intro bk hbk;refine⟨dO Kp (.cons _ (.cons _ Kl)),?_⟩;refine sI ?_
  refine yU (L1:=[]) (L2:=[_]) (x:=b) rfl rfl hys3 (by simp;omega) fun A' c' zc' hzc=>?_
  refine sI ?_;refine⟨dO Kp (.cons _ (.cons _ Kl)),?_⟩;refine sI ?_;refine fD F216.enters (dT [_] _ (by decide) hzc) ?_;rintro h' ⟨G4,rfl,hg4,hv4⟩;refine(oe _ x.key _ G4 hv4 (by simp;omega) (by omega) _ []).mono ?_;rintro r h' ⟨G5,L',rfl,hg5,ys5,hys5,rfl⟩;refine⟨dO (hg4.trans hg5) (.cons _ (.cons _ Kl)),?_⟩;refine sI ?_;have l3:=oE x.key;refine fD F216.enters (dT [] _ (by decide) hys5) ?_
  rintro h' ⟨G6,rfl,hg6,hv6⟩;refine(oe _ x.val _ G6 hv6 (by simp;omega) (by omega) _ []).mono ?_;rintro r h' ⟨G7,L',rfl,hg7,ys7,hys7,rfl⟩;refine⟨dO (hg4.trans (hg5.trans (hg6.trans hg7))) (.cons _ (.cons _ Kl)),?_⟩;refine sI ?_;intros;refine dy ?_;refine dG (dL _ rfl (.cons_cons _ Km) (dz dw) ?_);rw[hput];subst hb;exact⟨_,rfl,ys7,hys7,rfl⟩
 intros;refine gR 0 0 c201r6.eq_1 ?_;intros;refine gR 0 0 c201r7.eq_1 ?_;intros;refine gC ?_;refine gb (fun h5=>?_) (fun h5=>?_)
 ·intros;refine gR 0 0 c201r8.eq_1 ?_
  (repeat first | (with_reducible intro _) | refine ek ?_ | refine kl ?_)
  refine hrest _ 1 (by rw[if_pos h5]) ?_ ?_ ?_ <;> (refine sI ?_;try with_reducible exact True.intro);rfl
 ·(repeat first | refine ek ?_ | refine kl ?_)
  refine hrest _ 0 (by rw[if_neg (by rw[h5];simp)]) ?_ ?_ ?_ <;> (refine sI ?_;try with_reducible exact True.intro);rfl
theorem F117:Fun Tryz.prog 117 14 v117 c117 o117:=Fun.mk' Tryz.func117 Tryz.ntmps117 (by kernel_rfl) (by kernel_rfl) s117 q117
theorem F152:Fun Tryz.prog 152 25 v152 c152 o152:=Fun.mk' Tryz.func152 Tryz.ntmps152 (by kernel_rfl) (by kernel_rfl) s152 q152
theorem F153:Fun Tryz.prog 153 25 v153 c153 o153:=Fun.mk' Tryz.func153 Tryz.ntmps153 (by kernel_rfl) (by kernel_rfl) s153 q153
def IE(x:Int)(cs:J6):Prop:=cs=[.int .i64 x]∧I64 x
def rng(m n:Int):Bool:=decide (0≤n) && decide (n≤m)
theorem Eb{l:Ki}{k:Nat}{x y:Int}(h0:l[0]?=some y)(hx:l[k]?=some x)(f:Int→Int→Int)(hk:0 < k):((l.drop 1).take k).foldl f y=f (((l.drop 1).take (k - 1)).foldl f y) x:=by
 have hl:=List.getElem?_eq_some_iff.1 hx;obtain⟨k,rfl⟩:∃ j,k=j+1:=⟨k - 1,by omega⟩;have h1:(l.drop 1)[k]?=some x:=by rw[List.getElem?_drop,Nat.add_comm];exact hx
 have h2:=List.getElem?_eq_some_iff.1 h1;rw[List.take_succ_eq_append_getElem h2.1,h2.2];simp
theorem FE(l:Ki)(y:Int)(h0:l[0]?=some y)(v:Value)(G:J5)(hl:SlV G IE 1 v l):FnS Tryz.prog 152 #[v] G (.int .i64 ((l.drop 1).foldl min y)):=by
 refine F152.fnS (by simp) (dI ?_);obtain⟨A,c,rfl,hc,hm,hA⟩:=hl;have hpos:=(List.getElem?_eq_some_iff.1 h0).1;unfold c152;intros;refine gR 0 0 c152r0.eq_1 ?_;intros;refine gR 5 7 c152r1.eq_1 ?_;intros;refine gC ?_;refine gb (fun h1=>by simp at h1;omega) (fun h1=>?_)
 (repeat first | refine ek ?_ | refine kl ?_)
 intros;refine gR 9 12 c152r2.eq_1 ?_;refine hA.x_l1 h0 rfl rfl ?_;rintro a1 ha1 u1 ⟨hu,-⟩;cases hu;refine sI ?_;intros;refine gR 0 0 c152r3.eq_1 ?_;intros;refine dy ?_;refine dV (fun e h=>∃ k:Nat,(0 < k∧k≤l.length)∧e 4=.int .i64 k∧e 0=.slice A l.length c∧e 3=.int .i64 (((l.drop 1).take (k - 1)).foldl min y)∧h=⟨G,[],[]⟩) (fun e h=>l.length - iv (e 4)) ?_ ?_
 ·exact⟨1,⟨by omega,by omega⟩,by refine sI ?_;rfl,eE,by refine sI ?_;rfl,rfl⟩
 ·rintro e h ⟨k,⟨hk0,hk⟩,e4,e0,e3,rfl⟩;refine dC [0,3,4] ?_;refine sJ3 @e0 @e3 @e4 ?_;intros;refine gR 12 15 c152r4.eq_1 ?_;intros;refine gC ?_;refine gb (fun ht=>?_) (fun ht=>?_)
  ·have hkl:k < l.length:=by simpa using ht
   have hw3:=fi k c (by omega) hm;obtain⟨x,hx⟩:∃ x,l[k]?=some x:=⟨l[k],getElem?_eq_getElem (by omega)⟩
   (repeat first | refine ek ?_ | refine kl ?_)
   intros;refine gR 18 24 c152r5.eq_1 ?_;refine hA.x_l1 hx rfl rfl ?_;rintro a1 ha1 u1 ⟨hu,-⟩;cases hu;refine sI ?_;intros;refine gR2 16 18 c152r6.eq_1 @hw3 ?_;intros;refine dy ?_;refine ej ⟨⟨k+1,⟨by omega,by omega⟩,eE,eE,by rw[Nat.add_sub_cancel,Eb h0 hx min hk0];(refine sI ?_;try with_reducible exact True.intro),rfl⟩,?_⟩;refine sI ?_;omega
  ·have hkl:k=l.length:=by simp at ht;omega
   subst hkl;refine dS ?_;refine sI ?_;intros;refine gR 24 25 c152r7.eq_1 ?_;intros;refine rW ?_;rw[List.take_of_length_le (by simp)]
theorem Gm(l:Ki)(y:Int)(h0:l[0]?=some y)(v:Value)(G:J5)(hl:SlV G IE 1 v l):FnS Tryz.prog 153 #[v] G (.int .i64 ((l.drop 1).foldl max y)):=by
 refine F153.fnS (by simp) (dI ?_);obtain⟨A,c,rfl,hc,hm,hA⟩:=hl;have hpos:=(List.getElem?_eq_some_iff.1 h0).1;unfold c153;intros;refine gR 0 0 c153r0.eq_1 ?_;intros;refine gR 5 7 c153r1.eq_1 ?_;intros;refine gC ?_;refine gb (fun h1=>by simp at h1;omega) (fun h1=>?_)
 (repeat first | refine ek ?_ | refine kl ?_)
 intros;refine gR 9 12 c153r2.eq_1 ?_;refine hA.x_l1 h0 rfl rfl ?_;rintro a1 ha1 u1 ⟨hu,-⟩;cases hu;refine sI ?_;intros;refine gR 0 0 c153r3.eq_1 ?_;intros;refine dy ?_;refine dV (fun e h=>∃ k:Nat,(0 < k∧k≤l.length)∧e 4=.int .i64 k∧e 0=.slice A l.length c∧e 3=.int .i64 (((l.drop 1).take (k - 1)).foldl max y)∧h=⟨G,[],[]⟩) (fun e h=>l.length - iv (e 4)) ?_ ?_
 ·exact⟨1,⟨by omega,by omega⟩,by refine sI ?_;rfl,eE,by refine sI ?_;rfl,rfl⟩
 ·rintro e h ⟨k,⟨hk0,hk⟩,e4,e0,e3,rfl⟩;refine dC [0,3,4] ?_;refine sJ3 @e0 @e3 @e4 ?_;intros;refine gR 12 15 c153r4.eq_1 ?_;intros;refine gC ?_;refine gb (fun ht=>?_) (fun ht=>?_)
  ·have hkl:k < l.length:=by simpa using ht
   have hw3:=fi k c (by omega) hm;obtain⟨x,hx⟩:∃ x,l[k]?=some x:=⟨l[k],getElem?_eq_getElem (by omega)⟩
   (repeat first | refine ek ?_ | refine kl ?_)
   intros;refine gR 18 24 c153r5.eq_1 ?_;refine hA.x_l1 hx rfl rfl ?_;rintro a1 ha1 u1 ⟨hu,-⟩;cases hu;refine sI ?_;intros;refine gR2 16 18 c153r6.eq_1 @hw3 ?_;intros;refine dy ?_;refine ej ⟨⟨k+1,⟨by omega,by omega⟩,eE,eE,by rw[Nat.add_sub_cancel,Eb h0 hx max hk0];(refine sI ?_;try with_reducible exact True.intro),rfl⟩,?_⟩;refine sI ?_;omega
  ·have hkl:k=l.length:=by simp at ht;omega
   subst hkl;refine dS ?_;refine sI ?_;intros;refine gR 24 25 c153r7.eq_1 ?_;intros;refine rW ?_;rw[List.take_of_length_le (by simp)]
theorem ws(m:Int):∀ (l:Ki) (y:Int),m≤l.foldl min y↔m≤y∧∀ x∈l,m≤x
 | [],y=>by simp
 | x :: l,y=>by
  have h1:m≤min y x↔m≤y∧m≤x:=by omega
  rw[List.foldl_cons,ws m l,h1,and_assoc];simp
theorem xq(m:Int):∀ (l:Ki) (y:Int),l.foldl max y≤m↔y≤m∧∀ x∈l,x≤m
 | [],y=>by simp
 | x :: l,y=>by
  have h1:max y x≤m↔y≤m∧x≤m:=by omega
  rw[List.foldl_cons,xq m l,h1,and_assoc];simp
theorem ub(m:Int)(l:Ki)(y:Int):(decide (0≤l.foldl min y) && decide (l.foldl max y≤m))=(y :: l).all (rng m):=by
 rw[Bool.eq_iff_iff];simp only[Bool.and_eq_true,decide_eq_true_eq,ws,xq,List.all_eq_true,rng,List.mem_cons];constructor
 ·rintro⟨⟨h1,h2⟩,h3,h4⟩ x (rfl | hx)
  ·exact⟨h1,h3⟩
  ·exact⟨h2 x hx,h4 x hx⟩
 ·intro h;exact⟨⟨(h y (.inl rfl)).1,fun x hx=>(h x (.inr hx)).1⟩,(h y (.inl rfl)).2,fun x hx=>(h x (.inr hx)).2⟩
theorem wT(m:Int)(y:Int)(l:Ki)(v:Value)(G:J5)(hl:SlV G IE 1 v (y :: l)):FnS Tryz.prog 117 #[.int .i64 m,v] G (.bool ((y :: l).all (rng m))):=by
 refine F117.fnS (by simp) (dI ?_);rw[← ub];unfold c117;intros;refine gR 0 0 c117r0.eq_1 ?_;intros;refine gR 5 14 c117r1.eq_1 ?_;refine fK (FE (y :: l) y rfl v G hl _ _) ?_;refine gd (fun h1=>?_) (fun h1=>?_)
 ·refine sI ?_;refine fK (Gm (y :: l) y rfl v G hl _ _) ?_;intros;refine rW ?_;have h1:0≤l.foldl min y:=by simpa using h1
  simp[h1]
 ·refine sI ?_;intros;refine rW ?_;have h1:¬ 0≤l.foldl min y:=by simpa using h1
  simp[h1]
theorem F179:Fun Tryz.prog 179 131 v179 c179 o179:=Fun.mk' Tryz.func179 Tryz.ntmps179 (by kernel_rfl) (by kernel_rfl) s179 q179
structure Batch where
 base:Int
 last:Int
 src:Int
 epoch:Int
 pid:Int
 gen:Int
 seq:Int
 txn:Bool
 ctl:Int
 recs:List Rec
def eP(x:Batch)(v:Value):J6:=[.int .i64 x.base,.int .i64 x.last,.int .i64 x.src,.int .i64 x.epoch,.int .i64 x.pid,.int .i64 x.gen,.int .i64 x.seq,.bool x.txn,.int .i64 x.ctl,v]
def BE(G:J5)(x:Batch)(cs:J6):Prop :=
 ∃ A c,cs=eP x (.slice A x.recs.length c)∧(x.recs.length≤c∧c≤maxLen∧SlA G RR 5 A x.recs)∧I64 x.base∧I64 x.last∧I64 x.src∧I64 x.epoch∧I64 x.pid∧I64 x.gen∧I64 x.seq∧I64 x.ctl
theorem BE.le{G G':J5}(hg:Gle G G'){x:Batch}{cs:J6}(h:BE G x cs):BE G' x cs:=by
 obtain⟨A,c,h1,⟨h2,h3,h4⟩,h5⟩:=h;exact⟨A,c,h1,⟨h2,h3,h4.le hg Kp⟩,h5⟩
def zG(last:Int):Int→List Rec→Bool
 | _,[]=>true
 | next,r :: rs=>decide (kz r=0) && decide (next≤r.off) && decide (r.off≤last) && zG last (r.off+1) rs
def kG(b:Batch):Prop :=
 (rng 1099511627776 b.base=true∧rng 1099511627776 b.last=true∧rng 1099511627776 b.src=true)∧(rng 1048576 b.epoch=true∧rng 1048576 b.gen=true∧rng 1048576 b.seq=true) ∧
  (b.base≤b.last∧b.last - b.base < 16∧b.src+(b.last - b.base)≤1099511627776∧b.seq+(b.last - b.base)≤1048576)∧(-1≤b.pid∧b.pid≤1099511627776)∧(b.pid=-1→b.gen=0∧b.seq=0∧b.txn=false∧b.ctl=0) ∧
  ((b.ctl=0∧zG b.last b.base b.recs=true)∨((b.ctl=1∨b.ctl=2)∧b.last - b.base=0∧b.recs=[]∧b.txn=true))
instance decForm (b:Batch):Decidable (kG b):=by
 unfold kG
 infer_instance
theorem l5(m:Int)(y:Int)(l:Ki)(v:Value)(n:Nat)(ys:J6)(hc:Cells IE 1 (y :: l) ys)(G:J5)(L:J8)(D:Kh):
  eh Tryz.prog 117 #[.int .i64 m,v] ⟨G,.row v 3 1 n ys :: L,D⟩ fun r h'=>r=.bool ((y :: l).all (rng m))∧h'=⟨G,.row v 3 1 n ys :: L,D⟩ :=
 Fb (E:=IE) (xs:=y :: l) (R:=fun r=>r=.bool ((y :: l).all (rng m))) F117.enters (by decide) hc fun G' hg hx=>by
  have:=wT m y l v G' hx L D;simpa using this
theorem AK{a b c:Int}(ha:I64 a)(hb:I64 b)(hc:I64 c):Cells IE 1 [a,b,c] [.int .i64 a,.int .i64 b,.int .i64 c] :=
 .cons (cs:=[.int .i64 a]) ⟨rfl,ha⟩ rfl (.cons (cs:=[.int .i64 b]) ⟨rfl,hb⟩ rfl (.one (cs:=[.int .i64 c]) ⟨rfl,hc⟩ rfl))
theorem xG(x:Batch)(cs:J6)(G:J5)(hx:BE G x cs):FnS Tryz.prog 179 #[.agg cs.toArray] G (.bool (decide (kG x))):=by
 obtain⟨A,c,rfl,⟨hc,hm,hA⟩,i1,i2,i3,i4,i5,i6,i7,i8⟩:=hx;refine F179.fnS (by simp) (dI ?_);unfold c179 eP;intros;refine gR 0 0 c179r0.eq_1 ?_;have hbad:∀ (fr:Kc) (e:Env) (L:J8),¬ kG x→go none Tryz.prog 131 v179.1 v179.2 (gl o179 fun v h=>v=.bool (decide (kG x))) (Td.s ((SC.reg false c179r2).seq .ret) :: fr) e ⟨G,L,[]⟩:=fun fr e L hx=>by
  intros;refine gR 0 0 c179r2.eq_1 ?_;intros;refine rW ?_;rw[decide_eq_false hx]
 intros;refine gR 8 26 c179r1.eq_1 ?_;intro b1 hb1;refine fK (l5 1099511627776 _ _ _ _ _ (AK i1 i2 i3) _ _ _) ?_;refine gd (fun h1=>?_) (fun h1=>?_)
 ·refine sI ?_;intros;refine gC ?_;refine hbad _ _ _ fun h=>?_
  simp[h.1.1,h.1.2.1,h.1.2.2]at h1
 refine sI ?_;intro b2 hb2;refine fK (l5 1048576 _ _ _ _ _ (AK i4 i6 i7) _ _ _) ?_;intros;refine gC ?_;refine gb (fun h2=>?_) (fun h2=>?_)
 ·refine hbad _ _ _ fun h=>?_
  simp[h.2.1.1,h.2.1.2.1,h.2.1.2.2]at h2
 have h1:rng 1099511627776 x.base=true∧rng 1099511627776 x.last=true∧rng 1099511627776 x.src=true:=by simpa using h1
 have h2:rng 1048576 x.epoch=true∧rng 1048576 x.gen=true∧rng 1048576 x.seq=true:=by simpa using h2
 have h1':=h1;have h2':=h2;simp[rng]at h1' h2';have w1:IntKind.i64.wrap (x.last - x.base)=x.last - x.base:=by rw[dX] <;> omega
 (repeat first | refine ek ?_ | refine kl ?_)
 intros;refine gR2 28 32 c179r3.eq_1 @w1 ?_;have hb5:∀ (fr:Kc) (e:Env) (L:J8),¬ kG x→go none Tryz.prog 131 v179.1 v179.2 (gl o179 fun v h=>v=.bool (decide (kG x))) (Td.s ((SC.reg false c179r5).seq .ret) :: fr) e ⟨G,L,[]⟩:=fun fr e L hx=>by
  intros;refine gR 0 0 c179r5.eq_1 ?_;intros;refine rW ?_;rw[decide_eq_false hx]
 have hb7:∀ (fr:Kc) (e:Env) (L:J8),¬ kG x→go none Tryz.prog 131 v179.1 v179.2 (gl o179 fun v h=>v=.bool (decide (kG x))) (Td.s ((SC.reg false c179r7).seq .ret) :: fr) e ⟨G,L,[]⟩:=fun fr e L hx=>by
  intros;refine gR 0 0 c179r7.eq_1 ?_;intros;refine rW ?_;rw[decide_eq_false hx]
 have hb9:∀ (fr:Kc) (e:Env) (L:J8),¬ kG x→go none Tryz.prog 131 v179.1 v179.2 (gl o179 fun v h=>v=.bool (decide (kG x))) (Td.s ((SC.reg false c179r9).seq .ret) :: fr) e ⟨G,L,[]⟩:=fun fr e L hx=>by
  intros;refine gR 0 0 c179r9.eq_1 ?_;intros;refine rW ?_;rw[decide_eq_false hx]
 have hb17:∀ (fr:Kc) (e:Env) (L:J8),¬ kG x→go none Tryz.prog 131 v179.1 v179.2 (gl o179 fun v h=>v=.bool (decide (kG x))) (Td.s ((SC.reg false c179r17).seq .ret) :: fr) e ⟨G,L,[]⟩:=fun fr e L hx=>by
  intros;refine gR 0 0 c179r17.eq_1 ?_;intros;refine rW ?_;rw[decide_eq_false hx]
 have w2:∀ (h:0≤x.last - x.base),IntKind.i64.wrap (x.src+(x.last - x.base))=x.src+(x.last - x.base):=fun h=>by rw[dX] <;> omega
 have w3:∀ (h:0≤x.last - x.base),IntKind.i64.wrap (x.seq+(x.last - x.base))=x.seq+(x.last - x.base):=fun h=>by rw[dX] <;> omega
 have w4:IntKind.i64.wrap (x.gen+x.seq)=x.gen+x.seq:=by rw[dX] <;> omega
 intros;refine gR 33 53 c179r4.eq_1 ?_;refine gd (fun h3=>?_) (fun h3=>?_)
 ·refine sI ?_;intros;refine gC ?_;exact hb5 _ _ _ fun h=>by have:=Kn h3;have:=h.2.2.1.1;omega
 have h3:=Ko h3;refine sI ?_;refine gd (fun h4=>?_) (fun h4=>?_)
 ·refine sI ?_;intros;refine gC ?_;exact hb5 _ _ _ fun h=>by have:=Kn h4;have:=h.2.2.1.2.1;omega
 have h4:=Ko h4
 (refine sJ (w2 (by omega)) ?_)
 refine gd (fun h5=>?_) (fun h5=>?_)
 ·refine sI ?_;intros;refine gC ?_;exact hb5 _ _ _ fun h=>by have:=Kn h5;have:=h.2.2.1.2.2.1;omega
 have h5:=Ko h5
 (refine sJ (w3 (by omega)) ?_)
 intros;refine gC ?_;refine gb (fun h6=>?_) (fun h6=>?_)
 ·exact hb5 _ _ _ fun h=>by have:=Kn h6;have:=h.2.2.1.2.2.2;omega
 have h6:=Ko h6;intros;refine gR 55 62 c179r6.eq_1 ?_;refine gd (fun h7=>?_) (fun h7=>?_)
 ·refine sI ?_;intros;refine gC ?_;exact hb7 _ _ _ fun h=>by have:=Kn h7;have:=h.2.2.2.1.1;omega
 have h7:=Ko h7;refine sI ?_;intros;refine gC ?_;refine gb (fun h8=>?_) (fun h8=>?_)
 ·exact hb7 _ _ _ fun h=>by have:=Kn h8;have:=h.2.2.2.1.2;omega
 have h8:=Ko h8;intros;refine gR 64 83 c179r8.eq_1 ?_;have hrest:∀ (e:Env),(x.pid=-1→x.gen=0∧x.seq=0∧x.txn=false∧x.ctl=0)→e 3=.int .i64 (x.last - x.base) →
   go none Tryz.prog 131 v179.1 v179.2 (gl o179 fun v h=>v=.bool (decide (kG x))) [Td.s (((SC.reg false c179r10).seq (SC.blk 1 ((SC.reg false c179r11).seq (SC.cond (O.t 85) ((SC.reg false c179r12).seq (((SC.reg false c179r13).seq (SC.blk 2 ((SC.reg false c179r14).seq ((SC.cond (O.t 93) SC.skip (SC.exit 2)).seq ((SC.blk 3 ((SC.reg false c179r15).seq (((SC.reg false c179r16).seq (SC.cond (O.t 111) ((SC.reg false c179r17).seq SC.ret) SC.skip)).seq (SC.reg false c179r18)))).seq (SC.reg false c179r19)))).loop)).seq ((SC.reg false c179r20).seq SC.ret))) (((SC.reg false c179r21).seq (SC.cond (O.t 116) SC.skip (SC.reg false c179r22))).seq (SC.cond (O.t 116) ((SC.reg false c179r23).seq SC.ret) SC.skip)))))).seq ((SC.reg false c179r24).seq SC.ret))] e ⟨G,[.reg 1 [.int .i64 x.base,.int .i64 x.last,.int .i64 x.src,.int .i64 x.epoch,.int .i64 x.pid,.int .i64 x.gen,.int .i64 x.seq,.bool x.txn,.int .i64 x.ctl,.slice A x.recs.length c]],[]⟩:=fun e hpid e3=>by
  refine dC [3] ?_;refine sJ @e3 ?_;intros;refine gR 0 0 c179r10.eq_1 ?_;intros;refine gR 86 87 c179r11.eq_1 ?_;intros;refine gC ?_;have hmk:((x.ctl=0∧zG x.last x.base x.recs=true)∨((x.ctl=1∨x.ctl=2)∧x.last - x.base=0∧x.recs=[]∧x.txn=true))→kG x:=fun h=>⟨h1,h2,⟨by omega,by omega,by omega,by omega⟩,⟨by omega,by omega⟩,hpid,h⟩
  refine gbD (fun k1=>?_) (fun k1=>?_)
  ·intros;refine gR 88 89 c179r12.eq_1 ?_;intros;refine gR 0 0 c179r13.eq_1 ?_;intros;refine dy ?_
   refine dV (fun e h=>∃ (k:Nat) (nx:Int),(k≤x.recs.length∧zG x.last x.base x.recs=zG x.last nx (x.recs.drop k))∧e 92=.int .i64 k∧e 91=.int .i64 x.recs.length∧e 90=.slice A x.recs.length c∧e 4=.int .i64 nx∧h.G=G∧h.D=[]∧[.reg 1 [.int .i64 x.base,.int .i64 x.last,.int .i64 x.src,.int .i64 x.epoch,.int .i64 x.pid,.int .i64 x.gen,.int .i64 x.seq,.bool x.txn,.int .i64 x.ctl,.slice A x.recs.length c]].Sublist h.L) (fun e h=>x.recs.length - iv (e 92)) ?_ ?_
   ·exact⟨0,x.base,⟨Nat.zero_le _,rfl⟩,eE,eE,eE,eE,rfl,rfl,List.Sublist.refl _⟩
   ·rintro e ⟨G',L,D⟩ ⟨k,nx,⟨hk,hrow⟩,e92,e91,e90,e4,hG,hD,hL⟩;dsimp only at hG hD hL;subst hG hD;refine dA (dE hL) ?_;refine dC [4,90,91,92] ?_;refine sJ4 @e4 @e90 @e91 @e92 ?_;intros;refine gR 0 0 c179r14.eq_1 ?_;intros;refine gC ?_;refine gb (fun ht=>?_) (fun ht=>?_)
    ·have hkl:k < x.recs.length:=by simpa using ht
     have hw3:=fi k c (by omega) hm;obtain⟨r,hr⟩:∃ r,x.recs[k]?=some r:=⟨x.recs[k],getElem?_eq_getElem (by omega)⟩;have hdr:x.recs.drop k=r :: x.recs.drop (k+1):=by
      have:=List.getElem?_eq_some_iff.1 hr;rw[List.drop_eq_getElem_cons hkl,this.2]
     rw[hdr]at hrow;simp only[zG]at hrow;have hno:zG x.last x.base x.recs=false→¬ kG x:=fun h h'=>by
      rcases h'.2.2.2.2.2 with h9 | h9
      ·rw[h]at h9;cases h9.2
      ·omega
     intros;refine gR 94 96 c179r15.eq_1 ?_;refine hA.x_ld hr rfl rfl ?_;rintro a1 ha1 cs ⟨rfl,⟨j1,j2⟩,j3,j4⟩;unfold ia;refine sI ?_;have hck:=oN r;unfold ia at hck;intros;refine gR 96 111 c179r16.eq_1 ?_;refine fK (hck G' _ _) ?_;refine gd (fun k2=>?_) (fun k2=>?_)
     ·refine sI ?_;intros;refine gC ?_;exact hb17 _ _ _ (hno (by rw[hrow];simp at k2;simp[k2]))
     have k2:kz r=0:=by simpa using k2
     refine sI ?_;refine gd (fun k3=>?_) (fun k3=>?_)
     ·refine sI ?_;intros;refine gC ?_;exact hb17 _ _ _ (hno (by rw[hrow];have:=Kn k3;simp;omega))
     have k3:=Ko k3;refine sI ?_;intros;refine gC ?_;refine gb (fun k4=>?_) (fun k4=>?_)
     ·exact hb17 _ _ _ (hno (by rw[hrow];have:=Kn k4;simp;omega))
     have k4:=Ko k4;have hoff:=(fN k2).1.1;simp[inO]at hoff;have w5:IntKind.i64.wrap (r.off+1)=r.off+1:=by rw[dX] <;> omega
     (repeat first | refine ek ?_ | refine kl ?_)
     intros;refine gR2 113 115 c179r18.eq_1 @w5 ?_;intros;refine gR2 115 116 c179r19.eq_1 @hw3 ?_;intros;refine dy ?_;refine ej ⟨⟨k+1,r.off+1,⟨by omega,by rw[hrow];simp[k2];omega⟩,eE,eE,eE,eE,rfl,rfl,.cons _ Kl⟩,?_⟩;refine sI ?_;omega
    ·have hkl:k=x.recs.length:=by simp at ht;omega
     subst hkl;refine dS ?_;refine sI ?_;intros;refine gR 0 0 c179r20.eq_1 ?_;intros;refine rW ?_;rw[List.drop_length]at hrow;rw[decide_eq_true (hmk (.inl ⟨k1,hrow⟩))]
  ·have hb24:∀ (fr:Kc) (e:Env) (L:J8),¬ kG x→go none Tryz.prog 131 v179.1 v179.2 (gl o179 fun v h=>v=.bool (decide (kG x))) (Td.s ((SC.reg false c179r24).seq .ret) :: fr) e ⟨G,L,[]⟩:=fun fr e L hx=>by
    intros;refine gR 0 0 c179r24.eq_1 ?_;intros;refine rW ?_;rw[decide_eq_false hx]
   have hfin:∀ (fr:Kc) (e:Env),(x.ctl=1∨x.ctl=2)→e 3=.int .i64 (x.last - x.base)→go none Tryz.prog 131 v179.1 v179.2 (gl o179 fun v h=>v=.bool (decide (kG x))) (Td.s ((SC.reg false c179r23).seq .ret) :: fr) e ⟨G,[.reg 1 [.int .i64 x.base,.int .i64 x.last,.int .i64 x.src,.int .i64 x.epoch,.int .i64 x.pid,.int .i64 x.gen,.int .i64 x.seq,.bool x.txn,.int .i64 x.ctl,.slice A x.recs.length c]],[]⟩:=fun fr e hc12 e3=>by
    refine dC [3] ?_;refine sJ @e3 ?_;have hnf:∀ (_:¬ (x.last - x.base=0∧x.recs=[]∧x.txn=true)),decide (kG x)=false:=fun hn=>decide_eq_false fun h=>by
     rcases h.2.2.2.2.2 with h9 | h9
     ·exact k1 h9.1
     ·exact hn h9.2
    intros;refine gR 119 131 c179r23.eq_1 ?_;refine gdD (fun k2=>?_) (fun k2=>?_)
    ·refine sI ?_;refine gd (fun k3=>?_) (fun k3=>?_)
     ·have k3:x.recs=[]:=by have:=Kn k3;exact List.eq_nil_of_length_eq_zero (by omega)
      refine sI ?_;intros;refine rW ?_;cases ht:x.txn with
      | false=>rw[hnf fun h=>by rw[ht]at h;cases h.2.2]
      | true=>rw[decide_eq_true (hmk (.inr ⟨hc12,k2,k3,ht⟩))]
     ·have k3:=Ko k3;refine sI ?_;intros;refine rW ?_;rw[hnf fun h=>k3 (by rw[h.2.1];rfl)]
    ·refine sI ?_;intros;refine rW ?_;rw[hnf fun h=>k2 h.1]
   intros;refine gR 117 118 c179r21.eq_1 ?_;intros;refine gC ?_;refine gb (fun k2=>?_) (fun k2=>?_)
   ·(repeat first | refine ek ?_ | refine kl ?_)
    intros;refine gC ?_;refine gb (fun _=>?_) (fun h=>by rw[k2]at h;cases h);refine hfin _ _ (.inl (Kn k2)) ?_
    (refine sI ?_;try with_reducible exact True.intro)
   ·have k2:=Ko k2;intros;refine gR 118 119 c179r22.eq_1 ?_;intros;refine gC ?_;refine gb (fun k3=>?_) (fun k3=>?_)
    ·refine hfin _ _ (.inr (Kn k3)) ?_
     (refine sI ?_;try with_reducible exact True.intro)
    ·have k3:=Ko k3
     (repeat first | refine ek ?_ | refine kl ?_)
     refine hb24 _ _ _ fun h=>?_
     rcases h.2.2.2.2.2 with h9 | h9
     ·exact k1 h9.1
     ·rcases h9.1 with h9 | h9
      ·exact k2 h9
      ·exact k3 h9
 refine gdD (fun h9=>?_) (fun h9=>?_)
 ·refine sJ @w4 ?_;refine gd (fun h10=>?_) (fun h10=>?_)
  ·refine sI ?_;intros;refine gC ?_;exact hb9 _ _ _ fun h=>by have:=Kn h10;have:=h.2.2.2.2.1 h9;omega
  have h10:=Ko h10;refine sI ?_;refine gd (fun h11=>?_) (fun h11=>?_)
  ·refine sI ?_;intros;refine gC ?_;exact hb9 _ _ _ fun h=>by have:=(h.2.2.2.2.1 h9).2.2.1;rw[h11]at this;cases this
  refine sI ?_;intros;refine gC ?_;refine gb (fun h12=>?_) (fun h12=>?_)
  ·exact hb9 _ _ _ fun h=>by have:=Kn h12;have:=(h.2.2.2.2.1 h9).2.2.2;omega
  have h12:=Ko h12
  (repeat first | refine ek ?_ | refine kl ?_)
  refine dA (dE (.cons _ (.cons _ Kl))) ?_;refine hrest _ (fun _=>⟨by omega,by omega,h11,by omega⟩) ?_
  (refine sI ?_;try with_reducible exact True.intro)
 ·refine sI ?_;intros;refine gC ?_
  (repeat first | refine ek ?_ | refine kl ?_)
  refine dA (dE (.cons _ (.cons _ Kl))) ?_;refine hrest _ (fun h=>absurd h h9) ?_
  (refine sI ?_;try with_reducible exact True.intro)
abbrev Kg:=List Batch
abbrev W32:=BitVec 32
def vW(v:W32):Value:=.int .u32 (v.toNat:Int)
def xH:W32:=3988292384#32
def stp(v:W32):W32:=(v >>> 1) ^^^ (if v.getLsbD 0=true then xH else 0#32)
def nI:Nat→W32→W32
 | 0,v=>v
 | n+1,v=>stp (nI n v)
theorem DK(a b:W32):stp (a ^^^ b)=stp a ^^^ stp b:=by
 unfold stp;rw[BitVec.ushiftRight_xor_distrib,BitVec.getLsbD_xor];generalize a >>> 1=x;generalize b >>> 1=y;cases a.getLsbD 0 <;> cases b.getLsbD 0 <;> simp
 ·rw[BitVec.xor_assoc]
 ·rw[BitVec.xor_assoc,BitVec.xor_assoc,BitVec.xor_comm xH y]
 ·rw[BitVec.xor_assoc,BitVec.xor_comm xH (y ^^^ xH),BitVec.xor_assoc,BitVec.xor_self,BitVec.xor_zero]
theorem tz(a b:W32):∀ n,nI n (a ^^^ b)=nI n a ^^^ nI n b
 | 0=>rfl
 | n+1=>by rw[nI,tz a b n,DK];rfl
theorem s9{v:W32}(h:v.getLsbD 0=false):stp v=v >>> 1:=by rw[stp,if_neg (by rw[h];simp),BitVec.xor_zero]
theorem sy{v:W32}:∀ n,(∀ i,i < n→v.getLsbD i=false)→nI n v=v >>> n
 | 0,_=>by simp[nI]
 | n+1,h=>by
  rw[nI,sy n fun i hi=>h i (by omega),s9 (by rw[BitVec.getLsbD_ushiftRight];exact h _ (by omega))];rw[BitVec.shiftRight_add]
theorem tA(v:W32):nI 4 v=nI 4 (v &&& 15#32) ^^^ (v >>> 4):=by
 have h1:v=(v &&& 15#32) ^^^ (v &&& ~~~15#32):=by
  apply BitVec.eq_of_getLsbD_eq;intro i hi;simp only[BitVec.getLsbD_xor,BitVec.getLsbD_and,BitVec.getLsbD_not];cases v.getLsbD i <;> cases (15#32).getLsbD i <;> simp[hi]
 have h2:nI 4 (v &&& ~~~15#32)=v >>> 4:=by
  rw[sy 4]
  ·apply BitVec.eq_of_getLsbD_eq;intro i hi;simp only[BitVec.getLsbD_ushiftRight,BitVec.getLsbD_and,BitVec.getLsbD_not];by_cases h:4+i < 32
   ·have:(15#32).getLsbD (4+i)=false:=by
     rw[BitVec.getLsbD_ofNat];have:Nat.testBit 15 (4+i)=false:=Nat.testBit_lt_two_pow (Nat.lt_of_lt_of_le (by decide:15 < 2 ^ 4) (Nat.pow_le_pow_right (by decide) (by omega)));simp[this]
    rw[this];simp only[h,decide_true,Bool.not_false,Bool.and_true]
   ·rw[BitVec.getLsbD_of_ge v (4+i) (by omega)];simp
  ·intro i hi;have:(15#32).getLsbD i=true:=by
    match i,hi with
    | 0,_=>rfl
    | 1,_=>rfl
    | 2,_=>rfl
    | 3,_=>rfl
   rw[BitVec.getLsbD_and,BitVec.getLsbD_not,this];simp
 conv=>lhs;rw[h1,tz,h2]
theorem tt(v:W32):∀ m n,nI (m+n) v=nI m (nI n v)
 | 0,n=>by rw[Nat.zero_add];rfl
 | m+1,n=>by rw[Nat.succ_add,nI,tt v m n];rfl
def ofB(b:UInt8):W32:=BitVec.ofNat 32 b.toNat
def upd(v:W32)(c:UInt8):W32:=nI 8 (v ^^^ ofB c)
def uE(v:W32):W32:=nI 4 (v &&& 15#32) ^^^ (v >>> 4)
theorem Ei(v:W32)(c:UInt8):upd v c=uE (uE (v ^^^ ofB c)):=by
 rw[uE,← tA,uE,← tA,← tt];rfl
def DZ(l:Kf):W32 := ~~~ (l.foldl upd 4294967295#32)
theorem ofW(a:W32):BitVec.ofInt 32 (a.toNat:Int)=a:=by
 rw[BitVec.ofInt_natCast,BitVec.ofNat_toNat];simp
theorem wx(a:W32):IntKind.u32.wrap (a.toNat:Int)=(a.toNat:Int):=by
 have:=a.isLt;simp only[IntKind.wrap,IntKind.bits,IntKind.signed];simp;omega
theorem mM(a b:W32):ff .xor (vW a) (vW b)=some (vW (a ^^^ b)):=by
 simp only[ff,vW];rw[if_pos trivial];have:(BitVec.ofInt IntKind.u32.bits (a.toNat:Int) ^^^ BitVec.ofInt IntKind.u32.bits (b.toNat:Int)).toNat=(a ^^^ b).toNat:=by
  show(BitVec.ofInt 32 (a.toNat:Int) ^^^ BitVec.ofInt 32 (b.toNat:Int)).toNat=_;rw[ofW,ofW]
 rw[this,wx]
theorem o4(a b:W32):ff .and (vW a) (vW b)=some (vW (a &&& b)):=by
 simp only[ff,vW];rw[if_pos trivial];have:(BitVec.ofInt IntKind.u32.bits (a.toNat:Int) &&& BitVec.ofInt IntKind.u32.bits (b.toNat:Int)).toNat=(a &&& b).toNat:=by
  show(BitVec.ofInt 32 (a.toNat:Int) &&& BitVec.ofInt 32 (b.toNat:Int)).toNat=_;rw[ofW,ofW]
 rw[this,wx]
theorem sT(a:W32)(k:Nat)(hk:k≤32):ff .shr (vW a) (.int .u64 (k:Int))=some (vW (a >>> k)):=by
 simp only[ff,vW];rw[if_pos (by omega)];congr 2;have h1:min ((k:Int)).toNat IntKind.u32.bits=k:=by simp[IntKind.bits];omega
 rw[h1,BitVec.toNat_ushiftRight,Nat.shiftRight_eq_div_pow];rw[Int.fdiv_eq_ediv_of_nonneg _ (by exact_mod_cast Nat.zero_le _)]
 exact_mod_cast rfl
theorem I3(c:UInt8):Value.int .u32 (IntKind.u32.wrap (c.toNat:Int))=vW (ofB c):=by
 have h:=c.toNat_lt;have h2:(ofB c).toNat=c.toNat:=by simp[ofB]
 have:=wx (ofB c);rw[h2]at this;rw[vW,h2,this]
theorem F230:Fun Tryz.prog 230 14 v230 c230 o230:=Fun.mk' Tryz.func230 Tryz.ntmps230 (by kernel_rfl) (by kernel_rfl) s230 q230
theorem H8(v:W32):v.getLsbD 0=true↔v.toNat % 2=1:=by
 rw[BitVec.getLsbD,Nat.testBit_zero];simp
theorem F220:Fun Tryz.prog 220 13 v220 c220 o220:=Fun.mk' Tryz.func220 Tryz.ntmps220 (by kernel_rfl) (by kernel_rfl) s220 q220
theorem F231:Fun Tryz.prog 231 24 v231 c231 o231:=Fun.mk' Tryz.func231 Tryz.ntmps231 (by kernel_rfl) (by kernel_rfl) s231 q231
theorem F211:Fun Tryz.prog 211 21 v211 c211 o211:=Fun.mk' Tryz.func211 Tryz.ntmps211 (by kernel_rfl) (by kernel_rfl) s211 q211
theorem Az(v:W32):ff .and (vW v) (.int .u32 1)=some (vW (v &&& 1#32)):=o4 v 1#32
theorem p8(v:W32):ff .and (vW v) (.int .u32 15)=some (vW (v &&& 15#32)):=o4 v 15#32
theorem yK(v:W32):ff .and (.int .u32 3988292384) (vW v)=some (vW (xH &&& v)):=o4 xH v
theorem za(v:W32):ff .shr (vW v) (.int .u64 1)=some (vW (v >>> 1)):=sT v 1 (by omega)
theorem tv(v:W32):ff .shr (vW v) (.int .u64 4)=some (vW (v >>> 4)):=sT v 4 (by omega)
theorem Dt(v:W32):unV .neg (vW v)=some (vW (-v)):=by
 have:=v.isLt;simp only[unV,vW];congr 2;rw[BitVec.toNat_neg];simp only[IntKind.wrap,IntKind.bits,IntKind.signed];simp;omega
theorem DO(v:W32):unV .xor (vW v)=some (vW (~~~v)):=by
 simp only[unV,vW];have:(BitVec.ofInt IntKind.u32.bits (if IntKind.u32.signed=true then -1 else IntKind.u32.max) ^^^ BitVec.ofInt IntKind.u32.bits (v.toNat:Int)).toNat=(~~~v).toNat:=by
  show(BitVec.ofInt 32 4294967295 ^^^ BitVec.ofInt 32 (v.toNat:Int)).toNat=_;have h1:BitVec.ofInt 32 4294967295=BitVec.allOnes 32:=by decide
  rw[ofW,h1,BitVec.allOnes_xor]
 rw[this,wx]
theorem CP(v:W32):(v >>> 1) ^^^ (xH &&& -(v &&& 1#32))=stp v:=by
 have h1:v &&& 1#32=if v.getLsbD 0=true then 1#32 else 0#32:=by
  apply BitVec.eq_of_toNat_eq;rw[BitVec.toNat_and];have:(1#32).toNat=1:=rfl;rw[this,Nat.and_one_is_mod];by_cases h:v.getLsbD 0=true
  ·rw[if_pos h,(H8 v).1 h];rfl
  ·rw[if_neg h];have h3:¬ v.toNat % 2=1:=fun h9=>h ((H8 v).2 h9)
   have h2:v.toNat % 2=0:=by omega
   rw[h2];rfl
 rw[h1,stp];by_cases h:v.getLsbD 0=true
 ·rw[if_pos h,if_pos h];have:xH &&& -1#32=xH:=by decide
  rw[this]
 ·rw[if_neg h,if_neg h];have:xH &&& -0#32=0#32:=by decide
  rw[this]
theorem CX(v:W32)(G:J5):FnS Tryz.prog 230 #[vW v] G (vW (nI 4 v)):=by
 refine F230.fnS (by simp) (dI ?_);unfold c230;intros;refine gR 0 0 c230r0.eq_1 ?_;intros;refine gR 0 0 c230r1.eq_1 ?_;intros;refine dy ?_;refine dV (fun e h=>∃ k:Nat,k≤4∧e 3=.int .i64 k∧e 0=vW (nI k v)∧h=⟨G,[],[]⟩) (fun e h=>4 - iv (e 3)) ?_ ?_
 ·exact⟨0,Nat.zero_le _,eE,by refine sI ?_;rfl,rfl⟩
 ·rintro e h ⟨k,hk,e3,e0,rfl⟩;refine dC [0,3] ?_;refine sJ2 @e0 @e3 ?_;intros;refine gR 0 0 c230r2.eq_1 ?_;intros;refine gC ?_;refine gb (fun h1=>?_) (fun h1=>?_)
  ·have hkn:k < 4:=by simp at h1;omega
   have hw3:=fi k 4 (by omega) (by unfold maxLen;omega);intros;refine gr 5 12 ?_;refine sJ7 c230r3.eq_1 @za @Az @Dt @yK @mM @CP ?_;intros;refine gR2 12 13 c230r4.eq_1 @hw3 ?_;intros;refine dy ?_;refine ej ⟨⟨k+1,by omega,eE,by refine sI ?_;rfl,rfl⟩,?_⟩;refine sI ?_;omega
  ·have hkn:k=4:=by simp at h1;omega
   subst hkn;refine dS ?_;refine sI ?_;intros;refine gR 13 14 c230r5.eq_1 ?_;intros;refine rV ?_;simp only[push_cast,Nat.reduceBEq]
def xK(G:J5)(v:Value):Prop:=∃ b,v=.pointer (some ⟨b,0,none⟩)∧∀ i:Nat,i < 16→eZ G ⟨b,i,none⟩=some (vW (nI 4 (BitVec.ofNat 32 i)))
theorem xK.le{G G':J5}{v:Value}(h:xK G v)(hg:Gle G G'):xK G' v:=by
 obtain⟨b,h1,h2⟩:=h;exact⟨b,h1,fun i hi=>dN hg (h2 i hi)⟩
theorem Ec(v:W32):(v &&& 15#32).toNat < 16∧BitVec.ofNat 32 (v &&& 15#32).toNat=v &&& 15#32:=by
 refine⟨?_,by simp⟩;rw[BitVec.toNat_and];exact Nat.lt_of_le_of_lt Nat.and_le_right (by decide)
theorem Jh{b n:Nat}{v:W32}(h:v.toNat < n):uU n 1 (.pointer (some ⟨b,0,none⟩)) (vW v)=some (.pointer (some ⟨b,v.toNat,none⟩)):=by
 simp only[uU,vW];rw[if_pos ⟨by omega,by omega⟩];simp[eA]
theorem FK(v:W32)(c:UInt8)(p:Value)(G:J5)(hp:xK G p):FnS Tryz.prog 231 #[vW v,.int .u8 (c.toNat:Int),p] G (vW (upd v c)):=by
 obtain⟨b,rfl,ht⟩:=hp;refine F231.fnS (by simp) (dI ?_);unfold c231;intros;refine gR 0 0 c231r0.eq_1 ?_;intros;refine gr 6 10 ?_;refine sJ3 c231r1.eq_1 @I3 @mM ?_;rw[Ei];generalize v ^^^ ofB c=x;obtain⟨g1,g2⟩:=Ec x
 intros;refine gr 10 17 ?_;(try simp -implicitDefEqProofs only[nG,nH,push_cast,Nat.reduceBEq,Nat.reduceAdd,Nat.reduceSub,Nat.reduceMul,Nat.reduceLT,Nat.reduceLeDiff,Nat.reduceEqDiff,reduceIte,Bool.not_true,Bool.not_false,true_and,and_true,Option.map_some,Option.bind_some,Int.toNat_natCast,c231r2,p8,Jh g1]);refine⟨_,⟨_,rfl,.g (ht _ g1)⟩,?_⟩;rw[g2];refine sJ2 @tv @mM ?_;rw[← uE];generalize uE x=y
 obtain⟨k1,k2⟩:=Ec y;intros;refine gr 17 24 ?_;(try simp -implicitDefEqProofs only[nG,nH,push_cast,Nat.reduceBEq,Nat.reduceAdd,Nat.reduceSub,Nat.reduceMul,Nat.reduceLT,Nat.reduceLeDiff,Nat.reduceEqDiff,reduceIte,Bool.not_true,Bool.not_false,true_and,and_true,Option.map_some,Option.bind_some,Int.toNat_natCast,c231r3,p8,Jh k1]);refine⟨_,⟨_,rfl,.g (ht _ k1)⟩,?_⟩;rw[k2];refine sJ2 @tv @mM ?_
 intros;refine rW ?_;rfl
theorem wk{cs:J6}{o:Nat}(x:Value)(h:o < cs.length):splice cs o [x]=cs.set o x:=by
 rw[splice,List.set_eq_take_append_cons_drop,if_pos h];simp
theorem yH(G:J5):FnD Tryz.prog 220 #[] G (fun G' r=>∃ p,r=.func (.func 231) #[] #[p]∧xK G' p):=by
 refine F220.fnD (by simp) (dI ?_);unfold c220;intros;refine gR 0 0 c220r0.eq_1 ?_;intros;refine gR 0 0 c220r1.eq_1 ?_;intro b hb;refine sI ?_;intros;refine gR 0 0 c220r2.eq_1 ?_;intros;refine dy ?_
 refine dV (fun e h=>∃ (k:Nat) (cs:J6),(k≤16∧cs.length=16∧∀ i,i < k→cs[i]?=some (vW (nI 4 (BitVec.ofNat 32 i))))∧e 3=.int .i64 k∧e 1=.pointer (some ⟨b,0,none⟩)∧h=⟨G,[.blk b cs],[]⟩) (fun e h=>16 - iv (e 3)) ?_ ?_
 ·exact⟨0,_,⟨Nat.zero_le _,rfl,fun i hi=>by omega⟩,eE,eE,rfl⟩
 ·rintro e h ⟨k,cs,⟨hk,hl,ht⟩,e3,e1,rfl⟩;refine dC [1,3] ?_;refine sJ2 @e1 @e3 ?_;intros;refine gR 0 0 c220r3.eq_1 ?_;intros;refine gC ?_;refine gb (fun h1=>?_) (fun h1=>?_)
  ·have hkn:k < 16:=by simp at h1;omega
   have hw3:=fi k 16 (by omega) (by unfold maxLen;omega);have hkw:Value.int .u32 (IntKind.u32.wrap (k:Int))=vW (BitVec.ofNat 32 k):=by
    have h2:(BitVec.ofNat 32 k).toNat=k:=by simp;omega
    have:=wx (BitVec.ofNat 32 k);rw[h2]at this;rw[vW,h2,this]
   intros;refine gR 5 6 c220r4.eq_1 ?_;intros;refine gR2 6 11 c220r5.eq_1 @hkw ?_;refine fK (CX (BitVec.ofNat 32 k) G _ _) ?_;refine⟨by omega,?_⟩;refine dM (xs:=[vW (nI 4 (BitVec.ofNat 32 k))]) [] [] rfl (by simp;omega) ⟨rfl,rfl⟩ ?_;rw[wk _ (by omega),show 0+k * 1=k by omega];refine sI ?_;intros;refine gR2 11 12 c220r6.eq_1 @hw3 ?_;intros;refine dy ?_
   refine ej ⟨⟨k+1,_,⟨by omega,by simp[hl],fun i hi=>?_⟩,eE,eE,rfl⟩,?_⟩
   ·rw[List.getElem?_set];by_cases hik:k=i
    ·rw[if_pos hik,if_pos (by omega),← hik]
    ·rw[if_neg hik];exact ht i (by omega)
   ·refine sI ?_;omega
  ·have hkn:k=16:=by simp at h1;omega
   subst hkn;refine dS ?_;refine sI ?_;intros;refine gR 12 13 c220r7.eq_1 ?_;intros;refine dy ?_;refine ei (eg [] []) ?_;rintro h' ⟨G2,rfl,hg2,hc⟩;intros;refine rW ?_;exact⟨_,rfl,b,rfl,fun i hi=>by simpa [eA]using hc i _ (ht i hi)⟩
theorem wE{l:Kf}{k:Nat}{x:UInt8}(hx:l[k]?=some x)(v:W32):(l.take (k+1)).foldl upd v=upd ((l.take k).foldl upd v) x:=by
 have hk:=List.getElem?_eq_some_iff.1 hx;rw[List.take_succ_eq_append_getElem hk.1,hk.2];simp
theorem Bt(l:Kf)(v:Value)(G:J5)(hl:SB G v l):FnD Tryz.prog 211 #[v] G (fun _ r=>r=vW (DZ l)):=by
 refine F211.fnD (by simp) (dI ?_);obtain⟨A,c,rfl,hc,hm,hA⟩:=hl;unfold c211;intros;refine gR 0 0 c211r0.eq_1 ?_;intros;refine gR 7 8 c211r1.eq_1 ?_;refine(yH G _ []).mono ?_;rintro r h' ⟨G1,rfl,hg1,p,rfl,hp⟩;refine sI ?_;have hA1:=hA.le hg1 (E':=UE) Kp;intros;refine gR 0 0 c211r2.eq_1 ?_;intros;refine gR 0 0 c211r3.eq_1 ?_;intros;refine dy ?_
 refine dV (fun e h=>∃ k:Nat,k≤l.length∧e 10=.int .i64 k∧e 9=.int .i64 l.length∧e 8=.slice A l.length c∧e 3=.func (.func 231) #[] #[p]∧e 4=vW ((l.take k).foldl upd 4294967295#32)∧h=⟨G1,[],[]⟩) (fun e h=>l.length - iv (e 10)) ?_ ?_
 ·exact⟨0,Nat.zero_le _,eE,eE,eE,eE,by refine sI ?_;rfl,rfl⟩
 ·rintro e h ⟨k,hk,e10,e9,e8,e3,e4,rfl⟩;refine dC [3,4,8,9,10] ?_;refine sJ5 @e3 @e4 @e8 @e9 @e10 ?_;intros;refine gR 0 0 c211r4.eq_1 ?_;intros;refine gC ?_;refine gb (fun h1=>?_) (fun h1=>?_)
  ·have hkn:k < l.length:=by simpa using h1
   have hw3:=fi k c (by omega) hm;obtain⟨x,hx⟩:∃ x,l[k]?=some x:=⟨l[k],getElem?_eq_getElem (by omega)⟩;intros;refine gR 12 14 c211r5.eq_1 ?_;refine hA1.x_l1 hx rfl rfl ?_;rintro a1 ha1 u1 hu;cases hu;refine sI ?_;intros;refine gR 14 18 c211r6.eq_1 ?_;refine .inl ⟨_,_,rfl,(FK _ x p G1 hp _ _).mono ?_⟩;rintro _ _ ⟨rfl,rfl⟩;refine sI ?_;intros;refine gR2 18 19 c211r7.eq_1 @hw3 ?_
   intros;refine dy ?_;refine ej ⟨⟨k+1,by omega,eE,eE,eE,eE,by rw[wE hx];(refine sI ?_;try with_reducible exact True.intro),rfl⟩,?_⟩;refine sI ?_;omega
  ·have hkn:k=l.length:=by simp at h1;omega
   subst hkn;refine dS ?_;refine sI ?_;intros;refine gR2 19 21 c211r8.eq_1 @DO ?_;intros;refine rW ?_;rw[take_length];rfl
theorem F203:Fun Tryz.prog 203 33 v203 c203 o203:=Fun.mk' Tryz.func203 Tryz.ntmps203 (by kernel_rfl) (by kernel_rfl) s203 q203
theorem F202:Fun Tryz.prog 202 9 v202 c202 o202:=Fun.mk' Tryz.func202 Tryz.ntmps202 (by kernel_rfl) (by kernel_rfl) s202 q202
def mA(n k:Nat):Kf:=(List.range k).map fun i=>UInt8.ofNat (n / 256 ^ (k - 1 - i))
theorem gB(n k:Nat):(mA n k).length=k:=by simp[mA]
theorem yo{n k i:Nat}(h:i < k):(mA n k).take (i+1)=(mA n k).take i++[UInt8.ofNat (n / 256 ^ (k - 1 - i))]:=by
 have hl:i < (mA n k).length:=by rw[gB];exact h
 rw[List.take_succ_eq_append_getElem hl];congr 2;simp[mA]
def gW(l:Kf):Kf:=l++mA (DZ l).toNat 4
theorem zf(n s:Nat)(hs:s≤64):ff .shr (.int .u64 (n:Int)) (.int .i64 (s:Int))=some (.int .u64 ((n / 2 ^ s:Nat):Int)):=by
 simp only[ff];rw[if_pos (by omega)];congr 2;have h1:min ((s:Int)).toNat IntKind.u64.bits=s:=by simp[IntKind.bits];omega
 rw[h1,Int.fdiv_eq_ediv_of_nonneg _ (by exact_mod_cast Nat.zero_le _)]
 exact_mod_cast rfl
theorem xE(l:Kf)(n k:Nat)(hn:n < 18446744073709551616)(hk:1≤k∧k≤8)(v:Value)(G:J5)(hl:SB G v l)(hb:l.length≤100000):
  FnO Tryz.prog 203 #[v,.int .u64 (n:Int),.int .i64 (k:Int)] G [] (fun _ L' r=>sn (l++mA n k) L' r):=by
 refine F203.fnO (by simp) dw (dI ?_);have hl0:=hl;obtain⟨A,c,rfl,hc,hm,hA⟩:=hl;unfold c203;intros;refine gR 0 0 c203r0.eq_1 ?_;intros;refine gR 9 11 c203r1.eq_1 ?_;refine(px l _ G hl0 (by omega) _ []).mono ?_;rintro r h' ⟨G1,L',rfl,hg1,ys,hys,rfl⟩;refine sI ?_;intros;refine gR 11 16 c203r2.eq_1 ?_;refine gd (fun h1=>by simp at h1;omega) (fun h1=>?_);refine sI ?_;intros;refine gC ?_
 refine gb (fun h2=>by simp at h2;omega) (fun h2=>?_);have w1:IntKind.i64.wrap ((k:Int) - 1)=(k:Int) - 1:=by rw[dX] <;> omega
 have w2:IntKind.i64.wrap (8 * ((k:Int) - 1))=8 * (k:Int) - 8:=by rw[dX] <;> omega
 (repeat first | refine ek ?_ | refine kl ?_)
 intros;refine gr 18 21 ?_;refine sJ3 c203r4.eq_1 @w1 @w2 ?_;intros;refine dy ?_;refine dV (fun e h=>∃ (i:Nat) (zc:J6) (u:Value),(i≤k∧Cells UE 1 (l++(mA n k).take i) zc)∧e 8=.int .i64 (8 * (k:Int) - 8 - 8 * i)∧e 1=.int .u64 (n:Int)∧e 7=u∧h.G=G1∧h.D=[]∧[Item.row u 5 1 (l++(mA n k).take i).length zc].Sublist h.L) (fun e h=>iv1 (e 8)) ?_ ?_
 ·exact⟨0,ys,r,⟨Nat.zero_le _,by simpa using hys⟩,by refine sI ?_;simp,eE,eE,rfl,rfl,by simp⟩
 ·rintro e ⟨G',L,D⟩ ⟨i,zc,u,⟨hi,hcs⟩,e8,e1,e7,hG,hD,hL⟩;dsimp only at hG hD hL;subst hG hD;refine dA (dE hL) ?_;refine dC [1,7,8] ?_;refine sJ3 @e1 @e7 @e8 ?_;intros;refine gR 21 22 c203r5.eq_1 ?_;intros;refine gC ?_;refine gb (fun ht=>?_) (fun ht=>?_)
  ·have hik:i < k:=by have:=Kn ht;omega
   have htk:=yo (n:=n) hik;have hsh:ff .shr (.int .u64 (n:Int)) (.int .i64 (8 * (k:Int) - 8 - 8 * i))=some (.int .u64 ((n / 256 ^ (k - 1 - i):Nat):Int)):=by
    have e1:8 * (k:Int) - 8 - 8 * i=((8 * (k - 1 - i):Nat):Int):=by omega
    rw[e1,zf n _ (by omega),Nat.pow_mul]
   generalize n / 256 ^ (k - 1 - i)=q at htk hsh;have w3:IntKind.i64.wrap (8 * (k:Int) - 8 - 8 * i - 8)=8 * (k:Int) - 8 - 8 * ((i+1:Nat):Int):=by rw[dX] <;> omega
   have hll:(l++(mA n k).take i).length≤200000:=by simp[gB];omega
   intros;refine gr 25 32 ?_;refine sJ3 c203r6.eq_1 @hsh @tp ?_;intro bk hbk;refine yU (L1:=[]) (L2:=[]) rfl rfl hcs (by omega) fun A' c' zc' hzc=>?_
   rw[append_assoc,← htk]at hzc ⊢;refine sI ?_;intros;refine gR2 23 25 c203r7.eq_1 @w3 ?_;intros;refine dy ?_;refine ej ⟨⟨i+1,zc',_,⟨by omega,hzc⟩,eE,eE,eE,rfl,rfl,.cons _ Kl⟩,?_⟩;refine sJ @FZ ?_;omega
  ·have hik:i=k:=by have:=Ko ht;omega
   subst hik;refine dS ?_;refine sI ?_;intros;refine gR 32 33 c203r8.eq_1 ?_;intros;refine dy ?_;rw[List.take_of_length_le (by rw[gB];exact Nat.le_refl _)]at hcs ⊢;refine dG (dL _ rfl Kl (dz dw) ?_);exact⟨zc,hcs,rfl⟩
theorem kd(l:Kf):(gW l).length=l.length+4:=by simp[gW,gB]
theorem FT(v:W32):IntKind.u64.wrap (v.toNat:Int)=(v.toNat:Int):=by
 have:=v.isLt;simp only[IntKind.wrap,IntKind.bits,IntKind.signed];simp;omega
theorem Cp(l:Kf)(v:Value)(G:J5)(hl:SB G v l)(hb:l.length≤100000):FnO Tryz.prog 202 #[v] G [] (fun _ L' r=>sn (gW l) L' r):=by
 refine F202.fnO (by simp) dw (dI ?_);unfold c202;have hsum:=Bt l v G hl;unfold gW;generalize DZ l=w at hsum ⊢;intros;refine gR 0 0 c202r0.eq_1 ?_;intros;refine gR 3 9 c202r1.eq_1 ?_;refine my (.inr ⟨⟨none,rfl⟩,rfl,rfl,rfl,rfl⟩) hl rfl UE1 (by unfold maxLen;omega) fun ys A c hc=>?_
 simp only[Nat.zero_add,List.nil_append];refine sI ?_;refine(hsum _ []).mono ?_;rintro r h' ⟨G1,rfl,hg1,rfl⟩;unfold vW;refine sJ @FT ?_;refine fD F203.enters (dT [] _ (by decide) hc) ?_;rintro h' ⟨G2,rfl,hg2,hv2⟩;refine(xE l w.toNat 4 (by have:=w.isLt;omega) (by omega) _ G2 hv2 hb _ []).mono ?_;rintro r h' ⟨G3,L',rfl,hg3,ys3,hys3,rfl⟩;refine sI ?_;intros;refine dy ?_
 refine dG (dL _ rfl Kl (dz dw) ?_);exact⟨ys3,hys3,rfl⟩
def fz(b:Batch):Ki:=[b.base,b.last - b.base,b.src,b.epoch,b.pid,b.gen,b.seq]
def eO(l:Ki):Kf:=l.flatMap pvB
def kh(b:Batch):UInt8:=UInt8.ofNat (b.ctl.toNat+if b.txn=true then 4 else 0)
def fH(base stamp:Int)(l:List Rec):Kf:=l.flatMap fun r=>prB r base stamp
def jg(b:Batch):Kf:=match b.recs with
 | []=>[]
 | r :: rs=>pvB r.stamp++fH b.base r.stamp (r :: rs)
def fL(b:Batch):Kf:=eO (fz b)++[kh b]++pvB b.recs.length++jg b
def dK(b:Batch):Kf:=mA (gW (fL b)).length 4++gW (fL b)
theorem nF:∀ (l:Ki),(eO l).length≤10 * l.length
 | []=>by simp[eO]
 | n :: l=>by
  have:=nF l;have h2:=gD n;simp[eO]at this ⊢;omega
theorem uM{l:Ki}{k:Nat}{n:Int}(h:l[k]?=some n):eO (l.take (k+1))=eO (l.take k)++pvB n:=by
 have hk:=List.getElem?_eq_some_iff.1 h;rw[List.take_succ_eq_append_getElem hk.1,hk.2];simp[eO]
theorem uh{base stamp:Int}{l:List Rec}{k:Nat}{r:Rec}(h:l[k]?=some r):fH base stamp (l.take (k+1))=fH base stamp (l.take k)++prB r base stamp:=by
 have hk:=List.getElem?_eq_some_iff.1 h;rw[List.take_succ_eq_append_getElem hk.1,hk.2];simp[fH]
theorem vX{r:Rec}{base stamp:Int}(hk:r.key.size≤64)(hv:r.val.size≤64):(prB r base stamp).length≤169:=by
 have h1:=gD (r.off - base);have h2:=gD (r.stamp - stamp);have h3:=oE r.key;have h4:=oE r.val;simp[prB];omega
theorem sQ:∀ (l:List Rec) (last nx:Int),zG last nx l=true→(∀ r∈l,kz r=0)∧nx+l.length≤max nx (last+1)
 | [],last,nx,_=>⟨by simp,by simp;omega⟩
 | r :: l,last,nx,h=>by
  simp only[zG,Bool.and_eq_true,decide_eq_true_eq]at h;obtain⟨⟨⟨h1,h2⟩,h3⟩,h4⟩:=h;obtain⟨h5,h6⟩:=sQ l last (r.off+1) h4;refine⟨fun x hx=>?_,?_⟩
  ·rcases List.mem_cons.1 hx with rfl | hx
   ·exact h1
   ·exact h5 x hx
  ·simp;omega
theorem lp{b:Batch}(h:kG b):(∀ r∈b.recs,kz r=0)∧b.recs.length≤16:=by
 rcases h.2.2.2.2.2 with h9 | h9
 ·obtain⟨h1,h2⟩:=sQ _ _ _ h9.2;have:=h.2.2.1;exact⟨h1,by omega⟩
 ·rw[h9.2.2.1];exact⟨by simp,by simp⟩
theorem F180:Fun Tryz.prog 180 91 v180 c180 o180:=Fun.mk' Tryz.func180 Tryz.ntmps180 (by kernel_rfl) (by kernel_rfl) s180 q180
theorem DJ{b:Batch}{k:Nat}{n:Int}(h:(fz b)[k]?=some n):xh 7 1 none (.agg #[.int .i64 b.base,.int .i64 (b.last - b.base),.int .i64 b.src,.int .i64 b.epoch,.int .i64 b.pid,.int .i64 b.gen,.int .i64 b.seq]) (.int .i64 (k:Int))=some (.int .i64 n):=by
 have hk:=(List.getElem?_eq_some_iff.1 h).1;simp[fz]at hk
 match k,h with
 | 0,h=>cases h;rfl
 | 1,h=>cases h;rfl
 | 2,h=>cases h;rfl
 | 3,h=>cases h;rfl
 | 4,h=>cases h;rfl
 | 5,h=>cases h;rfl
 | 6,h=>cases h;rfl
theorem JA{n:Int}(h:n=0∨n=1∨n=2):ff .or (.int .u8 (IntKind.u8.wrap n)) (.int .u8 4)=some (.int .u8 ((UInt8.ofNat (n.toNat+4)).toNat:Int)):=by
 rcases h with rfl | rfl | rfl <;> rfl
theorem E6{n:Int}(h:n=0∨n=1∨n=2):IntKind.u8.wrap n=((UInt8.ofNat n.toNat).toNat:Int):=by
 rcases h with rfl | rfl | rfl <;> rfl
theorem yY(x:Batch)(cs:J6)(G:J5)(hx:BE G x cs)(hf:kG x):FnO Tryz.prog 180 #[.agg cs.toArray] G [] (fun _ L' r=>sn (dK x) L' r):=by
 obtain⟨A,c,rfl,⟨hc,hm,hA⟩,i1,i2,i3,i4,i5,i6,i7,i8⟩:=hx;have hf0:=hf;obtain⟨⟨f1,f2,f3⟩,⟨f4,f5,f6⟩,⟨f7,f8,f9,f10⟩,f11,f12,f13⟩:=hf;simp[rng]at f1 f2 f3 f4 f5 f6;refine F180.fnO (by simp) dw (dI ?_);unfold c180 eP;have w1:IntKind.i64.wrap (x.last - x.base)=x.last - x.base:=by rw[dX] <;> omega
 intros;refine gR 0 0 c180r0.eq_1 ?_;intros;refine gR 0 0 c180r1.eq_1 ?_;intros;refine gR2 13 29 c180r2.eq_1 @w1 ?_;intros;refine dy ?_;refine dA (dW none 5 1) ?_
 refine dV (fun e h=>∃ (k:Nat) (G':J5) (u:Value) (zc:J6),(k≤7∧Gle G G'∧Cells UE 1 (eO ((fz x).take k)) zc)∧e 30=.int .i64 k∧e 29=.agg #[.int .i64 x.base,.int .i64 (x.last - x.base),.int .i64 x.src,.int .i64 x.epoch,.int .i64 x.pid,.int .i64 x.gen,.int .i64 x.seq]∧e 3=u∧h.G=G'∧h.D=[]∧[.row u 5 1 (eO ((fz x).take k)).length zc,.reg 1 [.int .i64 x.base,.int .i64 x.last,.int .i64 x.src,.int .i64 x.epoch,.int .i64 x.pid,.int .i64 x.gen,.int .i64 x.seq,.bool x.txn,.int .i64 x.ctl,.slice A x.recs.length c]].Sublist h.L) (fun e h=>7 - iv (e 30)) ?_ ?_
 ·exact⟨0,G,_,[],⟨Nat.zero_le _,.refl _,.nil⟩,eE,eE,eE,rfl,rfl,List.Sublist.refl _⟩
 ·rintro e ⟨G',L,D⟩ ⟨k,G2,u,zc,⟨hk,hgg,hcs⟩,e30,e29,e3,hG,hD,hL⟩;dsimp only at hG hD hL;subst hG hD;refine dA (dE hL) ?_;refine dC [3,29,30] ?_;refine sJ3 @e3 @e29 @e30 ?_;have hhl:=nF ((fz x).take k);have hh7:((fz x).take k).length≤7:=by simp[fz];omega
  intros;refine gR 0 0 c180r3.eq_1 ?_;intros;refine gC ?_;refine gb (fun ht=>?_) (fun ht=>?_)
  ·have hkl:k < 7:=by simp at ht;omega
   have hw3:=fi k 7 (by omega) (by unfold maxLen;omega);obtain⟨n,hn⟩:∃ n,(fz x)[k]?=some n:=⟨(fz x)[k]'(by simp[fz];omega),getElem?_eq_getElem _⟩;have hin:I64 n:=by
    have:=mem_of_getElem? hn;simp[fz]at this;unfold I64 at *;omega
   have hix:=DJ hn;have hsucc:=uM hn
   (repeat first | refine ek ?_ | refine kl ?_)
   intros;refine gR2 32 33 c180r4.eq_1 @hix ?_;intros;refine gR 33 36 c180r5.eq_1 ?_;refine fD F200.enters (dT [] _ (by decide) hcs) ?_;rintro h' ⟨G3,rfl,hg3,hv3⟩;refine(jt _ n hin _ G3 hv3 (by omega) _ []).mono ?_;rintro r h' ⟨G4,L',rfl,hg4,ys,hys,rfl⟩;rw[← hsucc]at hys ⊢;refine sI ?_;intros;refine gR2 36 37 c180r6.eq_1 @hw3 ?_;intros;refine dy ?_
   refine ej ⟨⟨k+1,G4,_,ys,⟨by omega,hgg.trans (hg3.trans hg4),hys⟩,eE,eE,eE,rfl,rfl,List.Sublist.refl _⟩,?_⟩;refine sI ?_;omega
  ·have hkl:k=7:=by simp at ht;omega
   subst hkl;rw[show(fz x).take 7=fz x from rfl]at hcs hhl ⊢;have hmx:=lp hf0;have hh8:(fz x).length=7:=rfl;refine dS ?_;refine sI ?_;intros;refine gR 38 40 c180r7.eq_1 ?_;have hend:∀ (e:Env) (G6:J5) (u:Value) (zc:J6),Cells UE 1 (fL x) zc→(fL x).length≤5000→e 3=u →
     go none Tryz.prog 91 v180.1 v180.2 (gl o180 fun v h=>sn (dK x) h.L v) [Td.s ((SC.reg false c180r20).seq ((SC.reg false c180r21).seq SC.ret))] e ⟨G6,[.row u 5 1 (fL x).length zc,.reg 1 [.int .i64 x.base,.int .i64 x.last,.int .i64 x.src,.int .i64 x.epoch,.int .i64 x.pid,.int .i64 x.gen,.int .i64 x.seq,.bool x.txn,.int .i64 x.ctl,.slice A x.recs.length c]],[]⟩:=fun e G6 u zc hzc hbl e3=>by
    refine dC [3] ?_;refine sJ @e3 ?_;intros;refine gR 83 85 c180r20.eq_1 ?_;refine fD F202.enters (dT [] _ (by decide) hzc) ?_;rintro h' ⟨G7,rfl,hg7,hv7⟩;refine(Cp _ _ G7 hv7 (by omega) _ []).mono ?_;rintro r h' ⟨G8,L',rfl,hg8,ys,hys,rfl⟩;refine sI ?_;intro _;have hsl:=kd (fL x);refine ei (dT [] _ (by decide) hys) ?_;rintro h' ⟨G9,rfl,hg9,hv9⟩;obtain⟨As,cs',rfl,-,-,-⟩:=id hv9
    have hwl:IntKind.u64.wrap ((gW (fL x)).length:Int)=((gW (fL x)).length:Int):=by rw[IntKind.wrap_u64];omega
    intros;refine gR2 85 91 c180r21.eq_1 @hwl ?_;refine(xE [] (gW (fL x)).length 4 (by omega) (by omega) _ G9 SB.nil (by simp) _ []).mono ?_;rintro r h' ⟨G10,L',rfl,hg10,ys2,hys2,rfl⟩;simp only[List.nil_append]at hys2 ⊢;refine sI ?_;refine my (L1:=[]) (.inl rfl) (SB.le hv9 hg10) rfl UE1 (by rw[gB];unfold maxLen;omega) fun ys' A' c' hc'=>?_
    have hh:=hys2.app hc';refine sI ?_;intros;refine dy ?_;refine dG (dL _ rfl (.cons_cons _ Km) (dz dw) ?_);rw[← length_append];exact⟨_,hh,rfl⟩
   have hrest:∀ (e:Env),e 3=u→e 6=.int .u8 ((kh x).toNat:Int) →
     go none Tryz.prog 91 v180.1 v180.2 (gl o180 fun v h=>sn (dK x) h.L v) [Td.s ((SC.rgX c180r10).seq (((SC.reg false c180r11).seq (SC.cond (O.t 55) ((SC.reg false c180r12).seq ((SC.reg false c180r13).seq ((SC.reg false c180r14).seq (SC.blk 2 ((SC.reg false c180r15).seq ((SC.cond (O.t 68) SC.skip (SC.exit 2)).seq ((SC.blk 3 ((SC.reg false c180r16).seq ((SC.reg false c180r17).seq (SC.reg false c180r18)))).seq (SC.reg false c180r19)))).loop)))) SC.skip)).seq ((SC.reg false c180r20).seq ((SC.reg false c180r21).seq SC.ret))))] e ⟨G',[.row u 5 1 (eO (fz x)).length zc,.reg 1 [.int .i64 x.base,.int .i64 x.last,.int .i64 x.src,.int .i64 x.epoch,.int .i64 x.pid,.int .i64 x.gen,.int .i64 x.seq,.bool x.txn,.int .i64 x.ctl,.slice A x.recs.length c]],[]⟩:=fun e e3 e6=>by
    refine dC [3,6] ?_;refine sJ2 @e3 @e6 ?_;intros;refine dy ?_;refine nP _ (.cons _ Kl) (by decide) ?_;refine sJ c180r10.eq_1 ?_;intro bk hbk;refine⟨dO Kp (.cons _ (.cons _ Kl)),?_⟩;refine sI ?_;refine yU (L1:=[]) (L2:=[_]) (x:=kh x) rfl rfl hcs (by omega) fun A' c' zc' hzc=>?_
    refine sI ?_;refine⟨dO Kp (.cons _ (.cons _ Kl)),?_⟩;refine sI ?_;refine fD F200.enters (dT [_] _ (by decide) hzc) ?_;rintro h' ⟨G4,rfl,hg4,hv4⟩;refine(jt _ x.recs.length (by unfold I64;omega) _ G4 hv4 (by simp;omega) _ []).mono ?_;rintro r h' ⟨G5,L',rfl,hg5,ys5,hys5,rfl⟩;refine⟨dO (hg4.trans hg5) (.cons _ (.cons _ Kl)),?_⟩;refine sI ?_;have hpl:=gD x.recs.length
    (repeat first | (with_reducible intro _) | refine dx ?_)
    refine dA (dE (L':=[.row r 5 1 (eO (fz x)++[kh x]++pvB x.recs.length).length ys5,.reg 1 [.int .i64 x.base,.int .i64 x.last,.int .i64 x.src,.int .i64 x.epoch,.int .i64 x.pid,.int .i64 x.gen,.int .i64 x.seq,.bool x.txn,.int .i64 x.ctl,.slice A x.recs.length c]]) ?hsub) ?_
    case hsub=>exact .cons_cons _ (.cons _ Kl)
    intros;refine gR 53 55 c180r11.eq_1 ?_;intros;refine gC ?_;refine gb (fun k1=>?_) (fun k1=>?_)
    ·have hpos:0 < x.recs.length:=by simpa using k1
     obtain⟨r0,h0⟩:∃ r0,x.recs[0]?=some r0:=⟨x.recs[0],getElem?_eq_getElem hpos⟩;have hg5:=hgg.trans (hg4.trans hg5);have hA5:=hA.le hg5 (E':=RR) Kp;intros;refine gR 57 61 c180r12.eq_1 ?_;refine hA5.x_lf h0 rfl rfl (fun cs h=>by rw[h.1];rfl) fun a ha=>?_
     refine sI ?_;have hck0:=hmx.1 r0 (mem_of_getElem? h0);obtain⟨⟨-,q0⟩,-,-⟩:=fN hck0;have q0':=q0;simp[inO]at q0';have hst:I64 r0.stamp:=by unfold I64;omega
     intros;refine gR 61 64 c180r13.eq_1 ?_;refine fD F200.enters (dT [] _ (by decide) hys5) ?_;rintro h' ⟨G6,rfl,hg6,hv6⟩;refine(jt _ r0.stamp hst _ G6 hv6 (by simp;omega) _ []).mono ?_;rintro r h' ⟨G7,L',rfl,hg7,ys7,hys7,rfl⟩;have hp7:=gD r0.stamp;refine sI ?_;have hA7:=hA5.le (hg6.trans hg7) (E':=RR) Kp;have hst0:jg x=pvB r0.stamp++fH x.base r0.stamp x.recs:=by
      match hr:x.recs,h0 with
      | r :: rs,h0=>simp[hr]at h0;subst h0;rw[jg,hr]
     generalize hP:eO (fz x)++[kh x]++pvB x.recs.length++pvB r0.stamp=P at hys7 ⊢;have hPl:P.length≤100:=by rw[← hP];simp;omega
     intros;refine gR 0 0 c180r14.eq_1 ?_;intros;refine dy ?_
     refine dV (fun e h=>∃ (k:Nat) (G':J5) (u:Value) (zc:J6),(k≤x.recs.length∧Gle G7 G'∧Cells UE 1 (P++fH x.base r0.stamp (x.recs.take k)) zc∧(fH x.base r0.stamp (x.recs.take k)).length≤169 * k)∧e 67=.int .i64 k∧e 66=.int .i64 x.recs.length∧e 65=.slice A x.recs.length c∧e 7=.int .i64 r0.stamp∧e 3=u∧h.G=G'∧h.D=[]∧[.row u 5 1 (P++fH x.base r0.stamp (x.recs.take k)).length zc,.reg 1 [.int .i64 x.base,.int .i64 x.last,.int .i64 x.src,.int .i64 x.epoch,.int .i64 x.pid,.int .i64 x.gen,.int .i64 x.seq,.bool x.txn,.int .i64 x.ctl,.slice A x.recs.length c]].Sublist h.L) (fun e h=>x.recs.length - iv (e 67)) ?_ ?_
     ·exact⟨0,G7,r,ys7,⟨Nat.zero_le _,.refl _,by simpa [fH]using hys7,by simp[fH]⟩,eE,eE,eE,eE,eE,rfl,rfl,by simp[fH]⟩
     ·rintro e ⟨G',L,D⟩ ⟨k,G2,u,zc,⟨hk,hgg,hcs,hrl⟩,e67,e66,e65,e7,e3,hG,hD,hL⟩;dsimp only at hG hD hL;subst hG hD;refine dA (dE hL) ?_;refine dC [3,7,65,66,67] ?_;refine sJ5 @e3 @e7 @e65 @e66 @e67 ?_;intros;refine gR 0 0 c180r15.eq_1 ?_;intros;refine gC ?_;refine gb (fun ht=>?_) (fun ht=>?_)
      ·have hkl:k < x.recs.length:=by simpa using ht
       have hw3:=fi k c (by omega) hm;obtain⟨r,hr⟩:∃ r,x.recs[k]?=some r:=⟨x.recs[k],getElem?_eq_getElem (by omega)⟩;have hsucc:=uh (base:=x.base) (stamp:=r0.stamp) hr;have hckr:=hmx.1 r (mem_of_getElem? hr);have hcs':=fN hckr;have hpl:=vX (base:=x.base) (stamp:=r0.stamp) hcs'.2.1 hcs'.2.2;have hput:nY r x.base r0.stamp=(prB r x.base r0.stamp,0):=by
        rw[nY,if_neg (by simp[hckr]),if_neg (by simp[inO,f1,q0'])]
       have hAk:=hA7.le hgg (E':=RR) Kp;intros;refine gN ?_;intros;refine gR 69 71 c180r16.eq_1 ?_;refine hAk.x_ld hr rfl rfl ?_;rintro a1 ha1 cs ⟨rfl,-⟩;have hPut:=Eo r x.base r0.stamp;unfold ia at hPut ⊢;refine sI ?_;intros;refine gR 71 79 c180r17.eq_1 ?_;refine(hPut G' _ []).mono ?_;rintro v h' ⟨G8,L',rfl,hg8,w,rfl,ys8,hys8,rfl⟩;rw[hput]at hys8 ⊢;refine sI ?_;intro _
       refine ei (dT [] _ (by decide) hys8) ?_;rintro h' ⟨G9,rfl,hg9,hv9⟩;intros;refine gR 79 82 c180r18.eq_1 ?_;refine my (L1:=[_]) (.inl rfl) hv9 rfl UE1 (by simp;unfold maxLen;omega) fun ys' A' c' hc'=>?_
       have hh:=hcs.app hc';rw[append_assoc,← hsucc]at hh;rw[← length_append,append_assoc,← hsucc];refine sI ?_;intros;refine gR2 82 83 c180r19.eq_1 @hw3 ?_;intros;refine dy ?_;refine ej ⟨⟨k+1,G9,_,_,⟨by omega,hgg.trans (hg8.trans hg9),hh,by rw[hsucc,length_append];omega⟩,eE,eE,eE,eE,eE,rfl,rfl,.cons _ Kl⟩,?_⟩;refine sI ?_;omega
      ·have hkl:k=x.recs.length:=by simp at ht;omega
       subst hkl;rw[take_length]at hcs hrl;have hbody:fL x=P++fH x.base r0.stamp x.recs:=by rw[fL,hst0,← hP];simp
       refine dS ?_;refine sI ?_;rw[take_length,← hbody];rw[← hbody]at hcs;refine hend _ G' _ zc hcs (by rw[hbody];simp;omega) ?_
       (refine sI ?_;try with_reducible exact True.intro)
    ·have hnil:x.recs=[]:=by have:=Ko k1;exact List.eq_nil_of_length_eq_zero (by omega)
     have htl:jg x=[]:=by rw[jg,hnil]
     have hbody:fL x=eO (fz x)++[kh x]++pvB x.recs.length:=by rw[fL,htl,append_nil]
     rw[← hbody]at hys5 ⊢
     (repeat first | refine ek ?_ | refine kl ?_)
     refine hend _ G5 _ ys5 hys5 (by rw[hbody];simp;omega) ?_
     (refine sI ?_;try with_reducible exact True.intro)
   have hctl:x.ctl=0∨x.ctl=1∨x.ctl=2:=by
    rcases f13 with h | h
    ·exact .inl h.1
    ·exact .inr h.1
   intros;refine gR 0 0 c180r8.eq_1 ?_;intros;refine gC ?_;refine gb (fun k1=>?_) (fun k1=>?_)
   ·have hm4:=JA hctl;intros;refine gR2 42 44 c180r9.eq_1 @hm4 ?_;intro _
    (repeat first | refine ek ?_ | refine kl ?_)
    refine hrest _ ?_ ?_ <;> (refine sI ?_;try with_reducible exact True.intro);rw[kh,if_pos k1]
   ·(repeat first | refine ek ?_ | refine kl ?_)
    refine hrest _ ?_ ?_ <;> (refine sI ?_;try with_reducible exact True.intro);rw[kh,if_neg (by rw[k1];simp),E6 hctl];rfl
theorem rD:∀ (l:Ki),(∀ x∈l,I64 x)→Cells IE 1 l (l.map fun n=>.int .i64 n)
 | [],_=>.nil
 | n :: l,h=>.cons (cs:=[.int .i64 n]) ⟨rfl,h n (.head _)⟩ rfl (rD l fun x hx=>h x (.tail _ hx))
theorem F154:Fun Tryz.prog 154 14 v154 c154 o154:=Fun.mkA Tryz.func154 Tryz.ntmps154
theorem F118:Fun Tryz.prog 118 11 v118 c118 o118:=Fun.mkA Tryz.func118 Tryz.ntmps118
theorem F120:Fun Tryz.prog 120 12 v120 c120 o120:=Fun.mkA Tryz.func120 Tryz.ntmps120
def fx(b:Batch):Int:=if kG b then(if (dK b).length≤2048 then 0 else 2)else 1
def D6(b:Batch):Kf × Int:=if fx b=0 then(dK b,0)else([],fx b)
def Dd(b:Batch):Nat:=(D6 b).1.length
theorem Fh{b:Batch}(h:¬ kG b):fx b=1:=if_neg h
theorem FV{b:Batch}(h:kG b)(h2:¬ (dK b).length≤2048):fx b=2:=by rw[fx,if_pos h,if_neg h2]
theorem Ft{b:Batch}(h:kG b)(h2:(dK b).length≤2048):fx b=0:=by rw[fx,if_pos h,if_pos h2]
theorem vp{b:Batch}(h:fx b=0):D6 b=(dK b,0):=if_pos h
theorem wz{b:Batch}(h:¬ fx b=0):D6 b=([],fx b):=if_neg h
theorem ja{b:Batch}(h:fx b=0):kG b∧(dK b).length≤2048:=by
 unfold fx at h;split at h
 ·rename_i h1;split at h
  ·rename_i h2;exact⟨h1,h2⟩
  ·cases h
 ·cases h
theorem vi{b:Batch}(hf:kG b):(fL b).length≤4900:=by
 obtain⟨h1,h2⟩:=lp hf;have a1:=nF (fz b);have a2:(fz b).length=7:=rfl;have a3:=gD b.recs.length;have a4:(jg b).length≤10+169 * b.recs.length:=by
  cases hr:b.recs with
  | nil=>simp[jg,hr]
  | cons r rs =>
   have a5:=gD r.stamp;have a6:∀ (l:List Rec) (st:Int),(∀ r∈l,kz r=0)→(fH b.base st l).length≤169 * l.length:=fun l=>by
    induction l with
    | nil=>simp[fH]
    | cons q l ih =>
     intro st h;have e1:=ih st fun r hr=>h r (.tail _ hr)
     have e2:=fN (h q (.head _));have e3:=vX (base:=b.base) (stamp:=st) e2.2.1 e2.2.2;simp[fH]at e1 ⊢;omega
   have a7:=a6 (r :: rs) r.stamp (by rw[← hr];exact h1);simp only[jg,hr,length_append];omega
 simp only[fL,length_append,length_cons,List.length_nil];omega
theorem kt(b:Batch):(dK b).length=(fL b).length+8:=by
 simp only[dK,length_append,gB,kd];omega
theorem oH(x:Batch)(cs:J6)(G:J5)(hx:BE G x cs):FnO Tryz.prog 154 #[.agg cs.toArray] G [] (fun _ L' r=>zy (D6 x) L' r):=by
 have h1:=xG x cs G hx;have h2:=yY x cs G hx;obtain⟨A,c,rfl,-⟩:=hx;refine F154.fnO (by simp) dw (dI ?_);unfold c154;unfold eP at h1 h2 ⊢;intros;refine gR 0 0 c154r0.eq_1 ?_;intros;refine gR 5 7 c154r1.eq_1 ?_;refine fK (h1 _ _) ?_;intros;refine gC ?_;refine gb (fun k1=>?_) (fun k1=>?_)
 ·have k1:¬ kG x:=by simpa using k1
  intros;refine gR 0 0 c154r2.eq_1 ?_;intros;refine dy ?_;refine dA (dW none 5 1) ?_;refine dG (dL _ rfl (.cons_cons _ Km) (dz dw) ?_);have he:=Fh k1;rw[wz (by rw[he];decide),he];exact⟨_,rfl,[],.nil,rfl⟩
 have k1:kG x:=by simpa using k1
 have hbl:=vi k1;have hwl:=kt x;intros;refine gN ?_;intros;refine gR 8 10 c154r3.eq_1 ?_;refine(h2 k1 _ []).mono ?_;rintro r h' ⟨G1,L',rfl,hg1,ys,hys,rfl⟩;refine sI ?_;intro _;intros;try refine dx ?_
 refine ei (gU (.head _)) ?_;rintro h' ⟨rfl,A2,c2,rfl,hc2,hm2⟩;intros;refine gR 10 12 c154r4.eq_1 ?_;intros;refine gC ?_;refine gb (fun k2=>?_) (fun k2=>?_)
 ·have k2:¬ (dK x).length≤2048:=by have:=Kn k2;omega
  intros;refine gR 0 0 c154r5.eq_1 ?_;intros;refine dy ?_;refine dA (dW none 5 1) ?_;refine dG (dL _ rfl (.cons_cons _ Km) (dz dw) ?_);have he:=FV k1 k2;rw[wz (by rw[he];decide),he];exact⟨_,rfl,[],.nil,rfl⟩
 ·have k2:(dK x).length≤2048:=by have:=Ko k2;omega
  intros;refine gN ?_;intros;refine gR 13 14 c154r6.eq_1 ?_;intros;refine dy ?_;refine dG (dL _ rfl (.cons_cons _ Km) (dz dw) ?_);rw[vp (Ft k1 k2)];exact⟨_,rfl,ys,hys,rfl⟩
theorem Fk(x:Batch):(D6 x).2=fx x:=by
 unfold D6;split
 ·rename_i h;exact h.symm
 ·rfl
theorem ly(x:Batch)(cs:J6)(G:J5)(hx:BE G x cs):FnS Tryz.prog 118 #[.agg cs.toArray] G (.int .i64 (fx x)):=by
 have h1:=oH x cs G hx;obtain⟨A,c,rfl,-⟩:=hx;refine F118.fnS (by simp) (dI ?_);unfold c118;unfold eP at h1 ⊢;intros;refine gR 0 0 c118r0.eq_1 ?_;intros;refine gR 5 10 c118r1.eq_1 ?_;refine(h1 _ []).mono ?_;rintro r h' ⟨G1,L',rfl,hg1,u,rfl,ys,hys,rfl⟩;refine sI ?_;intros;refine gR 10 11 c118r2.eq_1 ?_;intros;refine rW ?_;rw[Fk]
theorem CR(x:Batch)(cs:J6)(G:J5)(hx:BE G x cs):FnS Tryz.prog 120 #[.agg cs.toArray] G (.int .i64 (Dd x)):=by
 have h1:=oH x cs G hx;obtain⟨A,c,rfl,-⟩:=hx;refine F120.fnS (by simp) (dI ?_);unfold c120;unfold eP at h1 ⊢;intros;refine gR 0 0 c120r0.eq_1 ?_;intros;refine gR 4 10 c120r1.eq_1 ?_;refine(h1 _ []).mono ?_;rintro r h' ⟨G1,L',rfl,hg1,u,rfl,ys,hys,rfl⟩;refine sI ?_;intro _;intros;try refine dx ?_
 refine ei (gU (.head _)) ?_;rintro h' ⟨rfl,A2,c2,rfl,hc2,hm2⟩;intros;refine gR 10 12 c120r2.eq_1 ?_;intros;refine rW ?_;rfl
theorem F166:Fun Tryz.prog 166 10 v166 c166 o166:=Fun.mkA Tryz.func166 Tryz.ntmps166
theorem F191:Fun Tryz.prog 191 26 v191 c191 o191:=Fun.mkA Tryz.func191 Tryz.ntmps191
theorem F133:Fun Tryz.prog 133 26 v133 c133 o133:=Fun.mkA Tryz.func133 Tryz.ntmps133
theorem F192:Fun Tryz.prog 192 33 v192 c192 o192:=Fun.mkA Tryz.func192 Tryz.ntmps192
theorem F169:Fun Tryz.prog 169 19 v169 c169 o169:=Fun.mkA Tryz.func169 Tryz.ntmps169
theorem F79:Fun Tryz.prog 79 73 v79 c79 o79:=Fun.mkA Tryz.func79 Tryz.ntmps79
theorem pq{α:Type}[BEq α][LawfulBEq α][DecidableEq α](a b:α):(a == b)=decide (a=b):=by by_cases h:a=b <;> simp[h]
theorem sa{G:J5}{v:Value}{l:Kf}(hl:SB G v l){h:H}(hG:h.G=G):ux h v ⟨l.toArray⟩:=by
 obtain⟨G',L,D⟩:=h;dsimp only at hG;subst hG;obtain⟨A,c,rfl,hc,hm,hA⟩:=hl;cases A with
 | none =>
  match l,hA with
  | [],_=>exact .inl ⟨c,rfl,rfl⟩
  | x :: xs,hA=>obtain⟨a,_,ha,_⟩:=hA 0 x rfl;cases ha
 | some a =>
  refine .inr ⟨a,c,rfl,fun j u hu=>?_⟩;rw[np]at hu;simp[sc]at hu;obtain⟨x,hx,rfl⟩:=hu;obtain⟨a',cs,ha,h1,h2,h3⟩:=hA j x hx;cases ha;have:=h3 0 (.int .u8 (x.toNat:Int)) (by rw[h2];rfl);simp at this;exact .g this
theorem IT(a b:Kf):ff .eql (.string ⟨a.toArray⟩) (.string ⟨b.toArray⟩)=some (.bool (decide (a=b))):=by
 have h:ff .eql (.string ⟨a.toArray⟩) (.string ⟨b.toArray⟩)=some (.bool ((ByteArray.mk a.toArray).toList == (ByteArray.mk b.toArray).toList)):=rfl;rw[h,ByteArray.toList_mk,ByteArray.toList_mk,pq]
theorem zx(l m:Kf)(v u:Value)(G:J5)(hl:SB G v l)(hm:SB G u m):FnS Tryz.prog 166 #[v,u] G (.bool (decide (l=m))):=by
 refine F166.fnS (by simp) (dI ?_);unfold c166;intros;refine gR 0 0 c166r0.eq_1 ?_;intros;refine gR 5 10 c166r1.eq_1 ?_;refine⟨_,sa hl rfl,?_⟩;refine sI ?_;refine⟨_,sa hm rfl,?_⟩;refine sJ @IT ?_;intros;refine rV ?_;simp only[push_cast,Nat.reduceBEq]
instance decRec (a b:Rec):Decidable (a=b):=decidable_of_iff (a.off=b.off∧a.key=b.key∧a.val=b.val∧a.dead=b.dead∧a.stamp=b.stamp) (by cases a;cases b;simp)
instance decBatch (a b:Batch):Decidable (a=b):=decidable_of_iff (a.base=b.base∧a.last=b.last∧a.src=b.src∧a.epoch=b.epoch∧a.pid=b.pid∧a.gen=b.gen∧a.seq=b.seq∧a.txn=b.txn∧a.ctl=b.ctl∧a.recs=b.recs) (by cases a;cases b;simp)
theorem EG(a b:ByteArray):(a.toList == b.toList)=decide (a=b):=by
 rw[pq,ByteArray.toList_eq,ByteArray.toList_eq];congr 1;apply propext;constructor
 ·intro h;cases a;cases b;simp at h;rw[h]
 ·intro h;rw[h]
theorem I7(a b:Rec):eqC [0,2,2,1,0] (ia a) (ia b)=some (decide (a=b)):=by
 have h:(a=b)↔(a.off=b.off∧a.key=b.key∧a.val=b.val∧a.dead=b.dead∧a.stamp=b.stamp):=by cases a;cases b;simp
 simp only[ia,eqC,if_true,Option.map_some,EG,h];rw[pq a.dead b.dead];simp only[Bool.and_true,Bool.decide_and]
theorem kY{α:Type}[DecidableEq α]{a b:List α}{k:Nat}(hk:k=a.length)(hl:a.length=b.length)(h:a.take k=b.take k):a=b:=by
 subst hk;rw[take_length,hl,take_length]at h;exact h
theorem iZ{α:Type}{a b:List α}{k:Nat}{x y:α}(h:a.take k=b.take k)(hx:a[k]?=some x)(hy:b[k]?=some y)(hxy:x=y):a.take (k+1)=b.take (k+1):=by
 have h1:=List.getElem?_eq_some_iff.1 hx;have h2:=List.getElem?_eq_some_iff.1 hy;rw[List.take_succ_eq_append_getElem h1.1,List.take_succ_eq_append_getElem h2.1,h,h1.2,h2.2,hxy]
theorem yz(a b:List Rec)(v u:Value)(G:J5)(ha:SlV G RR 5 v a)(hb:SlV G RR 5 u b):FnS Tryz.prog 191 #[v,u] G (.bool (decide (a=b))):=by
 obtain⟨A,c,rfl,hc,hm,hA⟩:=ha;obtain⟨B,d,rfl,hd,hn,hB⟩:=hb;refine F191.fnS (by simp) (dI ?_);unfold c191;intros;refine gR 0 0 c191r0.eq_1 ?_;intros;refine gR 6 10 c191r1.eq_1 ?_;intros;refine gC ?_;refine gb (fun h1=>?_) (fun h1=>?_)
 ·have h1:=Kn h1;intros;refine gR 0 0 c191r2.eq_1 ?_;intros;refine rW ?_;rw[decide_eq_false fun h=>h1 (by rw[h])]
 ·have h1:a.length=b.length:=by have:=Ko h1;omega
  intros;refine gN ?_;intros;refine gR 11 12 c191r3.eq_1 ?_;intros;refine dy ?_;refine dV (fun e h=>∃ k:Nat,(k≤a.length∧a.take k=b.take k)∧e 13=.int .i64 k∧e 12=.int .i64 a.length∧e 0=.slice A a.length c∧e 1=.slice B b.length d∧h=⟨G,[],[]⟩) (fun e h=>a.length - iv (e 13)) ?_ ?_
  ·exact⟨0,⟨Nat.zero_le _,rfl⟩,eE,eE,eE,eE,rfl⟩
  ·rintro e h ⟨k,⟨hk,htk⟩,e13,e12,e0,e1,rfl⟩;refine dC [0,1,12,13] ?_;refine sJ4 @e0 @e1 @e12 @e13 ?_;intros;refine gR 0 0 c191r4.eq_1 ?_;intros;refine gC ?_;refine gb (fun h2=>?_) (fun h2=>?_)
   ·have hkl:k < a.length:=by simpa using h2
    have hw3:=fi k c (by omega) hm;obtain⟨x,hx⟩:∃ x,a[k]?=some x:=⟨a[k],getElem?_eq_getElem (by omega)⟩;obtain⟨y,hy⟩:∃ y,b[k]?=some y:=⟨b[k],getElem?_eq_getElem (by omega)⟩;intros;refine gN ?_;intros;refine gR 15 16 c191r5.eq_1 ?_;intros;refine dy ?_;refine uS 16 24 (by decide) ?_;refine sJ c191r6.eq_1 ?_;refine hA.y_ld hx rfl rfl ?_;rintro a1 ha1 cs ⟨rfl,-⟩;refine sI ?_
    refine hB.y_ld hy rfl rfl ?_;rintro a2 ha2 cs ⟨rfl,-⟩;refine sJ @I7 ?_;intros;refine gC ?_;refine gb (fun h3=>?_) (fun h3=>?_)
    ·have h3:¬ x=y:=by simpa using h3
     intros;refine gR 0 0 c191r7.eq_1 ?_;intros;refine rW ?_;rw[decide_eq_false fun h=>h3 (by subst h;rw[hx]at hy;cases hy;rfl)]
    ·have h3:x=y:=by simpa using h3
     intros;refine gN ?_;intros;refine gR2 25 26 c191r8.eq_1 @hw3 ?_;intros;refine dy ?_;refine ej ⟨⟨k+1,⟨by omega,iZ htk hx hy h3⟩,eE,eE,eE,eE,rfl⟩,?_⟩;refine sI ?_;omega
   ·have hkl:k=a.length:=by simp at h2;omega
    refine dS ?_;refine sI ?_;intros;refine gR 0 0 c191r9.eq_1 ?_;intros;refine rW ?_;rw[decide_eq_true (kY hkl h1 htk)]
theorem r8(a b:List Rec)(v u:Value)(G:J5)(ha:SlV G RR 5 v a)(hb:SlV G RR 5 u b):FnS Tryz.prog 133 #[v,u] G (.bool (decide (a=b))):=by
 obtain⟨A,c,rfl,hc,hm,hA⟩:=ha;obtain⟨B,d,rfl,hd,hn,hB⟩:=hb;refine F133.fnS (by simp) (dI ?_);unfold c133;intros;refine gR 0 0 c133r0.eq_1 ?_;intros;refine gR 6 10 c133r1.eq_1 ?_;intros;refine gC ?_;refine gb (fun h1=>?_) (fun h1=>?_)
 ·have h1:=Kn h1;intros;refine gR 0 0 c133r2.eq_1 ?_;intros;refine rW ?_;rw[decide_eq_false fun h=>h1 (by rw[h])]
 ·have h1:a.length=b.length:=by have:=Ko h1;omega
  intros;refine gN ?_;intros;refine gR 11 12 c133r3.eq_1 ?_;intros;refine dy ?_;refine dV (fun e h=>∃ k:Nat,(k≤a.length∧a.take k=b.take k)∧e 13=.int .i64 k∧e 12=.int .i64 a.length∧e 0=.slice A a.length c∧e 1=.slice B b.length d∧h=⟨G,[],[]⟩) (fun e h=>a.length - iv (e 13)) ?_ ?_
  ·exact⟨0,⟨Nat.zero_le _,rfl⟩,eE,eE,eE,eE,rfl⟩
  ·rintro e h ⟨k,⟨hk,htk⟩,e13,e12,e0,e1,rfl⟩;refine dC [0,1,12,13] ?_;refine sJ4 @e0 @e1 @e12 @e13 ?_;intros;refine gR 0 0 c133r4.eq_1 ?_;intros;refine gC ?_;refine gb (fun h2=>?_) (fun h2=>?_)
   ·have hkl:k < a.length:=by simpa using h2
    have hw3:=fi k c (by omega) hm;obtain⟨x,hx⟩:∃ x,a[k]?=some x:=⟨a[k],getElem?_eq_getElem (by omega)⟩;obtain⟨y,hy⟩:∃ y,b[k]?=some y:=⟨b[k],getElem?_eq_getElem (by omega)⟩;intros;refine gN ?_;intros;refine gR 15 16 c133r5.eq_1 ?_;intros;refine dy ?_;refine uS 16 24 (by decide) ?_;refine sJ c133r6.eq_1 ?_;refine hA.y_ld hx rfl rfl ?_;rintro a1 ha1 cs ⟨rfl,-⟩;refine sI ?_
    refine hB.y_ld hy rfl rfl ?_;rintro a2 ha2 cs ⟨rfl,-⟩;refine sJ @I7 ?_;intros;refine gC ?_;refine gb (fun h3=>?_) (fun h3=>?_)
    ·have h3:¬ x=y:=by simpa using h3
     intros;refine gR 0 0 c133r7.eq_1 ?_;intros;refine rW ?_;rw[decide_eq_false fun h=>h3 (by subst h;rw[hx]at hy;cases hy;rfl)]
    ·have h3:x=y:=by simpa using h3
     intros;refine gN ?_;intros;refine gR2 25 26 c133r8.eq_1 @hw3 ?_;intros;refine dy ?_;refine ej ⟨⟨k+1,⟨by omega,iZ htk hx hy h3⟩,eE,eE,eE,eE,rfl⟩,?_⟩;refine sI ?_;omega
   ·have hkl:k=a.length:=by simp at h2;omega
    refine dS ?_;refine sI ?_;intros;refine gR 0 0 c133r9.eq_1 ?_;intros;refine rW ?_;rw[decide_eq_true (kY hkl h1 htk)]
theorem BE.recs{G:J5}{x:Batch}{cs:J6}(h:BE G x cs):∃ A c,cs=eP x (.slice A x.recs.length c)∧SlV G RR 5 (.slice A x.recs.length c) x.recs:=by
 obtain⟨A,c,h1,⟨h2,h3,h4⟩,-⟩:=h;exact⟨A,c,h1,A,c,rfl,h2,h3,h4⟩
theorem Eu(x y:Batch):decide (x=y)=(decide (x.base=y.base) && decide (x.last=y.last) && decide (x.src=y.src) && decide (x.epoch=y.epoch) && decide (x.pid=y.pid) && decide (x.gen=y.gen) && decide (x.seq=y.seq) && (x.txn == y.txn) && decide (x.ctl=y.ctl) && decide (x.recs=y.recs)):=by
 have h:(x=y)↔(x.base=y.base∧x.last=y.last∧x.src=y.src∧x.epoch=y.epoch∧x.pid=y.pid∧x.gen=y.gen∧x.seq=y.seq∧x.txn=y.txn∧x.ctl=y.ctl∧x.recs=y.recs):=by cases x;cases y;simp
 simp only[h,Bool.decide_and,pq,Bool.and_assoc]
theorem yO(x y:Batch)(cs ds:J6)(G:J5)(hx:BE G x cs)(hy:BE G y ds):FnS Tryz.prog 79 #[.agg cs.toArray,.agg ds.toArray] G (.bool (decide (x=y))):=by
 obtain⟨A,c,rfl,hA⟩:=hx.recs;obtain⟨B,d,rfl,hB⟩:=hy.recs;refine F79.fnS (by simp) (dI ?_);unfold c79 eP;intros;refine gR 0 0 c79r0.eq_1 ?_;intros;refine gR 6 73 c79r1.eq_1 ?_;refine gd (fun k1=>?_) (fun k1=>?_);rotate_left
 ·
  refine sI ?_;intros;refine rW ?_;rw[decide_eq_false fun h=>by subst h;simp at k1]
 refine sI ?_;refine gd (fun k2=>?_) (fun k2=>?_);rotate_left
 ·
  refine sI ?_;intros;refine rW ?_;rw[decide_eq_false fun h=>by subst h;simp at k2]
 refine sI ?_;refine gd (fun k3=>?_) (fun k3=>?_);rotate_left
 ·
  refine sI ?_;intros;refine rW ?_;rw[decide_eq_false fun h=>by subst h;simp at k3]
 refine sI ?_;refine gd (fun k4=>?_) (fun k4=>?_);rotate_left
 ·
  refine sI ?_;intros;refine rW ?_;rw[decide_eq_false fun h=>by subst h;simp at k4]
 refine sI ?_;refine gd (fun k5=>?_) (fun k5=>?_);rotate_left
 ·
  refine sI ?_;intros;refine rW ?_;rw[decide_eq_false fun h=>by subst h;simp at k5]
 refine sI ?_;refine gd (fun k6=>?_) (fun k6=>?_);rotate_left
 ·
  refine sI ?_;intros;refine rW ?_;rw[decide_eq_false fun h=>by subst h;simp at k6]
 refine sI ?_;refine gd (fun k7=>?_) (fun k7=>?_);rotate_left
 ·
  refine sI ?_;intros;refine rW ?_;rw[decide_eq_false fun h=>by subst h;simp at k7]
 refine sI ?_;refine gd (fun k8=>?_) (fun k8=>?_);rotate_left
 ·
  refine sI ?_;intros;refine rW ?_;rw[decide_eq_false fun h=>by subst h;simp at k8]
 refine sI ?_;refine gd (fun k9=>?_) (fun k9=>?_);rotate_left
 ·
  refine sI ?_;intros;refine rW ?_;rw[decide_eq_false fun h=>by subst h;simp at k9]
 refine sI ?_;refine fK (r8 _ _ _ _ _ hA hB _ _) ?_;intros;refine rW ?_;rw[Eu,k1,k2,k3,k4,k5,k6,k7,k8,k9];rfl
theorem vQ(x:Batch)(cs:J6)(G:J5)(hx:BE G x cs):
  FnS Tryz.prog 192 #[.agg cs.toArray] G (.agg #[.int .i64 x.base,.int .i64 x.last,.int .i64 x.src,.int .i64 x.epoch,.int .i64 x.pid,.int .i64 x.gen,.int .i64 x.seq,.int .i64 x.ctl,.int .i64 (if x.txn=true then 1 else 0)]):=by
 obtain⟨A,c,rfl,hA⟩:=hx.recs;refine F192.fnS (by simp) (dI ?_);unfold c192 eP;intros;refine gR 0 0 c192r0.eq_1 ?_;intros;refine gR 5 7 c192r1.eq_1 ?_;intros;try refine dx ?_
 refine ez (fun e h=>e 3=.int .i64 (if x.txn=true then IntKind.i64.wrap (IntKind.i64.wrap (x.ctl * 2)+1)else IntKind.i64.wrap (x.ctl * 2))∧h=⟨G,[.reg 2 [.int .i64 0,.int .i64 0,.int .i64 0,.int .i64 0,.int .i64 0,.int .i64 0,.int .i64 0,.int .i64 0,.int .i64 0],.reg 1 [.int .i64 x.base,.int .i64 x.last,.int .i64 x.src,.int .i64 x.epoch,.int .i64 x.pid,.int .i64 x.gen,.int .i64 x.seq,.bool x.txn,.int .i64 x.ctl,.slice A x.recs.length c]],[]⟩) ?_ ?_
 ·intros;refine gR 0 0 c192r2.eq_1 ?_;intros;refine gC ?_;refine gb (fun k1=>?_) (fun k1=>?_)
  ·intros;refine gR 9 11 c192r3.eq_1 ?_;intros;refine dy ?_;refine ej ⟨?_,rfl⟩;rw[if_pos k1]
   (refine sI ?_;try with_reducible exact True.intro)
  ·intros;refine dy ?_;refine ej ⟨?_,rfl⟩;rw[if_neg (by rw[k1];simp)]
   (refine sI ?_;try with_reducible exact True.intro)
 rintro e h ⟨e3,rfl⟩;refine dC [3] ?_;refine sJ @e3 ?_;have hw:IntKind.i64.wrap ((if x.txn=true then IntKind.i64.wrap (IntKind.i64.wrap (x.ctl * 2)+1)else IntKind.i64.wrap (x.ctl * 2)) - IntKind.i64.wrap (x.ctl * 2))=(if x.txn=true then 1 else 0):=by
  simp only[IntKind.wrap_i64];split <;> omega
 intros;refine gr 12 33 ?_;(try simp -implicitDefEqProofs only[nG,nH,push_cast,Nat.reduceBEq,Nat.reduceAdd,Nat.reduceSub,Nat.reduceMul,Nat.reduceLT,Nat.reduceLeDiff,Nat.reduceEqDiff,reduceIte,Bool.not_true,Bool.not_false,true_and,and_true,Option.map_some,Option.bind_some,Int.toNat_natCast,c192r4,hw]);intros;refine rV ?_;simp only[push_cast,Nat.reduceBEq]
theorem BD(x y:Batch)(cs ds:J6)(G:J5)(hx:BE G x cs)(hy:BE G y ds):FnS Tryz.prog 169 #[.agg cs.toArray,.agg ds.toArray] G (.bool (decide (x=y))):=by
 have hhx:=vQ x cs G hx;have hhy:=vQ y ds G hy;obtain⟨A,c,rfl,hA⟩:=hx.recs;obtain⟨B,d,rfl,hB⟩:=hy.recs;refine F169.fnS (by simp) (dI ?_);unfold c169;unfold eP at hhx hhy ⊢;intros;refine gR 0 0 c169r0.eq_1 ?_;intros;refine gR 7 11 c169r1.eq_1 ?_;refine fK (yz _ _ _ _ _ hA hB _ _) ?_;intros;refine gC ?_;refine gb (fun k1=>?_) (fun k1=>?_)
 ·have k1:¬ x.recs=y.recs:=by simpa using k1
  intros;refine gR 0 0 c169r2.eq_1 ?_;intros;refine rW ?_;rw[decide_eq_false fun h=>k1 (by rw[h])]
 have k1:x.recs=y.recs:=by simpa using k1
 intros;refine gN ?_;intros;refine gR 0 0 c169r3.eq_1 ?_;intros;refine dy ?_;refine nP _ Kl (by decide) ?_;refine sJ c169r4.eq_1 ?_;refine .inl ⟨_,_,rfl,?_⟩;refine fK (hhx _ _) ?_;refine .inl ⟨_,_,rfl,?_⟩;refine fK (hhy _ _) ?_;intros;refine rW ?_;rw[Eu,k1];cases x.txn <;> cases y.txn <;> simp[Bool.and_assoc]
theorem F64:Fun Tryz.prog 64 29 v64 c64 o64:=Fun.mkA Tryz.func64 Tryz.ntmps64
theorem FS(x:Batch)(cs:J6)(G:J5)(hx:BE G x cs):FnE Tryz.prog 64 #[.agg cs.toArray] G (fun r=>∃ b,r=.bool b∧(b=true→x.recs.length≤100)):=by
 obtain⟨A,c,rfl,⟨hc,hm,hA⟩,-⟩:=hx;refine F64.fnE (by simp) (dI ?_);unfold c64 eP;intros;refine gR 0 0 c64r0.eq_1 ?_;intros;refine gR 0 0 c64r1.eq_1 ?_;intros;refine gR 0 0 c64r2.eq_1 ?_;intros;refine dy ?_
 refine dV (fun e h=>∃ (k:Nat) (n:Int),(k≤x.recs.length)∧e 9=.int .i64 k∧e 8=.int .i64 x.recs.length∧e 7=.slice A x.recs.length c∧e 3=.int .i64 n∧h.G=G∧h.D=[]∧[.reg 1 [.int .i64 x.base,.int .i64 x.last,.int .i64 x.src,.int .i64 x.epoch,.int .i64 x.pid,.int .i64 x.gen,.int .i64 x.seq,.bool x.txn,.int .i64 x.ctl,.slice A x.recs.length c]].Sublist h.L) (fun e h=>x.recs.length - iv (e 9)) ?_ ?_
 ·exact⟨0,0,Nat.zero_le _,eE,eE,eE,eE,rfl,rfl,List.Sublist.refl _⟩
 ·rintro e ⟨G',L,D⟩ ⟨k,n,hk,e9,e8,e7,e3,hG,hD,hL⟩;dsimp only at hG hD hL;subst hG hD;refine dA (dE hL) ?_;refine dC [3,7,8,9] ?_;refine sJ4 @e3 @e7 @e8 @e9 ?_;intros;refine gR 0 0 c64r3.eq_1 ?_;intros;refine gC ?_;refine gb (fun ht=>?_) (fun ht=>?_)
  ·have hkl:k < x.recs.length:=by simpa using ht
   have hw3:=fi k c (by omega) hm;obtain⟨r,hr⟩:∃ r,x.recs[k]?=some r:=⟨x.recs[k],getElem?_eq_getElem (by omega)⟩;intros;refine gN ?_;intros;refine gR 11 13 c64r4.eq_1 ?_;refine hA.x_ld hr rfl rfl ?_;rintro a1 ha1 cs ⟨rfl,⟨j1,j2⟩,j3,j4⟩;unfold ia;refine sI ?_;intros;refine gR 13 22 c64r5.eq_1 ?_;generalize IntKind.i64.wrap _=m2;intros;refine gR 22 23 c64r6.eq_1 ?_;intros;refine gC ?_
   refine gb (fun h1=>?_) (fun h1=>?_)
   ·intros;refine gR 0 0 c64r7.eq_1 ?_;intros;refine rW ?_;exact⟨false,rfl,fun h=>by cases h⟩
   ·have h1:=Ko h1;intros;refine gN ?_;intros;refine gR2 24 25 c64r8.eq_1 @hw3 ?_;intros;refine dy ?_;refine ej ⟨⟨k+1,m2,by omega,eE,eE,eE,eE,rfl,rfl,.cons _ Kl⟩,?_⟩;refine sI ?_;omega
  ·refine dS ?_;refine sI ?_;intros;refine gR 26 29 c64r9.eq_1 ?_;intros;refine rW ?_;exact⟨_,rfl,fun h=>by have:=Kn h;omega⟩
instance decI64 (n:Int):Decidable (I64 n):=by
 unfold I64
 infer_instance
end Go.Proofs.YtpmofpekcbghnaaGreat

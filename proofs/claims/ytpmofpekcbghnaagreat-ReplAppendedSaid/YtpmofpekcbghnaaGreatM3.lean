/- Parts of a proof, 16 texts in one file. No condition. -/
import Derived.Test.YtpmofpekcbghnaaGreatRows
import Derived.Test.YtpmofpekcbghnaaGreatM1
import Derived.Test.YtpmofpekcbghnaaGreatM2
set_option linter.unusedSimpArgs false
set_option linter.unusedVariables false
namespace Go.Proofs.YtpmofpekcbghnaaGreat
open Go Go.Kx
abbrev ac(a b:Nat):SI:=⟨none,.mv a (.t b),none,0⟩
abbrev af(a:Nat)(b:Int):SI:=⟨none,.mv a (.i b),none,0⟩
abbrev ah(a:Nat):SI:=⟨none,.nop,(some a),0⟩
abbrev ai(a b:Nat):SI:=⟨none,.ld a (.t b) none,none,0⟩
abbrev aj(a b c:Nat):SI:=⟨none,.ldR a b c none,none,0⟩
abbrev ak(a b c:Nat):SI:=⟨none,.flA a (.t b) c,none,0⟩
abbrev am(a b c:Nat):SI:=⟨none,.ext a (.t b) c,none,0⟩
abbrev ao(a b c d:Nat):SI:=⟨none,.stR a b c (.t d),none,0⟩
abbrev aq(a b c:Nat):SI:=⟨none,.call a b [(.t c)],none,0⟩
abbrev ar(a b c d:Nat):SI:=⟨none,.ldR a b c (some d),none,0⟩
abbrev au(a b:Nat):SI:=⟨none,.nck a (.t b),none,0⟩
abbrev av(a b:Nat):SI:=⟨none,.len a false (.t b),none,0⟩
abbrev aw(a b c:Nat):SI:=⟨none,.pick a (.t b) (.b true) (.t c),none,0⟩
abbrev ay(a:Nat):SI:=⟨none,.mv a (.b false),none,0⟩
abbrev az(a b c d:Nat):SI:=⟨none,.call a b [(.t c),(.t d)],none,0⟩
abbrev aA(a b c:Nat):SI:=⟨none,.pick a (.t b) (.t c) (.b false),none,0⟩
abbrev aB(a b c:Nat):SI:=⟨some (a,false),.mv b (.t c),none,b⟩
abbrev aC(a b c:Nat):SI:=⟨none,.st (.t a) b (.t c),none,0⟩
abbrev aD(a b:Nat):SI:=⟨none,.bxR a (.t b),none,0⟩
abbrev aE(a b:Nat)(c:Int):SI:=⟨none,.bin a .add (.t b) (.i c),none,0⟩
abbrev aF(a b c d:Nat):SI:=⟨none,.ixA a (.t b) (.t c) d,none,0⟩
abbrev aG(a b c:Nat):SI:=⟨some (a,true),.mv b (.t c),none,b⟩
abbrev aH(a b:Nat):SI:=⟨some (a,false),.nop,(some b),99999⟩
abbrev aI(a b c d:Nat):SI:=⟨some (a,false),.ldR b c d none,none,b⟩
abbrev aJ(a b c:Nat):SI:=⟨none,.bin a .lss (.t b) (.t c),none,0⟩
abbrev aK(a b c:Nat):SI:=⟨none,.ld a (.t b) (some c),none,0⟩
abbrev aL(a b:Nat):SI:=⟨some (a,true),.nop,(some b),99999⟩
abbrev aM(a:Nat):SI:=⟨none,.mv a (.v (.slice none 0 0)),none,0⟩
abbrev aN(a b c d:Nat):SI:=⟨some (a,true),.ldR b c d none,none,b⟩
abbrev aO(a b:Nat):SI:=⟨none,.un a .not (.t b),none,0⟩
abbrev aP(a b:Nat)(c:Int):SI:=⟨none,.bin a .neq (.t b) (.i c),none,0⟩
abbrev aQ(a b c d e f:Nat):SI:=⟨none,.app a (.t b) (.t c) d e f,none,0⟩
abbrev aR(a b:Nat):SI:=⟨none,.bx a (.t b),none,0⟩
abbrev aS(a b c:Nat):SI:=⟨some (a,false),.un b .not (.t c),none,b⟩
abbrev aT(a b:Nat)(c:Int):SI:=⟨none,.bin a .lss (.t b) (.i c),none,0⟩
abbrev aU(a b c:Nat)(d:Int):SI:=⟨some (a,true),.bin b .eql (.t c) (.i d),none,b⟩
abbrev aV(a b c:Nat):SI:=⟨some (a,false),.ld b (.t c) none,none,b⟩
abbrev aW(a b:Nat)(c:Int):SI:=⟨none,.bin a .eql (.t b) (.i c),none,0⟩
abbrev aX(a b c:Nat)(d:Int):SI:=⟨some (a,false),.bin b .gtr (.t c) (.i d),none,b⟩
abbrev aY(a b c:Nat):SI:=⟨none,.bin a .sub (.t b) (.t c),none,0⟩
abbrev aZ(a b c:Nat):SI:=⟨none,.bin a .add (.t b) (.t c),none,0⟩
abbrev a0(a:Nat):SI:=⟨none,.alR a [(.int .i64 0),(.int .i64 0),(.int .i64 0),(.slice none 0 0),(.slice none 0 0)],none,0⟩
abbrev a8(a:Nat):SI:=⟨none,.alR a [(.int .i64 0),(.int .i64 0),(.int .i64 0),(.int .i64 0),(.int .i64 0),(.int .i64 0),(.int .i64 0),(.bool false),(.int .i64 0),(.slice none 0 0)],none,0⟩
abbrev a9(a b c:Nat):SI:=⟨some (a,false),.len b false (.t c),none,b⟩
abbrev ba(a b c d:Nat):SI:=⟨some (a,false),.call b c [(.t d)],none,b⟩
abbrev bc(a b c d:Nat):SI:=⟨some (a,true),.call b c [(.t d)],none,b⟩
abbrev bd(a b:Nat)(c:Int):SI:=⟨none,.bin a .geq (.t b) (.i c),none,0⟩
abbrev bf(a b c d e:Nat):SI:=⟨none,.call a b [(.t c),(.t d),(.t e)],none,0⟩
abbrev bg(a:Nat):SI:=⟨none,.alR a [(.int .i64 0),(.int .i64 0),(.slice none 0 0)],none,0⟩
abbrev bh(a b c:Nat)(d:Int):SI:=⟨some (a,false),.bin b .neq (.t c) (.i d),none,b⟩
abbrev bi(a b c d e:Nat):SI:=⟨some (a,true),.ldR b c d (some e),none,b⟩
abbrev bj(a:Nat):SI:=⟨none,.bld a [(.int .i64 0),(.int .i64 0),(.int .i64 0),(.int .i64 0),(.int .i64 0),(.int .i64 0),(.int .i64 0),(.bool false),(.int .i64 0),(.slice none 0 0)] [],none,0⟩
abbrev bl(a b c:Nat):SI:=⟨none,.bin a .eql (.t b) (.t c),none,0⟩
abbrev bm(a b:Nat)(c:Int):SI:=⟨none,.bin a .gtr (.t b) (.i c),none,0⟩
abbrev bn(a b:Nat):SI:=⟨none,.cvI a .u64 (.t b),none,0⟩
abbrev bo(a:Nat):SI:=⟨none,.alR a [(.int .i64 0),(.slice none 0 0)],none,0⟩
abbrev bp(a b:Nat):SI:=⟨none,.cvI a .u8 (.t b),none,0⟩
abbrev bq(a b c:Nat)(d:Int):SI:=⟨none,.call a b [(.t c),(.i d)],none,0⟩
abbrev bt(a:Nat):SI:=⟨none,.bld a [(.int .i64 0),(.int .i64 0),(.slice none 0 0)] [],none,0⟩
abbrev bu(a b c d:Nat):SI:=⟨some (a,true),.bin b .eql (.t c) (.t d),none,b⟩
abbrev bw(a b:Nat)(c:Int):SI:=⟨none,.bin a .sub (.t b) (.i c),none,0⟩
abbrev bz(a b c:Nat):SI:=⟨none,.bin a .neq (.t b) (.t c),none,0⟩
abbrev bA(a:Nat):SI:=⟨none,.mv a (.b true),none,0⟩
abbrev bB(a b c d:Nat):SI:=⟨none,.sl a (.t b) none (some (.t c)) none d,none,0⟩
abbrev bC(a b c d:Nat):SI:=⟨some (a,true),.pick b (.t c) (.b true) (.t d),none,b⟩
abbrev bD(a b c d e:Nat):SI:=⟨some (a,true),.ixA b (.t c) (.t d) e,none,b⟩
abbrev bE(a b c:Nat)(d:Int):SI:=⟨some (a,true),.bin b .leq (.t c) (.i d),none,b⟩
abbrev bF(a b c:Nat):SI:=⟨none,.mm a false (.t b) (.t c),none,0⟩
abbrev bG(a b:Nat)(c:Int):SI:=⟨none,.bin a .shr (.t b) (.v (.int .u64 c)),none,0⟩
abbrev bH(a b c d e f g:Nat):SI:=⟨none,.bls a b c d [(.int .u8 0)] [(e,f,(.t g))],none,0⟩
abbrev bI(a:Nat):SI:=⟨none,.al a [(.int .i64 0),(.int .i64 0),(.int .i64 0),(.slice none 0 0),(.slice none 0 0)],none,0⟩
abbrev bJ(a b c:Nat):SI:=⟨some (a,true),.ld b (.t c) none,none,b⟩
abbrev bK(a b c:Nat)(d:Int):SI:=⟨some (a,false),.bin b .lss (.t c) (.i d),none,b⟩
abbrev bL(a:Nat):SI:=⟨none,.al a [(.int .i64 0)],none,0⟩
abbrev bM(a b c:Nat):SI:=⟨none,.mkf a (.func b) [(.t c)],none,0⟩
abbrev bN(a b c d e f g:Nat):SI:=⟨none,.bls a b c d [(.int .i64 0),(.slice none 0 0)] [(e,f,(.t g))],none,0⟩
abbrev bO(a b c d:Nat):SI:=⟨some (a,false),.pick b (.t c) (.t d) (.b false),none,b⟩
abbrev bP(a b c:Nat):SI:=⟨none,.cav a (.t b) [(.t c)],none,0⟩
abbrev bQ(a b c d:Nat)(e:Int):SI:=⟨some (a,false),.call b c [(.t d),(.i e)],none,b⟩
abbrev bR(a b c d:Nat):SI:=⟨none,.cav a (.t b) [(.t c),(.t d)],none,0⟩
abbrev bS(a:Nat)(b:Int):SI:=⟨none,.mv a (.v (.int .u32 b)),none,0⟩
abbrev bT(a b:Nat)(c:Int)(d e:Nat):SI:=⟨none,.ixP a (.t b) (.i c) d e,none,0⟩
abbrev bU(a:Nat):SI:=⟨none,.mv a (.v (.string ⟨#[]⟩)),none,0⟩
abbrev bV(a b c d e:Nat):SI:=⟨some (a,true),.call b c [(.t d),(.t e)],none,b⟩
abbrev bW(a b c:Nat):SI:=⟨some (a,true),.un b .not (.t c),none,b⟩
abbrev bX(a b c d:Nat):SI:=⟨some (a,false),.bin b .gtr (.t c) (.t d),none,b⟩
abbrev bY(a b c d:Nat):SI:=⟨none,.mkf a (.func b) [(.t c),(.t d)],none,0⟩
abbrev bZ(a:Nat):SI:=⟨none,.bl0 a,none,0⟩
abbrev cd(a b c:Nat):SI:=⟨none,.bin a .gtr (.t b) (.t c),none,0⟩
abbrev cf(a:Nat):SI:=⟨none,.alR a [(.int .i64 0),(.string ⟨#[]⟩),(.string ⟨#[]⟩),(.bool false),(.int .i64 0)],none,0⟩
abbrev ci(a b:Nat):SI:=⟨none,.cvI a .i64 (.t b),none,0⟩
abbrev cj(a:Nat):SI:=⟨none,.bld a [(.int .i64 0),(.slice none 0 0)] [],none,0⟩
abbrev ck(a b c:Nat):SI:=⟨none,.bin a .xor (.t b) (.t c),none,0⟩
abbrev cm(a b:Nat):SI:=⟨none,.call a b [],none,0⟩
abbrev cn(a b c:Nat):SI:=⟨some (a,true),.len b false (.t c),none,b⟩
abbrev cp(a b c d:Nat):SI:=⟨some (a,true),.ld b (.t c) (some d),none,b⟩
abbrev cr(a b c d:Nat):SI:=⟨some (a,false),.flA b (.t c) d,none,b⟩
abbrev cv(a b:Nat)(c:Int):SI:=⟨none,.st (.t a) b (.i c),none,0⟩
abbrev cw(a b c:Nat):SI:=⟨none,.mm a true (.t b) (.t c),none,0⟩
abbrev cz(a b:Nat):SI:=⟨none,.isn a false (.t b),none,0⟩
abbrev cA(a b:Nat):SI:=⟨none,.len a true (.t b),none,0⟩
abbrev cB(a b c d:Nat):SI:=⟨some (a,false),.bin b .neq (.t c) (.t d),none,b⟩
abbrev cC(a b c d e:Nat):SI:=⟨some (a,false),.ldR b c d (some e),none,b⟩
abbrev cD(a b c d e:Nat):SI:=⟨some (a,false),.ixA b (.t c) (.t d) e,none,b⟩
abbrev cE(a b:Nat)(c:Int)(d:Nat):SI:=⟨none,.ixA a (.t b) (.i c) d,none,0⟩
abbrev cF(a b c:Nat)(d:Int):SI:=⟨some (a,true),.bin b .sub (.t c) (.i d),none,b⟩
abbrev cG(a:Nat):SI:=⟨none,.mv a (.i (-1)),none,0⟩
abbrev cH(a:Nat):SI:=⟨none,.mv a (.v .nilFunc),none,0⟩
abbrev cI(a b c:Nat):SI:=⟨none,.bin a .geq (.t b) (.t c),none,0⟩
abbrev cJ(a b:Nat)(c:Int):SI:=⟨none,.bin a .quo (.t b) (.v (.int .u32 c)),none,0⟩
abbrev cK(a:Nat)(b:Int):SI:=⟨none,.mv a (.v (.int .u64 b)),none,0⟩
abbrev cL(a b c d e f g:Nat):SI:=⟨none,.bls a b c d [(.int .i64 0),(.int .i64 0),(.int .i64 0),(.int .i64 0),(.int .i64 0),(.int .i64 0),(.int .i64 0),(.bool false),(.int .i64 0),(.slice none 0 0)] [(e,f,(.t g))],none,0⟩
abbrev cM(a:Nat):SI:=⟨none,.bld a [(.int .i64 0),(.int .i64 0),(.int .i64 0),(.slice none 0 0),(.slice none 0 0)] [],none,0⟩
abbrev cN(a b c d e:Nat):SI:=⟨some (a,false),.call b c [(.t d),(.t e)],none,b⟩
abbrev cO(a b:Nat):SI:=⟨none,.bin a .eql (.t b) (.i (-1)),none,0⟩
abbrev cP(a b c d:Nat):SI:=⟨some (a,true),.bin b .leq (.t c) (.t d),none,b⟩
abbrev cQ(a b c d e:Nat):SI:=⟨none,.app a (.v (.slice none 0 0)) (.t b) c d e,none,0⟩
abbrev cR(a b c:Nat):SI:=⟨none,.call a b [(.v (.slice none 0 0)),(.t c)],none,0⟩
abbrev cS(a b:Nat):SI:=⟨none,.st (.t a) b (.b false),none,0⟩
abbrev cT(a b c d:Nat):SI:=⟨none,.sl a (.t b) (some (.t c)) none none d,none,0⟩
abbrev cU(a b c d:Nat)(e:Int):SI:=⟨none,.call a b [(.t c),(.t d),(.i e)],none,0⟩
abbrev cV(a b:Nat):SI:=⟨none,.cav a (.t b) [],none,0⟩
abbrev cW(a b c d e:Nat):SI:=⟨none,.ixP a (.t b) (.t c) d e,none,0⟩
abbrev cX(a b c:Nat)(d:Int)(e f:Nat):SI:=⟨some (a,false),.ixP b (.t c) (.i d) e f,none,b⟩
abbrev cY(a b:Nat)(c:Int):SI:=⟨none,.bin a .leq (.t b) (.i c),none,0⟩
abbrev cZ(a b c d:Nat):SI:=⟨none,.bld a [(.int .i64 0),(.int .i64 0),(.int .i64 0),(.slice none 0 0),(.slice none 0 0)] [(b,c,(.t d))],none,0⟩
abbrev da(a b c d e f g:Nat):SI:=⟨none,.bls a b c d [(.int .i64 0)] [(e,f,(.t g))],none,0⟩
abbrev dh(a b c d:Nat):SI:=⟨none,.bld a [(.int .i64 0),(.slice none 0 0)] [(b,c,(.t d))],none,0⟩
abbrev di(a b c d:Nat):SI:=⟨some (a,true),.bin b .geq (.t c) (.t d),none,b⟩
abbrev dj(a b c:Nat)(d:Int):SI:=⟨some (a,false),.bin b .eql (.t c) (.i d),none,b⟩
abbrev dk(a:Nat):SI:=⟨none,.al a [(.int .i64 0),(.int .i64 0),(.int .i64 0),(.int .i64 0),(.int .i64 0),(.int .i64 0),(.int .i64 0),(.bool false),(.int .i64 0),(.slice none 0 0)],none,0⟩
abbrev dl(a:Nat):SI:=⟨none,.al a [(.int .i64 0),(.slice none 0 0)],none,0⟩
abbrev dm(a:Nat):SI:=⟨none,.alR a [(.int .i64 0),(.int .i64 0)],none,0⟩
abbrev dp(a b c d e f:Nat):SI:=⟨none,.call a b [(.t c),(.t d),(.t e),(.t f)],none,0⟩
abbrev dq(a b c:Nat)(d:Int):SI:=⟨some (a,false),.bin b .geq (.t c) (.i d),none,b⟩
abbrev dr(a b c d:Nat):SI:=⟨some (a,false),.bin b .add (.t c) (.t d),none,b⟩
abbrev dt(a b c d:Nat):SI:=⟨some (a,false),.bin b .lss (.t c) (.t d),none,b⟩
abbrev du(a b c d:Nat):SI:=⟨none,.call a b [(.t c),(.v (.func (.func d) #[] #[]))],none,0⟩
abbrev dv(a b:Nat)(c:Int):SI:=⟨none,.bin a .and (.t b) (.v (.int .u32 c)),none,0⟩
abbrev dw(a b c:Nat)(d:Int)(e f g h i j k l m:Nat):SI:=⟨none,.bld a [(.int .i64 0),(.int .i64 0),(.int .i64 0),(.slice none 0 0),(.slice none 0 0)] [(b,c,(.i d)),(e,f,(.t g)),(h,i,(.t j)),(k,l,(.t m))],none,0⟩
abbrev dx(a:Nat):SI:=⟨none,.bld a [(.int .i64 0),(.string ⟨#[]⟩),(.string ⟨#[]⟩),(.bool false),(.int .i64 0)] [],none,0⟩
abbrev aa(l:List SI):SC:=.reg false l
abbrev ab(a:List SI)(n:Nat)(b:List SI):SC:=.seq (.reg false a) (.cond (.t n) (.seq (.reg false b) .ret) .skip)
def c6r0:List SI:=[aD 2 0,aD 3 1,ay 4]
def c6r1:List SI:=[cm 17 11,ac 5 17]
def c6r2:List SI:=[ar 18 2 0 5,ar 19 3 0 10,az 20 23 18 19,aO 21 20]
def c6r3:List SI:=[ac 22 5,ac 4 22]
def c6r4:List SI:=[ar 24 2 0 5,aq 25 15 24,ac 23 25,am 26 23 0,am 27 23 1,bg 6,ao 6 0 3 26,ac 7 27]
def c6r5:List SI:=[ar 29 2 0 5,ar 30 3 0 10,az 31 25 29 30,ac 28 31,am 32 28 0,am 33 28 1,am 34 28 2,a0 8,ao 8 0 5 32,ac 9 33,ac 10 34]
def c6r6:List SI:=[ac 35 10,aP 36 35 0]
def c6r7:List SI:=[ac 37 5,ac 38 37,aL 38 8,aN 38 40 8 4,cn 38 41 40,aU 38 42 41 0,aA 43 38 42,ac 44 43,aG 44 45 9,aU 44 46 45 0,aA 47 44 46,ac 4 47]
def c6r8:List SI:=[ar 49 8 0 5,aq 50 15 49,ac 48 50,am 51 48 0,am 52 48 1,bg 11,ao 11 0 3 51,ac 12 52]
def c6r9:List SI:=[ac 53 7,aP 54 53 0,ac 55 54,aB 55 56 12,bh 55 57 56 0,aw 58 55 57,ac 59 58,aH 59 8,aI 59 61 8 4,a9 59 62 61,aH 59 2,aI 59 64 2 4,a9 59 65 64,cB 59 66 62 65,aw 67 59 66,ac 68 67,aB 68 69 9,cC 68 70 6 0 3,ba 68 71 22 70,cB 68 72 69 71,aw 73 68 72]
def c6r10:List SI:=[ay 4]
def c6r11:List SI:=[ar 75 3 0 10,ac 76 9,az 77 26 75 76,ac 74 77,am 78 74 0,am 79 74 1,a8 13,ao 13 0 10 78,ac 14 79]
def c6r12:List SI:=[ah 2,aj 81 2 0,ah 13,ao 13 3 1 81]
def c6r13:List SI:=[ar 83 6 0 3,aq 84 27 83,ac 15 84]
def c6r14:List SI:=[ac 85 15,ar 86 13 0 10,cL 87 43 1 10 0 10 86,aQ 88 85 87 43 10 96,ac 15 88]
def c6r15:List SI:=[af 16 0]
def c6r16:List SI:=[ac 89 16,ah 2,aj 91 2 4,av 92 91,aJ 93 89 92]
def c6r17:List (Bool × SI):=[(true,ah 2),(true,aj 97 2 4),(true,ac 98 16),(true,aF 99 97 98 7),(true,ak 100 99 0),(true,ai 101 100),(true,ah 2),(true,aj 103 2 1),(true,bz 104 101 103),(true,ac 105 104),(true,aL 105 2),(true,aN 105 107 2 4),(true,aG 105 108 16),(true,bD 105 109 107 108 7),(true,cp 105 110 109 7),(true,aL 105 8),(true,aN 105 112 8 4),(true,aG 105 113 16),(true,bD 105 114 112 113 7),(true,cp 105 115 114 7),(false,bV 105 116 28 110 115),(true,bW 105 117 116),(true,aA 118 105 117)]
def c6r18:List SI:=[ay 4]
def c6r19:List SI:=[ac 94 16,aE 95 94 1,ac 16 95]
def c6r20:List SI:=[ac 119 5,ac 120 119,aG 120 121 14,aU 120 122 121 0,aA 123 120 122,ac 124 123,bi 124 125 11 0 3,bc 124 126 27 125,aG 124 127 15,bV 124 128 29 126 127,aA 129 124 128,ac 4 129]
def c6:SC:=(.seq (aa c6r0) (.seq (aa c6r1) (.seq (ab c6r2 21 c6r3) (.seq (aa c6r4) (.seq (aa c6r5) (.seq (ab c6r6 36 c6r7) (.seq (aa c6r8) (.seq (ab c6r9 73 c6r10) (.seq (aa c6r11) (.seq (aa c6r12) (.seq (aa c6r13) (.seq (aa c6r14) (.seq (.seq (aa c6r15) (.blk 0 (.loop (.seq (.seq (aa c6r16) (.cond (.t 93) .skip (.exit 0))) (.seq (.blk 1 (.seq (.rgX c6r17) (.cond (.t 118) (.seq (aa c6r18) .ret) .skip))) (aa c6r19)))))) (.seq (aa c6r20) .ret))))))))))))))
def v6:List Nat × List Nat:=([2,3,6,8,11,13],[2,3,6,8,11,13,39,60,63,80,82,90,96,102,106,111])
def o6:List RS:=[.t 4]
def c11r0:List SI:=[ay 0]
def c11r1:List SI:=[⟨none,.bls 26 3 3 1 [(.int .i64 0),(.int .i64 0),(.int .i64 0)] [(0,1,(.i 0)),(1,1,(.i 1)),(2,1,(.i 2))],none,0⟩,⟨none,.call 27 13 [(.t 26),(.i 4096),(.i 1)],none,0⟩,ac 25 27,am 28 25 0,am 29 25 1,a0 1,ao 1 0 5 28,ac 2 29]
def c11r2:RX:=.br [(true,ar 31 1 0 5)] (cm 32 43) (.br [] (az 33 25 31 32) (.leaf [(true,ac 30 33),(true,am 34 30 0),(true,am 35 30 1),(true,am 36 30 2),(false,bI 3),(false,aC 3 5 34),(true,ac 4 35),(true,ac 5 36)]) (bI 3) (.leaf [(false,az 33 25 31 32),(true,ac 30 33),(true,am 34 30 0),(true,am 35 30 1),(true,am 36 30 2),(false,aC 3 5 34),(true,ac 4 35),(true,ac 5 36)])) (bI 3) (.leaf [(false,cm 32 43),(false,az 33 25 31 32),(true,ac 30 33),(true,am 34 30 0),(true,am 35 30 1),(true,am 36 30 2),(false,aC 3 5 34),(true,ac 4 35),(true,ac 5 36)])
def c11r3:List SI:=[aK 38 3 5,bq 39 33 38 1,ac 37 39,am 40 37 0,am 41 37 1,a0 6,ao 6 0 5 40,ac 7 41]
def c11r4:List SI:=[ar 43 6 0 5,bq 44 44 43 2,ac 42 44,am 45 42 0,am 46 42 1,a0 8,ao 8 0 5 45,ac 9 46]
def c11r5:List SI:=[ar 48 8 0 5,⟨none,.call 49 35 [(.t 48),(.i 0),(.i 0)],none,0⟩,ac 47 49,am 50 47 0,am 51 47 1,a0 10,ao 10 0 5 50,ac 11 51]
def c11r6:RX:=.br [(true,ar 53 10 0 5)] (cm 54 43) (.br [] (az 55 25 53 54) (.leaf [(true,ac 52 55),(true,am 56 52 0),(true,am 57 52 1),(true,am 58 52 2),(false,bI 12),(false,aC 12 5 56),(true,ac 13 57),(true,ac 14 58)]) (bI 12) (.leaf [(false,az 55 25 53 54),(true,ac 52 55),(true,am 56 52 0),(true,am 57 52 1),(true,am 58 52 2),(false,aC 12 5 56),(true,ac 13 57),(true,ac 14 58)])) (bI 12) (.leaf [(false,cm 54 43),(false,az 55 25 53 54),(true,ac 52 55),(true,am 56 52 0),(true,am 57 52 1),(true,am 58 52 2),(false,aC 12 5 56),(true,ac 13 57),(true,ac 14 58)])
def c11r7:List SI:=[ar 60 10 0 5,bq 61 37 60 2,ac 59 61,am 62 59 0,am 63 59 1,a0 15,ao 15 0 5 62,ac 16 63]
def c11r8:List SI:=[ar 65 10 0 5,bq 66 37 65 1,ac 64 66,am 67 64 0,am 68 64 1,a0 17,ao 17 0 5 67,ac 18 68]
def c11r9:List SI:=[ar 70 17 0 5,aq 71 15 70,ac 69 71,am 72 69 0,am 73 69 1,bg 19,ao 19 0 3 72,ac 20 73]
def c11r10:List SI:=[ar 75 17 0 5,bq 76 36 75 0,ac 74 76,am 77 74 0,am 78 74 1,a0 21,ao 21 0 5 77,ac 22 78]
def c11r11:List SI:=[ar 80 21 0 5,bq 81 36 80 0,ac 79 81,am 82 79 0,am 83 79 1,a0 23,ao 23 0 5 82,ac 24 83]
def c11r12:List SI:=[ac 84 2,aP 85 84 0,ac 86 85,aB 86 87 5,bh 86 88 87 0,aw 89 86 88,ac 90 89,aB 90 91 7,bh 90 92 91 0,aw 93 90 92,ac 94 93,aB 94 95 9,bh 94 96 95 0,aw 97 94 96,ac 98 97,aB 98 99 11,bh 98 100 99 0,aw 101 98 100,ac 102 101,aB 102 103 18,bh 102 104 103 0,aw 105 102 104,ac 106 105,aB 106 107 20,bh 106 108 107 0,aw 109 106 108,ac 110 109,aB 110 111 22,bh 110 112 111 0,aw 113 110 112,ac 114 113,aH 114 17,aI 114 116 17 3,a9 114 117 116,bh 114 118 117 1,aw 119 114 118]
def c11r13:List SI:=[ay 0]
def c11r14:List SI:=[ac 120 4,aW 121 120 0,ac 122 121,cp 122 123 3 5,bc 122 124 20 123,aU 122 125 124 0,aA 126 122 125,ac 127 126,bi 127 128 6 0 5,bc 127 129 20 128,aU 127 130 129 0,aA 131 127 130,ac 132 131,bi 132 133 8 0 5,bc 132 134 20 133,aU 132 135 134 2,aA 136 132 135,ac 137 136,aL 137 10,aN 137 139 10 1,⟨some (137,true),.bin 140 .eql (.t 139) (.i (-1)),none,140⟩,aA 141 137 140,ac 142 141,aG 142 143 14,aU 142 144 143 180,aA 145 142 144,ac 146 145,aG 146 147 16,aU 146 148 147 181,aA 149 146 148,ac 150 149,aL 150 17,aN 150 152 17 0,aU 150 153 152 2,aA 154 150 153,ac 155 154,aL 155 17,aN 155 157 17 1,aU 155 158 157 1,aA 159 155 158,ac 160 159,aL 160 17,aN 160 162 17 3,⟨some (160,true),.ixA 163 (.t 162) (.i 0) 1,none,163⟩,bJ 160 164 163,aU 160 165 164 1,aA 166 160 165,ac 167 166,bi 167 168 17 0 5,bc 167 169 20 168,aU 167 170 169 2,aA 171 167 170,ac 172 171,bi 172 173 19 0 3,bc 172 174 22 173,aU 172 175 174 2,aA 176 172 175,ac 177 176,aG 177 178 24,aU 177 179 178 150,aA 180 177 179,ac 181 180,bi 181 182 21 0 5,bc 181 183 18 182,aU 181 184 183 0,aA 185 181 184,ac 186 185,⟨some (186,true),.bld 187 [(.int .i64 0),(.int .i64 0),(.int .i64 0),(.slice none 0 0),(.slice none 0 0)] [],none,187⟩,bc 186 188 18 187,aU 186 189 188 1,aA 190 186 189,ac 0 190]
def c11:SC:=(.seq (aa c11r0) (.seq (aa c11r1) (.seq (.rgZ c11r2) (.seq (aa c11r3) (.seq (aa c11r4) (.seq (aa c11r5) (.seq (.rgZ c11r6) (.seq (aa c11r7) (.seq (aa c11r8) (.seq (aa c11r9) (.seq (aa c11r10) (.seq (aa c11r11) (.seq (ab c11r12 119 c11r13) (.seq (aa c11r14) .ret))))))))))))))
def v11:List Nat × List Nat:=([1,6,8,10,15,17,19,21,23],[1,6,8,10,15,17,19,21,23,115,138,151,156,161])
def o11:List RS:=[.t 0]
def c12r0:List SI:=[aD 1 0,ay 2]
def c12r1:List SI:=[af 3 0]
def c12r2:List SI:=[ac 4 3,ah 1,aj 6 1 4,av 7 6,aJ 8 4 7,ac 9 8,aG 9 10 3,⟨some (9,true),.bin 11 .lss (.t 10) (.i 10),none,11⟩,aA 12 9 11]
def c12r3:List SI:=[ah 1,aj 16 1 4,ac 17 3,aF 18 16 17 7,ak 19 18 2,aK 20 19 3,aq 21 45 20,aO 22 21,ac 23 22,aH 23 1,aI 23 25 1 4,aB 23 26 3,cD 23 27 25 26 7,cr 23 28 27 5,aV 23 29 28,a9 23 30 29,aX 23 31 30 60,aw 32 23 31]
def c12r4:List SI:=[ay 2]
def c12r5:List SI:=[ac 13 3,aE 14 13 1,ac 3 14]
def c12r6:List SI:=[ah 1,aj 34 1 4,av 35 34,cY 36 35 8,ac 37 36,aL 37 1,aN 37 39 1 3,cn 37 40 39,bE 37 41 40 30,aA 42 37 41,ac 2 42]
def c12:SC:=(.seq (aa c12r0) (.seq (.seq (aa c12r1) (.blk 0 (.loop (.seq (.seq (aa c12r2) (.cond (.t 12) .skip (.exit 0))) (.seq (.blk 1 (ab c12r3 32 c12r4)) (aa c12r5)))))) (.seq (aa c12r6) .ret)))
def v12:List Nat × List Nat:=([1],[1,5,15,24,33,38])
def o12:List RS:=[.t 2]
def c13r0:List SI:=[a0 6,af 7 0]
def c13r1:List SI:=[ac 14 1,bq 15 46 14 0,ac 13 15,am 16 13 0,am 17 13 1,bg 8,ao 8 0 3 16,ac 9 17]
def c13r2:List SI:=[ac 18 9,aP 19 18 0,ac 20 19,aB 20 21 0,ba 20 22 47 21,aS 20 23 22,aw 24 20 23,ac 25 24,aB 25 26 0,a9 25 27 26,aX 25 28 27 5,aw 29 25 28,ac 30 29,aB 30 31 2,bK 30 32 31 1,aw 33 30 32,ac 34 33,aB 34 35 2,aB 34 36 0,a9 34 37 36,bX 34 38 35 37,aw 39 34 38]
def c13r3:List SI:=[cM 40,ao 6 0 5 40,af 7 1]
def c13r4:RX:=.br [(true,ac 41 0),(true,cE 42 41 0 1),(true,ai 43 42),(true,ac 44 2),(true,ac 45 0)] (aq 46 48 45) (.leaf [(true,dw 47 0 1 1 1 1 43 2 1 44 3 1 46),(false,bI 10),(false,aC 10 5 47)]) (bI 10) (.leaf [(false,aq 46 48 45),(true,dw 47 0 1 1 1 1 43 2 1 44 3 1 46),(false,aC 10 5 47)])
def c13r5:List SI:=[ac 48 0,av 49 48,af 50 0]
def c13r6:List SI:=[aJ 51 50 49]
def c13r7:List SI:=[aF 52 48 50 1,ai 53 52,ac 12 53]
def c13r8:List SI:=[ak 54 10 4,ai 55 54,ac 56 12,ar 57 8 0 3,⟨none,.bld 58 [(.int .i64 0),(.bool false),(.int .i64 0),(.int .i64 0),(.slice none 0 0),(.slice none 0 0),(.int .i64 0)] [(0,1,(.t 56)),(1,1,(.b true)),(2,3,(.t 57))],none,0⟩,⟨none,.bls 59 50 1 7 [(.int .i64 0),(.bool false),(.int .i64 0),(.int .i64 0),(.slice none 0 0),(.slice none 0 0),(.int .i64 0)] [(0,7,(.t 58))],none,0⟩,aQ 60 55 59 50 7 88,ak 61 10 4,aC 61 1 60]
def c13r9:List SI:=[aE 62 50 1,ac 50 62]
def c13r10:List SI:=[aK 63 10 5,ao 6 0 5 63,af 7 0]
def c13:SC:=(.seq (aa c13r0) (.seq (aa c13r1) (.seq (ab c13r2 39 c13r3) (.seq (.rgZ c13r4) (.seq (.seq (aa c13r5) (.blk 0 (.loop (.seq (aa c13r6) (.seq (.cond (.t 51) .skip (.exit 0)) (.seq (.blk 1 (.seq (aa c13r7) (aa c13r8))) (aa c13r9))))))) (.seq (aa c13r10) .ret))))))
def v13:List Nat × List Nat:=([6,8],[6,8])
def o13:List RS:=[.r 6 (some 5),.t 7]
def c15r0:List SI:=[aD 1 0,bg 2,af 3 0]
def c15r1:List SI:=[ar 6 1 0 5,aq 7 18 6,ac 4 7]
def c15r2:List SI:=[ac 8 4,aP 9 8 0]
def c15r3:List SI:=[bt 10,ac 11 4,ao 2 0 3 10,ac 3 11]
def c15r4:List SI:=[ah 1,aj 13 1 1,aT 14 13 0]
def c15r5:List SI:=[bt 15,ao 2 0 3 15,af 3 180]
def c15r6:List SI:=[ar 16 1 0 5,cZ 17 0 5 16,aR 18 17,ac 5 18]
def c15r7:List SI:=[ac 19 5,ah 1,aj 21 1 1,az 22 51 19 21,au 23 22,ak 24 23 2,aK 25 24 3,ao 2 0 3 25,af 3 0]
def c15:SC:=(.seq (aa c15r0) (.seq (.seq (aa c15r1) (ab c15r2 9 c15r3)) (.seq (ab c15r4 14 c15r5) (.seq (aa c15r6) (.seq (aa c15r7) .ret)))))
def v15:List Nat × List Nat:=([1,2],[1,2,12,20])
def o15:List RS:=[.r 2 (some 3),.t 3]
def c18r0:List SI:=[aD 1 0,af 2 0]
def c18r1:List SI:=[⟨none,.al 3 [(.slice none 0 0)],none,0⟩]
def c18r2:List SI:=[ah 1,aj 8 1 4,av 9 8,af 10 0]
def c18r3:List SI:=[aJ 11 10 9]
def c18r4:List SI:=[aF 12 8 10 7,aK 13 12 7,⟨none,.alR 5 [(.int .i64 0),(.bool false),(.int .i64 0),(.int .i64 0),(.slice none 0 0),(.slice none 0 0),(.int .i64 0)],none,0⟩,ao 5 0 7 13]
def c18r5:List SI:=[ai 14 3,ah 5,aj 16 5 0,da 17 3 1 1 0 1 16,aQ 18 14 17 3 1 8,aC 3 1 18]
def c18r6:List SI:=[aE 19 10 1,ac 10 19]
def c18r7:List SI:=[ah 1,aj 21 1 0,aq 22 53 21,aO 23 22,ac 24 23,aV 24 25 3,ba 24 26 47 25,aS 24 27 26,aw 28 24 27,ac 29 28,aV 29 30 3,a9 29 31 30,aX 29 32 31 5,aw 33 29 32,ac 34 33,aH 34 1,aI 34 36 1 2,bK 34 37 36 1,aw 38 34 37,ac 39 38,aH 39 1,aI 39 41 1 2,aV 39 42 3,a9 39 43 42,bX 39 44 41 43,aw 45 39 44,ac 46 45,aH 46 1,aI 46 48 1 4,⟨some (46,false),.call 49 54 [(.t 48),(.v (.func (.func 55) #[] #[]))],none,49⟩,aw 50 46 49]
def c18r8:List SI:=[af 2 1]
def c18r9:List SI:=[ah 1,aj 52 1 3,aq 53 47 52,aO 54 53,ac 55 54,aH 55 1,aI 55 57 1 3,⟨some (55,false),.mkf 58 (.func 57) [(.t 3)],none,58⟩,cN 55 59 56 57 58,aw 60 55 59]
def c18r10:List SI:=[af 2 1]
def c18r11:List SI:=[ah 1,aj 62 1 1,cO 63 62]
def c18r12:List SI:=[af 2 0]
def c18r13:List SI:=[ai 64 3,ah 1,aj 66 1 1,az 67 59 64 66,ac 6 67]
def c18r14:List SI:=[ac 68 6,aT 69 68 0,ac 70 69,aH 70 1,aI 70 72 1 4,aB 70 73 6,cD 70 74 72 73 7,cr 70 75 74 1,aV 70 76 75,aS 70 77 76,aw 78 70 77,ac 79 78,aH 79 1,aI 79 81 1 3,aH 79 1,aI 79 83 1 1,cN 79 84 58 81 83,aS 79 85 84,aw 86 79 85]
def c18r15:List SI:=[af 2 1]
def c18r16:List SI:=[af 2 0]
def c18:SC:=(.seq (aa c18r0) (.seq (aa c18r1) (.seq (.seq (aa c18r2) (.blk 0 (.loop (.seq (aa c18r3) (.seq (.cond (.t 11) .skip (.exit 0)) (.seq (.blk 1 (.seq (aa c18r4) (aa c18r5))) (aa c18r6))))))) (.seq (ab c18r7 50 c18r8) (.seq (ab c18r9 60 c18r10) (.seq (ab c18r11 63 c18r12) (.seq (aa c18r13) (.seq (ab c18r14 86 c18r15) (.seq (aa c18r16) .ret)))))))))
def v18:List Nat × List Nat:=([1,5],[1,5,7,15,20,35,40,47,51,56,61,65,71,80,82])
def o18:List RS:=[.t 2]
def c20r0:List SI:=[aR 1 0,af 2 0]
def c20r1:List SI:=[aK 6 1 5,aq 7 18 6,aP 8 7 0]
def c20r2:List SI:=[af 2 0]
def c20r3:List SI:=[aK 9 1 5,cZ 10 0 5 9,aR 11 10,ac 3 11]
def c20r4:List SI:=[ak 12 1 1,ai 13 12,bd 14 13 0]
def c20r5:List SI:=[ac 15 3,ak 16 1 1,ai 17 16,az 18 51 15 17,au 19 18,ak 20 19 6,ai 21 20,ac 2 21]
def c20r6:List SI:=[bL 4,cv 4 1 0]
def c20r7:List SI:=[ac 22 3,aq 23 61 22]
def c20r8:List SI:=[ac 5 24]
def c20r9:List SI:=[ai 25 4,ac 26 5,au 27 26,ak 28 27 6,ai 29 28,cw 30 25 29]
def c20r10:List SI:=[aC 4 1 30]
def c20r11:List SI:=[ai 31 4,ac 2 31]
def c20:SC:=(.seq (aa c20r0) (.seq (ab c20r1 8 c20r2) (.seq (aa c20r3) (.seq (ab c20r4 14 c20r5) (.seq (aa c20r6) (.seq (.seq (aa c20r7) (.blk 0 (.rf (.t 23) [24] (aa c20r8) (.blk 1 (.rgT c20r9 c20r10))))) (.seq (aa c20r11) .ret)))))))
def v20:List Nat × List Nat:=([],[])
def o20:List RS:=[.t 2]
def c22r0:List SI:=[aD 1 0,af 2 0]
def c22r1:List SI:=[ar 3 1 0 3,aq 4 62 3,aP 5 4 0]
def c22r2:List SI:=[af 2 0]
def c22r3:List SI:=[ar 6 1 0 3,aq 7 63 6,ac 2 7]
def c22:SC:=(.seq (aa c22r0) (.seq (ab c22r1 5 c22r2) (.seq (aa c22r3) .ret)))
def v22:List Nat × List Nat:=([1],[1])
def o22:List RS:=[.t 2]
def c23r0:List SI:=[aD 2 0,aD 3 1,ay 4]
def c23r1:List SI:=[ar 5 2 0 5,aq 6 12 5,ac 7 6,bi 7 8 3 0 10,bc 7 9 64 8,aA 10 7 9,ac 4 10]
def c23:SC:=(.seq (aa c23r0) (.seq (aa c23r1) .ret))
def v23:List Nat × List Nat:=([2,3],[2,3])
def o23:List RS:=[.t 4]
def c25r0:List SI:=[aD 2 0,aR 3 1,a0 4,bL 5,af 6 0]
def c25r1:List SI:=[ar 8 2 0 5,bY 9 66 3 5,az 10 65 8 9,ac 7 10,am 11 7 0,am 12 7 1,ao 4 0 5 11,ac 6 12]
def c25r2:List SI:=[ac 13 6,aP 14 13 0]
def c25r3:List SI:=[cM 15,ac 16 6,ao 4 0 5 15,cv 5 1 0,ac 6 16]
def c25r4:List WI:=[(true,false,ar 17 4 0 5),(true,false,ai 18 5),(false,false,ao 4 0 5 17),(false,true,aC 5 1 18),(true,false,af 6 0)]
def c25:SC:=(.seq (aa c25r0) (.seq (aa c25r1) (.seq (ab c25r2 14 c25r3) (.seq (.rgW c25r4) .ret))))
def v25:List Nat × List Nat:=([2,4],[2,4])
def o25:List RS:=[.r 4 (some 5),.c 5 none,.t 6]
def c26r0:List SI:=[aD 2 0,a8 4,af 5 0]
def c26r1:List SI:=[ac 10 1,bq 11 72 10 1099511627776,aO 12 11]
def c26r2:List SI:=[bj 13,ao 4 0 10 13,af 5 1]
def c26r3:List SI:=[ar 14 2 0 10,aq 15 73 14,ac 6 15]
def c26r4:List SI:=[ac 16 6,aP 17 16 0]
def c26r5:List SI:=[bj 18,ac 19 6,ao 4 0 10 18,ac 5 19]
def c26r6:List SI:=[ar 20 2 0 10,aq 21 74 20,a8 7,ao 7 0 10 21]
def c26r7:List SI:=[ac 22 1,ah 7,ao 7 0 1 22]
def c26r8:List SI:=[ac 24 1,ah 2,aj 26 2 1,aZ 27 24 26,ah 2,aj 29 2 0,aY 30 27 29,ah 7,ao 7 1 1 30]
def c26r9:List SI:=[ah 7,aj 33 7 9,av 34 33,af 35 0]
def c26r10:List SI:=[aJ 36 35 34]
def c26r11:List SI:=[ac 37 35,ac 8 37]
def c26r12:List SI:=[ah 7,aj 39 7 9,ac 40 8,aF 41 39 40 5,ak 42 41 0,ai 43 42,ac 44 1,ah 2,aj 46 2 0,aY 47 44 46,aZ 48 43 47,aF 49 39 40 5,ak 50 49 0]
def c26r13:List SI:=[aC 50 1 48]
def c26r14:List SI:=[aE 51 35 1,ac 35 51]
def c26r15:List SI:=[ar 52 7 0 10,aq 53 73 52,ac 9 53]
def c26r16:List SI:=[ac 54 9,aP 55 54 0]
def c26r17:List SI:=[bj 56,ac 57 9,ao 4 0 10 56,ac 5 57]
def c26r18:List SI:=[ar 58 7 0 10,ao 4 0 10 58,af 5 0]
def c26:SC:=(.seq (aa c26r0) (.seq (ab c26r1 12 c26r2) (.seq (.seq (aa c26r3) (ab c26r4 17 c26r5)) (.seq (aa c26r6) (.seq (aa c26r7) (.seq (aa c26r8) (.seq (.seq (aa c26r9) (.blk 0 (.loop (.seq (aa c26r10) (.seq (.cond (.t 36) .skip (.exit 0)) (.seq (.blk 1 (.seq (aa c26r11) (.rgT c26r12 c26r13))) (aa c26r14))))))) (.seq (.seq (aa c26r15) (ab c26r16 55 c26r17)) (.seq (aa c26r18) .ret)))))))))
def v26:List Nat × List Nat:=([2,4,7],[2,4,7,23,25,28,31,32,38,45])
def o26:List RS:=[.r 4 (some 10),.t 5]
def c27r0:List SI:=[aD 1 0,aM 2]
def c27r1:List SI:=[ar 3 1 0 3,aq 4 62 3,aP 5 4 0]
def c27r2:List SI:=[aM 2]
def c27r3:List SI:=[ar 6 1 0 3,ah 1,aj 8 1 1,az 9 76 6 8,aq 10 75 9,ac 2 10]
def c27:SC:=(.seq (aa c27r0) (.seq (ab c27r1 5 c27r2) (.seq (aa c27r3) .ret)))
def v27:List Nat × List Nat:=([1],[1,7])
def o27:List RS:=[.t 2]
def c28r0:List SI:=[aD 2 0,aD 3 1,ay 4]
def c28r1:List SI:=[ah 2,aj 6 2 0,ah 3,aj 8 3 0,bl 9 6 8,ac 10 9,aL 10 2,aN 10 12 2 1,aL 10 3,aN 10 14 3 1,⟨some (10,true),.eqb 15 false (.t 12) (.t 14),none,15⟩,aA 16 10 15,ac 17 16,aL 17 2,aN 17 19 2 6,aL 17 3,aN 17 21 3 6,bu 17 22 19 21,aA 23 17 22,ac 24 23,aL 24 2,bi 24 26 2 2 3,aL 24 3,bi 24 28 3 2 3,bV 24 29 77 26 28,aA 30 24 29,ac 31 30,aL 31 2,aN 31 33 2 5,aL 31 3,aN 31 35 3 5,bV 31 36 78 33 35,aA 37 31 36,ac 4 37]
def c28:SC:=(.seq (aa c28r0) (.seq (aa c28r1) .ret))
def v28:List Nat × List Nat:=([2,3],[2,3,5,7,11,13,18,20,25,27,32,34])
def o28:List RS:=[.t 4]
def c29r0:List SI:=[ay 4]
def c29r1:List SI:=[ac 6 0,av 7 6,ac 8 1,av 9 8,bz 10 7 9]
def c29r2:List SI:=[ay 4]
def c29r3:List SI:=[ac 11 0,av 12 11,af 13 0]
def c29r4:List SI:=[aJ 14 13 12]
def c29r5:List SI:=[ac 15 13,ac 5 15]
def c29r6:List (Bool × SI):=[(true,ac 16 0),(true,ac 17 5),(true,aF 18 16 17 10),(true,aK 19 18 10),(true,ac 20 1),(true,ac 21 5),(true,aF 22 20 21 10),(true,aK 23 22 10),(false,az 24 79 19 23),(true,aO 25 24)]
def c29r7:List SI:=[ay 4]
def c29r8:List SI:=[aE 26 13 1,ac 13 26]
def c29r9:List SI:=[bA 4]
def c29:SC:=(.seq (aa c29r0) (.seq (ab c29r1 10 c29r2) (.seq (.seq (aa c29r3) (.blk 0 (.loop (.seq (aa c29r4) (.seq (.cond (.t 14) .skip (.exit 0)) (.seq (.blk 1 (.seq (aa c29r5) (.seq (.rgX c29r6) (.cond (.t 25) (.seq (aa c29r7) .ret) .skip)))) (aa c29r8))))))) (.seq (aa c29r9) .ret))))
def v29:List Nat × List Nat:=([],[])
def o29:List RS:=[.t 4]
def c33r0:List SI:=[aD 2 0,aR 3 1,a0 4,af 5 0]
def c33r1:List SI:=[ar 6 2 0 5,ai 7 3,bM 8 81 3,bf 9 80 6 7 8,am 10 9 0,am 11 9 1,ao 4 0 5 10,ac 5 11]
def c33:SC:=(.seq (aa c33r0) (.seq (aa c33r1) .ret))
def v33:List Nat × List Nat:=([2,4],[2,4])
def o33:List RS:=[.r 4 (some 5),.t 5]
def c35r0:List SI:=[aD 3 0,aR 4 1,aR 5 2,a0 6,af 7 0]
def c35r1:List SI:=[ar 8 3 0 5,ai 9 4,bY 10 85 5 4,bf 11 80 8 9 10,am 12 11 0,am 13 11 1,ao 6 0 5 12,ac 7 13]
def c35:SC:=(.seq (aa c35r0) (.seq (aa c35r1) .ret))
def v35:List Nat × List Nat:=([3,6],[3,6])
def o35:List RS:=[.r 6 (some 5),.t 7]
def c36r0:List SI:=[aD 2 0,a0 4,af 5 0]
def c36r1:List SI:=[ar 6 2 0 5,ac 7 1,⟨none,.call 8 80 [(.t 6),(.t 7),(.v (.func (.func 88) #[] #[]))],none,0⟩,am 9 8 0,am 10 8 1,ao 4 0 5 9,ac 5 10]
def c36:SC:=(.seq (aa c36r0) (.seq (aa c36r1) .ret))
def v36:List Nat × List Nat:=([2,4],[2,4])
def o36:List RS:=[.r 4 (some 5),.t 5]
def c37r0:List SI:=[aD 2 0,aR 3 1,a0 4,af 5 0]
def c37r1:List SI:=[ar 6 2 0 5,ai 7 3,bM 8 91 3,bf 9 80 6 7 8,am 10 9 0,am 11 9 1,ao 4 0 5 10,ac 5 11]
def c37:SC:=(.seq (aa c37r0) (.seq (aa c37r1) .ret))
def v37:List Nat × List Nat:=([2,4],[2,4])
def o37:List RS:=[.r 4 (some 5),.t 5]
def c43r0:List SI:=[a8 0]
def c43r1:List SI:=[⟨none,.bld 1 [(.int .i64 0),(.string ⟨#[]⟩),(.string ⟨#[]⟩),(.bool false),(.int .i64 0)] [(2,1,(.v (.string ⟨#[118]⟩)))],none,0⟩,⟨none,.bld 2 [(.int .i64 0),(.string ⟨#[]⟩),(.string ⟨#[]⟩),(.bool false),(.int .i64 0)] [(0,1,(.i 1)),(2,1,(.v (.string ⟨#[119]⟩)))],none,0⟩,⟨none,.bls 3 103 2 5 [(.int .i64 0),(.string ⟨#[]⟩),(.string ⟨#[]⟩),(.bool false),(.int .i64 0),(.int .i64 0),(.string ⟨#[]⟩),(.string ⟨#[]⟩),(.bool false),(.int .i64 0)] [(0,5,(.t 1)),(5,5,(.t 2))],none,0⟩,⟨none,.bld 4 [(.int .i64 0),(.int .i64 0),(.int .i64 0),(.int .i64 0),(.int .i64 0),(.int .i64 0),(.int .i64 0),(.bool false),(.int .i64 0),(.slice none 0 0)] [(1,1,(.i 1)),(4,1,(.i (-1))),(9,1,(.t 3))],none,0⟩,ao 0 0 10 4]
def c43:SC:=(.seq (aa c43r0) (.seq (aa c43r1) .ret))
def v43:List Nat × List Nat:=([0],[0])
def o43:List RS:=[.r 0 (some 10)]
def c44r0:List SI:=[aD 2 0,aR 3 1,a0 4,af 5 0]
def c44r1:List SI:=[ar 6 2 0 5,ai 7 3,bM 8 102 3,bf 9 80 6 7 8,am 10 9 0,am 11 9 1,ao 4 0 5 10,ac 5 11]
def c44:SC:=(.seq (aa c44r0) (.seq (aa c44r1) .ret))
def v44:List Nat × List Nat:=([2,4],[2,4])
def o44:List RS:=[.r 4 (some 5),.t 5]
def c45r0:List SI:=[aD 1 0,ay 2]
def c45r1:List SI:=[af 3 0]
def c45r2:List SI:=[ac 4 3,ah 1,aj 6 1 2,av 7 6,aJ 8 4 7,ac 9 8,aG 9 10 3,⟨some (9,true),.bin 11 .lss (.t 10) (.i 300),none,11⟩,aA 12 9 11]
def c45r3:List SI:=[ah 1,aj 16 1 2,ac 17 3,aF 18 16 17 2,ak 19 18 1,ai 20 19,av 21 20,bm 22 21 5000]
def c45r4:List SI:=[ay 2]
def c45r5:List SI:=[ac 13 3,aE 14 13 1,ac 3 14]
def c45r6:List SI:=[ah 1,aj 24 1 2,av 25 24,cY 26 25 12,ac 2 26]
def c45:SC:=(.seq (aa c45r0) (.seq (.seq (aa c45r1) (.blk 0 (.loop (.seq (.seq (aa c45r2) (.cond (.t 12) .skip (.exit 0))) (.seq (.blk 1 (ab c45r3 22 c45r4)) (aa c45r5)))))) (.seq (aa c45r6) .ret)))
def v45:List Nat × List Nat:=([1],[1,5,15,23])
def o45:List RS:=[.t 2]
def c46r0:List SI:=[bg 4,af 5 0]
def c46r1:List SI:=[ac 6 0,ac 7 1,az 8 103 6 7,aO 9 8]
def c46r2:List SI:=[bt 10,ao 4 0 3 10,af 5 1]
def c46r3:List SI:=[ac 11 0,ac 12 1,ac 13 1,dh 14 0 1 13,bN 15 120 1 2 0 2 14,⟨none,.bld 16 [(.int .i64 0),(.int .i64 0),(.slice none 0 0)] [(0,1,(.t 11)),(1,1,(.t 12)),(2,1,(.t 15))],none,0⟩,ao 4 0 3 16,af 5 0]
def c46:SC:=(.seq (aa c46r0) (.seq (ab c46r1 9 c46r2) (.seq (aa c46r3) .ret)))
def v46:List Nat × List Nat:=([4],[4])
def o46:List RS:=[.r 4 (some 3),.t 5]
def c47r0:List SI:=[ay 2]
def c47r1:List SI:=[ac 5 0,av 6 5,af 7 0]
def c47r2:List SI:=[aJ 8 7 6]
def c47r3:List SI:=[ac 9 7,aF 10 5 7 1,ai 11 10,ac 3 9,ac 4 11]
def c47r4:List SI:=[ac 12 4,aq 13 53 12,aO 14 13,ac 15 14,aB 15 16 3,aX 15 17 16 0,aB 15 18 17,aG 18 19 0,aG 18 20 3,cF 18 21 20 1,bD 18 22 19 21 1,bJ 18 23 22,aG 18 24 4,di 18 25 23 24,bO 15 26 18 25,aw 27 15 26]
def c47r5:List SI:=[ay 2]
def c47r6:List SI:=[aE 28 7 1,ac 7 28]
def c47r7:List SI:=[ac 29 0,av 30 29,bm 31 30 0,ac 2 31]
def c47:SC:=(.seq (aa c47r0) (.seq (.seq (aa c47r1) (.blk 0 (.loop (.seq (aa c47r2) (.seq (.cond (.t 8) .skip (.exit 0)) (.seq (.blk 1 (.seq (aa c47r3) (ab c47r4 27 c47r5))) (aa c47r6))))))) (.seq (aa c47r7) .ret)))
def v47:List Nat × List Nat:=([],[])
def o47:List RS:=[.t 2]
def c48r0:List SI:=[aM 2]
def c48r1:List SI:=[ac 3 0,cz 4 3]
def c48r2:List SI:=[aM 2]
def c48r3:List SI:=[bZ 5,ac 6 0,aQ 7 5 6 3 1 8,ac 2 7]
def c48:SC:=(.seq (aa c48r0) (.seq (ab c48r1 4 c48r2) (.seq (aa c48r3) .ret)))
def v48:List Nat × List Nat:=([],[])
def o48:List RS:=[.t 2]
def c51r0:List SI:=[⟨none,.mv 4 (.v (.pointer none)),none,0⟩]
def c51r1:List SI:=[ac 8 0,au 9 8,ak 10 9 0,ak 11 10 4,ai 12 11,ac 13 1,⟨none,.call 14 105 [(.t 12),(.t 13),(.v (.func (.func 106) #[] #[]))],none,0⟩,ac 7 14,am 15 7 0,am 16 7 1,ac 5 15,ac 6 16]
def c51r2:List SI:=[ac 17 6,aO 18 17]
def c51r3:List SI:=[⟨none,.mv 4 (.v (.pointer none)),none,0⟩]
def c51r4:List SI:=[ac 19 0,au 20 19,ak 21 20 0,ak 22 21 4,ai 23 22,ac 24 5,aF 25 23 24 7,ac 4 25]
def c51:SC:=(.seq (aa c51r0) (.seq (aa c51r1) (.seq (ab c51r2 18 c51r3) (.seq (aa c51r4) .ret))))
def v51:List Nat × List Nat:=([],[])
def o51:List RS:=[.t 4]
def c53r0:List SI:=[ay 2]
def c53r1:List SI:=[ac 3 0,bd 4 3 0,ac 5 4,aG 5 6 0,bE 5 7 6 1048576,aA 8 5 7,ac 2 8]
def c53:SC:=(.seq (aa c53r0) (.seq (aa c53r1) .ret))
def v53:List Nat × List Nat:=([],[])
def o53:List RS:=[.t 2]
def c54r0:List SI:=[ay 4]
def c54r1:List SI:=[ac 5 0,ac 6 1,az 7 107 5 6,bd 8 7 0,ac 4 8]
def c54:SC:=(.seq (aa c54r0) (.seq (aa c54r1) .ret))
def v54:List Nat × List Nat:=([],[])
def o54:List RS:=[.t 4]
def c55r0:List SI:=[aD 1 0,ay 2]
def c55r1:List SI:=[ah 1,aj 5 1 0,aq 6 53 5,aO 7 6,ac 8 7,aH 8 1,aI 8 10 1 5,ba 8 11 108 10,bh 8 12 11 0,aw 13 8 12,ac 14 13,aH 14 1,aI 14 16 1 6,bK 14 17 16 0,aw 18 14 17,ac 19 18,aH 19 1,aI 19 21 1 6,aX 19 22 21 1099511627777,aw 23 19 22]
def c55r2:List SI:=[bA 2]
def c55r3:List SI:=[ah 1,ar 25 1 2 3,bg 3,ao 3 0 3 25]
def c55r4:List SI:=[ah 1,aj 27 1 1,aO 28 27]
def c55r5:List SI:=[ar 30 3 0 3,aq 31 89 30,ac 29 31,am 32 29 0,am 33 29 1,ao 3 0 3 32]
def c55r6:List (Bool × SI):=[(true,ar 34 3 0 3),(false,aq 35 62 34),(true,aP 36 35 0),(true,ac 37 36),(true,aH 37 1),(true,aI 37 39 1 1),(true,aB 37 40 39),(true,aL 40 1),(true,aN 40 42 1 6),(true,bi 40 43 1 0 7),(false,bc 40 44 68 43),(true,⟨some (40,true),.bin 45 .gtr (.t 42) (.t 44),none,45⟩),(true,bO 37 46 40 45),(true,aw 47 37 46),(true,ac 2 47)]
def c55:SC:=(.seq (aa c55r0) (.seq (ab c55r1 23 c55r2) (.seq (aa c55r3) (.seq (.seq (aa c55r4) (.cond (.t 28) (aa c55r5) .skip)) (.seq (.rgX c55r6) .ret)))))
def v55:List Nat × List Nat:=([1,3],[1,3,4,9,15,20,24,26,38,41])
def o55:List RS:=[.t 2]
def c56r0:List SI:=[ay 4]
def c56r1:List SI:=[ac 5 0,ac 6 1,az 7 109 5 6,bd 8 7 0,ac 4 8]
def c56:SC:=(.seq (aa c56r0) (.seq (aa c56r1) .ret))
def v56:List Nat × List Nat:=([],[])
def o56:List RS:=[.t 4]
def c57r0:List SI:=[ay 3]
def c57r1:List SI:=[ai 4 1,ac 5 0,az 6 58 4 5,aO 7 6,ac 3 7]
def c57:SC:=(.seq (aa c57r0) (.seq (aa c57r1) .ret))
def v57:List Nat × List Nat:=([],[])
def o57:List RS:=[.t 3]
def c58r0:List SI:=[ay 4]
def c58r1:List SI:=[ac 5 0,ac 6 1,az 7 59 5 6,bd 8 7 0,ac 4 8]
def c58:SC:=(.seq (aa c58r0) (.seq (aa c58r1) .ret))
def v58:List Nat × List Nat:=([],[])
def o58:List RS:=[.t 4]
def c59r0:List SI:=[af 4 0]
def c59r1:List SI:=[ac 6 0,av 7 6,af 8 0]
def c59r2:List SI:=[aJ 9 8 7]
def c59r3:List SI:=[ac 10 8,ac 5 10]
def c59r4:List SI:=[ac 11 1,ac 12 0,ac 13 5,aF 14 12 13 1,ai 15 14,bl 16 11 15]
def c59r5:List SI:=[ac 17 5,ac 4 17]
def c59r6:List SI:=[aE 18 8 1,ac 8 18]
def c59r7:List SI:=[cG 4]
def c59:SC:=(.seq (aa c59r0) (.seq (.seq (aa c59r1) (.blk 0 (.loop (.seq (aa c59r2) (.seq (.cond (.t 9) .skip (.exit 0)) (.seq (.blk 1 (.seq (aa c59r3) (ab c59r4 16 c59r5))) (aa c59r6))))))) (.seq (aa c59r7) .ret)))
def v59:List Nat × List Nat:=([],[])
def o59:List RS:=[.t 4]
def c61r0:List SI:=[aR 1 0,cH 2]
def c61r1:List SI:=[bM 3 111 1,ac 2 3]
def c61:SC:=(.seq (aa c61r0) (.seq (aa c61r1) .ret))
def v61:List Nat × List Nat:=([],[])
def o61:List RS:=[.t 2]
def c62r0:List SI:=[aD 1 0,af 2 0]
def c62r1:List SI:=[ah 1,aj 6 1 0,ah 1,aj 8 1 1,az 9 103 6 8,aO 10 9,ac 11 10,aH 11 1,aI 11 13 1 2,a9 11 14 13,dj 11 15 14 0,aw 16 11 15]
def c62r2:List SI:=[af 2 1]
def c62r3:List SI:=[ah 1,aj 18 1 2,av 19 18,af 20 0]
def c62r4:List SI:=[aJ 21 20 19]
def c62r5:List SI:=[ac 22 20,aF 23 18 20 2,aK 24 23 2,bo 4,ac 3 22,ao 4 0 2 24]
def c62r6:List (Bool × SI):=[(true,ah 4),(true,aj 26 4 1),(true,av 27 26),(true,ah 1),(true,aj 29 1 0),(true,cd 30 27 29),(true,ac 31 30),(true,cC 31 32 4 0 2),(false,ba 31 33 112 32),(true,aS 31 34 33),(true,aw 35 31 34),(true,ac 36 35),(true,aB 36 37 3),(true,aX 36 38 37 0),(true,aB 36 39 38),(true,aL 39 1),(true,aN 39 41 1 2),(true,aG 39 42 3),(true,cF 39 43 42 1),(true,bD 39 44 41 43 2),(true,cp 39 45 44 2),(true,bi 39 46 4 0 2),(false,bV 39 47 113 45 46),(true,bW 39 48 47),(true,bO 36 49 39 48),(true,aw 50 36 49)]
def c62r7:List SI:=[af 2 1]
def c62r8:List SI:=[aE 51 20 1,ac 20 51]
def c62r9:List SI:=[ah 1,aj 53 1 2,av 54 53,bm 55 54 256]
def c62r10:List SI:=[af 2 2]
def c62r11:List SI:=[af 2 0]
def c62:SC:=(.seq (aa c62r0) (.seq (ab c62r1 16 c62r2) (.seq (.seq (aa c62r3) (.blk 0 (.loop (.seq (aa c62r4) (.seq (.cond (.t 21) .skip (.exit 0)) (.seq (.blk 1 (.seq (aa c62r5) (.seq (.rgX c62r6) (.cond (.t 50) (.seq (aa c62r7) .ret) .skip)))) (aa c62r8))))))) (.seq (ab c62r9 55 c62r10) (.seq (aa c62r11) .ret)))))
def v62:List Nat × List Nat:=([1,4],[1,4,5,7,12,17,25,28,40,52])
def o62:List RS:=[.t 2]
def c63r0:List SI:=[aD 1 0,af 2 0]
def c63r1:List (Bool × SI):=[(true,ah 1),(true,aj 4 1 1),(true,ah 1),(true,aj 6 1 2),(true,ar 7 1 0 3),(false,aq 8 115 7),(true,aF 9 6 8 2),(true,aK 10 9 2),(false,aq 11 114 10),(true,cw 12 4 11),(true,ac 2 12)]
def c63:SC:=(.seq (aa c63r0) (.seq (.rgX c63r1) .ret))
def v63:List Nat × List Nat:=([1],[1,3,5])
def o63:List RS:=[.t 2]
def c64r0:List SI:=[aD 1 0,ay 2]
def c64r1:List SI:=[af 3 0]
def c64r2:List SI:=[ah 1,aj 7 1 9,av 8 7,af 9 0]
def c64r3:List SI:=[aJ 10 9 8]
def c64r4:List SI:=[aF 11 7 9 5,aK 12 11 5,cf 5,ao 5 0 5 12]
def c64r5:List SI:=[ac 13 3,ah 5,aj 15 5 1,cA 16 15,ah 5,aj 18 5 2,cA 19 18,aZ 20 16 19,aZ 21 13 20,ac 3 21]
def c64r6:List SI:=[ac 22 3,bm 23 22 20000]
def c64r7:List SI:=[ay 2]
def c64r8:List SI:=[aE 24 9 1,ac 9 24]
def c64r9:List SI:=[ah 1,aj 26 1 9,av 27 26,cY 28 27 100,ac 2 28]
def c64:SC:=(.seq (aa c64r0) (.seq (aa c64r1) (.seq (.seq (aa c64r2) (.blk 0 (.loop (.seq (aa c64r3) (.seq (.cond (.t 10) .skip (.exit 0)) (.seq (.blk 1 (.seq (aa c64r4) (.seq (aa c64r5) (ab c64r6 23 c64r7)))) (aa c64r8))))))) (.seq (aa c64r9) .ret))))
def v64:List Nat × List Nat:=([1,5],[1,5,6,14,17,25])
def o64:List RS:=[.t 2]
def c65r0:List SI:=[aD 2 0,a0 4,af 5 0]
def c65r1:List SI:=[ar 9 2 0 5,aq 10 18 9,ac 6 10]
def c65r2:List SI:=[ac 11 6,aP 12 11 0]
def c65r3:List SI:=[cM 13,ac 14 6,ao 4 0 5 13,ac 5 14]
def c65r4:List (Bool × SI):=[(true,ah 2),(true,aj 16 2 4),(true,ah 2),(true,aj 19 2 3),(false,aq 17 116 16),(true,ah 2),(false,aq 20 48 19)]
def c65r5:List SI:=[ao 2 4 1 17,ah 2,ao 2 3 1 20]
def c65r6:List SI:=[ar 23 2 0 5,cZ 24 0 5 23,aR 25 24,ac 7 25]
def c65r7:List SI:=[ac 26 1,ac 27 7,bP 28 26 27,ac 8 28]
def c65r8:List SI:=[ac 29 8,aP 30 29 0]
def c65r9:List SI:=[cM 31,ac 32 8,ao 4 0 5 31,ac 5 32]
def c65r10:List SI:=[ac 33 7,au 34 33,ak 35 34 0,aK 36 35 5,ao 4 0 5 36,af 5 0]
def c65:SC:=(.seq (aa c65r0) (.seq (.seq (aa c65r1) (ab c65r2 12 c65r3)) (.seq (.rgY c65r4 c65r5) (.seq (aa c65r6) (.seq (.seq (aa c65r7) (ab c65r8 30 c65r9)) (.seq (aa c65r10) .ret))))))
def v65:List Nat × List Nat:=([2,4],[2,4,15,18,21,22])
def o65:List RS:=[.r 4 (some 5),.t 5]
def c66r0:List SI:=[af 4 0]
def c66r1:List SI:=[ac 8 0,au 9 8,ak 10 9 0,ak 11 10 1,ai 12 11,aT 13 12 0]
def c66r2:List SI:=[af 4 180]
def c66r3:List SI:=[ac 14 0,au 15 14,ak 16 15 0,ak 17 16 3,ai 18 17,av 19 18,ac 20 0,au 21 20,ak 22 21 0,ak 23 22 2,ai 24 23,aJ 25 19 24]
def c66r4:List SI:=[af 4 181]
def c66r5:List SI:=[ac 26 0,ac 27 0,au 28 27,ak 29 28 0,ak 30 29 1,ai 31 30,az 32 51 26 31,ac 5 32]
def c66r6:RX:=.br [(true,aK 34 1 10),(true,ac 35 5),(true,au 36 35),(true,aK 37 36 7)] (aq 38 68 37) (.br [] (az 39 67 34 38) (.leaf [(true,ac 33 39),(true,am 40 33 0),(true,am 41 33 1),(false,dk 6),(false,aC 6 10 40),(true,ac 7 41)]) (dk 6) (.leaf [(false,az 39 67 34 38),(true,ac 33 39),(true,am 40 33 0),(true,am 41 33 1),(false,aC 6 10 40),(true,ac 7 41)])) (dk 6) (.leaf [(false,aq 38 68 37),(false,az 39 67 34 38),(true,ac 33 39),(true,am 40 33 0),(true,am 41 33 1),(false,aC 6 10 40),(true,ac 7 41)])
def c66r7:List SI:=[ac 42 7,aP 43 42 0]
def c66r8:List SI:=[ac 44 7,ac 4 44]
def c66r9:List (Bool × SI):=[(true,ac 45 0),(true,au 46 45),(true,ak 47 46 0),(true,ak 48 47 0),(true,ai 49 48),(true,ak 50 6 0),(true,ai 51 50),(true,ak 52 6 3)]
def c66r10:List SI:=[aC 52 1 49,aC 2 1 51]
def c66r11:List WI:=[(true,false,ac 54 5),(true,false,ac 55 5),(true,false,au 56 55),(true,false,ak 57 56 2),(true,false,aK 58 57 3),(true,false,aK 59 6 10),(false,true,az 60 69 58 59),(true,false,ac 53 60),(true,false,am 61 53 0),(true,false,am 62 53 1),(true,false,au 63 54),(true,false,ak 64 63 2),(false,true,aC 64 3 61),(true,false,ac 7 62)]
def c66r12:List SI:=[ac 65 7,aP 66 65 0]
def c66r13:List SI:=[ac 67 7,ac 4 67]
def c66r14:List WI:=[(true,false,ac 69 5),(true,false,ac 70 5),(true,false,au 71 70),(true,false,ak 72 71 5),(true,false,ai 73 72),(true,false,ac 74 0),(true,false,au 75 74),(true,false,ak 76 75 0),(true,false,ak 77 76 0),(true,false,ai 78 77),(true,false,ai 79 2),(false,true,bf 80 70 73 78 79),(true,false,ac 68 80),(true,false,am 81 68 0),(true,false,am 82 68 1),(true,false,au 83 69),(true,false,ak 84 83 5),(false,true,aC 84 1 81),(true,false,ac 7 82)]
def c66r15:List SI:=[ac 85 7,aP 86 85 0]
def c66r16:List SI:=[ac 87 7,ac 4 87]
def c66r17:List SI:=[ac 88 0,aq 89 71 88]
def c66r18:List SI:=[af 4 0]
def c66:SC:=(.seq (aa c66r0) (.seq (ab c66r1 13 c66r2) (.seq (.seq (.reg true c66r3) (.cond (.t 25) (.seq (aa c66r4) .ret) .skip)) (.seq (aa c66r5) (.seq (.rgZ c66r6) (.seq (ab c66r7 43 c66r8) (.seq (.rgY c66r9 c66r10) (.seq (.seq (.rgW c66r11) (ab c66r12 66 c66r13)) (.seq (.seq (.rgW c66r14) (ab c66r15 86 c66r16)) (.seq (aa c66r17) (.seq (aa c66r18) .ret)))))))))))
def v66:List Nat × List Nat:=([],[])
def o66:List RS:=[.t 4]
def c67r0:List SI:=[aD 2 0,a8 4,af 5 0]
def c67r1:List SI:=[ac 10 1,da 11 3 1 1 0 1 10,⟨none,.call 12 117 [(.i 1099511627776),(.t 11)],none,0⟩,aO 13 12]
def c67r2:List SI:=[bj 14,ao 4 0 10 14,af 5 1]
def c67r3:List SI:=[ar 15 2 0 10,aq 16 118 15,ac 6 16]
def c67r4:List SI:=[ac 17 6,aP 18 17 0]
def c67r5:List SI:=[bj 19,ac 20 6,ao 4 0 10 19,ac 5 20]
def c67r6:List SI:=[ac 21 1,ah 2,aj 23 2 0,aY 24 21 23,ac 7 24]
def c67r7:List WI:=[(true,false,ac 25 1),(true,false,ah 2),(true,false,aj 27 2 1),(true,false,ac 28 7),(true,false,aZ 29 27 28),(true,false,ah 2),(true,false,aj 31 2 9),(true,false,ah 2),(false,false,aq 32 119 31),(false,true,ao 2 0 1 25),(true,false,ah 2),(false,true,ao 2 1 1 29),(true,false,ah 2),(false,true,ao 2 9 1 32)]
def c67r8:List SI:=[ah 2,aj 37 2 9,av 38 37,af 39 0]
def c67r9:List SI:=[aJ 40 39 38]
def c67r10:List SI:=[ac 41 39,ac 8 41]
def c67r11:List SI:=[ah 2,aj 43 2 9,ac 44 8,aF 45 43 44 5,ak 46 45 0,ai 47 46,ac 48 7,aZ 49 47 48,aF 50 43 44 5,ak 51 50 0,aC 51 1 49]
def c67r12:List SI:=[aE 52 39 1,ac 39 52]
def c67r13:List SI:=[ar 53 2 0 10,aq 54 118 53,ac 9 54]
def c67r14:List SI:=[ac 55 9,aP 56 55 0]
def c67r15:List SI:=[bj 57,ac 58 9,ao 4 0 10 57,ac 5 58]
def c67r16:List SI:=[ar 59 2 0 10,ao 4 0 10 59,af 5 0]
def c67:SC:=(.seq (aa c67r0) (.seq (ab c67r1 13 c67r2) (.seq (.seq (aa c67r3) (ab c67r4 18 c67r5)) (.seq (aa c67r6) (.seq (.rgW c67r7) (.seq (.seq (aa c67r8) (.blk 0 (.loop (.seq (aa c67r9) (.seq (.cond (.t 40) .skip (.exit 0)) (.seq (.blk 1 (.seq (aa c67r10) (aa c67r11))) (aa c67r12))))))) (.seq (.seq (aa c67r13) (ab c67r14 56 c67r15)) (.seq (aa c67r16) .ret))))))))
def v67:List Nat × List Nat:=([2,4],[2,4,22,26,30,33,34,35,36,42])
def o67:List RS:=[.r 4 (some 10),.t 5]
def c68r0:List SI:=[aD 1 0,af 2 0]
def c68r1:List SI:=[ah 1,ar 4 1 2 3,aq 5 22 4,ac 2 5]
def c68:SC:=(.seq (aa c68r0) (.seq (aa c68r1) .ret))
def v68:List Nat × List Nat:=([1],[1,3])
def o68:List RS:=[.t 2]
def c69r0:List SI:=[aD 2 0,aD 3 1,bg 4,af 5 0]
def c69r1:List SI:=[ar 11 2 0 3,aq 12 62 11,ac 6 12]
def c69r2:List SI:=[ac 13 6,aW 14 13 0]
def c69r3:List SI:=[ar 15 3 0 10,aq 16 118 15,ac 6 16]
def c69r4:List SI:=[ac 18 6,aP 19 18 0,ac 17 19]
def c69r5:List SI:=[bt 20,ac 21 6,ao 4 0 3 20,ac 5 21]
def c69r6:List (Bool × SI):=[(true,ah 3),(true,aj 24 3 0),(true,ar 25 2 0 3),(false,aq 26 63 25),(true,aJ 27 24 26),(true,ac 22 27)]
def c69r7:List SI:=[bt 28,ao 4 0 3 28,af 5 71]
def c69r8:List (Bool × SI):=[(true,ar 30 3 0 10),(true,ah 2),(true,aj 33 2 0),(false,aq 31 120 30),(true,cd 34 31 33),(true,ac 29 34)]
def c69r9:List SI:=[bt 35,ao 4 0 3 35,af 5 70]
def c69r10:List SI:=[ar 36 2 0 3,aq 37 115 36,ac 7 37]
def c69r11:RX:=.br [(true,ah 2),(true,aj 40 2 2),(true,ac 41 7),(true,aF 42 40 41 2),(true,aK 43 42 2),(true,ar 44 3 0 10),(true,ah 2),(true,aj 46 2 0)] (bf 47 121 43 44 46) (.leaf [(true,ac 38 47),(true,am 48 38 0),(true,am 49 38 1),(false,dl 8),(false,aC 8 2 48),(true,ac 9 49)]) (dl 8) (.leaf [(false,bf 47 121 43 44 46),(true,ac 38 47),(true,am 48 38 0),(true,am 49 38 1),(false,aC 8 2 48),(true,ac 9 49)])
def c69r12:List SI:=[ac 50 9,aW 51 50 0]
def c69r13:RX:=.br [(true,ar 52 2 0 3),(true,ah 2),(true,aj 54 2 2),(true,ac 55 7),(true,bB 56 54 55 2),(true,aK 58 8 2)] (aq 57 86 56) (.leaf [(false,bN 59 120 1 2 0 2 58),(false,aQ 60 57 59 120 2 32),(false,az 61 122 52 60),(false,ao 4 0 3 61),(true,af 5 0)]) (bN 59 120 1 2 0 2 58) (.leaf [(false,aq 57 86 56),(false,aQ 60 57 59 120 2 32),(false,az 61 122 52 60),(false,ao 4 0 3 61),(true,af 5 0)])
def c69r14:List SI:=[ah 2,aj 63 2 2,av 64 63,aW 65 64 256]
def c69r15:List SI:=[bt 66,ao 4 0 3 66,af 5 2]
def c69r16:List SI:=[ah 3,aj 69 3 0,ar 70 3 0 10,cL 71 43 1 10 0 10 70,ah 2,aj 73 2 0,bf 74 123 69 71 73,ac 67 74,am 75 67 0,am 76 67 1,bo 10,ao 10 0 2 75,ac 6 76]
def c69r17:List SI:=[ac 77 6,aP 78 77 0]
def c69r18:List SI:=[bt 79,ac 80 6,ao 4 0 3 79,ac 5 80]
def c69r19:RX:=.br [(true,ar 81 2 0 3),(true,ah 2),(true,aj 83 2 2),(true,ar 85 10 0 2)] (aq 84 86 83) (.leaf [(false,bN 86 120 1 2 0 2 85),(false,aQ 87 84 86 120 2 32),(false,az 88 122 81 87),(false,ao 4 0 3 88),(true,af 5 0)]) (bN 86 120 1 2 0 2 85) (.leaf [(false,aq 84 86 83),(false,aQ 87 84 86 120 2 32),(false,az 88 122 81 87),(false,ao 4 0 3 88),(true,af 5 0)])
def c69:SC:=(.seq (aa c69r0) (.seq (aa c69r1) (.seq (.seq (aa c69r2) (.cond (.t 14) (aa c69r3) .skip)) (.seq (.blk 0 (.seq (aa c69r4) (.cond (.t 17) (.seq (aa c69r5) .ret) (.seq (.rgX c69r6) (.cond (.t 22) (.seq (aa c69r7) .ret) (.seq (.rgX c69r8) (.cond (.t 29) (.seq (aa c69r9) .ret) .skip))))))) (.seq (aa c69r10) (.seq (.seq (.rgZ c69r11) (.seq (aa c69r12) (.cond (.t 51) (.seq (.rgZ c69r13) .ret) .skip))) (.seq (ab c69r14 65 c69r15) (.seq (aa c69r16) (.seq (ab c69r17 78 c69r18) (.seq (.rgZ c69r19) .ret))))))))))
def v69:List Nat × List Nat:=([2,3,4,10],[2,3,4,10,23,32,39,45,53,62,68,72,82])
def o69:List RS:=[.r 4 (some 3),.t 5]
def c70r0:List SI:=[aM 6,af 7 0]
def c70r1:List SI:=[ac 11 0,aq 12 108 11,aP 13 12 0,ac 14 13,aB 14 15 1,bQ 14 16 124 15 1048576,aS 14 17 16,aw 18 14 17,ac 19 18,aB 19 20 2,bQ 19 21 124 20 1099511627776,aS 19 22 21,aw 23 19 22]
def c70r2:List SI:=[aM 6,af 7 1]
def c70r3:List SI:=[ac 24 0,aq 25 125 24,ac 26 1,ac 27 2,⟨none,.bld 28 [(.int .i64 0),(.int .i64 0)] [(0,1,(.t 26)),(1,1,(.t 27))],none,0⟩,dm 9,ac 8 25,ao 9 0 2 28]
def c70r4:List SI:=[ac 29 0,av 30 29,aW 31 30 0]
def c70r5:List SI:=[ac 32 8,ar 33 9 0 2,⟨none,.bls 34 151 1 2 [(.int .i64 0),(.int .i64 0)] [(0,2,(.t 33))],none,0⟩,aQ 35 32 34 151 2 16,ac 6 35,af 7 0]
def c70r6:List SI:=[ac 36 8,ac 37 8,av 38 37,bw 39 38 1,aF 40 36 39 2,ac 10 40]
def c70r7:List SI:=[ac 46 1,ac 47 10,au 48 47,ak 49 48 0,ai 50 49,aJ 51 46 50,ac 45 51]
def c70r8:List SI:=[aM 6,af 7 100]
def c70r9:List SI:=[ac 53 1,ac 54 10,au 55 54,ak 56 55 0,ai 57 56,bl 58 53 57,ac 52 58]
def c70r10:List SI:=[ac 60 2,ac 61 10,au 62 61,ak 63 62 1,ai 64 63,aJ 65 60 64,ac 59 65]
def c70r11:List SI:=[aM 6,af 7 71]
def c70r12:List SI:=[ac 67 2,ac 68 10,au 69 68,ak 70 69 1,ai 71 70,bl 72 67 71,ac 66 72]
def c70r13:List SI:=[ac 73 10,ar 74 9 0 2,au 75 73,aC 75 2 74]
def c70r14:List SI:=[ac 41 8,ar 42 9 0 2,⟨none,.bls 43 151 1 2 [(.int .i64 0),(.int .i64 0)] [(0,2,(.t 42))],none,0⟩,aQ 44 41 43 151 2 16,ac 8 44]
def c70r15:List SI:=[ac 76 8,ac 6 76,af 7 0]
def c70:SC:=(.seq (aa c70r0) (.seq (ab c70r1 23 c70r2) (.seq (aa c70r3) (.seq (ab c70r4 31 c70r5) (.seq (.seq (aa c70r6) (.blk 0 (.seq (aa c70r7) (.cond (.t 45) (.seq (aa c70r8) .ret) (.seq (aa c70r9) (.cond (.t 52) .skip (.seq (aa c70r10) (.cond (.t 59) (.seq (aa c70r11) .ret) (.seq (aa c70r12) (.cond (.t 66) (aa c70r13) (aa c70r14))))))))))) (.seq (aa c70r15) .ret))))))
def v70:List Nat × List Nat:=([9],[9])
def o70:List RS:=[.t 6,.t 7]
def c71r0:List SI:=[ac 5 0,ac 6 0,au 7 6,ak 8 7 0,ak 9 8 1,ai 10 9,az 11 51 5 10,⟨none,.al 2 [(.pointer none)],none,0⟩,aC 2 1 11]
def c71r1:List SI:=[ac 12 0,au 13 12,ak 14 13 0,ak 15 14 1,ai 16 15,aT 17 16 0,ac 18 17,aV 18 19 2,⟨some (18,false),.eqf 20 false [3] (.t 19) (.v (.pointer none)),none,20⟩,aw 21 18 20]
def c71r2:List SI:=[ai 22 2,au 23 22,aK 24 23 7,aq 25 68 24,bL 3,aC 3 1 25]
def c71r3:List SI:=[ac 26 0,aq 27 61 26]
def c71r4:List SI:=[ac 4 28]
def c71r5:List SI:=[ac 29 4,ai 30 2,⟨none,.eqf 31 true [3] (.t 29) (.t 30),none,0⟩]
def c71r6:List (Bool × SI):=[(true,ai 32 3),(true,ac 33 4),(true,au 34 33),(true,ak 35 34 5),(true,ai 36 35),(true,ac 37 4),(true,au 38 37),(true,aK 39 38 7),(true,ai 41 2),(true,au 42 41),(true,ak 43 42 5),(true,ai 44 43),(true,ai 45 2),(true,au 46 45),(true,aK 47 46 7),(false,aq 40 68 39),(false,aq 48 68 47),(false,dp 49 126 36 40 44 48),(true,bF 50 32 49)]
def c71r7:List SI:=[aC 3 1 50]
def c71r8:List SI:=[ai 51 2,ai 52 2,au 53 52,ak 54 53 6,ai 55 54,ai 56 3,cw 57 55 56,au 58 51,ak 59 58 6]
def c71r9:List SI:=[aC 59 1 57]
def c71:SC:=(.seq (aa c71r0) (.seq (.seq (aa c71r1) (.cond (.t 21) .ret .skip)) (.seq (aa c71r2) (.seq (.seq (aa c71r3) (.blk 0 (.rf (.t 27) [28] (aa c71r4) (.blk 1 (.seq (aa c71r5) (.cond (.t 31) (.rgY c71r6 c71r7) .skip)))))) (.rgT c71r8 c71r9)))))
def v71:List Nat × List Nat:=([],[])
def o71:List RS:=[]
def c72r0:List SI:=[ay 4]
def c72r1:List SI:=[ac 5 0,bd 6 5 0,ac 7 6,aG 7 8 0,aG 7 9 1,cP 7 10 8 9,aA 11 7 10,ac 4 11]
def c72:SC:=(.seq (aa c72r0) (.seq (aa c72r1) .ret))
def v72:List Nat × List Nat:=([],[])
def o72:List RS:=[.t 4]
theorem s72 : slimC Tryz.prog Tryz.f72.ntmps v72.1 v72.2 ((Tryz.f72.body).getD .skip) = some c72 := by kernel_rfl
theorem q72 : slimR Tryz.prog Tryz.f72.ntmps v72.1 v72.2 Tryz.f72.results.toList = some o72 := by kernel_rfl
def c73r0:List SI:=[aD 1 0,af 2 0]
def c73r1:List SI:=[ar 3 1 0 10,aq 4 127 3,aO 5 4]
def c73r2:List SI:=[af 2 1]
def c73r3:List SI:=[ar 6 1 0 10,aq 7 128 6,av 8 7,bm 9 8 2048]
def c73r4:List SI:=[af 2 2]
def c73r5:List SI:=[af 2 0]
def c73:SC:=(.seq (aa c73r0) (.seq (ab c73r1 5 c73r2) (.seq (ab c73r3 9 c73r4) (.seq (aa c73r5) .ret))))
def v73:List Nat × List Nat:=([1],[1])
def o73:List RS:=[.t 2]
def c74r0:List SI:=[aD 1 0,a8 2]
def c74r1:List SI:=[ah 1,aj 4 1 9,cQ 5 4 103 5 56,ah 1,ao 1 9 1 5]
def c74r2:List SI:=[ar 7 1 0 10,ao 2 0 10 7]
def c74:SC:=(.seq (aa c74r0) (.seq (aa c74r1) (.seq (aa c74r2) .ret)))
def v74:List Nat × List Nat:=([1,2],[1,2,3,6])
def o74:List RS:=[.r 2 (some 10)]
def c75r0:List SI:=[aM 2]
def c75r1:List SI:=[ac 3 0,cR 4 129 3,ac 2 4]
def c75:SC:=(.seq (aa c75r0) (.seq (aa c75r1) .ret))
def v75:List Nat × List Nat:=([],[])
def o75:List RS:=[.t 2]
def c76r0:List SI:=[aR 2 0,aR 3 1,cH 4]
def c76r1:List SI:=[bY 5 130 2 3,ac 4 5]
def c76:SC:=(.seq (aa c76r0) (.seq (aa c76r1) .ret))
def v76:List Nat × List Nat:=([],[])
def o76:List RS:=[.t 4]
def c77r0:List SI:=[aD 2 0,aD 3 1,ay 4]
def c77r1:List SI:=[ah 2,aj 7 2 0,ah 3,aj 9 3 0,bz 10 7 9,ac 11 10,aH 11 2,aI 11 13 2 1,aH 11 3,aI 11 15 3 1,cB 11 16 13 15,aw 17 11 16,ac 18 17,aH 18 2,aI 18 20 2 2,a9 18 21 20,aH 18 3,aI 18 23 3 2,a9 18 24 23,cB 18 25 21 24,aw 26 18 25]
def c77r2:List SI:=[ay 4]
def c77r3:List SI:=[af 5 0]
def c77r4:List SI:=[ac 27 5,ah 2,aj 29 2 2,av 30 29,aJ 31 27 30]
def c77r5:List (Bool × SI):=[(true,ah 2),(true,aj 35 2 2),(true,ac 36 5),(true,aF 37 35 36 2),(true,aK 38 37 2),(true,ah 3),(true,aj 40 3 2),(true,ac 41 5),(true,aF 42 40 41 2),(true,aK 43 42 2),(false,az 44 132 38 43),(true,aO 45 44)]
def c77r6:List SI:=[ay 4]
def c77r7:List SI:=[ac 32 5,aE 33 32 1,ac 5 33]
def c77r8:List SI:=[bA 4]
def c77:SC:=(.seq (aa c77r0) (.seq (ab c77r1 26 c77r2) (.seq (.seq (aa c77r3) (.blk 0 (.loop (.seq (.seq (aa c77r4) (.cond (.t 31) .skip (.exit 0))) (.seq (.blk 1 (.seq (.rgX c77r5) (.cond (.t 45) (.seq (aa c77r6) .ret) .skip))) (aa c77r7)))))) (.seq (aa c77r8) .ret))))
def v77:List Nat × List Nat:=([2,3],[2,3,6,8,12,14,19,22,28,34,39])
def o77:List RS:=[.t 4]
def c78r0:List SI:=[ay 4]
def c78r1:List SI:=[ac 6 0,av 7 6,ac 8 1,av 9 8,bz 10 7 9]
def c78r2:List SI:=[ay 4]
def c78r3:List SI:=[ac 11 0,av 12 11,af 13 0]
def c78r4:List SI:=[aJ 14 13 12]
def c78r5:List SI:=[ac 15 13,ac 5 15]
def c78r6:List SI:=[ac 16 0,ac 17 5,aF 18 16 17 2,aK 19 18 2,ac 20 1,ac 21 5,aF 22 20 21 2,aK 23 22 2,⟨none,.eqf 24 true [0,0] (.t 19) (.t 23),none,0⟩]
def c78r7:List SI:=[ay 4]
def c78r8:List SI:=[aE 25 13 1,ac 13 25]
def c78r9:List SI:=[bA 4]
def c78:SC:=(.seq (aa c78r0) (.seq (ab c78r1 10 c78r2) (.seq (.seq (aa c78r3) (.blk 0 (.loop (.seq (aa c78r4) (.seq (.cond (.t 14) .skip (.exit 0)) (.seq (.blk 1 (.seq (aa c78r5) (.seq (.reg true c78r6) (.cond (.t 24) (.seq (aa c78r7) .ret) .skip)))) (aa c78r8))))))) (.seq (aa c78r9) .ret))))
def v78:List Nat × List Nat:=([],[])
def o78:List RS:=[.t 4]
def c79r0:List SI:=[aD 2 0,aD 3 1,ay 4]
def c79r1:List SI:=[ah 2,aj 6 2 0,ah 3,aj 8 3 0,bl 9 6 8,ac 10 9,aL 10 2,aN 10 12 2 1,aL 10 3,aN 10 14 3 1,bu 10 15 12 14,aA 16 10 15,ac 17 16,aL 17 2,aN 17 19 2 2,aL 17 3,aN 17 21 3 2,bu 17 22 19 21,aA 23 17 22,ac 24 23,aL 24 2,aN 24 26 2 3,aL 24 3,aN 24 28 3 3,bu 24 29 26 28,aA 30 24 29,ac 31 30,aL 31 2,aN 31 33 2 4,aL 31 3,aN 31 35 3 4,bu 31 36 33 35,aA 37 31 36,ac 38 37,aL 38 2,aN 38 40 2 5,aL 38 3,aN 38 42 3 5,bu 38 43 40 42,aA 44 38 43,ac 45 44,aL 45 2,aN 45 47 2 6,aL 45 3,aN 45 49 3 6,bu 45 50 47 49,aA 51 45 50,ac 52 51,aL 52 2,aN 52 54 2 7,aL 52 3,aN 52 56 3 7,⟨some (52,true),.eqb 57 false (.t 54) (.t 56),none,57⟩,aA 58 52 57,ac 59 58,aL 59 2,aN 59 61 2 8,aL 59 3,aN 59 63 3 8,bu 59 64 61 63,aA 65 59 64,ac 66 65,aL 66 2,aN 66 68 2 9,aL 66 3,aN 66 70 3 9,bV 66 71 133 68 70,aA 72 66 71,ac 4 72]
def c79:SC:=(.seq (aa c79r0) (.seq (aa c79r1) .ret))
def v79:List Nat × List Nat:=([2,3],[2,3,5,7,11,13,18,20,25,27,32,34,39,41,46,48,53,55,60,62,67,69])
def o79:List RS:=[.t 4]
def c80r0:List SI:=[aD 3 0,aR 4 1,aR 5 2,a0 6,af 7 0]
def c80r1:List SI:=[ar 8 3 0 5,bY 9 134 4 5,az 10 65 8 9,am 11 10 0,am 12 10 1,ao 6 0 5 11,ac 7 12]
def c80:SC:=(.seq (aa c80r0) (.seq (aa c80r1) .ret))
def v80:List Nat × List Nat:=([3,6],[3,6])
def o80:List RS:=[.r 6 (some 5),.t 7]
def c81r0:List SI:=[af 5 0]
def c81r1:List SI:=[ac 10 0,au 11 10,ak 12 11 0,ak 13 12 1,ai 14 13,aT 15 14 0,ac 16 15,aB 16 17 1,⟨some (16,false),.nck 18 (.t 17),none,18⟩,cr 16 19 18 1,aV 16 20 19,aS 16 21 20,aw 22 16 21]
def c81r2:List SI:=[af 5 180]
def c81r3:List SI:=[ai 23 2,ac 24 0,au 25 24,ak 26 25 0,ak 27 26 1,ai 28 27,bl 29 23 28]
def c81r4:List SI:=[af 5 0]
def c81r5:List SI:=[ac 30 0,ac 31 0,au 32 31,ak 33 32 0,ak 34 33 1,ai 35 34,az 36 51 30 35,ac 6 36]
def c81r6:List SI:=[ac 37 1,ac 38 6,au 39 38,aK 40 39 7,az 41 82 37 40]
def c81r7:List SI:=[ac 42 1,au 43 42,aK 44 43 7,aq 45 68 44,ac 7 45]
def c81r8:List SI:=[ac 46 1,ac 47 1,au 48 47,ak 49 48 6,ai 50 49,ac 51 7,bF 52 50 51,au 53 46,ak 54 53 6,aC 54 1 52]
def c81r9:List (Bool × SI):=[(true,ac 56 0),(true,au 57 56),(true,ak 58 57 0),(true,ak 59 58 3),(true,ai 60 59),(true,ai 61 2),(false,az 62 83 60 61),(true,ac 55 62),(true,am 63 55 0),(true,am 64 55 1),(true,ac 8 63),(true,ac 9 64)]
def c81r10:List SI:=[ac 65 7,ac 66 6,au 67 66,ak 68 67 6,ai 69 68,cI 70 65 69,ac 71 70,aG 71 72 9,bW 71 73 72,aA 74 71 73]
def c81r11:List (Bool × SI):=[(true,ac 75 0),(true,ac 76 0),(true,au 77 76),(true,ak 78 77 0),(true,ak 79 78 3),(true,ai 80 79),(true,ac 81 8),(true,ai 82 2),(false,da 83 3 1 1 0 1 82),(false,bf 84 84 80 81 83),(true,au 85 75),(true,ak 86 85 0),(true,ak 87 86 3)]
def c81r12:List SI:=[aC 87 1 84]
def c81r13:List SI:=[ac 88 0,aq 89 71 88]
def c81r14:List SI:=[ac 90 1,ac 91 1,au 92 91,ak 93 92 6,ai 94 93,ac 95 6,au 96 95,ak 97 96 6,ai 98 97,cw 99 94 98,ac 100 7,bF 101 99 100,au 102 90,ak 103 102 6]
def c81r15:List SI:=[aC 103 1 101]
def c81r16:List SI:=[af 5 0]
def c81:SC:=(.seq (aa c81r0) (.seq (ab c81r1 22 c81r2) (.seq (.seq (.reg true c81r3) (.cond (.t 29) (.seq (aa c81r4) .ret) .skip)) (.seq (aa c81r5) (.seq (aa c81r6) (.seq (aa c81r7) (.seq (aa c81r8) (.seq (.seq (.rgX c81r9) (.seq (aa c81r10) (.cond (.t 74) (.rgY c81r11 c81r12) .skip))) (.seq (aa c81r13) (.seq (.rgT c81r14 c81r15) (.seq (aa c81r16) .ret)))))))))))
def v81:List Nat × List Nat:=([],[])
def o81:List RS:=[.t 5]
def c82r0:List SI:=[aD 3 1]
def c82r1:List (Bool × SI):=[(true,ac 8 0),(true,au 9 8),(true,ak 10 9 5),(true,ai 11 10),(true,ac 12 0),(true,au 13 12),(true,aK 14 13 7),(true,ah 3),(true,aj 17 3 5),(true,ar 18 3 0 7),(false,aq 15 68 14),(false,aq 19 68 18),(false,dp 20 126 11 15 17 19),(true,ac 4 20)]
def c82r2:List SI:=[ah 3,ar 22 3 2 3,bg 5,ao 5 0 3 22,ay 6]
def c82r3:List SI:=[ac 23 0,au 24 23,ak 25 24 2,ak 26 25 1,ai 27 26,ac 7 27]
def c82r4:List SI:=[ac 28 7,ah 3,⟨none,.nop,none,0⟩,aj 31 3 3,bl 32 28 31,ac 33 32,aG 33 34 4,aG 33 35 7,di 33 36 34 35,aA 37 33 36]
def c82r5:List WI:=[(true,false,ac 39 0),(true,false,au 40 39),(true,false,ak 41 40 2),(true,false,aK 42 41 3),(true,false,ah 3),(true,false,ar 44 3 2 3),(true,false,ac 45 4),(true,false,ac 46 0),(true,false,au 47 46),(true,false,aK 48 47 7),(false,false,aq 49 68 48),(true,false,bF 50 45 49),(false,true,bf 51 135 42 44 50),(true,false,ac 38 51),(true,false,am 52 38 0),(true,false,am 53 38 1),(false,true,ao 5 0 3 52),(true,false,ac 6 53)]
def c82r6:List SI:=[ac 54 6,aO 55 54]
def c82r7:List SI:=[ah 3,ar 57 3 2 3,ao 5 0 3 57]
def c82r8:List WI:=[(true,false,ac 58 0),(true,false,ac 59 0),(true,false,ar 60 5 0 3),(true,false,ah 3),(true,false,aj 62 3 5),(true,false,au 63 58),(true,false,ak 64 63 2),(false,false,aC 64 3 60),(true,false,au 65 59),(true,false,ak 66 65 5),(false,true,aC 66 1 62)]
def c82:SC:=(.seq (aa c82r0) (.seq (.rgX c82r1) (.seq (aa c82r2) (.seq (.seq (aa c82r3) (.seq (aa c82r4) (.cond (.t 37) (.rgW c82r5) .skip))) (.seq (.seq (aa c82r6) (.cond (.t 55) (aa c82r7) .skip)) (.rgW c82r8))))))
def v82:List Nat × List Nat:=([3,5],[3,5,16,21,29,30,43,56,61])
def o82:List RS:=[]
def c83r0:List SI:=[af 4 0,ay 5]
def c83r1:List SI:=[ac 10 0,av 11 10,ac 6 11]
def c83r2:List SI:=[ac 12 6,af 7 0,ac 8 12]
def c83r3:List SI:=[ac 13 7,ac 14 8,aJ 15 13 14]
def c83r4:List SI:=[ac 16 7,ac 17 8,aZ 18 16 17,bn 19 18,bG 20 19 1,ci 21 20,ac 9 21]
def c83r5:List SI:=[ac 22 0,ac 23 9,aF 24 22 23 1,ai 25 24,ac 26 1,az 27 136 25 26]
def c83r6:List SI:=[ac 28 9,aE 29 28 1,ac 7 29]
def c83r7:List SI:=[ac 30 9,ac 8 30]
def c83r8:List SI:=[ac 31 7,ac 32 7,ac 33 6,aJ 34 32 33,ac 35 34,aG 35 36 0,aG 35 37 7,bD 35 38 36 37 1,bJ 35 39 38,aG 35 40 1,bu 35 41 39 40,aG 35 42 41,aB 42 43 0,aB 42 44 7,cD 42 45 43 44 1,aV 42 46 45,ba 42 47 137 46,aB 42 48 47,aG 48 49 1,bc 48 50 137 49,bO 42 51 48 50,bC 35 52 42 51,aA 53 35 52,ac 4 31,ac 5 53]
def c83:SC:=(.seq (aa c83r0) (.seq (aa c83r1) (.seq (aa c83r2) (.seq (.blk 0 (.loop (.seq (.seq (aa c83r3) (.cond (.t 15) .skip (.exit 0))) (.blk 1 (.seq (aa c83r4) (.seq (aa c83r5) (.cond (.t 27) (aa c83r6) (aa c83r7)))))))) (.seq (aa c83r8) .ret)))))
def v83:List Nat × List Nat:=([],[])
def o83:List RS:=[.t 4,.t 5]
def c85r0:List SI:=[af 6 0]
def c85r1:List SI:=[ai 10 2,aT 11 10 0,ac 9 11]
def c85r2:List SI:=[af 6 1]
def c85r3:List SI:=[ac 13 1,au 14 13,ak 15 14 1,ai 16 15,aO 17 16,ac 12 17]
def c85r4:List SI:=[af 6 180]
def c85r5:List SI:=[ac 18 1,au 19 18,ak 20 19 2,ak 21 20 2,ai 22 21,aq 23 86 22,ac 7 23]
def c85r6:List SI:=[ac 24 7,ac 25 7,av 26 25,bw 27 26 1,aF 28 24 27 2,ac 8 28]
def c85r7:List SI:=[ac 29 8,ac 30 8,au 31 30,ak 32 31 1,ai 33 32,ac 34 8,au 35 34,ak 36 35 1,ai 37 36,av 38 37,ai 39 2,ac 40 8,au 41 40,ak 42 41 1,ai 43 42,av 44 43,bF 45 39 44,aY 46 38 45,bB 47 33 46 1,au 48 29,ak 49 48 1]
def c85r8:List SI:=[aC 49 1 47]
def c85r9:List SI:=[ac 50 1,ac 51 1,ac 52 7,au 53 50,ak 54 53 1,cS 54 1,au 55 51,ak 56 55 2,ak 57 56 2,aC 57 1 52]
def c85r10:List SI:=[ac 58 0,au 59 58,ak 60 59 0,ak 61 60 1,ai 62 61,ai 63 3,bl 64 62 63]
def c85r11:List SI:=[ac 65 0,au 66 65,ak 67 66 0,ak 68 67 1,⟨none,.st (.t 68) 1 (.i (-1)),none,0⟩]
def c85r12:List SI:=[ac 69 0,au 70 69,ak 71 70 0,ak 72 71 3,ai 73 72,av 74 73,bm 75 74 1]
def c85r13:List SI:=[ac 76 0,ai 77 3,az 78 87 76 77]
def c85r14:List SI:=[ac 79 0,aq 80 71 79]
def c85r15:List SI:=[af 6 0]
def c85:SC:=(.seq (aa c85r0) (.seq (.blk 0 (.seq (aa c85r1) (.cond (.t 9) (.seq (aa c85r2) .ret) (ab c85r3 12 c85r4)))) (.seq (aa c85r5) (.seq (aa c85r6) (.seq (.rgT c85r7 c85r8) (.seq (aa c85r9) (.seq (.seq (.reg true c85r10) (.cond (.t 64) (aa c85r11) .skip)) (.seq (.seq (aa c85r12) (.cond (.t 75) (aa c85r13) .skip)) (.seq (aa c85r14) (.seq (aa c85r15) .ret))))))))))
def v85:List Nat × List Nat:=([],[])
def o85:List RS:=[.t 6]
def c86r0:List SI:=[aM 2]
def c86r1:List SI:=[ac 3 0,cz 4 3]
def c86r2:List SI:=[aM 2]
def c86r3:List SI:=[bZ 5,ac 6 0,aQ 7 5 6 120 2 32,ac 2 7]
def c86:SC:=(.seq (aa c86r0) (.seq (ab c86r1 4 c86r2) (.seq (aa c86r3) .ret)))
def v86:List Nat × List Nat:=([],[])
def o86:List RS:=[.t 2]
def c87r0:List SI:=[aR 3 1]
def c87r1:List SI:=[ac 4 0,ac 5 0,au 6 5,ak 7 6 0,ak 8 7 3,ai 9 8,bM 10 141 3,az 11 140 9 10,au 12 4,ak 13 12 0,ak 14 13 3,aC 14 1 11]
def c87:SC:=(.seq (aa c87r0) (aa c87r1))
def v87:List Nat × List Nat:=([],[])
def o87:List RS:=[]
def c88r0:List SI:=[af 4 0]
def c88r1:List SI:=[ac 6 1,au 7 6,ak 8 7 1,ai 9 8]
def c88r2:List SI:=[af 4 150]
def c88r3:List SI:=[ac 10 1,au 11 10,ak 12 11 1,⟨none,.st (.t 12) 1 (.b true),none,0⟩]
def c88r4:List SI:=[ac 14 1,ac 15 1,au 16 15,ak 17 16 2,aK 18 17 3,aq 19 89 18,ac 13 19,am 20 13 0,am 21 13 1,au 22 14,ak 23 22 2,aC 23 3 20]
def c88r5:List SI:=[ac 24 1,au 25 24,aK 26 25 7,aq 27 68 26,ac 5 27]
def c88r6:List WI:=[(true,false,ac 28 1),(true,false,ac 29 1),(true,false,ac 30 1),(true,false,au 31 30),(true,false,ak 32 31 5),(true,false,ai 33 32),(true,false,ac 34 5),(true,false,ac 36 1),(true,false,au 37 36),(true,false,ak 38 37 6),(true,false,ai 39 38),(true,false,ac 40 5),(true,false,bF 41 39 40),(false,false,az 35 90 33 34),(true,false,au 42 28),(true,false,ak 43 42 5),(false,true,aC 43 1 35),(true,false,au 44 29),(true,false,ak 45 44 6),(false,true,aC 45 1 41)]
def c88r7:List SI:=[af 4 0]
def c88:SC:=(.seq (aa c88r0) (.seq (ab c88r1 9 c88r2) (.seq (aa c88r3) (.seq (aa c88r4) (.seq (aa c88r5) (.seq (.rgW c88r6) (.seq (aa c88r7) .ret)))))))
def v88:List Nat × List Nat:=([],[])
def o88:List RS:=[.t 4]
def c89r0:List SI:=[aD 1 0,bg 2,af 3 0]
def c89r1:List SI:=[ah 1,aj 9 1 0,ah 1,aj 11 1 1,az 12 103 9 11,aO 13 12,ac 14 13,aH 14 1,aI 14 16 1 2,a9 14 17 16,dj 14 18 17 0,aw 19 14 18,ac 20 19,aH 20 1,aI 20 22 1 2,⟨some (20,false),.ixA 23 (.t 22) (.i 0) 2,none,23⟩,cr 20 24 23 0,aV 20 25 24,ba 20 26 142 25,aS 20 27 26,aw 28 20 27]
def c89r2:List SI:=[bt 29,ao 2 0 3 29,af 3 0]
def c89r3:List SI:=[ar 30 1 0 3,⟨none,.call 31 122 [(.t 30),(.v (.slice none 0 0))],none,0⟩,ao 2 0 3 31]
def c89r4:List SI:=[ah 1,aj 33 1 2,av 34 33,af 35 0]
def c89r5:List SI:=[aJ 36 35 34]
def c89r6:List SI:=[ac 37 35,aF 38 33 35 2,aK 39 38 2,bo 5,ac 4 37,ao 5 0 2 39]
def c89r7:List SI:=[ac 40 3,ah 5,aj 42 5 1,av 43 42,aZ 44 40 43,ac 3 44]
def c89r8:List (Bool × SI):=[(true,ah 2),(true,aj 46 2 2),(true,av 47 46),(true,ac 48 4),(true,aJ 49 47 48),(true,ac 50 49),(true,aB 50 51 4),(true,aX 50 52 51 0),(true,aB 50 53 52),(true,aL 53 1),(true,aN 53 55 1 2),(true,aG 53 56 4),(true,cF 53 57 56 1),(true,bD 53 58 55 57 2),(true,cp 53 59 58 2),(false,bc 53 60 112 59),(true,bW 53 61 60),(true,aG 53 62 61),(true,aH 62 1),(true,aI 62 64 1 2),(true,aB 62 65 4),(true,⟨some (62,false),.bin 66 .sub (.t 65) (.i 1),none,66⟩),(true,cD 62 67 64 66 2),(true,⟨some (62,false),.ld 68 (.t 67) (some 2),none,68⟩),(true,cC 62 69 5 0 2),(false,cN 62 70 113 68 69),(true,aS 62 71 70),(true,bC 53 72 62 71),(true,bO 50 73 53 72),(true,aw 74 50 73)]
def c89r9:List SI:=[ar 76 5 0 2,aq 77 143 76,ac 75 77,am 78 75 0,am 79 75 1,bo 6,ao 6 0 2 78,ac 7 79]
def c89r10:List SI:=[ac 80 3,ah 6,aj 82 6 1,av 83 82,aY 84 80 83,ac 3 84]
def c89r11:List SI:=[ah 2,aj 86 2 2,ar 87 6 0 2,bN 88 120 1 2 0 2 87,aQ 89 86 88 120 2 32,ah 2,ao 2 2 1 89]
def c89r12:List SI:=[aE 91 35 1,ac 35 91]
def c89r13:List SI:=[ar 92 2 0 3,ac 93 3,ao 2 0 3 92,ac 3 93]
def c89:SC:=(.seq (aa c89r0) (.seq (ab c89r1 28 c89r2) (.seq (aa c89r3) (.seq (.seq (aa c89r4) (.blk 0 (.loop (.seq (aa c89r5) (.seq (.cond (.t 36) .skip (.exit 0)) (.seq (.blk 1 (.seq (aa c89r6) (.seq (aa c89r7) (.seq (.seq (.rgX c89r8) (.cond (.t 74) (.exit 1) .skip)) (.seq (aa c89r9) (.seq (aa c89r10) (aa c89r11))))))) (aa c89r12))))))) (.seq (aa c89r13) .ret)))))
def v89:List Nat × List Nat:=([1,2,5,6],[1,2,5,6,8,10,15,21,32,41,45,54,63,81,85,90])
def o89:List RS:=[.r 2 (some 3),.t 3]
def c90r0:List SI:=[aR 2 0,aR 3 1,aM 4]
def c90r1:List SI:=[ai 6 2,aq 7 108 6,aP 8 7 0]
def c90r2:List SI:=[aM 4]
def c90r3:List SI:=[ai 9 2,av 10 9,bY 11 145 2 3,az 12 144 10 11,ac 5 12]
def c90r4:List SI:=[ai 13 2,ac 14 5,bB 15 13 14 2,aq 16 125 15,ac 4 16]
def c90:SC:=(.seq (aa c90r0) (.seq (ab c90r1 8 c90r2) (.seq (aa c90r3) (.seq (aa c90r4) .ret))))
def v90:List Nat × List Nat:=([],[])
def o90:List RS:=[.t 4]
def c91r0:List SI:=[af 5 0]
def c91r1:List SI:=[ac 7 1,au 8 7,ak 9 8 1,ai 10 9,aO 11 10,ac 6 11]
def c91r2:List SI:=[af 5 180]
def c91r3:List (Bool × SI):=[(true,ac 13 0),(true,au 14 13),(true,ak 15 14 0),(true,ak 16 15 3),(true,ai 17 16),(true,ai 18 2),(false,az 19 58 17 18),(true,aO 20 19),(true,ac 12 20)]
def c91r4:List SI:=[af 5 181]
def c91r5:List SI:=[ac 22 0,au 23 22,ak 24 23 0,ak 25 24 0,ai 26 25,aW 27 26 1048576,ac 21 27]
def c91r6:List SI:=[af 5 2]
def c91r7:RX:=.br [(true,ac 28 0),(true,ac 29 0),(true,ac 30 0),(true,au 31 30),(true,ak 32 31 0),(true,ak 33 32 0)] (ai 34 33) (.br [(true,aE 35 34 1),(true,au 37 28),(true,ak 38 37 0),(true,ak 39 38 0)] (ai 36 2) (.leaf [(false,aC 39 1 35),(true,au 40 29),(true,ak 41 40 0),(true,ak 42 41 1),(false,aC 42 1 36)]) (aC 39 1 35) (.leaf [(false,ai 36 2),(true,au 40 29),(true,ak 41 40 0),(true,ak 42 41 1),(false,aC 42 1 36)])) (ai 36 2) (.leaf [(false,ai 34 33),(true,aE 35 34 1),(true,au 37 28),(true,ak 38 37 0),(true,ak 39 38 0),(false,aC 39 1 35),(true,au 40 29),(true,ak 41 40 0),(true,ak 42 41 1),(false,aC 42 1 36)])
def c91r8:List SI:=[ac 43 0,aq 44 71 43]
def c91r9:List SI:=[af 5 0]
def c91:SC:=(.seq (aa c91r0) (.seq (.blk 0 (.seq (aa c91r1) (.cond (.t 6) (.seq (aa c91r2) .ret) (.seq (.rgX c91r3) (.cond (.t 12) (.seq (aa c91r4) .ret) (ab c91r5 21 c91r6)))))) (.seq (.rgZ c91r7) (.seq (aa c91r8) (.seq (aa c91r9) .ret)))))
def v91:List Nat × List Nat:=([],[])
def o91:List RS:=[.t 5]
def yc91r7 : Sch := .br [(true, 0), (true, 1), (true, 2), (true, 3), (true, 4), (true, 5)] 6 (.br [(true, 7), (true, 9), (true, 10), (true, 11)] 8 (.leaf [(false, 12), (true, 13), (true, 14), (true, 15), (false, 16)]) 12 (.leaf [(false, 8), (true, 13), (true, 14), (true, 15), (false, 16)])) 8 (.leaf [(false, 6), (true, 7), (true, 9), (true, 10), (true, 11), (false, 12), (true, 13), (true, 14), (true, 15), (false, 16)])
theorem zc91r7 : ZOk Tryz.prog Tryz.f91.ntmps v91.1 v91.2 (regN 7 ((Tryz.f91.body).getD .skip)) c91r7 := ZOk.mk yc91r7 (by kernel_rfl) (by kernel_rfl) (by kernel_rfl) (by kernel_rfl)
theorem s91 : SlimC Tryz.prog Tryz.f91.ntmps v91.1 v91.2 ((Tryz.f91.body).getD .skip) c91 := SlimC.mk [(7, .z c91r7)] (⟨⟨_, by kernel_rfl, zc91r7⟩, trivial⟩) (by kernel_rfl)
theorem q91 : slimR Tryz.prog Tryz.f91.ntmps v91.1 v91.2 Tryz.f91.results.toList = some o91 := by kernel_rfl
def c102r0:List SI:=[af 5 0]
def c102r1:List SI:=[ac 7 0,au 8 7,ak 9 8 0,ak 10 9 1,ai 11 10,aT 12 11 0,ac 6 12]
def c102r2:List SI:=[af 5 180]
def c102r3:List (Bool × SI):=[(true,ai 14 2),(true,ac 15 0),(true,au 16 15),(true,ak 17 16 0),(true,ak 18 17 1),(true,ai 19 18),(true,bl 20 14 19),(true,ac 21 20),(true,aB 21 22 0),(true,⟨some (21,false),.nck 23 (.t 22),none,23⟩),(true,cr 21 24 23 0),(true,cr 21 25 24 3),(true,aV 21 26 25),(true,aV 21 27 2),(false,cN 21 28 58 26 27),(true,aS 21 29 28),(true,aw 30 21 29),(true,ac 13 30)]
def c102r4:List SI:=[af 5 181]
def c102r5:List SI:=[ac 31 0,ai 32 2,az 33 87 31 32]
def c102r6:List SI:=[ac 34 0,aq 35 71 34]
def c102r7:List SI:=[af 5 0]
def c102:SC:=(.seq (aa c102r0) (.seq (.blk 0 (.seq (aa c102r1) (.cond (.t 6) (.seq (aa c102r2) .ret) (.seq (.rgX c102r3) (.cond (.t 13) (.seq (aa c102r4) .ret) .skip))))) (.seq (aa c102r5) (.seq (aa c102r6) (.seq (aa c102r7) .ret)))))
def v102:List Nat × List Nat:=([],[])
def o102:List RS:=[.t 5]
def c103r0:List SI:=[ay 4]
def c103r1:List SI:=[ac 5 0,bd 6 5 256,ac 7 6,aG 7 8 0,bE 7 9 8 4096,aA 10 7 9,ac 11 10,aG 11 12 1,bc 11 13 142 12,aA 14 11 13,ac 4 14]
def c103:SC:=(.seq (aa c103r0) (.seq (aa c103r1) .ret))
def v103:List Nat × List Nat:=([],[])
def o103:List RS:=[.t 4]
def c105r0:List SI:=[af 6 0,ay 7]
def c105r1:List SI:=[ac 12 0,av 13 12,ac 8 13]
def c105r2:List SI:=[ac 14 8,af 9 0,ac 10 14]
def c105r3:List SI:=[ac 15 9,ac 16 10,aJ 17 15 16]
def c105r4:List SI:=[ac 18 9,ac 19 10,aZ 20 18 19,bn 21 20,bG 22 21 1,ci 23 22,ac 11 23]
def c105r5:List SI:=[ac 24 2,ac 25 0,ac 26 11,aF 27 25 26 7,aK 28 27 7,ac 29 1,bR 30 24 28 29,aT 31 30 0]
def c105r6:List SI:=[ac 32 11,aE 33 32 1,ac 9 33]
def c105r7:List SI:=[ac 34 11,ac 10 34]
def c105r8:List SI:=[ac 35 9,ac 36 9,ac 37 8,aJ 38 36 37,ac 39 38,aG 39 40 2,aG 39 41 0,aG 39 42 9,bD 39 43 41 42 7,cp 39 44 43 7,aG 39 45 1,⟨some (39,true),.cav 46 (.t 40) [(.t 44),(.t 45)],none,46⟩,aU 39 47 46 0,aA 48 39 47,ac 6 35,ac 7 48]
def c105:SC:=(.seq (aa c105r0) (.seq (aa c105r1) (.seq (aa c105r2) (.seq (.blk 0 (.loop (.seq (.seq (aa c105r3) (.cond (.t 17) .skip (.exit 0))) (.blk 1 (.seq (aa c105r4) (.seq (aa c105r5) (.cond (.t 31) (aa c105r6) (aa c105r7)))))))) (.seq (aa c105r8) .ret)))))
def v105:List Nat × List Nat:=([],[])
def o105:List RS:=[.t 6,.t 7]
def c106r0:List SI:=[aD 2 0,af 4 0]
def c106r1:List SI:=[ah 2,aj 6 2 0,ac 7 1,aY 8 6 7,ac 4 8]
def c106:SC:=(.seq (aa c106r0) (.seq (aa c106r1) .ret))
def v106:List Nat × List Nat:=([2],[2,5])
def o106:List RS:=[.t 4]
def c107r0:List SI:=[af 4 0]
def c107r1:List SI:=[ac 6 0,av 7 6,af 8 0]
def c107r2:List SI:=[aJ 9 8 7]
def c107r3:List SI:=[ac 10 8,ac 5 10]
def c107r4:List SI:=[ac 11 1,ac 12 0,ac 13 5,aF 14 12 13 7,aK 15 14 7,bP 16 11 15]
def c107r5:List SI:=[ac 17 5,ac 4 17]
def c107r6:List SI:=[aE 18 8 1,ac 8 18]
def c107r7:List SI:=[cG 4]
def c107:SC:=(.seq (aa c107r0) (.seq (.seq (aa c107r1) (.blk 0 (.loop (.seq (aa c107r2) (.seq (.cond (.t 9) .skip (.exit 0)) (.seq (.blk 1 (.seq (aa c107r3) (ab c107r4 16 c107r5))) (aa c107r6))))))) (.seq (aa c107r7) .ret)))
def v107:List Nat × List Nat:=([],[])
def o107:List RS:=[.t 4]
def c108r0:List SI:=[af 2 0]
def c108r1:List SI:=[ac 5 0,av 6 5,af 7 0]
def c108r2:List SI:=[aJ 8 7 6]
def c108r3:List SI:=[ac 9 7,aF 10 5 7 2,aK 11 10 2,dm 4,ac 3 9,ao 4 0 2 11]
def c108r4:List SI:=[ah 4,aj 13 4 0,bq 14 124 13 1048576,aO 15 14,ac 16 15,aH 16 4,aI 16 18 4 1,bQ 16 19 124 18 1099511627776,aS 16 20 19,aw 21 16 20]
def c108r5:List SI:=[af 2 1]
def c108r6:List SI:=[ac 22 3,bm 23 22 0,ac 24 23,aL 24 4,aN 24 26 4 0,aG 24 27 0,aG 24 28 3,cF 24 29 28 1,bD 24 30 27 29 2,⟨some (24,true),.flA 31 (.t 30) 0,none,31⟩,bJ 24 32 31,⟨some (24,true),.bin 33 .sub (.t 26) (.t 32),none,33⟩,aL 24 4,aN 24 35 4 1,aG 24 36 0,aG 24 37 3,cF 24 38 37 1,bD 24 39 36 38 2,⟨some (24,true),.flA 40 (.t 39) 1,none,40⟩,bJ 24 41 40,⟨some (24,true),.bin 42 .sub (.t 35) (.t 41),none,42⟩,⟨some (24,true),.mm 43 false (.t 33) (.t 42),none,43⟩,bE 24 44 43 0,aA 45 24 44]
def c108r7:List SI:=[af 2 1]
def c108r8:List SI:=[aE 46 7 1,ac 7 46]
def c108r9:List SI:=[af 2 0]
def c108:SC:=(.seq (aa c108r0) (.seq (.seq (aa c108r1) (.blk 0 (.loop (.seq (aa c108r2) (.seq (.cond (.t 8) .skip (.exit 0)) (.seq (.blk 1 (.seq (aa c108r3) (.seq (ab c108r4 21 c108r5) (.seq (.reg true c108r6) (.cond (.t 45) (.seq (aa c108r7) .ret) .skip))))) (aa c108r8))))))) (.seq (aa c108r9) .ret)))
def v108:List Nat × List Nat:=([4],[4,12,17,25,34])
def o108:List RS:=[.t 2]
def c109r0:List SI:=[af 4 0]
def c109r1:List SI:=[ac 6 0,av 7 6,af 8 0]
def c109r2:List SI:=[aJ 9 8 7]
def c109r3:List SI:=[ac 10 8,ac 5 10]
def c109r4:List SI:=[ac 11 1,ac 12 0,ac 13 5,aF 14 12 13 1,ai 15 14,bP 16 11 15]
def c109r5:List SI:=[ac 17 5,ac 4 17]
def c109r6:List SI:=[aE 18 8 1,ac 8 18]
def c109r7:List SI:=[cG 4]
def c109:SC:=(.seq (aa c109r0) (.seq (.seq (aa c109r1) (.blk 0 (.loop (.seq (aa c109r2) (.seq (.cond (.t 9) .skip (.exit 0)) (.seq (.blk 1 (.seq (aa c109r3) (ab c109r4 16 c109r5))) (aa c109r6))))))) (.seq (aa c109r7) .ret)))
def v109:List Nat × List Nat:=([],[])
def o109:List RS:=[.t 4]
def c111r0:List SI:=[ai 5 1,au 6 5,ak 7 6 0,ak 8 7 3,ai 9 8,av 10 9,af 11 0]
def c111r1:List SI:=[aJ 12 11 10]
def c111r2:List SI:=[aF 13 9 11 1,ai 14 13,ac 4 14]
def c111r3:List SI:=[ac 15 0,ai 16 1,ac 17 4,az 18 51 16 17,bP 19 15 18,aO 20 19]
def c111r4:List SI:=[aE 21 11 1,ac 11 21]
def c111:SC:=(.seq (aa c111r0) (.blk 0 (.loop (.seq (aa c111r1) (.seq (.cond (.t 12) .skip (.exit 0)) (.seq (.blk 1 (.seq (aa c111r2) (.seq (aa c111r3) (.cond (.t 20) .ret .skip)))) (aa c111r4)))))))
def v111:List Nat × List Nat:=([],[])
def o111:List RS:=[]
def c112r0:List SI:=[aD 1 0,ay 2]
def c112r1:List SI:=[ar 6 1 0 2,aq 7 131 6,ac 5 7,am 8 5 0,am 9 5 1,ac 3 8,ac 4 9]
def c112r2:List SI:=[ah 1,aj 11 1 0,aq 12 142 11,ac 13 12,aG 13 14 4,aL 13 1,aN 13 16 1 1,cn 13 17 16,bu 13 18 14 17,aA 19 13 18,ac 2 19]
def c112:SC:=(.seq (aa c112r0) (.seq (aa c112r1) (.seq (aa c112r2) .ret)))
def v112:List Nat × List Nat:=([1],[1,10,15])
def o112:List RS:=[.t 2]
def c113r0:List SI:=[aD 2 0,aD 3 1,ay 4]
def c113r1:List (Bool × SI):=[(true,ah 3),(true,aj 6 3 0),(true,ah 2),(true,aj 8 2 0),(true,cd 9 6 8),(true,ac 10 9),(true,aL 10 3),(true,aN 10 12 3 0),(true,bi 10 13 2 0 2),(false,bc 10 14 114 13),(true,di 10 15 12 14),(true,aA 16 10 15),(true,ac 4 16)]
def c113:SC:=(.seq (aa c113r0) (.seq (.rgX c113r1) .ret))
def v113:List Nat × List Nat:=([2,3],[2,3,5,7,11])
def o113:List RS:=[.t 4]
def c114r0:List SI:=[aR 1 0,af 2 0]
def c114r1:List SI:=[ak 5 1 0,ai 6 5,bL 3,aC 3 1 6]
def c114r2:List SI:=[aK 7 1 2,aq 8 151 7]
def c114r3:List SI:=[a8 4,ao 4 0 10 9]
def c114r4:List SI:=[ah 4,aj 12 4 1,aE 13 12 1,aC 3 1 13]
def c114r5:List SI:=[ai 14 3,ac 2 14]
def c114:SC:=(.seq (aa c114r0) (.seq (aa c114r1) (.seq (.seq (aa c114r2) (.blk 0 (.rf (.t 8) [9,10] (aa c114r3) (.blk 1 (aa c114r4))))) (.seq (aa c114r5) .ret))))
def v114:List Nat × List Nat:=([4],[4,11])
def o114:List RS:=[.t 2]
def c115r0:List SI:=[aD 1 0,af 2 0]
def c115r1:List SI:=[ah 1,aj 4 1 2,av 5 4,bw 6 5 1,ac 2 6]
def c115:SC:=(.seq (aa c115r0) (.seq (aa c115r1) .ret))
def v115:List Nat × List Nat:=([1],[1,3])
def o115:List RS:=[.t 2]
def c116r0:List SI:=[aM 2]
def c116r1:List SI:=[ac 3 0,cz 4 3]
def c116r2:List SI:=[aM 2]
def c116r3:List SI:=[bZ 5,ac 6 0,aQ 7 5 6 50 7 88,ac 2 7]
def c116:SC:=(.seq (aa c116r0) (.seq (ab c116r1 4 c116r2) (.seq (aa c116r3) .ret)))
def v116:List Nat × List Nat:=([],[])
def o116:List RS:=[.t 2]
def c117r0:List SI:=[ay 4]
def c117r1:List SI:=[ac 5 1,aq 6 152 5,bd 7 6 0,ac 8 7,aG 8 9 1,bc 8 10 153 9,aG 8 11 0,cP 8 12 10 11,aA 13 8 12,ac 4 13]
def c117:SC:=(.seq (aa c117r0) (.seq (aa c117r1) .ret))
def v117:List Nat × List Nat:=([],[])
def o117:List RS:=[.t 4]
theorem s117 : slimC Tryz.prog Tryz.f117.ntmps v117.1 v117.2 ((Tryz.f117.body).getD .skip) = some c117 := by kernel_rfl
theorem q117 : slimR Tryz.prog Tryz.f117.ntmps v117.1 v117.2 Tryz.f117.results.toList = some o117 := by kernel_rfl
def c118r0:List SI:=[aD 1 0,af 2 0]
def c118r1:List SI:=[ar 6 1 0 10,aq 7 154 6,ac 5 7,am 8 5 0,am 9 5 1,ac 3 8,ac 4 9]
def c118r2:List SI:=[ac 10 4,ac 2 10]
def c118:SC:=(.seq (aa c118r0) (.seq (aa c118r1) (.seq (aa c118r2) .ret)))
def v118:List Nat × List Nat:=([1],[1])
def o118:List RS:=[.t 2]
def c119r0:List SI:=[aM 2]
def c119r1:List SI:=[ac 3 0,cz 4 3]
def c119r2:List SI:=[aM 2]
def c119r3:List SI:=[bZ 5,ac 6 0,aQ 7 5 6 103 5 56,ac 2 7]
def c119:SC:=(.seq (aa c119r0) (.seq (ab c119r1 4 c119r2) (.seq (aa c119r3) .ret)))
def v119:List Nat × List Nat:=([],[])
def o119:List RS:=[.t 2]
def c120r0:List SI:=[aD 1 0,af 2 0]
def c120r1:List SI:=[ar 6 1 0 10,aq 7 154 6,ac 5 7,am 8 5 0,am 9 5 1,ac 3 8,ac 4 9]
def c120r2:List SI:=[ac 10 3,av 11 10,ac 2 11]
def c120:SC:=(.seq (aa c120r0) (.seq (aa c120r1) (.seq (aa c120r2) .ret)))
def v120:List Nat × List Nat:=([1],[1])
def o120:List RS:=[.t 2]
def c121r0:List SI:=[aD 3 0,aD 4 1,bo 6,af 7 0]
def c121r1:List SI:=[ar 13 3 0 2,aq 14 131 13,ac 12 14,am 15 12 0,am 16 12 1,ac 8 15,ac 9 16]
def c121r2:List SI:=[ac 17 9,ah 3,aj 19 3 1,av 20 19,bz 21 17 20,ac 22 21,aH 22 3,aI 22 24 3 0,ba 22 25 155 24,aS 22 26 25,aw 27 22 26,ac 28 27,aB 28 29 2,ba 28 30 156 29,aS 28 31 30,aw 32 28 31]
def c121r3:List SI:=[cj 33,ao 6 0 2 33,af 7 1]
def c121r4:List SI:=[ar 35 4 0 10,aq 36 154 35,ac 34 36,am 37 34 0,am 38 34 1,ac 10 37,ac 11 38]
def c121r5:List SI:=[ac 40 11,aP 41 40 0,ac 39 41]
def c121r6:List SI:=[cj 42,ac 43 11,ao 6 0 2 42,ac 7 43]
def c121r7:List (Bool × SI):=[(true,ah 4),(true,aj 46 4 0),(true,ar 47 3 0 2),(false,aq 48 114 47),(true,aJ 49 46 48),(true,ac 44 49)]
def c121r8:List SI:=[cj 50,ao 6 0 2 50,af 7 71]
def c121r9:List SI:=[ah 3,aj 53 3 1,av 54 53,ac 55 10,av 56 55,aZ 57 54 56,ac 58 2,cd 59 57 58,ac 51 59]
def c121r10:List SI:=[cj 60,ao 6 0 2 60,af 7 70]
def c121r11:List (Bool × SI):=[(true,ah 3),(true,aj 62 3 0),(true,ah 3),(true,aj 64 3 1),(true,ac 65 10),(false,⟨none,.bls 66 118 2 1 [(.slice none 0 0),(.slice none 0 0)] [(0,1,(.t 64)),(1,1,(.t 65))],none,0⟩),(false,aq 67 157 66),(true,⟨none,.bld 68 [(.int .i64 0),(.slice none 0 0)] [(0,1,(.t 62)),(1,1,(.t 67))],none,0⟩)]
def c121r12:List SI:=[ao 6 0 2 68,af 7 0]
def c121:SC:=(.seq (aa c121r0) (.seq (.seq (aa c121r1) (ab c121r2 32 c121r3)) (.seq (aa c121r4) (.seq (.blk 0 (.seq (aa c121r5) (.cond (.t 39) (.seq (aa c121r6) .ret) (.seq (.rgX c121r7) (.cond (.t 44) (.seq (aa c121r8) .ret) (ab c121r9 51 c121r10)))))) (.seq (.rgY c121r11 c121r12) .ret)))))
def v121:List Nat × List Nat:=([3,4,6],[3,4,6,18,23,45,52,61,63])
def o121:List RS:=[.r 6 (some 2),.t 7]
def c122r0:List SI:=[aD 2 0,bg 4]
def c122r1:List SI:=[ah 2,aj 6 2 0,ah 2,aj 8 2 1,ac 9 1,⟨none,.bld 10 [(.int .i64 0),(.int .i64 0),(.slice none 0 0)] [(0,1,(.t 6)),(1,1,(.t 8)),(2,1,(.t 9))],none,0⟩,ao 4 0 3 10]
def c122:SC:=(.seq (aa c122r0) (.seq (aa c122r1) .ret))
def v122:List Nat × List Nat:=([2,4],[2,4,5,7])
def o122:List RS:=[.r 4 (some 3)]
def c123r0:List SI:=[bo 6,af 7 0]
def c123r1:List SI:=[ac 13 0,aq 14 158 13,ac 12 14,am 15 12 0,am 16 12 1,bo 8,ao 8 0 2 15,ac 9 16]
def c123r2:List SI:=[ac 17 9,aP 18 17 0,ac 19 18,aB 19 20 2,ba 19 21 156 20,aS 19 22 21,aw 23 19 22]
def c123r3:List SI:=[cj 24,ao 6 0 2 24,af 7 1]
def c123r4:List SI:=[ac 25 1,av 26 25,af 27 0]
def c123r5:List SI:=[aJ 28 27 26]
def c123r6:List SI:=[aF 29 25 27 10,aK 30 29 10,a8 11,ao 11 0 10 30]
def c123r7:List SI:=[ar 32 8 0 2,ar 33 11 0 10,ac 34 2,bf 35 121 32 33 34,ac 31 35,am 36 31 0,am 37 31 1,ao 8 0 2 36,ac 9 37]
def c123r8:List SI:=[ac 38 9,aP 39 38 0]
def c123r9:List SI:=[cj 40,ac 41 9,ao 6 0 2 40,ac 7 41]
def c123r10:List SI:=[aE 42 27 1,ac 27 42]
def c123r11:List SI:=[ar 43 8 0 2,ao 6 0 2 43,af 7 0]
def c123:SC:=(.seq (aa c123r0) (.seq (aa c123r1) (.seq (ab c123r2 23 c123r3) (.seq (.seq (aa c123r4) (.blk 0 (.loop (.seq (aa c123r5) (.seq (.cond (.t 28) .skip (.exit 0)) (.seq (.blk 1 (.seq (aa c123r6) (.seq (aa c123r7) (ab c123r8 39 c123r9)))) (aa c123r10))))))) (.seq (aa c123r11) .ret)))))
def v123:List Nat × List Nat:=([6,8,11],[6,8,11])
def o123:List RS:=[.r 6 (some 2),.t 7]
def c124r0:List SI:=[ay 4]
def c124r1:List SI:=[ac 5 0,bd 6 5 0,ac 7 6,aG 7 8 0,aG 7 9 1,cP 7 10 8 9,aA 11 7 10,ac 4 11]
def c124:SC:=(.seq (aa c124r0) (.seq (aa c124r1) .ret))
def v124:List Nat × List Nat:=([],[])
def o124:List RS:=[.t 4]
def c125r0:List SI:=[aM 2]
def c125r1:List SI:=[ac 3 0,cz 4 3]
def c125r2:List SI:=[aM 2]
def c125r3:List SI:=[bZ 5,ac 6 0,aQ 7 5 6 151 2 16,ac 2 7]
def c125:SC:=(.seq (aa c125r0) (.seq (ab c125r1 4 c125r2) (.seq (aa c125r3) .ret)))
def v125:List Nat × List Nat:=([],[])
def o125:List RS:=[.t 2]
def c126r0:List SI:=[aR 4 0,aR 5 1,aR 6 2,aR 7 3,bL 8]
def c126r1:List SI:=[ai 15 4,aq 16 108 15,aP 17 16 0,ac 18 17,aV 18 19 6,ba 18 20 108 19,bh 18 21 20 0,aw 22 18 21]
def c126r2:List SI:=[cv 8 1 0]
def c126r3:List SI:=[ai 23 4,aq 24 159 23]
def c126r4:List SI:=[dm 10,ao 10 0 2 26]
def c126r5:List SI:=[ai 28 6,ah 10,aj 30 10 0,ai 31 7,bf 32 160 28 30 31,ac 27 32,am 33 27 0,am 34 27 1,ac 11 33,ac 12 34]
def c126r6:List SI:=[ac 35 11,ah 10,aj 37 10 0,bl 38 35 37]
def c126r7:List SI:=[ai 40 4,ah 10,aj 42 10 0,ai 43 5,bf 44 160 40 42 43,ac 39 44,am 45 39 0,am 46 39 1,ac 13 45,ac 14 46]
def c126r8:List SI:=[ac 47 14,ac 48 12,bF 49 47 48,aC 8 1 49]
def c126r9:List SI:=[cv 8 1 0]
def c126:SC:=(.seq (aa c126r0) (.seq (ab c126r1 22 c126r2) (.seq (.seq (aa c126r3) (.blk 0 (.rf (.t 24) [25,26] (aa c126r4) (.blk 1 (.seq (aa c126r5) (.seq (aa c126r6) (.cond (.t 38) (.seq (aa c126r7) (.seq (aa c126r8) .ret)) .skip))))))) (.seq (aa c126r9) .ret))))
def v126:List Nat × List Nat:=([10],[10,29,36,41])
def o126:List RS:=[.c 8 none]
def c127r0:List SI:=[aD 1 0,ay 2]
def c127r1:List SI:=[ah 1,aj 8 1 0,bq 9 72 8 1099511627776,aO 10 9,ac 11 10,aH 11 1,aI 11 13 1 1,bQ 11 14 72 13 1099511627776,aS 11 15 14,aw 16 11 15,ac 17 16,aH 17 1,aI 17 19 1 2,bQ 17 20 72 19 1099511627776,aS 17 21 20,aw 22 17 21,ac 23 22,aH 23 1,aI 23 25 1 0,aH 23 1,aI 23 27 1 1,bX 23 28 25 27,aw 29 23 28,ac 30 29,aH 30 1,aI 30 32 1 1,aH 30 1,aI 30 34 1 0,⟨some (30,false),.bin 35 .sub (.t 32) (.t 34),none,35⟩,dq 30 36 35 16,aw 37 30 36]
def c127r2:List SI:=[ay 2]
def c127r3:List SI:=[ah 1,aj 39 1 1,ah 1,aj 41 1 0,aY 42 39 41,ac 3 42]
def c127r4:List SI:=[ah 1,aj 44 1 2,ac 45 3,aZ 46 44 45,bm 47 46 1099511627776,ac 48 47,aH 48 1,aI 48 50 1 3,bQ 48 51 72 50 1048576,aS 48 52 51,aw 53 48 52,ac 54 53,aH 54 1,aI 54 56 1 5,bQ 54 57 72 56 1048576,aS 54 58 57,aw 59 54 58,ac 60 59,aH 60 1,aI 60 62 1 6,bQ 60 63 72 62 1048576,aS 60 64 63,aw 65 60 64,ac 66 65,aH 66 1,aI 66 68 1 6,aB 66 69 3,dr 66 70 68 69,aX 66 71 70 1048576,aw 72 66 71]
def c127r5:List SI:=[ay 2]
def c127r6:List SI:=[ah 1,aj 74 1 4,cO 75 74,ac 76 75,aL 76 1,aN 76 78 1 5,⟨some (76,true),.bin 79 .neq (.t 78) (.i 0),none,79⟩,aG 76 80 79,aH 80 1,aI 80 82 1 6,bh 80 83 82 0,bC 76 84 80 83,aG 76 85 84,aH 85 1,aI 85 87 1 7,bC 76 88 85 87,aG 76 89 88,aH 89 1,aI 89 91 1 8,bh 89 92 91 0,bC 76 93 89 92,aA 94 76 93,ac 95 94,aH 95 1,aI 95 97 1 4,⟨some (95,false),.bin 98 .neq (.t 97) (.i (-1)),none,98⟩,aB 95 99 98,aL 99 1,aN 99 101 1 4,⟨some (99,true),.call 102 72 [(.t 101),(.i 1099511627776)],none,102⟩,bW 99 103 102,bO 95 104 99 103,aw 105 95 104]
def c127r7:List SI:=[ay 2]
def c127r8:List SI:=[ah 1,aj 107 1 8,aP 108 107 0]
def c127r9:List SI:=[ah 1,aj 110 1 8,aW 111 110 1,ac 112 111,aH 112 1,aI 112 114 1 8,dj 112 115 114 2,aw 116 112 115,ac 117 116,aG 117 118 3,aU 117 119 118 0,aA 120 117 119,ac 121 120,aL 121 1,aN 121 123 1 9,cn 121 124 123,aU 121 125 124 0,aA 126 121 125,ac 127 126,aL 127 1,aN 127 129 1 7,aA 130 127 129,ac 131 130,aL 131 1,aN 131 133 1 4,⟨some (131,true),.bin 134 .geq (.t 133) (.i 0),none,134⟩,aA 135 131 134,ac 2 135]
def c127r10:List SI:=[ah 1,aj 137 1 0,bw 138 137 1,ac 4 138]
def c127r11:List SI:=[ah 1,aj 140 1 9,av 141 140,af 142 0]
def c127r12:List SI:=[aJ 143 142 141]
def c127r13:List SI:=[aF 144 140 142 5,aK 145 144 5,cf 6,ao 6 0 5 145]
def c127r14:List SI:=[ar 146 6 0 5,aq 147 161 146,aP 148 147 0,ac 149 148,aH 149 6,aI 149 151 6 0,aB 149 152 4,⟨some (149,false),.bin 153 .leq (.t 151) (.t 152),none,153⟩,aw 154 149 153,ac 155 154,aH 155 6,aI 155 157 6 0,aH 155 1,aI 155 159 1 1,bX 155 160 157 159,aw 161 155 160]
def c127r15:List SI:=[ay 2]
def c127r16:List SI:=[ah 6,aj 163 6 0,ac 4 163]
def c127r17:List SI:=[aE 164 142 1,ac 142 164]
def c127r18:List SI:=[bA 2]
def c127:SC:=(.seq (aa c127r0) (.seq (ab c127r1 37 c127r2) (.seq (aa c127r3) (.seq (ab c127r4 72 c127r5) (.seq (ab c127r6 105 c127r7) (.seq (ab c127r8 108 c127r9) (.seq (aa c127r10) (.seq (.seq (aa c127r11) (.blk 0 (.loop (.seq (aa c127r12) (.seq (.cond (.t 143) .skip (.exit 0)) (.seq (.blk 1 (.seq (aa c127r13) (.seq (ab c127r14 161 c127r15) (aa c127r16)))) (aa c127r17))))))) (.seq (aa c127r18) .ret)))))))))
def v127:List Nat × List Nat:=([1,6],[1,6,7,12,18,24,26,31,33,38,40,43,49,55,61,67,73,77,81,86,90,96,100,106,109,113,122,128,132,136,139,150,156,158,162])
def o127:List RS:=[.t 2]
theorem s127 : slimC Tryz.prog Tryz.f127.ntmps v127.1 v127.2 ((Tryz.f127.body).getD .skip) = some c127 := by kernel_rfl
theorem q127 : slimR Tryz.prog Tryz.f127.ntmps v127.1 v127.2 Tryz.f127.results.toList = some o127 := by kernel_rfl
def c128r0:List SI:=[aD 1 0,aM 2]
def c128r1:List SI:=[aM 3]
def c128r2:List SI:=[ah 1,aj 12 1 0,ah 1,aj 14 1 1,ah 1,aj 16 1 0,aY 17 14 16,ah 1,aj 19 1 2,ah 1,aj 21 1 3,ah 1,aj 23 1 4,ah 1,aj 25 1 5,ah 1,aj 27 1 6,⟨none,.bls 28 3 7 1 [(.int .i64 0),(.int .i64 0),(.int .i64 0),(.int .i64 0),(.int .i64 0),(.int .i64 0),(.int .i64 0)] [(0,1,(.t 12)),(1,1,(.t 17)),(2,1,(.t 19)),(3,1,(.t 21)),(4,1,(.t 23)),(5,1,(.t 25)),(6,1,(.t 27))],none,0⟩,av 29 28,af 30 0]
def c128r3:List SI:=[aJ 31 30 29]
def c128r4:List SI:=[aF 32 28 30 1,ai 33 32,ac 5 33]
def c128r5:List SI:=[ac 34 3,ac 35 5,az 36 162 34 35,ac 3 36]
def c128r6:List SI:=[aE 37 30 1,ac 30 37]
def c128r7:List SI:=[ah 1,aj 39 1 8,ac 6 39]
def c128r8:List SI:=[ah 1,aj 41 1 7]
def c128r9:List SI:=[ac 42 6,aE 43 42 4,ac 6 43]
def c128r10:List (Bool × SI):=[(true,ac 44 3),(true,ac 45 6),(true,bp 46 45),(true,ah 1),(true,aj 50 1 9),(true,av 51 50),(false,bH 47 5 1 1 0 1 46),(false,aQ 48 44 47 5 1 1),(false,az 52 162 48 51),(true,ac 3 52)]
def c128r11:List SI:=[ah 1,aj 54 1 9,av 55 54,af 56 0]
def c128r12:List SI:=[aJ 57 56 55]
def c128r13:List SI:=[ac 58 56,aF 59 54 56 5,aK 60 59 5,cf 8,ac 7 58,ao 8 0 5 60]
def c128r14:List SI:=[ac 61 7,aW 62 61 0]
def c128r15:List SI:=[ac 63 3,ah 8,aj 65 8 4,az 66 162 63 65,ac 3 66]
def c128r16:List (Bool × SI):=[(true,ar 68 8 0 5),(true,ah 1),(true,aj 70 1 0),(true,ah 1),(true,aj 72 1 9),(true,cE 73 72 0 5),(true,ak 74 73 4),(true,ai 75 74),(false,bf 76 163 68 70 75),(true,ac 67 76),(true,am 77 67 0),(true,am 78 67 1),(true,ac 9 77),(true,ac 10 78)]
def c128r17:List SI:=[ac 79 3,ac 80 9,aQ 81 79 80 5 1 1,ac 3 81]
def c128r18:List SI:=[aE 82 56 1,ac 56 82]
def c128r19:List SI:=[ac 83 3,aq 84 164 83,ac 3 84]
def c128r20:List SI:=[ac 85 3,av 86 85,bn 87 86,⟨none,.call 88 165 [(.v (.slice none 0 0)),(.t 87),(.i 4)],none,0⟩,ac 89 3,aQ 90 88 89 5 1 1,ac 2 90]
def c128:SC:=(.seq (aa c128r0) (.seq (aa c128r1) (.seq (.seq (aa c128r2) (.blk 0 (.loop (.seq (aa c128r3) (.seq (.cond (.t 31) .skip (.exit 0)) (.seq (.blk 1 (.seq (aa c128r4) (aa c128r5))) (aa c128r6))))))) (.seq (aa c128r7) (.seq (.seq (aa c128r8) (.cond (.t 41) (aa c128r9) .skip)) (.seq (.rgX c128r10) (.seq (.seq (aa c128r11) (.blk 2 (.loop (.seq (aa c128r12) (.seq (.cond (.t 57) .skip (.exit 2)) (.seq (.blk 3 (.seq (aa c128r13) (.seq (.seq (aa c128r14) (.cond (.t 62) (aa c128r15) .skip)) (.seq (.rgX c128r16) (aa c128r17))))) (aa c128r18))))))) (.seq (aa c128r19) (.seq (aa c128r20) .ret)))))))))
def v128:List Nat × List Nat:=([1,8],[1,8,11,13,15,18,20,22,24,26,38,40,49,53,64,69,71])
def o128:List RS:=[.t 2]
def c129r0:List SI:=[aR 2 0,aM 4]
def c129r1:List SI:=[ac 6 1]
def c129r2:List SI:=[a8 5,ao 5 0 10 7]
def c129r3:List SI:=[ai 8 2,ar 9 5 0 10,cL 10 43 1 10 0 10 9,aQ 11 8 10 43 10 96,aC 2 1 11]
def c129r4:List SI:=[ai 12 2,ac 4 12]
def c129:SC:=(.seq (aa c129r0) (.seq (.seq (aa c129r1) (.blk 0 (.rf (.t 6) [7] (aa c129r2) (.blk 1 (aa c129r3))))) (.seq (aa c129r4) .ret)))
def v129:List Nat × List Nat:=([5],[5])
def o129:List RS:=[.t 4]
def c130r0:List SI:=[ak 10 1 2,ai 11 10,av 12 11,af 13 0]
def c130r1:List SI:=[aJ 14 13 12]
def c130r2:List SI:=[aF 15 11 13 2,aK 16 15 2,bo 5,ao 5 0 2 16]
def c130r3:List SI:=[ar 18 5 0 2,aq 19 131 18,ac 17 19,am 20 17 0,am 21 17 1,ac 6 20,ac 7 21]
def c130r4:List SI:=[ac 22 6,av 23 22,af 24 0]
def c130r5:List SI:=[aJ 25 24 23]
def c130r6:List SI:=[aF 26 22 24 10,aK 27 26 10,a8 9,ao 9 0 10 27]
def c130r7:List SI:=[ah 9,aj 29 9 1,ai 30 2,cI 31 29 30,ac 32 31,aG 32 33 0,bi 32 34 9 0 10,⟨some (32,true),.cav 35 (.t 33) [(.t 34)],none,35⟩,bW 32 36 35,aA 37 32 36]
def c130r8:List SI:=[aE 38 24 1,ac 24 38]
def c130r9:List SI:=[aE 39 13 1,ac 13 39]
def c130:SC:=(.seq (aa c130r0) (.blk 0 (.loop (.seq (aa c130r1) (.seq (.cond (.t 14) .skip (.exit 0)) (.seq (.blk 1 (.seq (aa c130r2) (.seq (aa c130r3) (.seq (aa c130r4) (.blk 2 (.loop (.seq (aa c130r5) (.seq (.cond (.t 25) .skip (.exit 2)) (.seq (.blk 3 (.seq (aa c130r6) (.seq (aa c130r7) (.cond (.t 37) .ret .skip)))) (aa c130r8)))))))))) (aa c130r9)))))))
def v130:List Nat × List Nat:=([5,9],[5,9,28])
def o130:List RS:=[]
def c131r0:List SI:=[aR 1 0,⟨none,.al 2 [(.slice none 0 0)],none,0⟩,bL 3]
def c131r1:List SI:=[aK 6 1 2,aq 7 151 6]
def c131r2:List SI:=[a8 4,ao 4 0 10 8]
def c131r3:List SI:=[ac 5 9]
def c131r4:List SI:=[ai 10 2,ar 11 4 0 10,cL 12 43 1 10 0 10 11,aQ 13 10 12 43 10 96,ac 14 5,aC 2 1 13,aC 3 1 14]
def c131r5:List WI:=[(true,false,ai 15 2),(true,false,ai 16 3),(false,false,aC 2 1 15),(false,true,aC 3 1 16)]
def c131:SC:=(.seq (aa c131r0) (.seq (.seq (aa c131r1) (.blk 0 (.rf (.t 7) [8,9] (.seq (aa c131r2) (aa c131r3)) (.blk 1 (aa c131r4))))) (.seq (.rgW c131r5) .ret)))
def v131:List Nat × List Nat:=([4],[4])
def o131:List RS:=[.c 2 none,.c 3 none]
def c132r0:List SI:=[aD 2 0,aD 3 1,ay 4]
def c132r1:List SI:=[ah 2,aj 6 2 0,ah 3,aj 8 3 0,bl 9 6 8,ac 10 9,aL 10 2,aN 10 12 2 1,aL 10 3,aN 10 14 3 1,bV 10 15 166 12 14,aA 16 10 15,ac 4 16]
def c132:SC:=(.seq (aa c132r0) (.seq (aa c132r1) .ret))
def v132:List Nat × List Nat:=([2,3],[2,3,5,7,11,13])
def o132:List RS:=[.t 4]
def c133r0:List SI:=[ay 4]
def c133r1:List SI:=[ac 6 0,av 7 6,ac 8 1,av 9 8,bz 10 7 9]
def c133r2:List SI:=[ay 4]
def c133r3:List SI:=[ac 11 0,av 12 11,af 13 0]
def c133r4:List SI:=[aJ 14 13 12]
def c133r5:List SI:=[ac 15 13,ac 5 15]
def c133r6:List SI:=[ac 16 0,ac 17 5,aF 18 16 17 5,aK 19 18 5,ac 20 1,ac 21 5,aF 22 20 21 5,aK 23 22 5,⟨none,.eqf 24 true [0,2,2,1,0] (.t 19) (.t 23),none,0⟩]
def c133r7:List SI:=[ay 4]
def c133r8:List SI:=[aE 25 13 1,ac 13 25]
def c133r9:List SI:=[bA 4]
def c133:SC:=(.seq (aa c133r0) (.seq (ab c133r1 10 c133r2) (.seq (.seq (aa c133r3) (.blk 0 (.loop (.seq (aa c133r4) (.seq (.cond (.t 14) .skip (.exit 0)) (.seq (.blk 1 (.seq (aa c133r5) (.seq (.reg true c133r6) (.cond (.t 24) (.seq (aa c133r7) .ret) .skip)))) (aa c133r8))))))) (.seq (aa c133r9) .ret))))
def v133:List Nat × List Nat:=([],[])
def o133:List RS:=[.t 4]
def c134r0:List SI:=[af 4 0]
def c134r1:List SI:=[ac 6 0,ai 7 1,az 8 51 6 7,ac 5 8]
def c134r2:List SI:=[ac 9 5,⟨none,.eqf 10 false [3] (.t 9) (.v (.pointer none)),none,0⟩]
def c134r3:List SI:=[af 4 1]
def c134r4:List SI:=[ai 11 2,ac 12 0,ac 13 5,bR 14 11 12 13,ac 4 14]
def c134:SC:=(.seq (aa c134r0) (.seq (aa c134r1) (.seq (ab c134r2 10 c134r3) (.seq (aa c134r4) .ret))))
def v134:List Nat × List Nat:=([],[])
def o134:List RS:=[.t 4]
def c135r0:List SI:=[aD 3 0,aD 4 1,bg 6,ay 7]
def c135r1:List SI:=[ar 14 3 0 3,ac 15 2,az 16 167 14 15,ac 13 16,am 17 13 0,am 18 13 1,ao 3 0 3 17,ac 8 18]
def c135r2:List (Bool × SI):=[(true,ar 19 3 0 3),(true,ar 21 4 0 3),(false,aq 20 27 19),(false,aq 22 27 21),(true,ac 9 20),(true,ac 10 22)]
def c135r3:List SI:=[ac 23 8,aP 24 23 0,ac 25 24,aB 25 26 9,a9 25 27 26,aB 25 28 10,a9 25 29 28,bX 25 30 27 29,aw 31 25 30,ac 32 31,aB 32 33 9,aB 32 34 10,aB 32 35 9,a9 32 36 35,⟨some (32,false),.sl 37 (.t 34) none (some (.t 36)) none 10,none,37⟩,⟨some (32,false),.call 38 168 [(.t 33),(.t 37),(.v (.func (.func 169) #[] #[]))],none,38⟩,aS 32 39 38,aw 40 32 39]
def c135r4:List SI:=[ar 41 3 0 3,ao 6 0 3 41,ay 7]
def c135r5:List SI:=[ac 42 10,ac 43 9,av 44 43,cT 45 42 44 10,av 46 45,af 47 0]
def c135r6:List SI:=[aJ 48 47 46]
def c135r7:List SI:=[aF 49 45 47 10,aK 50 49 10,a8 12,ao 12 0 10 50]
def c135r8:List SI:=[ar 52 3 0 3,ar 53 12 0 10,az 54 69 52 53,ac 51 54,am 55 51 0,am 56 51 1,ao 3 0 3 55,ac 8 56]
def c135r9:List SI:=[ac 57 8,aP 58 57 0]
def c135r10:List SI:=[ar 59 3 0 3,ao 6 0 3 59,ay 7]
def c135r11:List SI:=[aE 60 47 1,ac 47 60]
def c135r12:List SI:=[ar 61 3 0 3,ao 6 0 3 61,bA 7]
def c135:SC:=(.seq (aa c135r0) (.seq (aa c135r1) (.seq (.rgX c135r2) (.seq (ab c135r3 40 c135r4) (.seq (.seq (aa c135r5) (.blk 0 (.loop (.seq (aa c135r6) (.seq (.cond (.t 48) .skip (.exit 0)) (.seq (.blk 1 (.seq (aa c135r7) (.seq (aa c135r8) (ab c135r9 58 c135r10)))) (aa c135r11))))))) (.seq (aa c135r12) .ret))))))
def v135:List Nat × List Nat:=([3,4,6,12],[3,4,6,12])
def o135:List RS:=[.r 6 (some 3),.t 7]
def c136r0:List SI:=[ay 4]
def c136r1:List SI:=[ac 5 0,aq 6 170 5,ac 7 6,aG 7 8 1,bc 7 9 170 8,bW 7 10 9,aA 11 7 10,ac 12 11,aB 12 13 0,aB 12 14 1,dt 12 15 13 14,aw 16 12 15,ac 4 16]
def c136:SC:=(.seq (aa c136r0) (.seq (aa c136r1) .ret))
def v136:List Nat × List Nat:=([],[])
def o136:List RS:=[.t 4]
def c137r0:List SI:=[ay 2]
def c137r1:List SI:=[ac 3 0,ac 4 0,bz 5 3 4,ac 2 5]
def c137:SC:=(.seq (aa c137r0) (.seq (aa c137r1) .ret))
def v137:List Nat × List Nat:=([],[])
def o137:List RS:=[.t 2]
def c140r0:List SI:=[aM 4]
def c140r1:List SI:=[ac 8 0,ac 9 1,az 10 109 8 9,ac 5 10]
def c140r2:List SI:=[ac 11 5,cO 12 11]
def c140r3:List SI:=[ac 13 0,ac 4 13]
def c140r4:List SI:=[ac 14 5,aE 15 14 1,ac 6 15]
def c140r5:List SI:=[ac 16 6,ac 17 0,av 18 17,aJ 19 16 18]
def c140r6:List SI:=[ac 22 0,ac 23 6,aF 24 22 23 1,ai 25 24,ac 7 25]
def c140r7:List SI:=[ac 26 1,ac 27 7,bP 28 26 27,aO 29 28]
def c140r8:List SI:=[ac 30 0,ac 31 5,ac 32 7,aF 33 30 31 1,aC 33 1 32]
def c140r9:List SI:=[ac 34 5,aE 35 34 1,ac 5 35]
def c140r10:List SI:=[ac 20 6,aE 21 20 1,ac 6 21]
def c140r11:List SI:=[ac 36 0,ac 37 5,cT 38 36 37 1,⟨none,.clr 99999 (.t 38) ([(.int .i64 0)]).toArray,none,0⟩]
def c140r12:List SI:=[ac 39 0,ac 40 5,bB 41 39 40 1,ac 4 41]
def c140:SC:=(.seq (aa c140r0) (.seq (aa c140r1) (.seq (ab c140r2 12 c140r3) (.seq (.seq (aa c140r4) (.blk 0 (.loop (.seq (.seq (aa c140r5) (.cond (.t 19) .skip (.exit 0))) (.seq (.blk 1 (.seq (aa c140r6) (.seq (aa c140r7) (.cond (.t 29) (.seq (aa c140r8) (aa c140r9)) .skip)))) (aa c140r10)))))) (.seq (aa c140r11) (.seq (aa c140r12) .ret))))))
def v140:List Nat × List Nat:=([],[])
def o140:List RS:=[.t 4]
def c141r0:List SI:=[ay 3]
def c141r1:List SI:=[ac 4 0,ai 5 1,bl 6 4 5,ac 3 6]
def c141:SC:=(.seq (aa c141r0) (.seq (aa c141r1) .ret))
def v141:List Nat × List Nat:=([],[])
def o141:List RS:=[.t 3]
def c142r0:List SI:=[ay 2]
def c142r1:List SI:=[ac 3 0,bd 4 3 0,ac 5 4,aG 5 6 0,bE 5 7 6 1099511627776,aA 8 5 7,ac 2 8]
def c142:SC:=(.seq (aa c142r0) (.seq (aa c142r1) .ret))
def v142:List Nat × List Nat:=([],[])
def o142:List RS:=[.t 2]
def c143r0:List SI:=[aD 1 0,bo 2,af 3 0]
def c143r1:List SI:=[ar 7 1 0 2,aq 8 131 7,ac 6 8,am 9 6 0,am 10 6 1,ac 4 9,ac 5 10]
def c143r2:List WI:=[(true,false,ar 11 1 0 2),(true,false,ac 12 5),(true,false,ah 1),(true,false,aj 15 1 1),(true,false,av 16 15),(true,false,ac 17 5),(true,false,aY 18 16 17),(false,false,az 13 172 11 12),(false,false,ao 2 0 2 13),(true,false,ac 3 18)]
def c143:SC:=(.seq (aa c143r0) (.seq (aa c143r1) (.seq (.rgW c143r2) .ret)))
def v143:List Nat × List Nat:=([1,2],[1,2,14])
def o143:List RS:=[.r 2 (some 2),.t 3]
def c144r0:List SI:=[af 4 0]
def c144r1:List SI:=[ac 8 0,af 5 0,ac 6 8]
def c144r2:List SI:=[ac 9 5,ac 10 6,aJ 11 9 10]
def c144r3:List SI:=[ac 12 5,ac 13 6,aZ 14 12 13,bn 15 14,bG 16 15 1,ci 17 16,ac 7 17]
def c144r4:List SI:=[ac 18 1,ac 19 7,bP 20 18 19,aO 21 20]
def c144r5:List SI:=[ac 22 7,aE 23 22 1,ac 5 23]
def c144r6:List SI:=[ac 24 7,ac 6 24]
def c144r7:List SI:=[ac 25 5,ac 4 25]
def c144:SC:=(.seq (aa c144r0) (.seq (aa c144r1) (.seq (.blk 0 (.loop (.seq (.seq (aa c144r2) (.cond (.t 11) .skip (.exit 0))) (.blk 1 (.seq (aa c144r3) (.seq (aa c144r4) (.cond (.t 21) (aa c144r5) (aa c144r6)))))))) (.seq (aa c144r7) .ret))))
def v144:List Nat × List Nat:=([],[])
def o144:List RS:=[.t 4]
def c145r0:List SI:=[ay 4]
def c145r1:List SI:=[ai 5 1,ac 6 0,aF 7 5 6 2,ak 8 7 1,ai 9 8,ai 10 2,cI 11 9 10,ac 4 11]
def c145:SC:=(.seq (aa c145r0) (.seq (.reg true c145r1) .ret))
def v145:List Nat × List Nat:=([],[])
def o145:List RS:=[.t 4]
def c151r0:List SI:=[aR 1 0,cH 2]
def c151r1:List SI:=[bM 3 177 1,ac 2 3]
def c151:SC:=(.seq (aa c151r0) (.seq (aa c151r1) .ret))
def v151:List Nat × List Nat:=([],[])
def o151:List RS:=[.t 2]
def c152r0:List SI:=[af 2 0]
def c152r1:List SI:=[ac 5 0,av 6 5,aT 7 6 1]
def c152r2:List SI:=[ac 9 0,cE 10 9 0 1,ai 11 10,ac 3 11]
def c152r3:List SI:=[af 4 1]
def c152r4:List SI:=[ac 12 4,ac 13 0,av 14 13,aJ 15 12 14]
def c152r5:List SI:=[ac 18 3,ac 19 0,ac 20 4,aF 21 19 20 1,ai 22 21,bF 23 18 22,ac 3 23]
def c152r6:List SI:=[ac 16 4,aE 17 16 1,ac 4 17]
def c152r7:List SI:=[ac 24 3,ac 2 24]
def c152:SC:=(.seq (aa c152r0) (.seq (.seq (aa c152r1) (.cond (.t 7) .dead .skip)) (.seq (aa c152r2) (.seq (.seq (aa c152r3) (.blk 0 (.loop (.seq (.seq (aa c152r4) (.cond (.t 15) .skip (.exit 0))) (.seq (.blk 1 (aa c152r5)) (aa c152r6)))))) (.seq (aa c152r7) .ret)))))
def v152:List Nat × List Nat:=([],[])
def o152:List RS:=[.t 2]
theorem s152 : slimC Tryz.prog Tryz.f152.ntmps v152.1 v152.2 ((Tryz.f152.body).getD .skip) = some c152 := by kernel_rfl
theorem q152 : slimR Tryz.prog Tryz.f152.ntmps v152.1 v152.2 Tryz.f152.results.toList = some o152 := by kernel_rfl
def c153r0:List SI:=[af 2 0]
def c153r1:List SI:=[ac 5 0,av 6 5,aT 7 6 1]
def c153r2:List SI:=[ac 9 0,cE 10 9 0 1,ai 11 10,ac 3 11]
def c153r3:List SI:=[af 4 1]
def c153r4:List SI:=[ac 12 4,ac 13 0,av 14 13,aJ 15 12 14]
def c153r5:List SI:=[ac 18 3,ac 19 0,ac 20 4,aF 21 19 20 1,ai 22 21,cw 23 18 22,ac 3 23]
def c153r6:List SI:=[ac 16 4,aE 17 16 1,ac 4 17]
def c153r7:List SI:=[ac 24 3,ac 2 24]
def c153:SC:=(.seq (aa c153r0) (.seq (.seq (aa c153r1) (.cond (.t 7) .dead .skip)) (.seq (aa c153r2) (.seq (.seq (aa c153r3) (.blk 0 (.loop (.seq (.seq (aa c153r4) (.cond (.t 15) .skip (.exit 0))) (.seq (.blk 1 (aa c153r5)) (aa c153r6)))))) (.seq (aa c153r7) .ret)))))
def v153:List Nat × List Nat:=([],[])
def o153:List RS:=[.t 2]
theorem s153 : slimC Tryz.prog Tryz.f153.ntmps v153.1 v153.2 ((Tryz.f153.body).getD .skip) = some c153 := by kernel_rfl
theorem q153 : slimR Tryz.prog Tryz.f153.ntmps v153.1 v153.2 Tryz.f153.results.toList = some o153 := by kernel_rfl
def c154r0:List SI:=[aD 1 0,aM 2,af 3 0]
def c154r1:List SI:=[ar 5 1 0 10,aq 6 179 5,aO 7 6]
def c154r2:List SI:=[aM 2,af 3 1]
def c154r3:List SI:=[ar 8 1 0 10,aq 9 180 8,ac 4 9]
def c154r4:List SI:=[ac 10 4,av 11 10,bm 12 11 2048]
def c154r5:List SI:=[aM 2,af 3 2]
def c154r6:List SI:=[ac 13 4,ac 2 13,af 3 0]
def c154:SC:=(.seq (aa c154r0) (.seq (ab c154r1 7 c154r2) (.seq (aa c154r3) (.seq (ab c154r4 12 c154r5) (.seq (aa c154r6) .ret)))))
def v154:List Nat × List Nat:=([1],[1])
def o154:List RS:=[.t 2,.t 3]
def c155r0:List SI:=[ay 2]
def c155r1:List SI:=[ac 3 0,bd 4 3 0,ac 5 4,aG 5 6 0,bE 5 7 6 1099511627776,aA 8 5 7,ac 2 8]
def c155:SC:=(.seq (aa c155r0) (.seq (aa c155r1) .ret))
def v155:List Nat × List Nat:=([],[])
def o155:List RS:=[.t 2]
def c156r0:List SI:=[ay 2]
def c156r1:List SI:=[ac 3 0,bd 4 3 1,ac 5 4,aG 5 6 0,bE 5 7 6 4096,aA 8 5 7,ac 2 8]
def c156:SC:=(.seq (aa c156r0) (.seq (aa c156r1) .ret))
def v156:List Nat × List Nat:=([],[])
def o156:List RS:=[.t 2]
def c157r0:List SI:=[aM 2]
def c157r1:List SI:=[af 3 0]
def c157r2:List SI:=[ac 9 0,av 10 9,af 11 0]
def c157r3:List SI:=[aJ 12 11 10]
def c157r4:List SI:=[aF 13 9 11 1,ai 14 13,ac 5 14]
def c157r5:List SI:=[ac 15 3,ac 16 5,av 17 16,aZ 18 15 17,ac 3 18]
def c157r6:List SI:=[ac 19 3,aT 20 19 0]
def c157r7:List SI:=[aE 22 11 1,ac 11 22]
def c157r8:List SI:=[ac 23 3,cR 24 181 23,ac 6 24]
def c157r9:List SI:=[ac 25 0,av 26 25,af 27 0]
def c157r10:List SI:=[aJ 28 27 26]
def c157r11:List SI:=[aF 29 25 27 1,ai 30 29,ac 8 30]
def c157r12:List SI:=[ac 31 6,ac 32 8,aQ 33 31 32 5 1 1,ac 6 33]
def c157r13:List SI:=[aE 34 27 1,ac 27 34]
def c157r14:List SI:=[ac 35 6,ac 2 35]
def c157:SC:=(.seq (aa c157r0) (.seq (aa c157r1) (.seq (.seq (aa c157r2) (.blk 0 (.loop (.seq (aa c157r3) (.seq (.cond (.t 12) .skip (.exit 0)) (.seq (.blk 1 (.seq (aa c157r4) (.seq (aa c157r5) (.seq (aa c157r6) (.cond (.t 20) .dead .skip))))) (aa c157r7))))))) (.seq (aa c157r8) (.seq (.seq (aa c157r9) (.blk 2 (.loop (.seq (aa c157r10) (.seq (.cond (.t 28) .skip (.exit 2)) (.seq (.blk 3 (.seq (aa c157r11) (aa c157r12))) (aa c157r13))))))) (.seq (aa c157r14) .ret))))))
def v157:List Nat × List Nat:=([],[])
def o157:List RS:=[.t 2]
def c158r0:List SI:=[bo 2,af 3 0]
def c158r1:List SI:=[ac 4 0,aq 5 155 4,aO 6 5]
def c158r2:List SI:=[cj 7,ao 2 0 2 7,af 3 1]
def c158r3:List SI:=[ac 8 0,dh 9 0 1 8,ao 2 0 2 9,af 3 0]
def c158:SC:=(.seq (aa c158r0) (.seq (ab c158r1 6 c158r2) (.seq (aa c158r3) .ret)))
def v158:List Nat × List Nat:=([2],[2])
def o158:List RS:=[.r 2 (some 2),.t 3]
def c159r0:List SI:=[aR 1 0,cH 2]
def c159r1:List SI:=[bM 3 182 1,ac 2 3]
def c159:SC:=(.seq (aa c159r0) (.seq (aa c159r1) .ret))
def v159:List Nat × List Nat:=([],[])
def o159:List RS:=[.t 2]
def c160r0:List SI:=[af 6 0,af 7 0]
def c160r1:List SI:=[af 8 0]
def c160r2:List SI:=[ac 9 0,aq 10 108 9,aW 11 10 0]
def c160r3:List SI:=[ac 12 0,ac 13 1,az 14 183 12 13,ac 8 14]
def c160r4:List SI:=[ac 15 8,aW 16 15 0]
def c160r5:List SI:=[cG 6,af 7 0]
def c160r6:List SI:=[ac 17 8,ac 18 0,av 19 18,aJ 20 17 19]
def c160r7:List SI:=[ac 21 0,ac 22 8,aF 23 21 22 2,ak 24 23 1,ai 25 24,ac 2 25]
def c160r8:List SI:=[ac 26 0,ac 27 8,bw 28 27 1,aF 29 26 28 2,ak 30 29 0,ai 31 30,ac 32 2,ac 6 31,ac 7 32]
def c160:SC:=(.seq (aa c160r0) (.seq (aa c160r1) (.seq (.seq (aa c160r2) (.cond (.t 11) (aa c160r3) .skip)) (.seq (ab c160r4 16 c160r5) (.seq (.seq (aa c160r6) (.cond (.t 20) (aa c160r7) .skip)) (.seq (aa c160r8) .ret))))))
def v160:List Nat × List Nat:=([],[])
def o160:List RS:=[.t 6,.t 7]
def c161r0:List SI:=[aD 1 0,af 2 0]
def c161r1:List SI:=[ah 1,aj 4 1 0,aq 5 184 4,aO 6 5,ac 7 6,aH 7 1,aI 7 9 1 4,ba 7 10 184 9,aS 7 11 10,aw 12 7 11,ac 13 12,aH 13 1,aI 13 15 1 1,⟨some (13,false),.len 16 true (.t 15),none,16⟩,aX 13 17 16 64,aw 18 13 17,ac 19 18,aH 19 1,aI 19 21 1 2,⟨some (19,false),.len 22 true (.t 21),none,22⟩,aX 19 23 22 64,aw 24 19 23,ac 25 24,aH 25 1,aI 25 27 1 3,aB 25 28 27,aL 28 1,aN 28 30 1 1,⟨some (28,true),.bin 31 .eql (.t 30) (.v (.string ⟨#[]⟩)),none,31⟩,aG 28 32 31,aH 32 1,aI 32 34 1 2,⟨some (32,false),.bin 35 .neq (.t 34) (.v (.string ⟨#[]⟩)),none,35⟩,bC 28 36 32 35,bO 25 37 28 36,aw 38 25 37]
def c161r2:List SI:=[af 2 1]
def c161r3:List SI:=[af 2 0]
def c161:SC:=(.seq (aa c161r0) (.seq (ab c161r1 38 c161r2) (.seq (aa c161r3) .ret)))
def v161:List Nat × List Nat:=([1],[1,3,8,14,20,26,29,33])
def o161:List RS:=[.t 2]
theorem s161 : slimC Tryz.prog Tryz.f161.ntmps v161.1 v161.2 ((Tryz.f161.body).getD .skip) = some c161 := by kernel_rfl
theorem q161 : slimR Tryz.prog Tryz.f161.ntmps v161.1 v161.2 Tryz.f161.results.toList = some o161 := by kernel_rfl
def c162r0:List SI:=[aM 4]
def c162r1:List SI:=[ac 7 1,bn 8 7,⟨none,.bin 9 .mul (.v (.int .u64 2)) (.t 8),none,0⟩,ac 5 9]
def c162r2:List SI:=[ac 10 1,aT 11 10 0]
def c162r3:List SI:=[ac 12 1,aE 13 12 1,⟨none,.un 14 .neg (.t 13),none,0⟩,bn 15 14,⟨none,.bin 16 .mul (.v (.int .u64 2)) (.t 15),none,0⟩,⟨none,.bin 17 .add (.t 16) (.v (.int .u64 1)),none,0⟩,ac 5 17]
def c162r4:List SI:=[ac 18 0,aq 19 176 18,ac 6 19]
def c162r5:List SI:=[ac 20 5,⟨none,.bin 21 .geq (.t 20) (.v (.int .u64 128)),none,0⟩]
def c162r6:List SI:=[ac 22 6,ac 23 5,⟨none,.bin 24 .rem (.t 23) (.v (.int .u64 128)),none,0⟩,⟨none,.bin 25 .add (.v (.int .u64 128)) (.t 24),none,0⟩,bp 26 25,bH 27 5 1 1 0 1 26,aQ 28 22 27 5 1 1,ac 6 28]
def c162r7:List SI:=[ac 29 5,⟨none,.bin 30 .quo (.t 29) (.v (.int .u64 128)),none,0⟩,ac 5 30]
def c162r8:List SI:=[ac 31 6,ac 32 5,bp 33 32,bH 34 5 1 1 0 1 33,aQ 35 31 34 5 1 1,ac 4 35]
def c162:SC:=(.seq (aa c162r0) (.seq (aa c162r1) (.seq (.seq (aa c162r2) (.cond (.t 11) (aa c162r3) .skip)) (.seq (aa c162r4) (.seq (.blk 0 (.loop (.seq (.seq (aa c162r5) (.cond (.t 21) .skip (.exit 0))) (.blk 1 (.seq (aa c162r6) (aa c162r7)))))) (.seq (aa c162r8) .ret))))))
def v162:List Nat × List Nat:=([],[])
def o162:List RS:=[.t 4]
theorem s162 : slimC Tryz.prog Tryz.f162.ntmps v162.1 v162.2 ((Tryz.f162.body).getD .skip) = some c162 := by kernel_rfl
theorem q162 : slimR Tryz.prog Tryz.f162.ntmps v162.1 v162.2 Tryz.f162.results.toList = some o162 := by kernel_rfl
def c163r0:List SI:=[aD 3 0,aM 6,af 7 0]
def c163r1:List SI:=[ar 10 3 0 5,aq 11 161 10,ac 8 11]
def c163r2:List SI:=[ac 12 8,aP 13 12 0]
def c163r3:List SI:=[ac 14 8,aM 6,ac 7 14]
def c163r4:List SI:=[ac 15 1,aq 16 184 15,aO 17 16,ac 18 17,aB 18 19 2,ba 18 20 184 19,aS 18 21 20,aw 22 18 21]
def c163r5:List SI:=[aM 6,af 7 1]
def c163r6:List SI:=[ah 3,aj 24 3 0,ac 25 1,aY 26 24 25,cR 27 162 26,ac 9 27]
def c163r7:List SI:=[ac 28 9,ah 3,aj 30 3 4,ac 31 2,aY 32 30 31,az 33 162 28 32,ac 9 33]
def c163r8:List SI:=[ah 3,aj 35 3 3]
def c163r9:List SI:=[ac 36 9,⟨none,.bls 37 5 1 1 [(.int .u8 0)] [(0,1,(.v (.int .u8 1)))],none,0⟩,aQ 38 36 37 5 1 1,ac 9 38]
def c163r10:List SI:=[ac 39 9,⟨none,.bls 40 5 1 1 [(.int .u8 0)] [(0,1,(.v (.int .u8 0)))],none,0⟩,aQ 41 39 40 5 1 1,ac 9 41]
def c163r11:List SI:=[ac 42 9,ah 3,aj 44 3 1,az 45 185 42 44,ac 9 45]
def c163r12:List SI:=[ac 46 9,ah 3,aj 48 3 2,az 49 185 46 48,ac 6 49,af 7 0]
def c163:SC:=(.seq (aa c163r0) (.seq (aa c163r1) (.seq (ab c163r2 13 c163r3) (.seq (ab c163r4 22 c163r5) (.seq (aa c163r6) (.seq (aa c163r7) (.seq (.seq (aa c163r8) (.cond (.t 35) (aa c163r9) (aa c163r10))) (.seq (aa c163r11) (.seq (aa c163r12) .ret)))))))))
def v163:List Nat × List Nat:=([3],[3,23,29,34,43,47])
def o163:List RS:=[.t 6,.t 7]
theorem s163 : slimC Tryz.prog Tryz.f163.ntmps v163.1 v163.2 ((Tryz.f163.body).getD .skip) = some c163 := by kernel_rfl
theorem q163 : slimR Tryz.prog Tryz.f163.ntmps v163.1 v163.2 Tryz.f163.results.toList = some o163 := by kernel_rfl
def c164r0:List SI:=[aM 2]
def c164r1:List SI:=[bZ 3,ac 4 0,aQ 5 3 4 5 1 1,ac 6 0,aq 7 187 6,aq 8 186 7,aQ 9 5 8 5 1 1,ac 2 9]
def c164:SC:=(.seq (aa c164r0) (.seq (aa c164r1) .ret))
def v164:List Nat × List Nat:=([],[])
def o164:List RS:=[.t 2]
theorem s164 : slimC Tryz.prog Tryz.f164.ntmps v164.1 v164.2 ((Tryz.f164.body).getD .skip) = some c164 := by kernel_rfl
theorem q164 : slimR Tryz.prog Tryz.f164.ntmps v164.1 v164.2 Tryz.f164.results.toList = some o164 := by kernel_rfl
def c165r0:List SI:=[aM 6]
def c165r1:List SI:=[ac 10 0,aq 11 176 10,ac 7 11]
def c165r2:List SI:=[ac 12 2,aT 13 12 1,ac 14 13,aB 14 15 2,aX 14 16 15 8,aw 17 14 16]
def c165r3:List SI:=[ac 18 7,ac 6 18]
def c165r4:List SI:=[ac 19 2,af 20 0]
def c165r5:List SI:=[aJ 21 20 19]
def c165r6:List SI:=[ac 22 20,ac 8 22]
def c165r7:List SI:=[ac 23 1,ac 9 23]
def c165r8:List SI:=[ac 24 2,bw 25 24 1,ac 26 8,aY 27 25 26,af 28 0]
def c165r9:List SI:=[aJ 29 28 27]
def c165r10:List SI:=[ac 30 9,⟨none,.bin 31 .quo (.t 30) (.v (.int .u64 256)),none,0⟩,ac 9 31]
def c165r11:List SI:=[aE 32 28 1,ac 28 32]
def c165r12:List SI:=[ac 33 7,ac 34 9,⟨none,.bin 35 .rem (.t 34) (.v (.int .u64 256)),none,0⟩,bp 36 35,bH 37 5 1 1 0 1 36,aQ 38 33 37 5 1 1,ac 7 38]
def c165r13:List SI:=[aE 39 20 1,ac 20 39]
def c165r14:List SI:=[ac 40 7,ac 6 40]
def c165:SC:=(.seq (aa c165r0) (.seq (aa c165r1) (.seq (ab c165r2 17 c165r3) (.seq (.seq (aa c165r4) (.blk 0 (.loop (.seq (aa c165r5) (.seq (.cond (.t 21) .skip (.exit 0)) (.seq (.blk 1 (.seq (aa c165r6) (.seq (aa c165r7) (.seq (.seq (aa c165r8) (.blk 2 (.loop (.seq (aa c165r9) (.seq (.cond (.t 29) .skip (.exit 2)) (.seq (.blk 3 (aa c165r10)) (aa c165r11))))))) (aa c165r12))))) (aa c165r13))))))) (.seq (aa c165r14) .ret)))))
def v165:List Nat × List Nat:=([],[])
def o165:List RS:=[.t 6]
theorem s165 : slimC Tryz.prog Tryz.f165.ntmps v165.1 v165.2 ((Tryz.f165.body).getD .skip) = some c165 := by kernel_rfl
theorem q165 : slimR Tryz.prog Tryz.f165.ntmps v165.1 v165.2 Tryz.f165.results.toList = some o165 := by kernel_rfl
def c166r0:List SI:=[ay 4]
def c166r1:List SI:=[ac 5 0,⟨none,.cvS 6 (.t 5),none,0⟩,ac 7 1,⟨none,.cvS 8 (.t 7),none,0⟩,bl 9 6 8,ac 4 9]
def c166:SC:=(.seq (aa c166r0) (.seq (aa c166r1) .ret))
def v166:List Nat × List Nat:=([],[])
def o166:List RS:=[.t 4]
def c167r0:List SI:=[aR 2 0,aR 3 1,bg 4,af 5 0]
def c167r1:List SI:=[aK 6 2 3,ai 7 3,bY 8 189 2 3,bf 9 188 6 7 8,am 10 9 0,am 11 9 1,ao 4 0 3 10,ac 5 11]
def c167:SC:=(.seq (aa c167r0) (.seq (aa c167r1) .ret))
def v167:List Nat × List Nat:=([4],[4])
def o167:List RS:=[.r 4 (some 3),.t 5]
def c168r0:List SI:=[ay 6]
def c168r1:List SI:=[ac 10 0,av 11 10,ac 12 1,av 13 12,bz 14 11 13]
def c168r2:List SI:=[ay 6]
def c168r3:List SI:=[ac 15 0,av 16 15,af 17 0]
def c168r4:List SI:=[aJ 18 17 16]
def c168r5:List SI:=[ac 19 17,aF 20 15 17 10,aK 21 20 10,a8 8,ac 7 19,ao 8 0 10 21]
def c168r6:List SI:=[ac 22 1,ac 23 7,aF 24 22 23 10,aK 25 24 10,a8 9,ao 9 0 10 25]
def c168r7:List SI:=[ac 26 2,ar 27 8 0 10,ar 28 9 0 10,bR 29 26 27 28,aO 30 29]
def c168r8:List SI:=[ay 6]
def c168r9:List SI:=[aE 31 17 1,ac 17 31]
def c168r10:List SI:=[bA 6]
def c168:SC:=(.seq (aa c168r0) (.seq (ab c168r1 14 c168r2) (.seq (.seq (aa c168r3) (.blk 0 (.loop (.seq (aa c168r4) (.seq (.cond (.t 18) .skip (.exit 0)) (.seq (.blk 1 (.seq (aa c168r5) (.seq (aa c168r6) (ab c168r7 30 c168r8)))) (aa c168r9))))))) (.seq (aa c168r10) .ret))))
def v168:List Nat × List Nat:=([8,9],[8,9])
def o168:List RS:=[.t 6]
def c169r0:List SI:=[aD 2 0,aD 3 1,ay 4]
def c169r1:List SI:=[ah 2,aj 7 2 9,ah 3,aj 9 3 9,az 10 191 7 9,aO 11 10]
def c169r2:List SI:=[ay 4]
def c169r3:List SI:=[⟨none,.mv 5 (.v (.func (.func 192) #[] #[])),none,0⟩]
def c169r4:List (Bool × SI):=[(true,ac 12 5),(true,ar 13 2 0 10),(true,ac 15 5),(true,ar 16 3 0 10),(false,bP 14 12 13),(false,bP 17 15 16),(true,⟨none,.eqf 18 false [0,0,0,0,0,0,0,0,0] (.t 14) (.t 17),none,0⟩),(true,ac 4 18)]
def c169:SC:=(.seq (aa c169r0) (.seq (ab c169r1 11 c169r2) (.seq (aa c169r3) (.seq (.rgX c169r4) .ret))))
def v169:List Nat × List Nat:=([2,3],[2,3,6,8])
def o169:List RS:=[.t 4]
def c170r0:List SI:=[ay 2]
def c170r1:List SI:=[ac 3 0,ac 4 0,bz 5 3 4,ac 2 5]
def c170:SC:=(.seq (aa c170r0) (.seq (aa c170r1) .ret))
def v170:List Nat × List Nat:=([],[])
def o170:List RS:=[.t 2]
def c172r0:List SI:=[aD 2 0,bo 4]
def c172r1:List (Bool × SI):=[(true,ah 2),(true,aj 6 2 0),(true,ah 2),(true,aj 8 2 1),(true,ac 9 1),(true,bB 10 8 9 1),(false,aq 11 194 10),(true,⟨none,.bld 12 [(.int .i64 0),(.slice none 0 0)] [(0,1,(.t 6)),(1,1,(.t 11))],none,0⟩)]
def c172r2:List SI:=[ao 4 0 2 12]
def c172:SC:=(.seq (aa c172r0) (.seq (.rgY c172r1 c172r2) .ret))
def v172:List Nat × List Nat:=([2,4],[2,4,5,7])
def o172:List RS:=[.r 4 (some 2)]
def c176r0:List SI:=[aM 2]
def c176r1:List SI:=[ac 3 0,cQ 4 3 5 1 1,ac 2 4]
def c176:SC:=(.seq (aa c176r0) (.seq (aa c176r1) .ret))
def v176:List Nat × List Nat:=([],[])
def o176:List RS:=[.t 2]
theorem s176 : slimC Tryz.prog Tryz.f176.ntmps v176.1 v176.2 ((Tryz.f176.body).getD .skip) = some c176 := by kernel_rfl
theorem q176 : slimR Tryz.prog Tryz.f176.ntmps v176.1 v176.2 Tryz.f176.results.toList = some o176 := by kernel_rfl
def c177r0:List SI:=[ak 8 1 0,ai 9 8,af 3 0,ac 4 9]
def c177r1:List SI:=[ak 11 1 1,ai 12 11,ac 13 3,az 14 178 12 13,ac 10 14,am 15 10 0,am 16 10 1,am 17 10 2,a8 5,ao 5 0 10 15,ac 6 16,ac 7 17]
def c177r2:List SI:=[ac 18 7,aP 19 18 0,ac 20 19,aH 20 5,aI 20 22 5 0,aB 20 23 4,dt 20 24 22 23,aw 25 20 24,ac 26 25,aB 26 27 0,cC 26 28 5 0 10,aB 26 29 6,⟨some (26,false),.cav 30 (.t 27) [(.t 28),(.t 29)],none,30⟩,aS 26 31 30,aw 32 26 31]
def c177r3:List SI:=[ac 33 6,ah 5,aj 35 5 1,aE 36 35 1,ac 3 33,ac 4 36]
def c177:SC:=(.seq (.reg true c177r0) (.blk 0 (.loop (.blk 1 (.seq (aa c177r1) (.seq (.seq (aa c177r2) (.cond (.t 32) .ret .skip)) (.reg true c177r3)))))))
def v177:List Nat × List Nat:=([5],[5,21,34])
def o177:List RS:=[]
def c178r0:List SI:=[a8 4,af 5 0,af 6 0]
def c178r1:List SI:=[ac 12 0,ac 13 1,cU 14 196 12 13 4,ac 11 14,am 15 11 0,am 16 11 1,ac 7 15,ac 6 16]
def c178r2:List SI:=[ac 17 6,aP 18 17 0]
def c178r3:List SI:=[bj 19,ac 20 6,ao 4 0 10 19,af 5 0,ac 6 20]
def c178r4:List SI:=[ac 21 7,⟨none,.bin 22 .lss (.t 21) (.v (.int .u64 5)),none,0⟩,ac 23 22,aB 23 24 7,⟨some (23,false),.bin 25 .gtr (.t 24) (.v (.int .u64 2044)),none,25⟩,aw 26 23 25]
def c178r5:List SI:=[bj 27,ao 4 0 10 27,af 5 0,af 6 11]
def c178r6:List SI:=[ac 28 0,ac 29 1,aE 30 29 4,cT 31 28 30 1,ac 8 31]
def c178r7:List SI:=[ac 32 8,av 33 32,bn 34 33,ac 35 7,aJ 36 34 35]
def c178r8:List SI:=[bj 37,ao 4 0 10 37,af 5 0,af 6 10]
def c178r9:List SI:=[ac 39 8,ac 40 7,bB 41 39 40 1,aq 42 197 41,ac 38 42,am 43 38 0,am 44 38 1,ac 9 43,ac 6 44]
def c178r10:List SI:=[ac 45 6,aP 46 45 0]
def c178r11:List SI:=[bj 47,ac 48 6,ao 4 0 10 47,af 5 0,ac 6 48]
def c178r12:List SI:=[ac 50 9,aq 51 198 50,ac 49 51,am 52 49 0,am 53 49 1,ao 4 0 10 52,ac 10 53]
def c178r13:List SI:=[ac 54 10,aO 55 54,ac 56 55,cC 56 57 4 0 10,ba 56 58 118 57,bh 56 59 58 0,aw 60 56 59]
def c178r14:List SI:=[bj 61,ao 4 0 10 61,af 5 0,af 6 11]
def c178r15:List SI:=[ar 62 4 0 10,ac 63 1,aE 64 63 4,ac 65 7,ci 66 65,aZ 67 64 66,ao 4 0 10 62,ac 5 67,af 6 0]
def c178:SC:=(.seq (aa c178r0) (.seq (aa c178r1) (.seq (ab c178r2 18 c178r3) (.seq (ab c178r4 26 c178r5) (.seq (aa c178r6) (.seq (ab c178r7 36 c178r8) (.seq (aa c178r9) (.seq (ab c178r10 46 c178r11) (.seq (aa c178r12) (.seq (ab c178r13 60 c178r14) (.seq (aa c178r15) .ret)))))))))))
def v178:List Nat × List Nat:=([4],[4])
def o178:List RS:=[.r 4 (some 10),.t 5,.t 6]
def c179r0:List SI:=[aD 1 0,ay 2]
def c179r1:List SI:=[ah 1,aj 8 1 0,ah 1,aj 10 1 1,ah 1,aj 12 1 2,⟨none,.bls 13 3 3 1 [(.int .i64 0),(.int .i64 0),(.int .i64 0)] [(0,1,(.t 8)),(1,1,(.t 10)),(2,1,(.t 12))],none,0⟩,⟨none,.call 14 117 [(.i 1099511627776),(.t 13)],none,0⟩,aO 15 14,ac 16 15,aH 16 1,aI 16 18 1 3,aH 16 1,aI 16 20 1 5,aH 16 1,aI 16 22 1 6,⟨some (16,false),.bls 23 3 3 1 [(.int .i64 0),(.int .i64 0),(.int .i64 0)] [(0,1,(.t 18)),(1,1,(.t 20)),(2,1,(.t 22))],none,23⟩,⟨some (16,false),.call 24 117 [(.i 1048576),(.t 23)],none,24⟩,aS 16 25 24,aw 26 16 25]
def c179r2:List SI:=[ay 2]
def c179r3:List SI:=[ah 1,aj 28 1 1,ah 1,aj 30 1 0,aY 31 28 30,ac 3 31]
def c179r4:List SI:=[ac 33 3,aT 34 33 0,ac 35 34,aB 35 36 3,dq 35 37 36 16,aw 38 35 37,ac 39 38,aH 39 1,aI 39 41 1 2,aB 39 42 3,dr 39 43 41 42,aX 39 44 43 1099511627776,aw 45 39 44,ac 46 45,aH 46 1,aI 46 48 1 6,aB 46 49 3,dr 46 50 48 49,aX 46 51 50 1048576,aw 52 46 51,ac 32 52]
def c179r5:List SI:=[ay 2]
def c179r6:List SI:=[ah 1,aj 55 1 4,⟨none,.bin 56 .lss (.t 55) (.i (-1)),none,0⟩,ac 57 56,aH 57 1,aI 57 59 1 4,aX 57 60 59 1099511627776,aw 61 57 60,ac 53 61]
def c179r7:List SI:=[ay 2]
def c179r8:List SI:=[ah 1,aj 64 1 4,cO 65 64,ac 66 65,aL 66 1,aN 66 68 1 5,aL 66 1,aN 66 70 1 6,⟨some (66,true),.bin 71 .add (.t 68) (.t 70),none,71⟩,⟨some (66,true),.bin 72 .neq (.t 71) (.i 0),none,72⟩,aG 66 73 72,aH 73 1,aI 73 75 1 7,bC 66 76 73 75,aG 66 77 76,aH 77 1,aI 77 79 1 8,bh 77 80 79 0,bC 66 81 77 80,aA 82 66 81,ac 62 82]
def c179r9:List SI:=[ay 2]
def c179r10:List SI:=[ah 1,aj 84 1 8]
def c179r11:List SI:=[aW 86 84 0,ac 85 86]
def c179r12:List SI:=[ah 1,aj 88 1 0,ac 4 88]
def c179r13:List SI:=[ah 1,aj 90 1 9,av 91 90,af 92 0]
def c179r14:List SI:=[aJ 93 92 91]
def c179r15:List SI:=[aF 94 90 92 5,aK 95 94 5,cf 6,ao 6 0 5 95]
def c179r16:List SI:=[ar 96 6 0 5,aq 97 199 96,aP 98 97 0,ac 99 98,aH 99 6,aI 99 101 6 0,aB 99 102 4,dt 99 103 101 102,aw 104 99 103,ac 105 104,aH 105 6,aI 105 107 6 0,aH 105 1,aI 105 109 1 1,bX 105 110 107 109,aw 111 105 110]
def c179r17:List SI:=[ay 2]
def c179r18:List SI:=[ah 6,aj 113 6 0,aE 114 113 1,ac 4 114]
def c179r19:List SI:=[aE 115 92 1,ac 92 115]
def c179r20:List SI:=[bA 2]
def c179r21:List SI:=[aW 117 84 1,ac 116 117]
def c179r22:List SI:=[aW 118 84 2,ac 116 118]
def c179r23:List SI:=[ac 119 3,aW 120 119 0,ac 121 120,aL 121 1,aN 121 123 1 9,cn 121 124 123,aU 121 125 124 0,aA 126 121 125,ac 127 126,aL 127 1,aN 127 129 1 7,aA 130 127 129,ac 2 130]
def c179r24:List SI:=[ay 2]
def c179:SC:=(.seq (aa c179r0) (.seq (ab c179r1 26 c179r2) (.seq (aa c179r3) (.seq (.blk 0 (.seq (aa c179r4) (.cond (.t 32) (.seq (aa c179r5) .ret) (.seq (aa c179r6) (.cond (.t 53) (.seq (aa c179r7) .ret) (ab c179r8 62 c179r9)))))) (.seq (.seq (aa c179r10) (.blk 1 (.seq (aa c179r11) (.cond (.t 85) (.seq (aa c179r12) (.seq (.seq (aa c179r13) (.blk 2 (.loop (.seq (aa c179r14) (.seq (.cond (.t 93) .skip (.exit 2)) (.seq (.blk 3 (.seq (aa c179r15) (.seq (ab c179r16 111 c179r17) (aa c179r18)))) (aa c179r19))))))) (.seq (aa c179r20) .ret))) (.seq (.seq (aa c179r21) (.cond (.t 116) .skip (aa c179r22))) (.cond (.t 116) (.seq (aa c179r23) .ret) .skip)))))) (.seq (aa c179r24) .ret))))))
def v179:List Nat × List Nat:=([1,6],[1,6,7,9,11,17,19,21,27,29,40,47,54,58,63,67,69,74,78,83,87,89,100,106,108,112,122,128])
def o179:List RS:=[.t 2]
theorem s179 : slimC Tryz.prog Tryz.f179.ntmps v179.1 v179.2 ((Tryz.f179.body).getD .skip) = some c179 := by kernel_rfl
theorem q179 : slimR Tryz.prog Tryz.f179.ntmps v179.1 v179.2 Tryz.f179.results.toList = some o179 := by kernel_rfl
def c180r0:List SI:=[aD 1 0,aM 2]
def c180r1:List SI:=[aM 3]
def c180r2:List SI:=[ah 1,aj 13 1 0,ah 1,aj 15 1 1,ah 1,aj 17 1 0,aY 18 15 17,ah 1,aj 20 1 2,ah 1,aj 22 1 3,ah 1,aj 24 1 4,ah 1,aj 26 1 5,ah 1,aj 28 1 6,⟨none,.bld 29 [(.int .i64 0),(.int .i64 0),(.int .i64 0),(.int .i64 0),(.int .i64 0),(.int .i64 0),(.int .i64 0)] [(0,1,(.t 13)),(1,1,(.t 18)),(2,1,(.t 20)),(3,1,(.t 22)),(4,1,(.t 24)),(5,1,(.t 26)),(6,1,(.t 28))],none,0⟩,af 30 0]
def c180r3:List SI:=[aT 31 30 7]
def c180r4:List SI:=[⟨none,.ixV 32 (.t 29) (.t 30) 7 1 none,none,0⟩,ac 5 32]
def c180r5:List SI:=[ac 33 3,ac 34 5,az 35 200 33 34,ac 3 35]
def c180r6:List SI:=[aE 36 30 1,ac 30 36]
def c180r7:List SI:=[ah 1,aj 38 1 8,bp 39 38,ac 6 39]
def c180r8:List SI:=[ah 1,aj 41 1 7]
def c180r9:List SI:=[ac 42 6,⟨none,.bin 43 .or (.t 42) (.v (.int .u8 4)),none,0⟩,ac 6 43]
def c180r10:List (Bool × SI):=[(true,ac 44 3),(true,ac 45 6),(true,ah 1),(true,aj 49 1 9),(true,av 50 49),(false,bH 46 5 1 1 0 1 45),(false,aQ 47 44 46 5 1 1),(false,az 51 200 47 50),(true,ac 3 51)]
def c180r11:List SI:=[ah 1,aj 53 1 9,av 54 53,bm 55 54 0]
def c180r12:List SI:=[ah 1,aj 57 1 9,cE 58 57 0 5,ak 59 58 4,ai 60 59,ac 7 60]
def c180r13:List SI:=[ac 61 3,ac 62 7,az 63 200 61 62,ac 3 63]
def c180r14:List SI:=[ah 1,aj 65 1 9,av 66 65,af 67 0]
def c180r15:List SI:=[aJ 68 67 66]
def c180r16:List SI:=[aF 69 65 67 5,aK 70 69 5,cf 9,ao 9 0 5 70]
def c180r17:List SI:=[ar 72 9 0 5,ah 1,aj 74 1 0,ac 75 7,bf 76 201 72 74 75,ac 71 76,am 77 71 0,am 78 71 1,ac 10 77,ac 11 78]
def c180r18:List SI:=[ac 79 3,ac 80 10,aQ 81 79 80 5 1 1,ac 3 81]
def c180r19:List SI:=[aE 82 67 1,ac 67 82]
def c180r20:List SI:=[ac 83 3,aq 84 202 83,ac 3 84]
def c180r21:List SI:=[ac 85 3,av 86 85,bn 87 86,⟨none,.call 88 203 [(.v (.slice none 0 0)),(.t 87),(.i 4)],none,0⟩,ac 89 3,aQ 90 88 89 5 1 1,ac 2 90]
def c180:SC:=(.seq (aa c180r0) (.seq (aa c180r1) (.seq (.seq (aa c180r2) (.blk 0 (.loop (.seq (aa c180r3) (.seq (.cond (.t 31) .skip (.exit 0)) (.seq (.blk 1 (.seq (aa c180r4) (aa c180r5))) (aa c180r6))))))) (.seq (aa c180r7) (.seq (.seq (aa c180r8) (.cond (.t 41) (aa c180r9) .skip)) (.seq (.rgX c180r10) (.seq (.seq (aa c180r11) (.cond (.t 55) (.seq (aa c180r12) (.seq (aa c180r13) (.seq (aa c180r14) (.blk 2 (.loop (.seq (aa c180r15) (.seq (.cond (.t 68) .skip (.exit 2)) (.seq (.blk 3 (.seq (aa c180r16) (.seq (aa c180r17) (aa c180r18)))) (aa c180r19))))))))) .skip)) (.seq (aa c180r20) (.seq (aa c180r21) .ret)))))))))
def v180:List Nat × List Nat:=([1,9],[1,9,12,14,16,19,21,23,25,27,37,40,48,52,56,64,73])
def o180:List RS:=[.t 2]
theorem s180 : slimC Tryz.prog Tryz.f180.ntmps v180.1 v180.2 ((Tryz.f180.body).getD .skip) = some c180 := by kernel_rfl
theorem q180 : slimR Tryz.prog Tryz.f180.ntmps v180.1 v180.2 Tryz.f180.results.toList = some o180 := by kernel_rfl
def c181r0:List SI:=[aM 4]
def c181r1:List SI:=[ac 5 1,aT 6 5 0]
def c181r2:List SI:=[ac 8 1,ac 9 0,⟨none,.cpc 10 (.t 9),none,0⟩,ac 11 0,av 12 11,aY 13 10 12,aY 14 8 13,ac 1 14]
def c181r3:List SI:=[ac 15 1,bm 16 15 0]
def c181r4:List SI:=[ac 17 0,ac 18 0,⟨none,.cpc 19 (.t 18),none,0⟩,bB 20 17 19 1,ac 21 1,⟨none,.apz 22 5 1 1 (.t 20) (.t 21),none,0⟩,ac 23 0,av 24 23,bB 25 22 24 1,ac 0 25]
def c181r5:List SI:=[ac 26 0,ac 4 26]
def c181:SC:=(.seq (aa c181r0) (.seq (.seq (aa c181r1) (.cond (.t 6) .dead .skip)) (.seq (.seq (aa c181r2) (.seq (aa c181r3) (.cond (.t 16) (aa c181r4) .skip))) (.seq (aa c181r5) .ret))))
def v181:List Nat × List Nat:=([],[])
def o181:List RS:=[.t 4]
def c182r0:List SI:=[ai 4 1,av 5 4,bw 6 5 1,ac 3 6]
def c182r1:List SI:=[ac 7 3,bd 8 7 0]
def c182r2:List SI:=[ac 11 0,ac 12 3,ai 13 1,ac 14 3,aF 15 13 14 2,aK 16 15 2,bR 17 11 12 16,aO 18 17]
def c182r3:List SI:=[ac 9 3,bw 10 9 1,ac 3 10]
def c182:SC:=(.seq (aa c182r0) (.blk 0 (.loop (.seq (.seq (aa c182r1) (.cond (.t 8) .skip (.exit 0))) (.seq (.blk 1 (.seq (aa c182r2) (.cond (.t 18) .ret .skip))) (aa c182r3))))))
def v182:List Nat × List Nat:=([],[])
def o182:List RS:=[]
def c183r0:List SI:=[aR 2 0,aR 3 1,af 4 0]
def c183r1:List SI:=[ai 5 2,av 6 5,bY 7 204 2 3,az 8 144 6 7,ac 4 8]
def c183:SC:=(.seq (aa c183r0) (.seq (aa c183r1) .ret))
def v183:List Nat × List Nat:=([],[])
def o183:List RS:=[.t 4]
def c184r0:List SI:=[ay 2]
def c184r1:List SI:=[ac 3 0,bd 4 3 0,ac 5 4,aG 5 6 0,bE 5 7 6 1099511627776,aA 8 5 7,ac 2 8]
def c184:SC:=(.seq (aa c184r0) (.seq (aa c184r1) .ret))
def v184:List Nat × List Nat:=([],[])
def o184:List RS:=[.t 2]
theorem s184 : slimC Tryz.prog Tryz.f184.ntmps v184.1 v184.2 ((Tryz.f184.body).getD .skip) = some c184 := by kernel_rfl
theorem q184 : slimR Tryz.prog Tryz.f184.ntmps v184.1 v184.2 Tryz.f184.results.toList = some o184 := by kernel_rfl
def c185r0:List SI:=[aM 4]
def c185r1:List SI:=[ac 5 0,ac 6 1,cA 7 6,az 8 162 5 7,ac 9 1,aQ 10 8 9 5 1 1,ac 4 10]
def c185:SC:=(.seq (aa c185r0) (.seq (aa c185r1) .ret))
def v185:List Nat × List Nat:=([],[])
def o185:List RS:=[.t 4]
theorem s185 : slimC Tryz.prog Tryz.f185.ntmps v185.1 v185.2 ((Tryz.f185.body).getD .skip) = some c185 := by kernel_rfl
theorem q185 : slimR Tryz.prog Tryz.f185.ntmps v185.1 v185.2 Tryz.f185.results.toList = some o185 := by kernel_rfl
def c186r0:List SI:=[aM 2]
def c186r1:List SI:=[ac 3 0,cJ 4 3 16777216,bp 5 4,ac 6 0,cJ 7 6 65536,bp 8 7,ac 9 0,cJ 10 9 256,bp 11 10,ac 12 0,bp 13 12,⟨none,.bls 14 5 4 1 [(.int .u8 0),(.int .u8 0),(.int .u8 0),(.int .u8 0)] [(0,1,(.t 5)),(1,1,(.t 8)),(2,1,(.t 11)),(3,1,(.t 13))],none,0⟩,ac 2 14]
def c186:SC:=(.seq (aa c186r0) (.seq (aa c186r1) .ret))
def v186:List Nat × List Nat:=([],[])
def o186:List RS:=[.t 2]
theorem s186 : slimC Tryz.prog Tryz.f186.ntmps v186.1 v186.2 ((Tryz.f186.body).getD .skip) = some c186 := by kernel_rfl
theorem q186 : slimR Tryz.prog Tryz.f186.ntmps v186.1 v186.2 Tryz.f186.results.toList = some o186 := by kernel_rfl
def c187r0:List SI:=[bS 2 0]
def c187r1:List SI:=[bS 3 4294967295]
def c187r2:List SI:=[af 4 0]
def c187r3:List SI:=[ac 5 4,ac 6 0,av 7 6,aJ 8 5 7]
def c187r4:List SI:=[ac 11 3,ac 12 0,ac 13 4,aF 14 12 13 1,ai 15 14,⟨none,.cvI 16 .u32 (.t 15),none,0⟩,ck 17 11 16,bq 18 205 17 8,ac 3 18]
def c187r5:List SI:=[ac 9 4,aE 10 9 1,ac 4 10]
def c187r6:List SI:=[ac 19 3,⟨none,.bin 20 .xor (.t 19) (.v (.int .u32 4294967295)),none,0⟩,ac 2 20]
def c187:SC:=(.seq (aa c187r0) (.seq (aa c187r1) (.seq (.seq (aa c187r2) (.blk 0 (.loop (.seq (.seq (aa c187r3) (.cond (.t 8) .skip (.exit 0))) (.seq (.blk 1 (aa c187r4)) (aa c187r5)))))) (.seq (aa c187r6) .ret))))
def v187:List Nat × List Nat:=([],[])
def o187:List RS:=[.t 2]
theorem s187 : slimC Tryz.prog Tryz.f187.ntmps v187.1 v187.2 ((Tryz.f187.body).getD .skip) = some c187 := by kernel_rfl
theorem q187 : slimR Tryz.prog Tryz.f187.ntmps v187.1 v187.2 Tryz.f187.results.toList = some o187 := by kernel_rfl
def c188r0:List SI:=[aD 3 0,bg 6,af 7 0]
def c188r1:List SI:=[ar 9 3 0 3,aq 10 62 9,ac 8 10]
def c188r2:List SI:=[ac 11 8,aP 12 11 0]
def c188r3:List SI:=[bt 13,ac 14 8,ao 6 0 3 13,ac 7 14]
def c188r4:List SI:=[ar 15 3 0 3,ac 16 1,az 17 206 15 16,aO 18 17]
def c188r5:List SI:=[bt 19,ao 6 0 3 19,af 7 90]
def c188r6:List SI:=[ac 20 2,cV 21 20,ao 6 0 3 21,af 7 0]
def c188:SC:=(.seq (aa c188r0) (.seq (.seq (aa c188r1) (ab c188r2 12 c188r3)) (.seq (ab c188r4 18 c188r5) (.seq (aa c188r6) .ret))))
def v188:List Nat × List Nat:=([3,6],[3,6])
def o188:List RS:=[.r 6 (some 3),.t 7]
def c189r0:List SI:=[bg 2]
def c189r1:List SI:=[aM 3]
def c189r2:List SI:=[ak 6 0 2,ai 7 6,av 8 7,af 9 0]
def c189r3:List SI:=[aJ 10 9 8]
def c189r4:List SI:=[aF 11 7 9 2,aK 12 11 2,bo 5,ao 5 0 2 12]
def c189r5:List SI:=[ah 5,aj 14 5 0,ai 15 1,aJ 16 14 15]
def c189r6:List SI:=[ac 17 3,ar 18 5 0 2,ai 19 1,az 20 190 18 19,bN 21 120 1 2 0 2 20,aQ 22 17 21 120 2 32,ac 3 22]
def c189r7:List SI:=[aE 23 9 1,ac 9 23]
def c189r8:List SI:=[ac 24 3,av 25 24,aW 26 25 0]
def c189r9:List SI:=[ai 27 1,dh 28 0 1 27,bN 29 120 1 2 0 2 28,ac 3 29]
def c189r10:List SI:=[aK 30 0 3,ac 31 3,az 32 122 30 31,ao 2 0 3 32]
def c189:SC:=(.seq (aa c189r0) (.seq (aa c189r1) (.seq (.seq (aa c189r2) (.blk 0 (.loop (.seq (aa c189r3) (.seq (.cond (.t 10) .skip (.exit 0)) (.seq (.blk 1 (.seq (aa c189r4) (.seq (aa c189r5) (.cond (.t 16) (aa c189r6) .skip)))) (aa c189r7))))))) (.seq (.seq (aa c189r8) (.cond (.t 26) (aa c189r9) .skip)) (.seq (aa c189r10) .ret)))))
def v189:List Nat × List Nat:=([2,5],[2,5,13])
def o189:List RS:=[.r 2 (some 3)]
def c190r0:List SI:=[aR 2 0,aR 3 1,dl 4]
def c190r1:List SI:=[bL 5,cv 5 1 0]
def c190r2:List SI:=[aK 8 2 2,aq 9 151 8]
def c190r3:List SI:=[a8 6,ao 6 0 10 10]
def c190r4:List SI:=[ac 7 11]
def c190r5:List SI:=[ah 6,aj 13 6 1,ai 14 3,cI 15 13 14]
def c190r6:List SI:=[ac 16 7,aC 5 1 16]
def c190r7:List SI:=[aK 17 2 2,ai 18 5,az 19 172 17 18,aC 4 2 19]
def c190:SC:=(.seq (aa c190r0) (.seq (aa c190r1) (.seq (.seq (aa c190r2) (.blk 0 (.rf (.t 9) [10,11] (.seq (aa c190r3) (aa c190r4)) (.blk 1 (.seq (.seq (aa c190r5) (.cond (.t 15) (.exit 0) .skip)) (aa c190r6)))))) (.seq (aa c190r7) .ret))))
def v190:List Nat × List Nat:=([6],[6,12])
def o190:List RS:=[.c 4 (some 2)]
def c191r0:List SI:=[ay 4]
def c191r1:List SI:=[ac 6 0,av 7 6,ac 8 1,av 9 8,bz 10 7 9]
def c191r2:List SI:=[ay 4]
def c191r3:List SI:=[ac 11 0,av 12 11,af 13 0]
def c191r4:List SI:=[aJ 14 13 12]
def c191r5:List SI:=[ac 15 13,ac 5 15]
def c191r6:List SI:=[ac 16 0,ac 17 5,aF 18 16 17 5,aK 19 18 5,ac 20 1,ac 21 5,aF 22 20 21 5,aK 23 22 5,⟨none,.eqf 24 true [0,2,2,1,0] (.t 19) (.t 23),none,0⟩]
def c191r7:List SI:=[ay 4]
def c191r8:List SI:=[aE 25 13 1,ac 13 25]
def c191r9:List SI:=[bA 4]
def c191:SC:=(.seq (aa c191r0) (.seq (ab c191r1 10 c191r2) (.seq (.seq (aa c191r3) (.blk 0 (.loop (.seq (aa c191r4) (.seq (.cond (.t 14) .skip (.exit 0)) (.seq (.blk 1 (.seq (aa c191r5) (.seq (.reg true c191r6) (.cond (.t 24) (.seq (aa c191r7) .ret) .skip)))) (aa c191r8))))))) (.seq (aa c191r9) .ret))))
def v191:List Nat × List Nat:=([],[])
def o191:List RS:=[.t 4]
def c192r0:List SI:=[aD 1 0,⟨none,.alR 2 [(.int .i64 0),(.int .i64 0),(.int .i64 0),(.int .i64 0),(.int .i64 0),(.int .i64 0),(.int .i64 0),(.int .i64 0),(.int .i64 0)],none,0⟩]
def c192r1:List SI:=[ah 1,aj 5 1 8,⟨none,.bin 6 .mul (.t 5) (.i 2),none,0⟩,ac 3 6]
def c192r2:List SI:=[ah 1,aj 8 1 7]
def c192r3:List SI:=[ac 9 3,aE 10 9 1,ac 3 10]
def c192r4:List SI:=[ah 1,aj 12 1 0,ah 1,aj 14 1 1,ah 1,aj 16 1 2,ah 1,aj 18 1 3,ah 1,aj 20 1 4,ah 1,aj 22 1 5,ah 1,aj 24 1 6,ah 1,aj 26 1 8,ac 27 3,ah 1,aj 29 1 8,⟨none,.bin 30 .mul (.t 29) (.i 2),none,0⟩,aY 31 27 30,⟨none,.bld 32 [(.int .i64 0),(.int .i64 0),(.int .i64 0),(.int .i64 0),(.int .i64 0),(.int .i64 0),(.int .i64 0),(.int .i64 0),(.int .i64 0)] [(0,1,(.t 12)),(1,1,(.t 14)),(2,1,(.t 16)),(3,1,(.t 18)),(4,1,(.t 20)),(5,1,(.t 22)),(6,1,(.t 24)),(7,1,(.t 26)),(8,1,(.t 31))],none,0⟩,ao 2 0 9 32]
def c192:SC:=(.seq (aa c192r0) (.seq (aa c192r1) (.seq (.seq (aa c192r2) (.cond (.t 8) (aa c192r3) .skip)) (.seq (aa c192r4) .ret))))
def v192:List Nat × List Nat:=([1,2],[1,2,4,7,11,13,15,17,19,21,23,25,28])
def o192:List RS:=[.r 2 (some 9)]
def c194r0:List SI:=[aM 2]
def c194r1:List SI:=[ac 3 0,cz 4 3]
def c194r2:List SI:=[aM 2]
def c194r3:List SI:=[bZ 5,ac 6 0,aQ 7 5 6 5 1 1,ac 2 7]
def c194:SC:=(.seq (aa c194r0) (.seq (ab c194r1 4 c194r2) (.seq (aa c194r3) .ret)))
def v194:List Nat × List Nat:=([],[])
def o194:List RS:=[.t 2]
theorem s194 : slimC Tryz.prog Tryz.f194.ntmps v194.1 v194.2 ((Tryz.f194.body).getD .skip) = some c194 := by kernel_rfl
theorem q194 : slimR Tryz.prog Tryz.f194.ntmps v194.1 v194.2 Tryz.f194.results.toList = some o194 := by kernel_rfl
def c196r0:List SI:=[cK 6 0,af 7 0]
def c196r1:List SI:=[ac 12 2,aT 13 12 1,ac 14 13,aB 14 15 2,aX 14 16 15 8,aw 17 14 16,ac 18 17,aB 18 19 1,bK 18 20 19 0,aw 21 18 20]
def c196r2:List SI:=[cK 6 0,af 7 1]
def c196r3:List SI:=[ac 22 0,ac 23 1,az 24 210 22 23,ac 8 24]
def c196r4:List SI:=[ac 25 8,av 26 25,ac 27 2,aJ 28 26 27]
def c196r5:List SI:=[cK 6 0,af 7 10]
def c196r6:List SI:=[cK 9 0]
def c196r7:List SI:=[ac 29 8,ac 30 2,bB 31 29 30 1,av 32 31,af 33 0]
def c196r8:List SI:=[aJ 34 33 32]
def c196r9:List SI:=[aF 35 31 33 1,ai 36 35,ac 11 36]
def c196r10:List SI:=[ac 37 9,⟨none,.bin 38 .shl (.t 37) (.v (.int .u64 8)),none,0⟩,ac 39 11,bn 40 39,⟨none,.bin 41 .or (.t 38) (.t 40),none,0⟩,ac 9 41]
def c196r11:List SI:=[aE 42 33 1,ac 33 42]
def c196r12:List SI:=[ac 43 9,ac 6 43,af 7 0]
def c196:SC:=(.seq (aa c196r0) (.seq (ab c196r1 21 c196r2) (.seq (aa c196r3) (.seq (ab c196r4 28 c196r5) (.seq (aa c196r6) (.seq (.seq (aa c196r7) (.blk 0 (.loop (.seq (aa c196r8) (.seq (.cond (.t 34) .skip (.exit 0)) (.seq (.blk 1 (.seq (aa c196r9) (aa c196r10))) (aa c196r11))))))) (.seq (aa c196r12) .ret)))))))
def v196:List Nat × List Nat:=([],[])
def o196:List RS:=[.t 6,.t 7]
def c197r0:List SI:=[aM 2,af 3 0]
def c197r1:List SI:=[ac 7 0,av 8 7,bw 9 8 4,ac 4 9]
def c197r2:List SI:=[ac 10 4,aT 11 10 0]
def c197r3:List SI:=[aM 2,af 3 10]
def c197r4:List SI:=[ac 13 0,ac 14 4,cU 15 196 13 14 4,ac 12 15,am 16 12 0,am 17 12 1,ac 5 16,ac 6 17]
def c197r5:List SI:=[ac 18 6,aP 19 18 0,ac 20 19,aB 20 21 5,aB 20 22 0,aB 20 23 4,⟨some (20,false),.sl 24 (.t 22) none (some (.t 23)) none 1,none,24⟩,ba 20 25 211 24,⟨some (20,false),.cvI 26 .u64 (.t 25),none,26⟩,cB 20 27 21 26,aw 28 20 27]
def c197r6:List SI:=[aM 2,af 3 20]
def c197r7:List SI:=[ac 29 0,ac 30 4,bB 31 29 30 1,cQ 32 31 5 1 1,ac 2 32,af 3 0]
def c197:SC:=(.seq (aa c197r0) (.seq (aa c197r1) (.seq (ab c197r2 11 c197r3) (.seq (.seq (aa c197r4) (ab c197r5 28 c197r6)) (.seq (aa c197r7) .ret)))))
def v197:List Nat × List Nat:=([],[])
def o197:List RS:=[.t 2,.t 3]
def c198r0:List SI:=[aR 1 0,a8 2,⟨none,.al 3 [(.bool false)],none,0⟩]
def c198r1:List SI:=[bL 4,cv 4 1 0]
def c198r2:List SI:=[⟨none,.st (.t 3) 1 (.b true),none,0⟩]
def c198r3:List SI:=[⟨none,.mkf 15 (.func 212) [(.t 1),(.t 4),(.t 3)],none,0⟩,ac 5 15]
def c198r4:List SI:=[⟨none,.al 6 [(.int .i64 0),(.int .i64 0),(.int .i64 0),(.int .i64 0),(.int .i64 0),(.int .i64 0),(.int .i64 0)],none,0⟩]
def c198r5:List SI:=[af 16 0]
def c198r6:List SI:=[aT 17 16 7]
def c198r7:List SI:=[ac 18 16,ac 7 18]
def c198r8:List SI:=[ac 19 7,ac 20 5,cV 21 20,cW 22 6 19 7 1,aC 22 1 21]
def c198r9:List SI:=[aE 23 16 1,ac 16 23]
def c198r10:List SI:=[ai 24 3,aO 25 24,ac 26 25,aV 26 27 4,aV 26 28 1,a9 26 29 28,⟨some (26,false),.bin 30 .geq (.t 27) (.t 29),none,30⟩,aw 31 26 30,ac 32 31,aV 32 33 1,aV 32 34 4,cD 32 35 33 34 1,aV 32 36 35,⟨some (32,false),.bin 37 .geq (.t 36) (.v (.int .u8 8)),none,37⟩,aw 38 32 37,ac 39 38,cX 39 40 6 0 7 1,aV 39 41 40,bK 39 42 41 0,aw 43 39 42,ac 44 43,cX 44 45 6 0 7 1,aV 44 46 45,aX 44 47 46 1099511627776,aw 48 44 47,ac 49 48,cX 49 50 6 1 7 1,aV 49 51 50,bK 49 52 51 0,aw 53 49 52,ac 54 53,cX 54 55 6 1 7 1,aV 54 56 55,dq 54 57 56 16,aw 58 54 57]
def c198r11:List SI:=[bj 59,ao 2 0 10 59,cS 3 1]
def c198r12:List SI:=[ai 60 1,ai 61 4,aF 62 60 61 1,ai 63 62,ac 8 63]
def c198r13:List SI:=[ai 64 4,aE 65 64 1,aC 4 1 65]
def c198r14:List SI:=[bT 66 6 0 7 1,ai 67 66,bT 68 6 0 7 1,ai 69 68,bT 70 6 1 7 1,ai 71 70,aZ 72 69 71,bT 73 6 2 7 1,ai 74 73,bT 75 6 3 7 1,ai 76 75,bT 77 6 4 7 1,ai 78 77,bT 79 6 5 7 1,ai 80 79,bT 81 6 6 7 1,ai 82 81,ac 83 8,⟨none,.bin 84 .and (.t 83) (.v (.int .u8 4)),none,0⟩,⟨none,.bin 85 .neq (.t 84) (.v (.int .u8 0)),none,0⟩,ac 86 8,⟨none,.bin 87 .andNot (.t 86) (.v (.int .u8 4)),none,0⟩,ci 88 87,⟨none,.bld 89 [(.int .i64 0),(.int .i64 0),(.int .i64 0),(.int .i64 0),(.int .i64 0),(.int .i64 0),(.int .i64 0),(.bool false),(.int .i64 0),(.slice none 0 0)] [(0,1,(.t 67)),(1,1,(.t 72)),(2,1,(.t 74)),(3,1,(.t 76)),(4,1,(.t 78)),(5,1,(.t 80)),(6,1,(.t 82)),(7,1,(.t 85)),(8,1,(.t 88))],none,0⟩,ao 2 0 10 89]
def c198r15:List SI:=[ac 90 5,cV 91 90,ac 9 91]
def c198r16:List SI:=[ai 92 3,aO 93 92,ac 94 93,aB 94 95 9,bK 94 96 95 0,aw 97 94 96,ac 98 97,aB 98 99 9,aX 98 100 99 16,aw 101 98 100]
def c198r17:List SI:=[bj 102,ao 2 0 10 102,cS 3 1]
def c198r18:List SI:=[af 10 0]
def c198r19:List SI:=[ac 103 9,bm 104 103 0]
def c198r20:List SI:=[ac 105 5,cV 106 105,ac 10 106]
def c198r21:List SI:=[af 11 0]
def c198r22:List SI:=[ac 107 11,ac 108 9,aJ 109 107 108,ac 110 109,bJ 110 111 3,aA 112 110 111]
def c198r23:List SI:=[ai 116 1,ai 117 4,ah 2,aj 119 2 0,ac 120 10,dp 121 214 116 117 119 120,ac 115 121,am 122 115 0,am 123 115 1,am 124 115 2,cf 12,ao 12 0 5 122,ac 13 123,ac 14 124]
def c198r24:List SI:=[ai 125 3,ac 126 125,aG 126 127 14,aU 126 128 127 0,aA 129 126 128,ac 130 129,aG 130 131 11,⟨some (130,true),.bin 132 .gtr (.t 131) (.i 0),none,132⟩,aG 130 133 132,aH 133 12,aI 133 135 12 4,aB 133 136 10,⟨some (133,false),.bin 137 .eql (.t 135) (.t 136),none,137⟩,bC 130 138 133 137,aA 139 130 138,aC 3 1 139]
def c198r25:List SI:=[ac 140 13,aC 4 1 140]
def c198r26:List SI:=[ah 2,aj 142 2 9,ar 143 12 0 5,⟨none,.bls 144 103 1 5 [(.int .i64 0),(.string ⟨#[]⟩),(.string ⟨#[]⟩),(.bool false),(.int .i64 0)] [(0,5,(.t 143))],none,0⟩,aQ 145 142 144 103 5 56,ah 2,ao 2 9 1 145]
def c198r27:List SI:=[ac 113 11,aE 114 113 1,ac 11 114]
def c198r28:List WI:=[(true,false,ar 147 2 0 10),(true,false,ai 148 3),(true,false,ac 149 148),(true,false,bJ 149 150 4),(true,false,bJ 149 151 1),(true,false,cn 149 152 151),(true,false,bu 149 153 150 152),(true,false,aA 154 149 153),(false,false,ao 2 0 10 147),(false,true,aC 3 1 154)]
def c198:SC:=(.seq (aa c198r0) (.seq (aa c198r1) (.seq (aa c198r2) (.seq (aa c198r3) (.seq (aa c198r4) (.seq (.seq (aa c198r5) (.blk 0 (.loop (.seq (aa c198r6) (.seq (.cond (.t 17) .skip (.exit 0)) (.seq (.blk 1 (.seq (aa c198r7) (aa c198r8))) (aa c198r9))))))) (.seq (ab c198r10 58 c198r11) (.seq (aa c198r12) (.seq (aa c198r13) (.seq (aa c198r14) (.seq (aa c198r15) (.seq (ab c198r16 101 c198r17) (.seq (aa c198r18) (.seq (.seq (aa c198r19) (.cond (.t 104) (aa c198r20) .skip)) (.seq (.seq (aa c198r21) (.blk 2 (.loop (.seq (.seq (aa c198r22) (.cond (.t 112) .skip (.exit 2))) (.seq (.blk 3 (.seq (aa c198r23) (.seq (aa c198r24) (.seq (aa c198r25) (aa c198r26))))) (aa c198r27)))))) (.seq (.rgW c198r28) .ret))))))))))))))))
def v198:List Nat × List Nat:=([2,12],[2,12,118,134,141,146])
def o198:List RS:=[.r 2 (some 10),.c 3 none]
def c199r0:List SI:=[aD 1 0,af 2 0]
def c199r1:List SI:=[ah 1,aj 5 1 0,aq 6 215 5,aO 7 6,ac 3 7]
def c199r2:List SI:=[ah 1,aj 9 1 4,aq 10 215 9,aO 11 10,ac 3 11]
def c199r3:List SI:=[ah 1,aj 13 1 1,cA 14 13,ah 1,aj 16 1 2,cA 17 16,cw 18 14 17,bm 19 18 64,ac 3 19]
def c199r4:List SI:=[af 2 1]
def c199r5:List SI:=[ah 1,aj 22 1 3,ac 23 22,aL 23 1,aN 23 25 1 1,⟨some (23,true),.bin 26 .eql (.t 25) (.v (.string ⟨#[]⟩)),none,26⟩,aG 23 27 26,aH 27 1,aI 27 29 1 2,⟨some (27,false),.bin 30 .neq (.t 29) (.v (.string ⟨#[]⟩)),none,30⟩,bC 23 31 27 30,aA 32 23 31,ac 20 32]
def c199r6:List SI:=[af 2 1]
def c199r7:List SI:=[af 2 0]
def c199:SC:=(.seq (aa c199r0) (.seq (.blk 0 (.seq (.seq (aa c199r1) (.cond (.t 3) .skip (.seq (aa c199r2) (.cond (.t 3) .skip (aa c199r3))))) (.cond (.t 3) (.seq (aa c199r4) .ret) (ab c199r5 20 c199r6)))) (.seq (aa c199r7) .ret)))
def v199:List Nat × List Nat:=([1],[1,4,8,12,15,21,24,28])
def o199:List RS:=[.t 2]
theorem s199 : slimC Tryz.prog Tryz.f199.ntmps v199.1 v199.2 ((Tryz.f199.body).getD .skip) = some c199 := by kernel_rfl
theorem q199 : slimR Tryz.prog Tryz.f199.ntmps v199.1 v199.2 Tryz.f199.results.toList = some o199 := by kernel_rfl
def c200r0:List SI:=[aM 4]
def c200r1:List SI:=[ac 7 1,bn 8 7,⟨none,.bin 9 .shl (.t 8) (.v (.int .u64 1)),none,0⟩,ac 10 1,bG 11 10 63,bn 12 11,ck 13 9 12,ac 5 13]
def c200r2:List SI:=[ac 14 0,aq 15 194 14,ac 6 15]
def c200r3:List SI:=[ac 16 5,⟨none,.bin 17 .geq (.t 16) (.v (.int .u64 128)),none,0⟩]
def c200r4:List SI:=[ac 20 6,ac 21 5,bp 22 21,⟨none,.bin 23 .or (.t 22) (.v (.int .u8 128)),none,0⟩,bH 24 5 1 1 0 1 23,aQ 25 20 24 5 1 1,ac 6 25]
def c200r5:List SI:=[ac 18 5,bG 19 18 7,ac 5 19]
def c200r6:List SI:=[ac 26 6,ac 27 5,bp 28 27,bH 29 5 1 1 0 1 28,aQ 30 26 29 5 1 1,ac 4 30]
def c200:SC:=(.seq (aa c200r0) (.seq (aa c200r1) (.seq (aa c200r2) (.seq (.blk 0 (.loop (.seq (.seq (aa c200r3) (.cond (.t 17) .skip (.exit 0))) (.seq (.blk 1 (aa c200r4)) (aa c200r5))))) (.seq (aa c200r6) .ret)))))
def v200:List Nat × List Nat:=([],[])
def o200:List RS:=[.t 4]
theorem s200 : slimC Tryz.prog Tryz.f200.ntmps v200.1 v200.2 ((Tryz.f200.body).getD .skip) = some c200 := by kernel_rfl
theorem q200 : slimR Tryz.prog Tryz.f200.ntmps v200.1 v200.2 Tryz.f200.results.toList = some o200 := by kernel_rfl
def c201r0:List SI:=[aD 3 0,aM 6,af 7 0]
def c201r1:List SI:=[ar 11 3 0 5,aq 12 199 11,ac 8 12]
def c201r2:List SI:=[ac 13 8,aP 14 13 0]
def c201r3:List SI:=[ac 15 8,aM 6,ac 7 15]
def c201r4:List SI:=[ac 16 1,aq 17 215 16,aO 18 17,ac 19 18,aB 19 20 2,ba 19 21 215 20,aS 19 22 21,aw 23 19 22]
def c201r5:List SI:=[aM 6,af 7 1]
def c201r6:List SI:=[⟨none,.mv 9 (.v (.int .u8 0)),none,0⟩]
def c201r7:List SI:=[ah 3,aj 25 3 3]
def c201r8:List SI:=[⟨none,.mv 9 (.v (.int .u8 1)),none,0⟩]
def c201r9:List (Bool × SI):=[(true,ah 3),(true,aj 27 3 0),(true,ac 28 1),(true,aY 29 27 28),(true,ah 3),(true,aj 32 3 4),(true,ac 33 2),(true,aY 34 32 33),(false,cR 30 200 29),(false,az 35 200 30 34),(true,ac 10 35)]
def c201r10:List (Bool × SI):=[(true,ac 36 10),(true,ac 37 9),(true,ah 3),(true,aj 41 3 1),(true,ah 3),(true,aj 44 3 2),(false,bH 38 5 1 1 0 1 37),(false,aQ 39 36 38 5 1 1),(false,az 42 216 39 41),(false,az 45 216 42 44),(true,ac 6 45),(true,af 7 0)]
def c201:SC:=(.seq (aa c201r0) (.seq (.seq (aa c201r1) (ab c201r2 14 c201r3)) (.seq (ab c201r4 23 c201r5) (.seq (aa c201r6) (.seq (.seq (aa c201r7) (.cond (.t 25) (aa c201r8) .skip)) (.seq (.rgX c201r9) (.seq (.rgX c201r10) .ret)))))))
def v201:List Nat × List Nat:=([3],[3,24,26,31,40,43])
def o201:List RS:=[.t 6,.t 7]
theorem s201 : slimC Tryz.prog Tryz.f201.ntmps v201.1 v201.2 ((Tryz.f201.body).getD .skip) = some c201 := by kernel_rfl
theorem q201 : slimR Tryz.prog Tryz.f201.ntmps v201.1 v201.2 Tryz.f201.results.toList = some o201 := by kernel_rfl
def c202r0:List SI:=[aM 2]
def c202r1:List SI:=[ac 3 0,cQ 4 3 5 1 1,ac 5 0,aq 6 211 5,bn 7 6,cU 8 203 4 7 4,ac 2 8]
def c202:SC:=(.seq (aa c202r0) (.seq (aa c202r1) .ret))
def v202:List Nat × List Nat:=([],[])
def o202:List RS:=[.t 2]
theorem s202 : slimC Tryz.prog Tryz.f202.ntmps v202.1 v202.2 ((Tryz.f202.body).getD .skip) = some c202 := by kernel_rfl
theorem q202 : slimR Tryz.prog Tryz.f202.ntmps v202.1 v202.2 Tryz.f202.results.toList = some o202 := by kernel_rfl
def c203r0:List SI:=[aM 6]
def c203r1:List SI:=[ac 9 0,aq 10 194 9,ac 7 10]
def c203r2:List SI:=[ac 11 2,aT 12 11 1,ac 13 12,aB 13 14 2,aX 13 15 14 8,aw 16 13 15]
def c203r3:List SI:=[ac 17 7,ac 6 17]
def c203r4:List SI:=[ac 18 2,bw 19 18 1,⟨none,.bin 20 .mul (.i 8) (.t 19),none,0⟩,ac 8 20]
def c203r5:List SI:=[ac 21 8,bd 22 21 0]
def c203r6:List SI:=[ac 25 7,ac 26 1,ac 27 8,⟨none,.bin 28 .shr (.t 26) (.t 27),none,0⟩,bp 29 28,bH 30 5 1 1 0 1 29,aQ 31 25 30 5 1 1,ac 7 31]
def c203r7:List SI:=[ac 23 8,bw 24 23 8,ac 8 24]
def c203r8:List SI:=[ac 32 7,ac 6 32]
def c203:SC:=(.seq (aa c203r0) (.seq (aa c203r1) (.seq (ab c203r2 16 c203r3) (.seq (.seq (aa c203r4) (.blk 0 (.loop (.seq (.seq (aa c203r5) (.cond (.t 22) .skip (.exit 0))) (.seq (.blk 1 (aa c203r6)) (aa c203r7)))))) (.seq (aa c203r8) .ret)))))
def v203:List Nat × List Nat:=([],[])
def o203:List RS:=[.t 6]
theorem s203 : slimC Tryz.prog Tryz.f203.ntmps v203.1 v203.2 ((Tryz.f203.body).getD .skip) = some c203 := by kernel_rfl
theorem q203 : slimR Tryz.prog Tryz.f203.ntmps v203.1 v203.2 Tryz.f203.results.toList = some o203 := by kernel_rfl
def c204r0:List SI:=[ay 4]
def c204r1:List SI:=[ai 5 1,ac 6 0,aF 7 5 6 2,ak 8 7 0,ai 9 8,ai 10 2,cd 11 9 10,ac 4 11]
def c204:SC:=(.seq (aa c204r0) (.seq (.reg true c204r1) .ret))
def v204:List Nat × List Nat:=([],[])
def o204:List RS:=[.t 4]
def c205r0:List SI:=[bS 4 0]
def c205r1:List SI:=[af 5 0]
def c205r2:List SI:=[ac 6 5,ac 7 1,aJ 8 6 7]
def c205r3:List SI:=[ac 11 0,aq 12 217 11,ac 0 12]
def c205r4:List SI:=[ac 9 5,aE 10 9 1,ac 5 10]
def c205r5:List SI:=[ac 13 0,ac 4 13]
def c205:SC:=(.seq (aa c205r0) (.seq (.seq (aa c205r1) (.blk 0 (.loop (.seq (.seq (aa c205r2) (.cond (.t 8) .skip (.exit 0))) (.seq (.blk 1 (aa c205r3)) (aa c205r4)))))) (.seq (aa c205r5) .ret)))
def v205:List Nat × List Nat:=([],[])
def o205:List RS:=[.t 4]
theorem s205 : slimC Tryz.prog Tryz.f205.ntmps v205.1 v205.2 ((Tryz.f205.body).getD .skip) = some c205 := by kernel_rfl
theorem q205 : slimR Tryz.prog Tryz.f205.ntmps v205.1 v205.2 Tryz.f205.results.toList = some o205 := by kernel_rfl
def c206r0:List SI:=[aD 2 0,ay 4]
def c206r1:List SI:=[ah 2,aj 6 2 1,ac 7 1,⟨none,.bin 8 .leq (.t 6) (.t 7),none,0⟩,ac 9 8,aG 9 10 1,bi 9 11 2 0 3,bc 9 12 63 11,cP 9 13 10 12,aA 14 9 13,ac 4 14]
def c206:SC:=(.seq (aa c206r0) (.seq (aa c206r1) .ret))
def v206:List Nat × List Nat:=([2],[2,5])
def o206:List RS:=[.t 4]
def c210r0:List SI:=[aM 4]
def c210r1:List SI:=[ac 5 0,ac 6 1,ac 7 0,av 8 7,bF 9 6 8,cT 10 5 9 1,ac 4 10]
def c210:SC:=(.seq (aa c210r0) (.seq (aa c210r1) .ret))
def v210:List Nat × List Nat:=([],[])
def o210:List RS:=[.t 4]
def c211r0:List SI:=[bS 2 0]
def c211r1:List SI:=[cm 7 220,ac 3 7]
def c211r2:List SI:=[bS 4 4294967295]
def c211r3:List SI:=[ac 8 0,av 9 8,af 10 0]
def c211r4:List SI:=[aJ 11 10 9]
def c211r5:List SI:=[aF 12 8 10 1,ai 13 12,ac 6 13]
def c211r6:List SI:=[ac 14 3,ac 15 4,ac 16 6,bR 17 14 15 16,ac 4 17]
def c211r7:List SI:=[aE 18 10 1,ac 10 18]
def c211r8:List SI:=[ac 19 4,⟨none,.un 20 .xor (.t 19),none,0⟩,ac 2 20]
def c211:SC:=(.seq (aa c211r0) (.seq (aa c211r1) (.seq (aa c211r2) (.seq (.seq (aa c211r3) (.blk 0 (.loop (.seq (aa c211r4) (.seq (.cond (.t 11) .skip (.exit 0)) (.seq (.blk 1 (.seq (aa c211r5) (aa c211r6))) (aa c211r7))))))) (.seq (aa c211r8) .ret)))))
def v211:List Nat × List Nat:=([],[])
def o211:List RS:=[.t 2]
theorem s211 : slimC Tryz.prog Tryz.f211.ntmps v211.1 v211.2 ((Tryz.f211.body).getD .skip) = some c211 := by kernel_rfl
theorem q211 : slimR Tryz.prog Tryz.f211.ntmps v211.1 v211.2 Tryz.f211.results.toList = some o211 := by kernel_rfl
def c212r0:List SI:=[af 3 0]
def c212r1:List SI:=[ai 8 0,ai 9 1,az 10 213 8 9,ac 7 10,am 11 7 0,am 12 7 1,am 13 7 2,ac 4 11,ac 5 12,ac 6 13]
def c212r2:List SI:=[ac 14 6,aP 15 14 0]
def c212r3:List SI:=[cS 2 1]
def c212r4:List SI:=[af 3 0]
def c212r5:List SI:=[ac 16 5,aC 1 1 16]
def c212r6:List SI:=[ac 17 4,ac 3 17]
def c212:SC:=(.seq (aa c212r0) (.seq (aa c212r1) (.seq (.seq (aa c212r2) (.cond (.t 15) (.seq (aa c212r3) (.seq (aa c212r4) .ret)) .skip)) (.seq (aa c212r5) (.seq (aa c212r6) .ret)))))
def v212:List Nat × List Nat:=([],[])
def o212:List RS:=[.t 3]
def c213r0:List SI:=[af 4 0,af 5 0,af 6 0]
def c213r1:List SI:=[ac 10 1,aT 11 10 0]
def c213r2:List SI:=[af 4 0,af 5 0,af 6 1]
def c213r3:List SI:=[cK 7 0]
def c213r4:List SI:=[ac 12 0,ac 13 1,az 14 210 12 13,av 15 14,af 16 0]
def c213r5:List SI:=[aJ 17 16 15]
def c213r6:List SI:=[ac 18 16,aF 19 14 16 1,ai 20 19,ac 8 18,ac 9 20]
def c213r7:List SI:=[ac 21 8,aW 22 21 9,ac 23 22,aG 23 24 9,⟨some (23,true),.bin 25 .gtr (.t 24) (.v (.int .u8 1)),none,25⟩,aA 26 23 25,ac 27 26,aB 27 28 8,aX 27 29 28 0,aB 27 30 29,aG 30 31 9,⟨some (30,true),.bin 32 .eql (.t 31) (.v (.int .u8 0)),none,32⟩,bO 27 33 30 32,aw 34 27 33]
def c213r8:List SI:=[af 4 0,af 5 0,af 6 11]
def c213r9:List SI:=[ac 35 7,ac 36 9,⟨none,.bin 37 .and (.t 36) (.v (.int .u8 127)),none,0⟩,bn 38 37,ac 39 8,⟨none,.bin 40 .mul (.i 7) (.t 39),none,0⟩,⟨none,.bin 41 .shl (.t 38) (.t 40),none,0⟩,⟨none,.bin 42 .or (.t 35) (.t 41),none,0⟩,ac 7 42]
def c213r10:List SI:=[ac 43 9,⟨none,.bin 44 .lss (.t 43) (.v (.int .u8 128)),none,0⟩]
def c213r11:List SI:=[ac 45 7,bG 46 45 1,ci 47 46,ac 48 7,⟨none,.bin 49 .and (.t 48) (.v (.int .u64 1)),none,0⟩,ci 50 49,⟨none,.un 51 .neg (.t 50),none,0⟩,ck 52 47 51,ac 53 1,ac 54 8,aZ 55 53 54,aE 56 55 1,ac 4 52,ac 5 56,af 6 0]
def c213r12:List SI:=[aE 57 16 1,ac 16 57]
def c213r13:List SI:=[af 4 0,af 5 0,af 6 10]
def c213:SC:=(.seq (aa c213r0) (.seq (ab c213r1 11 c213r2) (.seq (aa c213r3) (.seq (.seq (aa c213r4) (.blk 0 (.loop (.seq (aa c213r5) (.seq (.cond (.t 17) .skip (.exit 0)) (.seq (.blk 1 (.seq (aa c213r6) (.seq (ab c213r7 34 c213r8) (.seq (aa c213r9) (ab c213r10 44 c213r11))))) (aa c213r12))))))) (.seq (aa c213r13) .ret)))))
def v213:List Nat × List Nat:=([],[])
def o213:List RS:=[.t 4,.t 5,.t 6]
def c214r0:List SI:=[cf 8,af 9 0,af 10 0]
def c214r1:List SI:=[ac 13 2,aq 14 215 13,aO 15 14,ac 16 15,aB 16 17 3,ba 16 18 215 17,aS 16 19 18,aw 20 16 19,ac 21 20,aB 21 22 1,bK 21 23 22 0,aw 24 21 23,ac 25 24,aB 25 26 1,aB 25 27 0,a9 25 28 27,bX 25 29 26 28,aw 30 25 29]
def c214r2:List SI:=[dx 31,ao 8 0 5 31,af 9 0,af 10 1]
def c214r3:List SI:=[ac 32 0,ac 33 1,⟨none,.bld 34 [(.slice none 0 0),(.int .i64 0),(.int .i64 0)] [(0,1,(.t 32)),(1,1,(.t 33))],none,0⟩,aR 35 34,ac 11 35]
def c214r4:List SI:=[⟨none,.mv 12 (.v (.func (.func 221) #[] #[])),none,0⟩]
def c214r5:List SI:=[ac 36 2,ac 37 11,du 38 224 37 213,az 39 223 36 38,ah 8,ao 8 0 1 39]
def c214r6:List SI:=[ac 41 3,ac 42 11,du 43 224 42 213,az 44 223 41 43,ah 8,ao 8 4 1 44]
def c214r7:List SI:=[ac 46 11,du 47 225 46 226,ah 8,ao 8 3 1 47]
def c214r8:List SI:=[ac 49 11,ac 50 12,az 51 227 49 50,ac 52 11,ac 53 12,az 54 227 52 53,ah 8,ao 8 1 1 51,ah 8,ao 8 2 1 54]
def c214r9:List SI:=[ac 57 11,au 58 57,ak 59 58 2,ai 60 59,aW 61 60 0]
def c214r10:List SI:=[ac 62 11,ar 63 8 0 5,aq 64 199 63,au 65 62,ak 66 65 2,aC 66 1 64]
def c214r11:List SI:=[ac 67 11,au 68 67,ak 69 68 2,ai 70 69,aP 71 70 0]
def c214r12:List WI:=[(true,false,dx 72),(true,false,ac 73 11),(true,false,au 74 73),(true,false,ak 75 74 2),(true,false,ai 76 75),(false,false,ao 8 0 5 72),(true,false,af 9 0),(true,false,ac 10 76)]
def c214r13:List WI:=[(true,false,ar 77 8 0 5),(true,false,ac 78 11),(true,false,au 79 78),(true,false,ak 80 79 1),(true,false,ai 81 80),(false,false,ao 8 0 5 77),(true,false,ac 9 81),(true,false,af 10 0)]
def c214:SC:=(.seq (aa c214r0) (.seq (ab c214r1 30 c214r2) (.seq (aa c214r3) (.seq (aa c214r4) (.seq (aa c214r5) (.seq (aa c214r6) (.seq (aa c214r7) (.seq (aa c214r8) (.seq (.seq (aa c214r9) (.cond (.t 61) (aa c214r10) .skip)) (.seq (.seq (aa c214r11) (.cond (.t 71) (.seq (.rgW c214r12) .ret) .skip)) (.seq (.rgW c214r13) .ret)))))))))))
def v214:List Nat × List Nat:=([8],[8,40,45,48,55,56])
def o214:List RS:=[.r 8 (some 5),.t 9,.t 10]
def c215r0:List SI:=[ay 2]
def c215r1:List SI:=[ac 3 0,bd 4 3 0,ac 5 4,aG 5 6 0,bE 5 7 6 1099511627776,aA 8 5 7,ac 2 8]
def c215:SC:=(.seq (aa c215r0) (.seq (aa c215r1) .ret))
def v215:List Nat × List Nat:=([],[])
def o215:List RS:=[.t 2]
theorem s215 : slimC Tryz.prog Tryz.f215.ntmps v215.1 v215.2 ((Tryz.f215.body).getD .skip) = some c215 := by kernel_rfl
theorem q215 : slimR Tryz.prog Tryz.f215.ntmps v215.1 v215.2 Tryz.f215.results.toList = some o215 := by kernel_rfl
def c216r0:List SI:=[aM 4]
def c216r1:List SI:=[ac 5 0,ac 6 1,cA 7 6,az 8 200 5 7,ac 9 1,aQ 10 8 9 5 1 1,ac 4 10]
def c216:SC:=(.seq (aa c216r0) (.seq (aa c216r1) .ret))
def v216:List Nat × List Nat:=([],[])
def o216:List RS:=[.t 4]
theorem s216 : slimC Tryz.prog Tryz.f216.ntmps v216.1 v216.2 ((Tryz.f216.body).getD .skip) = some c216 := by kernel_rfl
theorem q216 : slimR Tryz.prog Tryz.f216.ntmps v216.1 v216.2 Tryz.f216.results.toList = some o216 := by kernel_rfl
def c217r0:List SI:=[bS 2 0]
def c217r1:List SI:=[ac 3 0,⟨none,.bin 4 .rem (.t 3) (.v (.int .u32 2)),none,0⟩,⟨none,.bin 5 .eql (.t 4) (.v (.int .u32 1)),none,0⟩]
def c217r2:List SI:=[ac 6 0,cJ 7 6 2,⟨none,.bin 8 .xor (.t 7) (.v (.int .u32 3988292384)),none,0⟩,ac 2 8]
def c217r3:List SI:=[ac 9 0,cJ 10 9 2,ac 2 10]
def c217:SC:=(.seq (aa c217r0) (.seq (ab c217r1 5 c217r2) (.seq (aa c217r3) .ret)))
def v217:List Nat × List Nat:=([],[])
def o217:List RS:=[.t 2]
theorem s217 : slimC Tryz.prog Tryz.f217.ntmps v217.1 v217.2 ((Tryz.f217.body).getD .skip) = some c217 := by kernel_rfl
theorem q217 : slimR Tryz.prog Tryz.f217.ntmps v217.1 v217.2 Tryz.f217.results.toList = some o217 := by kernel_rfl
def c220r0:List SI:=[cH 0]
def c220r1:List SI:=[⟨none,.al 1 [(.int .u32 0),(.int .u32 0),(.int .u32 0),(.int .u32 0),(.int .u32 0),(.int .u32 0),(.int .u32 0),(.int .u32 0),(.int .u32 0),(.int .u32 0),(.int .u32 0),(.int .u32 0),(.int .u32 0),(.int .u32 0),(.int .u32 0),(.int .u32 0)],none,0⟩]
def c220r2:List SI:=[af 3 0]
def c220r3:List SI:=[aT 4 3 16]
def c220r4:List SI:=[ac 5 3,ac 2 5]
def c220r5:List SI:=[ac 6 2,ac 7 2,⟨none,.cvI 8 .u32 (.t 7),none,0⟩,aq 9 230 8,cW 10 1 6 16 1,aC 10 1 9]
def c220r6:List SI:=[aE 11 3 1,ac 3 11]
def c220r7:List SI:=[bM 12 231 1,ac 0 12]
def c220:SC:=(.seq (aa c220r0) (.seq (aa c220r1) (.seq (.seq (aa c220r2) (.blk 0 (.loop (.seq (aa c220r3) (.seq (.cond (.t 4) .skip (.exit 0)) (.seq (.blk 1 (.seq (aa c220r4) (aa c220r5))) (aa c220r6))))))) (.seq (aa c220r7) .ret))))
def v220:List Nat × List Nat:=([],[])
def o220:List RS:=[.t 0]
theorem s220 : slimC Tryz.prog Tryz.f220.ntmps v220.1 v220.2 ((Tryz.f220.body).getD .skip) = some c220 := by kernel_rfl
theorem q220 : slimR Tryz.prog Tryz.f220.ntmps v220.1 v220.2 Tryz.f220.results.toList = some o220 := by kernel_rfl
def c221r0:List SI:=[bU 4,af 5 0,af 6 0]
def c221r1:List SI:=[ac 7 0,ac 8 1,cU 9 222 7 8 64,am 10 9 0,am 11 9 1,am 12 9 2,ac 4 10,ac 5 11,ac 6 12]
def c221:SC:=(.seq (aa c221r0) (.seq (aa c221r1) .ret))
def v221:List Nat × List Nat:=([],[])
def o221:List RS:=[.t 4,.t 5,.t 6]
def c222r0:List SI:=[bU 6,af 7 0,af 8 0]
def c222r1:List SI:=[ac 11 0,ac 12 1,az 13 213 11 12,ac 10 13,am 14 10 0,am 15 10 1,am 16 10 2,ac 9 14,ac 7 15,ac 8 16]
def c222r2:List SI:=[ac 18 8,aP 19 18 0,ac 17 19]
def c222r3:List SI:=[ac 20 8,bU 6,af 7 0,ac 8 20]
def c222r4:List SI:=[ac 22 9,aT 23 22 0,ac 21 23]
def c222r5:List SI:=[bU 6,af 7 0,af 8 11]
def c222r6:List SI:=[ac 25 9,ac 26 2,cd 27 25 26,ac 24 27]
def c222r7:List SI:=[bU 6,af 7 0,af 8 2]
def c222r8:List SI:=[ac 29 9,ac 30 0,av 31 30,ac 32 7,aY 33 31 32,cd 34 29 33,ac 28 34]
def c222r9:List SI:=[bU 6,af 7 0,af 8 10]
def c222r10:List SI:=[ac 35 0,ac 36 7,ac 37 7,ac 38 9,aZ 39 37 38,⟨none,.sl 40 (.t 35) (some (.t 36)) (some (.t 39)) none 1,none,0⟩,⟨none,.cvS 41 (.t 40),none,0⟩,ac 42 7,ac 43 9,aZ 44 42 43,ac 6 41,ac 7 44,af 8 0]
def c222:SC:=(.seq (aa c222r0) (.seq (aa c222r1) (.seq (.blk 0 (.seq (aa c222r2) (.cond (.t 17) (.seq (aa c222r3) .ret) (.seq (aa c222r4) (.cond (.t 21) (.seq (aa c222r5) .ret) (.seq (aa c222r6) (.cond (.t 24) (.seq (aa c222r7) .ret) (ab c222r8 28 c222r9)))))))) (.seq (aa c222r10) .ret))))
def v222:List Nat × List Nat:=([],[])
def o222:List RS:=[.t 6,.t 7,.t 8]
def c223r0:List SI:=[af 4 0]
def c223r1:List SI:=[ac 5 1,⟨none,.bin 6 .lss (.t 5) (.i (-1099511627776)),none,0⟩,ac 7 6,aB 7 8 1,aX 7 9 8 1099511627776,aw 10 7 9]
def c223r2:List SI:=[cG 4]
def c223r3:List SI:=[ac 11 0,ac 12 1,aZ 13 11 12,ac 4 13]
def c223:SC:=(.seq (aa c223r0) (.seq (ab c223r1 10 c223r2) (.seq (aa c223r3) .ret)))
def v223:List Nat × List Nat:=([],[])
def o223:List RS:=[.t 4]
def c224r0:List SI:=[af 4 0]
def c224r1:List SI:=[af 5 0]
def c224r2:List SI:=[ac 6 0,au 7 6,ak 8 7 2,ai 9 8,aW 10 9 0]
def c224r3:List WI:=[(true,false,ac 12 0),(true,false,ac 13 0),(true,false,ac 14 1),(true,false,ac 15 0),(true,false,au 16 15),(true,false,ak 17 16 0),(true,false,ai 18 17),(true,false,ac 19 0),(true,false,au 20 19),(true,false,ak 21 20 1),(true,false,ai 22 21),(false,true,bR 23 14 18 22),(true,false,ac 11 23),(true,false,am 24 11 0),(true,false,am 25 11 1),(true,false,am 26 11 2),(true,false,ac 5 24),(true,false,au 27 12),(true,false,ak 28 27 1),(false,true,aC 28 1 25),(true,false,au 29 13),(true,false,ak 30 29 2),(false,true,aC 30 1 26)]
def c224r4:List SI:=[ac 31 5,ac 4 31]
def c224:SC:=(.seq (aa c224r0) (.seq (aa c224r1) (.seq (.seq (aa c224r2) (.cond (.t 10) (.rgW c224r3) .skip)) (.seq (aa c224r4) .ret))))
def v224:List Nat × List Nat:=([],[])
def o224:List RS:=[.t 4]
def c225r0:List SI:=[ay 4]
def c225r1:List SI:=[ay 5]
def c225r2:List SI:=[ac 6 0,au 7 6,ak 8 7 2,ai 9 8,aW 10 9 0]
def c225r3:List WI:=[(true,false,ac 12 0),(true,false,ac 13 0),(true,false,ac 14 1),(true,false,ac 15 0),(true,false,au 16 15),(true,false,ak 17 16 0),(true,false,ai 18 17),(true,false,ac 19 0),(true,false,au 20 19),(true,false,ak 21 20 1),(true,false,ai 22 21),(false,true,bR 23 14 18 22),(true,false,ac 11 23),(true,false,am 24 11 0),(true,false,am 25 11 1),(true,false,am 26 11 2),(true,false,ac 5 24),(true,false,au 27 12),(true,false,ak 28 27 1),(false,true,aC 28 1 25),(true,false,au 29 13),(true,false,ak 30 29 2),(false,true,aC 30 1 26)]
def c225r4:List SI:=[ac 31 5,ac 4 31]
def c225:SC:=(.seq (aa c225r0) (.seq (aa c225r1) (.seq (.seq (aa c225r2) (.cond (.t 10) (.rgW c225r3) .skip)) (.seq (aa c225r4) .ret))))
def v225:List Nat × List Nat:=([],[])
def o225:List RS:=[.t 4]
def c226r0:List SI:=[ay 4,af 5 0,af 6 0]
def c226r1:List SI:=[ac 8 1,ac 9 0,av 10 9,cI 11 8 10,ac 7 11]
def c226r2:List SI:=[ay 4,af 5 0,af 6 10]
def c226r3:List SI:=[ac 13 0,ac 14 1,aF 15 13 14 1,ai 16 15,⟨none,.bin 17 .gtr (.t 16) (.v (.int .u8 1)),none,0⟩,ac 12 17]
def c226r4:List SI:=[ay 4,af 5 0,af 6 11]
def c226r5:List SI:=[ac 18 0,ac 19 1,aF 20 18 19 1,ai 21 20,⟨none,.bin 22 .eql (.t 21) (.v (.int .u8 1)),none,0⟩,ac 23 1,aE 24 23 1,ac 4 22,ac 5 24,af 6 0]
def c226:SC:=(.seq (aa c226r0) (.seq (.blk 0 (.seq (aa c226r1) (.cond (.t 7) (.seq (aa c226r2) .ret) (ab c226r3 12 c226r4)))) (.seq (aa c226r5) .ret)))
def v226:List Nat × List Nat:=([],[])
def o226:List RS:=[.t 4,.t 5,.t 6]
def c227r0:List SI:=[bU 4]
def c227r1:List SI:=[bU 5]
def c227r2:List SI:=[ac 6 0,au 7 6,ak 8 7 2,ai 9 8,aW 10 9 0]
def c227r3:List WI:=[(true,false,ac 12 0),(true,false,ac 13 0),(true,false,ac 14 1),(true,false,ac 15 0),(true,false,au 16 15),(true,false,ak 17 16 0),(true,false,ai 18 17),(true,false,ac 19 0),(true,false,au 20 19),(true,false,ak 21 20 1),(true,false,ai 22 21),(false,true,bR 23 14 18 22),(true,false,ac 11 23),(true,false,am 24 11 0),(true,false,am 25 11 1),(true,false,am 26 11 2),(true,false,ac 5 24),(true,false,au 27 12),(true,false,ak 28 27 1),(false,true,aC 28 1 25),(true,false,au 29 13),(true,false,ak 30 29 2),(false,true,aC 30 1 26)]
def c227r4:List SI:=[ac 31 5,ac 4 31]
def c227:SC:=(.seq (aa c227r0) (.seq (aa c227r1) (.seq (.seq (aa c227r2) (.cond (.t 10) (.rgW c227r3) .skip)) (.seq (aa c227r4) .ret))))
def v227:List Nat × List Nat:=([],[])
def o227:List RS:=[.t 4]
def c230r0:List SI:=[bS 2 0]
def c230r1:List SI:=[af 3 0]
def c230r2:List SI:=[aT 4 3 4]
def c230r3:List SI:=[ac 5 0,bG 6 5 1,ac 7 0,dv 8 7 1,⟨none,.un 9 .neg (.t 8),none,0⟩,⟨none,.bin 10 .and (.v (.int .u32 3988292384)) (.t 9),none,0⟩,ck 11 6 10,ac 0 11]
def c230r4:List SI:=[aE 12 3 1,ac 3 12]
def c230r5:List SI:=[ac 13 0,ac 2 13]
def c230:SC:=(.seq (aa c230r0) (.seq (.seq (aa c230r1) (.blk 0 (.loop (.seq (aa c230r2) (.seq (.cond (.t 4) .skip (.exit 0)) (.seq (.blk 1 (aa c230r3)) (aa c230r4))))))) (.seq (aa c230r5) .ret)))
def v230:List Nat × List Nat:=([],[])
def o230:List RS:=[.t 2]
theorem s230 : slimC Tryz.prog Tryz.f230.ntmps v230.1 v230.2 ((Tryz.f230.body).getD .skip) = some c230 := by kernel_rfl
theorem q230 : slimR Tryz.prog Tryz.f230.ntmps v230.1 v230.2 Tryz.f230.results.toList = some o230 := by kernel_rfl
def c231r0:List SI:=[bS 5 0]
def c231r1:List SI:=[ac 6 0,ac 7 1,⟨none,.cvI 8 .u32 (.t 7),none,0⟩,ck 9 6 8,ac 0 9]
def c231r2:List SI:=[ac 10 0,dv 11 10 15,cW 12 2 11 16 1,ai 13 12,ac 14 0,bG 15 14 4,ck 16 13 15,ac 0 16]
def c231r3:List SI:=[ac 17 0,dv 18 17 15,cW 19 2 18 16 1,ai 20 19,ac 21 0,bG 22 21 4,ck 23 20 22,ac 5 23]
def c231:SC:=(.seq (aa c231r0) (.seq (aa c231r1) (.seq (aa c231r2) (.seq (aa c231r3) .ret))))
def v231:List Nat × List Nat:=([],[])
def o231:List RS:=[.t 5]
theorem s231 : slimC Tryz.prog Tryz.f231.ntmps v231.1 v231.2 ((Tryz.f231.body).getD .skip) = some c231 := by kernel_rfl
theorem q231 : slimR Tryz.prog Tryz.f231.ntmps v231.1 v231.2 Tryz.f231.results.toList = some o231 := by kernel_rfl
theorem F176:Fun Tryz.prog 176 5 v176 c176 o176:=Fun.mk' Tryz.func176 Tryz.ntmps176 (by kernel_rfl) (by kernel_rfl) s176 q176
theorem F194:Fun Tryz.prog 194 8 v194 c194 o194:=Fun.mk' Tryz.func194 Tryz.ntmps194 (by kernel_rfl) (by kernel_rfl) s194 q194
def UE(x:UInt8)(cs:List Value):Prop:=cs=[.int .u8 (x.toNat:Int)]
theorem UE1:∀ (x:UInt8) cs,UE x cs→∀ u∈cs,u.oneCell'=true:=fun x cs h u hu=>by
 rw[h]at hu
 simp at hu
 subst hu
 rfl
abbrev SB(G:Nat→Option Obj)(v:Value)(l:List UInt8):Prop:=SlV G UE 1 v l
abbrev OwnB(zs:List UInt8)(L':List Kx.Item)(r:Value):Prop:=OwnL UE 5 1 zs L' r
theorem SB.le{G G':Nat→Option Obj}{v:Value}{l:List UInt8}(h:SB G v l)(hg:Gle G G'):SB G' v l:=SlV.le h hg fun _ _ h=>h
def cellB(l:List UInt8):List Value:=l.map fun b=>.int .u8 (b.toNat:Int)
theorem cells_b:∀ (l:List UInt8),Cells UE 1 l (cellB l)
 | []=>.nil
 | b :: l=>.cons (cs:=[.int .u8 (b.toNat:Int)]) rfl rfl (cells_b l)
theorem byteCells_b(s:ByteArray):byteCells s=cellB s.data.toList:=rfl
theorem app8{P:Program}{h:H}{d:Nat}{l:List SI}{e:Env}{K:Env→H→Prop}{u:Value}{b:Nat}{zs:List UInt8}{zc:List Value}{L1 L2:List Kx.Item}{x:UInt8}{y:Int}(hL:h.L=.row (.slice (some ⟨b,0,none⟩) 1 1) 5 1 1 [.int .u8 y] :: L1++.row u 5 1 zs.length zc :: L2)(hy:y=(x.toNat:Int))
  (hc:Cells UE 1 zs zc) (hz:zs.length≤10000000)
  (hk:∀ A' c' zc',Cells UE 1 (zs++[x]) zc'→kR P l d e K (.slice A' (zs++[x]).length c') ⟨h.G,.row (.slice (some ⟨b,0,none⟩) 1 1) 5 1 1 [.int .u8 y] :: L1++.row (.slice A' (zs++[x]).length c') 5 1 (zs++[x]).length zc' :: L2,h.D⟩) :
  apX P u (.slice (some ⟨b,0,none⟩) 1 1) 5 1 1 d l e h K:=by
 subst hy
 refine⟨.row (.slice (some ⟨b,0,none⟩) 1 1) 5 1 1 [.int .u8 (x.toNat:Int)] :: L1,zs.length,zc,L2,1,[.int .u8 (x.toNat:Int)],.inl hL,srcH_row (h:=h) (by rw[hL];exact .head _) (UE1 x _ rfl) rfl,by unfold maxLen;omega,fun A' c'=>?_⟩
 have:=hk A' c' (zc++[.int .u8 (x.toNat:Int)]) (hc.app (.one (show UE x [.int .u8 (x.toNat:Int)]from rfl) rfl))
 simp only[List.length_append,List.length_cons,List.length_nil,Nat.zero_add]at this
 exact this
theorem apX_s{P:Program}{h:H}{d:Nat}{l:List SI}{e:Env}{K:Env→H→Prop}{u:Value}{s:ByteArray}{zs:List UInt8}{zc:List Value}{L1 L2:List Kx.Item}(hr:RowAt h.L u 5 1 L1 zs.length zc L2)(hc:Cells UE 1 zs zc)(hz:zs.length+s.size≤10000000)
  (hk:∀ A' c' zc',Cells UE 1 (zs++s.data.toList) zc'→kR P l d e K (.slice A' (zs++s.data.toList).length c') { h with L:=L1++.row (.slice A' (zs++s.data.toList).length c') 5 1 (zs++s.data.toList).length zc' :: L2 }) :
  apX P u (.string s) 5 1 1 d l e h K:=by
 refine⟨L1,zs.length,zc,L2,s.size,cellB s.data.toList,hr,⟨fun u hu=>?_,?_,.inr (.inr ⟨s,rfl,rfl,byteCells_b s,rfl⟩)⟩,by unfold maxLen;omega,fun A' c'=>?_⟩
 ·simp[cellB]at hu;obtain⟨_,_,rfl⟩:=hu;rfl
 ·simp[cellB]
 ·have:=hk A' c' (zc++cellB s.data.toList) (hc.app (cells_b _))
  rw[List.length_append]at this
  exact this
theorem bin_mul(k:IntKind)(a b:Int):binV .mul (.int k a) (.int k b)=some (.int k (k.wrap (a * b))):=by simp[binV]
theorem bin_add(k:IntKind)(a b:Int):binV .add (.int k a) (.int k b)=some (.int k (k.wrap (a+b))):=by simp[binV]
theorem bin_quo(k:IntKind)(a b:Nat)(hb:b≠0)(ha:(a:Int)≤k.max)(hk:k.signed=false):binV .quo (.int k a) (.int k b)=some (.int k ((a / b:Nat):Int)):=by
 have h1:¬ (b:Int)=0:=by omega
 have h2:k.wrap (((a / b:Nat):Int))=((a / b:Nat):Int):=by
  have hq:=Nat.div_le_self a b
  generalize a / b=q at hq ⊢
  cases k <;> simp[IntKind.signed]at hk <;> simp[IntKind.max,IntKind.signed,IntKind.bits]at ha <;> simp only[IntKind.wrap,IntKind.signed,IntKind.bits] <;> simp <;> omega
 simp only[binV]
 rw[if_pos trivial,if_neg h1]
 have:(a:Int).tdiv (b:Int)=((a / b:Nat):Int):=by rw[Int.tdiv_eq_ediv_of_nonneg (by omega)];rfl
 rw[this,h2]
theorem bin_rem(k:IntKind)(a b:Nat)(hb:b≠0):binV .rem (.int k a) (.int k b)=some (.int k ((a % b:Nat):Int)):=by
 have h1:¬ (b:Int)=0:=by omega
 simp only[binV]
 rw[if_pos trivial,if_neg h1]
 have:(a:Int).tmod (b:Int)=((a % b:Nat):Int):=by rw[Int.tmod_eq_emod_of_nonneg (by omega)];rfl
 rw[this]
theorem callsH_gx{P:Program}{f:FuncId}{args:Array Value}{h:H}{M:H→Prop}{R:Value→H→Prop}(hE:Enters P f)(hg:GhostX h M)(hc:∀ h',M h'→CallsH P f args h' R):CallsH P f args h R :=
 ⟨hE,fun β w hs=>by
  obtain⟨h1,m,s1,t1,d1,r1⟩:=hg β w hs
  exact((hc h1 m).2 β w s1).mono fun _ _ ⟨v,h2,a,⟨b1,b2⟩,c,d,r⟩=>⟨v,h2,a,⟨b1.trans d1,r1.trans b2⟩,c,t1.trans d,r⟩⟩
theorem SB.nil{G:Nat→Option Obj}:SB G (.slice none 0 0) []:=⟨none,0,rfl,Nat.le_refl _,Nat.zero_le _,fun i x hx=>by simp at hx⟩
theorem Copy_ok(l:List UInt8)(v:Value)(G:Nat→Option Obj)(hl:SB G v l)(hb:l.length≤1000000):
  FnO Tryz.prog 176 #[v] G [] (fun _ L' r=>OwnB l L' r):=by
 refine F176.fnO (by simp) noRegs_nil (go_of ?_)
 unfold c176
 intros;refine gr 0 0 ?_;refine sJ c176r0.eq_1 ?_
 intros;refine gr 3 5 ?_;refine sJ c176r1.eq_1 ?_
 refine apX_v (.inr ⟨⟨none,rfl⟩,rfl,rfl,rfl,rfl⟩) hl rfl UE1 (by unfold maxLen;omega) fun ys A c hc=>?_
 simp only[Nat.zero_add]
 refine sI ?_
 (intros;try refine go_st ?_)
 refine go_ret (retQ_o _ rfl (List.Sublist.refl _) (noRegs_row noRegs_nil) ?_)
 exact⟨ys,hc,rfl⟩
theorem Clone_ok(l:List UInt8)(v:Value)(G:Nat→Option Obj)(hl:SB G v l)(hb:l.length≤1000000):
  FnO Tryz.prog 194 #[v] G [] (fun _ L' r=>OwnB l L' r):=by
 refine F194.fnO (by simp) noRegs_nil (go_of ?_)
 have hl0:=hl
 obtain⟨A,c,rfl,hc,hm,hA⟩:=hl
 unfold c194
 intros;refine gr 0 0 ?_;refine sJ c194r0.eq_1 ?_
 intros;refine gr 3 4 ?_;refine sJ c194r1.eq_1 ?_
 intros;refine gc ?_;refine sI ?_
 refine gb (fun ht=>?_) (fun ht=>?_)
 ·intros;refine gr 0 0 ?_;refine sJ c194r2.eq_1 ?_
  (intros;try refine go_st ?_)
  have hA0:l=[]:=by
   match l,hA with
   | [],_=>rfl
   | x :: xs,hA=>obtain⟨a,_,ha,_⟩:=hA 0 x rfl;subst ha;cases ht
  subst hA0
  refine go_ghost (ghost_nil none 5 1) ?_
  refine go_ret (retQ_o _ rfl (List.Sublist.refl _) (noRegs_row noRegs_nil) ?_)
  exact⟨[],.nil,rfl⟩
 ·intros;refine gr 5 8 ?_;refine sJ c194r3.eq_1 ?_
  intro b hb'
  refine apX_v (.inr ⟨⟨_,rfl⟩,rfl,rfl,rfl,rfl⟩) hl0 rfl UE1 (by unfold maxLen;omega) fun ys A c hc=>?_
  simp only[Nat.zero_add]
  refine sI ?_
  (intros;try refine go_st ?_)
  refine go_ret (retQ_o _ rfl (List.Sublist.refl _) (noRegs_row noRegs_nil) ?_)
  exact⟨ys,hc,rfl⟩
theorem F200:Fun Tryz.prog 200 31 v200 c200 o200:=Fun.mk' Tryz.func200 Tryz.ntmps200 (by kernel_rfl) (by kernel_rfl) s200 q200
theorem F162:Fun Tryz.prog 162 36 v162 c162 o162:=Fun.mk' Tryz.func162 Tryz.ntmps162 (by kernel_rfl) (by kernel_rfl) s162 q162
def zig(n:Int):Nat:=if 0≤n then(2 * n).toNat else(-2 * n - 1).toNat
def vnat:Nat→Nat→List UInt8
 | 0,z=>[UInt8.ofNat z]
 | f+1,z=>if z < 128 then[UInt8.ofNat z]else UInt8.ofNat (128+z % 128) :: vnat f (z / 128)
def pvB(n:Int):List UInt8:=vnat 9 (zig n)
theorem vnat_len:∀ f z,(vnat f z).length≤f+1∧1≤(vnat f z).length
 | 0,z=>by simp[vnat]
 | f+1,z=>by
  unfold vnat
  split
  ·simp
  ·have:=vnat_len f (z / 128)
   simp
   omega
theorem pvB_len(n:Int):(pvB n).length≤10:=(vnat_len 9 _).1
theorem zig_lt{n:Int}(h:I64 n):zig n < 18446744073709551616:=by
 unfold zig I64 at *
 split <;> omega
theorem vnat_lt{f z:Nat}(h:z < 128):vnat f z=[UInt8.ofNat z]:=by
 cases f with
 | zero=>rfl
 | succ f=>exact if_pos h
def Puts(p:List UInt8)(z0:Nat)(zs:List UInt8)(z:Nat):Prop:=∃ f,f≤9∧zs.length+f=p.length+9∧z < 2 * 128 ^ f∧zs++vnat f z=p++vnat 9 z0
theorem puts_zero(p:List UInt8){z0:Nat}(h:z0 < 18446744073709551616):Puts p z0 p z0:=⟨9,Nat.le_refl _,rfl,by omega,rfl⟩
theorem puts_end{p zs:List UInt8}{z0 z:Nat}(h:Puts p z0 zs z)(hz:z < 128):zs++[UInt8.ofNat z]=p++vnat 9 z0:=by
 obtain⟨f,_,_,_,h⟩:=h
 rw[← h,vnat_lt hz]
theorem puts_more{p zs:List UInt8}{z0 z:Nat}(h:Puts p z0 zs z)(hz:¬ z < 128):Puts p z0 (zs++[UInt8.ofNat (128+z % 128)]) (z / 128):=by
 obtain⟨f,h1,h2,h3,h4⟩:=h
 cases f with
 | zero=>simp at h3;omega
 | succ f =>
  refine⟨f,by omega,by simp;omega,by rw[Nat.pow_succ]at h3;omega,?_⟩
  rw[← h4,vnat,if_neg hz]
  simp
theorem puts_len{p zs:List UInt8}{z0 z:Nat}(h:Puts p z0 zs z):zs.length≤p.length+9:=by
 obtain⟨f,h1,h2,_⟩:=h
 omega
theorem or_128(z:Nat):binV .or (.int .u8 (IntKind.u8.wrap (z:Int))) (.int .u8 128)=some (.int .u8 ((UInt8.ofNat (128+z % 128)).toNat:Int)):=by
 have key:∀ b:Fin 256,(BitVec.ofInt 8 ((b.val:Nat):Int) ||| BitVec.ofInt 8 128).toNat=128+b.val % 128:=by decide +kernel
 have h1:IntKind.u8.wrap (z:Int)=((z % 256:Nat):Int):=by rw[IntKind.wrap_u8];omega
 have h2:=key ⟨z % 256,Nat.mod_lt _ (by omega)⟩
 rw[h1]
 simp only[binV]
 rw[if_pos trivial]
 have h3:(BitVec.ofInt IntKind.u8.bits ((z % 256:Nat):Int) ||| BitVec.ofInt IntKind.u8.bits 128).toNat=128+z % 128:=by
  refine h2.trans ?_
  dsimp only
  omega
 rw[h3]
 simp[IntKind.wrap_u8]
theorem u8_nat(z:Nat):IntKind.u8.wrap (z:Int)=((UInt8.ofNat z).toNat:Int):=by
 rw[IntKind.wrap_u8]
 simp
theorem shr_7(z:Nat):binV .shr (.int .u64 (z:Int)) (.int .u64 7)=some (.int .u64 ((z / 128:Nat):Int)):=by
 simp[binV,IntKind.bits]
 rw[Int.fdiv_eq_ediv_of_nonneg _ (by omega)]
theorem shl_1(n:Int):binV .shl (.int .u64 (IntKind.u64.wrap n)) (.int .u64 1)=some (.int .u64 (IntKind.u64.wrap (IntKind.u64.wrap n * 2))):=by
 simp[binV,IntKind.bits]
def sgn(n:Int):Int:=if 0≤n then 0 else -1
theorem shr_63{n:Int}(h:I64 n):binV .shr (.int .i64 n) (.int .u64 63)=some (.int .i64 (sgn n)):=by
 have h1:n.fdiv 9223372036854775808=sgn n:=by
  rw[Int.fdiv_eq_ediv_of_nonneg _ (by omega)]
  unfold sgn I64 at *
  split <;> omega
 simp[binV,IntKind.bits,h1]
theorem xor_zig{n:Int}(h:I64 n):binV .xor (.int .u64 (IntKind.u64.wrap (IntKind.u64.wrap n * 2))) (.int .u64 (IntKind.u64.wrap (sgn n)))=some (.int .u64 (zig n:Int)):=by
 have hz:=zig_lt h
 have key:(BitVec.ofInt 64 (IntKind.u64.wrap (IntKind.u64.wrap n * 2)) ^^^ BitVec.ofInt 64 (IntKind.u64.wrap (sgn n))).toNat=zig n:=by
  unfold I64 at h
  by_cases h0:0≤n
  ·have e1:IntKind.u64.wrap (IntKind.u64.wrap n * 2)=2 * n:=by rw[IntKind.wrap_u64,IntKind.wrap_u64];omega
   have e2:IntKind.u64.wrap (sgn n)=0:=by rw[sgn,if_pos h0];rfl
   rw[e1,e2]
   have:BitVec.ofInt 64 0=0#64:=rfl
   rw[this,BitVec.xor_zero,BitVec.toNat_ofInt]
   simp[zig,h0]
   omega
  ·have e1:IntKind.u64.wrap (IntKind.u64.wrap n * 2)=(2 * n) % 18446744073709551616:=by rw[IntKind.wrap_u64,IntKind.wrap_u64];omega
   have e2:IntKind.u64.wrap (sgn n)=18446744073709551615:=by rw[sgn,if_neg h0];rfl
   rw[e1,e2]
   have:BitVec.ofInt 64 18446744073709551615=BitVec.allOnes 64:=by decide
   rw[this,BitVec.xor_allOnes,BitVec.toNat_not,BitVec.toNat_ofInt]
   simp[zig,h0]
   omega
 simp only[binV]
 rw[if_pos trivial]
 have e3:(BitVec.ofInt IntKind.u64.bits (IntKind.u64.wrap (IntKind.u64.wrap n * 2)) ^^^ BitVec.ofInt IntKind.u64.bits (IntKind.u64.wrap (sgn n))).toNat=zig n:=key
 rw[e3,IntKind.wrap_u64]
 congr 2
 omega
theorem PutVar_ok(l:List UInt8)(n:Int)(hn:I64 n)(v:Value)(G:Nat→Option Obj)(hl:SB G v l)(hb:l.length≤100000):
  FnO Tryz.prog 200 #[v,.int .i64 n] G [] (fun _ L' r=>OwnB (l++pvB n) L' r):=by
 refine F200.fnO (by simp) noRegs_nil (go_of ?_)
 have hl0:=hl
 obtain⟨A,c,rfl,hc,hm,hA⟩:=hl
 unfold c200
 intros;refine gr 0 0 ?_;refine sJ c200r0.eq_1 ?_
 intros;refine gr 7 14 ?_;(refine sJ4 c200r1.eq_1 @shl_1 (shr_63 hn) (xor_zig hn) ?_)
 intros;refine gr 14 16 ?_;refine sJ c200r2.eq_1 ?_
 refine(Clone_ok l _ G hl0 (by omega) _ []).mono ?_
 rintro r h' ⟨G1,L',rfl,hg1,ys,hys,rfl⟩
 refine sI ?_
 (intros;try refine go_st ?_)
 refine go_loop (fun e h=>∃ (z:Nat) (zs:List UInt8) (zc:List Value) (u:Value),(Puts l (zig n) zs z∧Cells UE 1 zs zc)∧e 5=.int .u64 (z:Int)∧e 6=u∧h.G=G1∧h.D=[]∧[Item.row u 5 1 zs.length zc].Sublist h.L) (fun e h=>iv (e 5)) ?_ ?_
 ·exact⟨zig n,l,ys,_,⟨puts_zero l (zig_lt hn),hys⟩,eE,eE,rfl,rfl,List.Sublist.refl _⟩
 ·rintro e ⟨G',L,D⟩ ⟨z,zs,zc,u,⟨hp,hcs⟩,e5,e6,hG,hD,hL⟩
  dsimp only at hG hD hL
  subst hG hD
  refine go_ghost (ghost_sub hL) ?_
  refine go_keep [5,6] ?_
  refine sJ2 @e5 @e6 ?_
  have hlen:=puts_len hp
  intros;refine gr 16 17 ?_;refine sJ c200r3.eq_1 ?_
  intros;refine gc ?_;refine sI ?_
  refine gb (fun ht=>?_) (fun ht=>?_)
  ·have hz:¬ z < 128:=by simp at ht;omega
   intros;refine gr 20 26 ?_;refine sJ2 c200r4.eq_1 @or_128 ?_
   intro bk hbk
   refine app8 (L1:=[]) (L2:=[]) rfl rfl hcs (by omega) fun A' c' zc' hzc=>?_
   refine sI ?_
   intros;refine gr 18 20 ?_;refine sJ2 c200r5.eq_1 @shr_7 ?_
   (intros;try refine go_st ?_)
   refine go_l ⟨⟨z / 128,_,zc',_,⟨puts_more hp hz,hzc⟩,eE,eE,rfl,rfl,.cons _ (List.Sublist.refl _)⟩,?_⟩
   refine sI ?_
   simp[iv]
   omega
  ·have hz:z < 128:=by simp at ht;omega
   refine go_exit ?_
   refine sI ?_
   intros;refine gr 26 31 ?_;refine sJ2 c200r6.eq_1 @u8_nat ?_
   intro bk hbk
   refine app8 (L1:=[]) (L2:=[]) rfl rfl hcs (by omega) fun A' c' zc' hzc=>?_
   refine sI ?_
   (intros;try refine go_st ?_)
   rw[puts_end hp hz]at hzc ⊢
   refine go_ret (retQ_o _ rfl (.cons _ (List.Sublist.refl _)) (noRegs_row noRegs_nil) ?_)
   exact⟨zc',hzc,rfl⟩
theorem RPutVar_ok(l:List UInt8)(n:Int)(hn:I64 n)(v:Value)(G:Nat→Option Obj)(hl:SB G v l)(hb:l.length≤100000):
  FnO Tryz.prog 162 #[v,.int .i64 n] G [] (fun _ L' r=>OwnB (l++pvB n) L' r):=by
 refine F162.fnO (by simp) noRegs_nil (go_of ?_)
 have hl0:=hl
 have hn0:=hn
 unfold I64 at hn
 obtain⟨A,c,rfl,hc,hm,hA⟩:=hl
 unfold c162
 intros;refine gr 0 0 ?_;refine sJ c162r0.eq_1 ?_
 intros;refine gr 7 10 ?_;refine sJ2 c162r1.eq_1 @bin_mul ?_
 have hrest:∀ (e:Env),e 0=.slice A l.length c→e 5=.int .u64 (zig n:Int)→go none Tryz.prog 36 v162.1 v162.2 (retQ o162 fun v h=>OwnB (l++pvB n) h.L v) [Td.s ((SC.reg false c162r4).seq ((SC.blk 0 (((SC.reg false c162r5).seq (SC.cond (O.t 21) SC.skip (SC.exit 0))).seq (SC.blk 1 ((SC.reg false c162r6).seq (SC.reg false c162r7)))).loop).seq ((SC.reg false c162r8).seq SC.ret)))] e ⟨G,[],[]⟩:=fun e e0 e5=>by
  refine go_keep [0,5] ?_
  refine sJ2 @e0 @e5 ?_
  intros;refine gr 18 20 ?_;refine sJ c162r4.eq_1 ?_
  refine(Copy_ok l _ G hl0 (by omega) _ []).mono ?_
  rintro r h' ⟨G1,L',rfl,hg1,ys,hys,rfl⟩
  refine sI ?_
  (intros;try refine go_st ?_)
  refine go_loop (fun e h=>∃ (z:Nat) (zs:List UInt8) (zc:List Value) (u:Value),(Puts l (zig n) zs z∧Cells UE 1 zs zc∧z < 18446744073709551616)∧e 5=.int .u64 (z:Int)∧e 6=u∧h.G=G1∧h.D=[]∧[Item.row u 5 1 zs.length zc].Sublist h.L) (fun e h=>iv (e 5)) ?_ ?_
  ·exact⟨zig n,l,ys,_,⟨puts_zero l (zig_lt hn0),hys,zig_lt hn0⟩,eE,eE,rfl,rfl,List.Sublist.refl _⟩
  ·rintro e ⟨G',L,D⟩ ⟨z,zs,zc,u,⟨hp,hcs,hzb⟩,e5,e6,hG,hD,hL⟩
   dsimp only at hG hD hL
   subst hG hD
   refine go_ghost (ghost_sub hL) ?_
   refine go_keep [5,6] ?_
   refine sJ2 @e5 @e6 ?_
   have hlen:=puts_len hp
   intros;refine gr 20 21 ?_;refine sJ c162r5.eq_1 ?_
   intros;refine gc ?_;refine sI ?_
   refine gb (fun ht=>?_) (fun ht=>?_)
   ·have hz:¬ z < 128:=by simp at ht;omega
    have hpm:=puts_more hp hz
    have hdz:z / 128 < z:=by omega
    have hq:binV .quo (.int .u64 (z:Int)) (.int .u64 128)=some (.int .u64 ((z / 128:Nat):Int)):=bin_quo .u64 z 128 (by decide) (by simp[IntKind.max,IntKind.signed,IntKind.bits];omega) rfl
    generalize z / 128=q at hq hpm hdz
    have hr:binV .rem (.int .u64 (z:Int)) (.int .u64 128)=some (.int .u64 ((z:Int) % 128)):=bin_rem .u64 z 128 (by decide)
    have hw:IntKind.u8.wrap (IntKind.u64.wrap (128+(z:Int) % 128))=((UInt8.ofNat (128+z % 128)).toNat:Int):=by
     rw[← u8_nat,IntKind.wrap_u64]
     congr 1
     omega
    intros;refine gr 22 29 ?_;refine sJ3 c162r6.eq_1 @hr @bin_add ?_
    intro bk hbk
    refine app8 (L1:=[]) (L2:=[]) rfl hw hcs (by omega) fun A' c' zc' hzc=>?_
    refine sI ?_
    intros;refine gr 29 31 ?_;refine sJ2 c162r7.eq_1 @hq ?_
    (intros;try refine go_st ?_)
    refine go_l ⟨⟨q,_,zc',_,⟨hpm,hzc,by omega⟩,eE,eE,rfl,rfl,.cons _ (List.Sublist.refl _)⟩,?_⟩
    refine sI ?_
    omega
   ·have hz:z < 128:=by simp at ht;omega
    refine go_exit ?_
    refine sI ?_
    intros;refine gr 31 36 ?_;refine sJ2 c162r8.eq_1 @u8_nat ?_
    intro bk hbk
    refine app8 (L1:=[]) (L2:=[]) rfl rfl hcs (by omega) fun A' c' zc' hzc=>?_
    refine sI ?_
    (intros;try refine go_st ?_)
    rw[puts_end hp hz]at hzc ⊢
    refine go_ret (retQ_o _ rfl (.cons _ (List.Sublist.refl _)) (noRegs_row noRegs_nil) ?_)
    exact⟨zc',hzc,rfl⟩
 intros;refine gr 10 11 ?_;refine sJ c162r2.eq_1 ?_
 intros;refine gc ?_;refine sI ?_
 refine gb (fun ht=>?_) (fun ht=>?_)
 ·have hz:IntKind.u64.wrap (IntKind.u64.wrap (2 * IntKind.u64.wrap (IntKind.i64.wrap (0 - IntKind.i64.wrap (n+1))))+1)=(zig n:Int):=by
   have h0:n < 0:=by simpa using ht
   have e1:IntKind.i64.wrap (n+1)=n+1:=by rw[w64_id] <;> omega
   have e2:IntKind.i64.wrap (0 - (n+1))=0 - (n+1):=by rw[w64_id] <;> omega
   rw[e1,e2]
   simp only[IntKind.wrap_u64,zig,if_neg (show ¬ 0≤n by omega)]
   omega
  intros;refine gr 12 18 ?_;refine sJ4 c162r3.eq_1 @bin_mul @bin_add @hz ?_
  intro _
  (repeat first | refine go_skip ?_ | refine go_b ?_)
  refine hrest _ ?_ ?_ <;> (refine sI ?_;try with_reducible exact True.intro)
 ·have hz:IntKind.u64.wrap (2 * IntKind.u64.wrap n)=(zig n:Int):=by
   have h0:¬ n < 0:=by simpa using ht
   simp only[IntKind.wrap_u64,zig,if_pos (show 0≤n by omega)]
   omega
  (repeat first | refine go_skip ?_ | refine go_b ?_)
  refine hrest _ ?_ ?_ <;> (refine sJ @hz ?_;try with_reducible exact True.intro)
theorem F215:Fun Tryz.prog 215 9 v215 c215 o215:=Fun.mk' Tryz.func215 Tryz.ntmps215 (by kernel_rfl) (by kernel_rfl) s215 q215
theorem F184:Fun Tryz.prog 184 9 v184 c184 o184:=Fun.mk' Tryz.func184 Tryz.ntmps184 (by kernel_rfl) (by kernel_rfl) s184 q184
theorem F216:Fun Tryz.prog 216 11 v216 c216 o216:=Fun.mk' Tryz.func216 Tryz.ntmps216 (by kernel_rfl) (by kernel_rfl) s216 q216
theorem F185:Fun Tryz.prog 185 11 v185 c185 o185:=Fun.mk' Tryz.func185 Tryz.ntmps185 (by kernel_rfl) (by kernel_rfl) s185 q185
theorem F199:Fun Tryz.prog 199 33 v199 c199 o199:=Fun.mk' Tryz.func199 Tryz.ntmps199 (by kernel_rfl) (by kernel_rfl) s199 q199
theorem F161:Fun Tryz.prog 161 39 v161 c161 o161:=Fun.mk' Tryz.func161 Tryz.ntmps161 (by kernel_rfl) (by kernel_rfl) s161 q161
def inO(n:Int):Bool:=decide (0≤n) && decide (n≤1099511627776)
theorem in_ok(n:Int)(G:Nat→Option Obj):FnS Tryz.prog 215 #[.int .i64 n] G (.bool (inO n)):=by
 refine F215.fnS (by simp) (go_of ?_)
 unfold c215
 intros;refine gr 0 0 ?_;refine sJ c215r0.eq_1 ?_
 intros;refine gr 3 9 ?_;refine sJ c215r1.eq_1 ?_
 refine gd (fun h1=>?_) (fun h1=>?_)
 ·refine sI ?_
  intros;refine rV ?_;simp only[push_cast,Nat.reduceBEq]
  have:0≤n:=by simpa using h1
  simp[inO,this]
 ·refine sI ?_
  intros;refine rV ?_;simp only[push_cast,Nat.reduceBEq]
  have:¬ 0≤n:=by simpa using h1
  simp[inO,this]
theorem In_ok(n:Int)(G:Nat→Option Obj):FnS Tryz.prog 184 #[.int .i64 n] G (.bool (inO n)):=by
 refine F184.fnS (by simp) (go_of ?_)
 unfold c184
 intros;refine gr 0 0 ?_;refine sJ c184r0.eq_1 ?_
 intros;refine gr 3 9 ?_;refine sJ c184r1.eq_1 ?_
 refine gd (fun h1=>?_) (fun h1=>?_)
 ·refine sI ?_
  intros;refine rV ?_;simp only[push_cast,Nat.reduceBEq]
  have:0≤n:=by simpa using h1
  simp[inO,this]
 ·refine sI ?_
  intros;refine rV ?_;simp only[push_cast,Nat.reduceBEq]
  have:¬ 0≤n:=by simpa using h1
  simp[inO,this]
def ptB(s:ByteArray):List UInt8:=pvB s.size++s.data.toList
theorem ptB_len(s:ByteArray):(ptB s).length≤10+s.size:=by
 have:=pvB_len s.size
 simp[ptB]
 omega
theorem PutText_ok(l:List UInt8)(s:ByteArray)(v:Value)(G:Nat→Option Obj)(hl:SB G v l)(hb:l.length≤100000)(hs:s.size≤100000):
  FnO Tryz.prog 216 #[v,.string s] G [] (fun _ L' r=>OwnB (l++ptB s) L' r):=by
 refine F216.fnO (by simp) noRegs_nil (go_of ?_)
 unfold c216
 intros;refine gr 0 0 ?_;refine sJ c216r0.eq_1 ?_
 intros;refine gr 5 11 ?_;refine sJ c216r1.eq_1 ?_
 refine(PutVar_ok l s.size (by unfold I64;omega) v G hl hb _ []).mono ?_
 rintro r h' ⟨G1,L',rfl,hg1,ys,hys,rfl⟩
 refine sI ?_
 have hpl:=pvB_len s.size
 refine apX_s (L1:=[]) (.inl rfl) hys (by rw[List.length_append];omega) fun A' c' zc' hzc=>?_
 refine sI ?_
 (intros;try refine go_st ?_)
 refine go_ret (retQ_o _ rfl (List.Sublist.refl _) (noRegs_row noRegs_nil) ?_)
 rw[List.append_assoc]at hzc ⊢
 exact⟨zc',hzc,rfl⟩
theorem RPutText_ok(l:List UInt8)(s:ByteArray)(v:Value)(G:Nat→Option Obj)(hl:SB G v l)(hb:l.length≤100000)(hs:s.size≤100000):
  FnO Tryz.prog 185 #[v,.string s] G [] (fun _ L' r=>OwnB (l++ptB s) L' r):=by
 refine F185.fnO (by simp) noRegs_nil (go_of ?_)
 unfold c185
 intros;refine gr 0 0 ?_;refine sJ c185r0.eq_1 ?_
 intros;refine gr 5 11 ?_;refine sJ c185r1.eq_1 ?_
 refine(RPutVar_ok l s.size (by unfold I64;omega) v G hl hb _ []).mono ?_
 rintro r h' ⟨G1,L',rfl,hg1,ys,hys,rfl⟩
 refine sI ?_
 have hpl:=pvB_len s.size
 refine apX_s (L1:=[]) (.inl rfl) hys (by rw[List.length_append];omega) fun A' c' zc' hzc=>?_
 refine sI ?_
 (intros;try refine go_st ?_)
 refine go_ret (retQ_o _ rfl (List.Sublist.refl _) (noRegs_row noRegs_nil) ?_)
 rw[List.append_assoc]at hzc ⊢
 exact⟨zc',hzc,rfl⟩
structure Rec where
 off:Int
 key:ByteArray
 val:ByteArray
 dead:Bool
 stamp:Int
def cellR(x:Rec):List Value:=[.int .i64 x.off,.string x.key,.string x.val,.bool x.dead,.int .i64 x.stamp]
def RR(x:Rec)(cs:List Value):Prop:=cs=cellR x∧(I64 x.off∧I64 x.stamp)∧x.key.size≤maxLen∧x.val.size≤maxLen
def isE(s:ByteArray):Bool:=s.toList == ByteArray.toList ⟨#[]⟩
def chkR(x:Rec):Int:=if inO x.off=true∧inO x.stamp=true∧x.key.size≤64∧x.val.size≤64∧¬ (x.dead=true∧(isE x.key=true∨isE x.val=false))then 0 else 1
theorem bin_seq(a:ByteArray):binV .eql (.string a) (.string ⟨#[]⟩)=some (.bool (isE a)):=rfl
theorem bin_sne(a:ByteArray):binV .neq (.string a) (.string ⟨#[]⟩)=some (.bool (!isE a)):=rfl
theorem chkR_1{x:Rec}(h:inO x.off=false∨inO x.stamp=false∨64 < x.key.size∨64 < x.val.size∨(x.dead=true∧(isE x.key=true∨isE x.val=false))):chkR x=1:=by
 refine if_neg fun⟨h1,h2,h3,h4,h5⟩=>?_
 rcases h with h | h | h | h | h
 ·rw[h1]at h;cases h
 ·rw[h2]at h;cases h
 ·omega
 ·omega
 ·exact h5 h
theorem RCheck_ok(x:Rec)(G:Nat→Option Obj):FnS Tryz.prog 161 #[.agg (cellR x).toArray] G (.int .i64 (chkR x)):=by
 refine F161.fnS (by simp) (go_of ?_)
 unfold c161 cellR
 intros;refine gr 0 0 ?_;refine sJ c161r0.eq_1 ?_
 have hbad:∀ (fr:List Td) (e:Env) (L:List Kx.Item),chkR x=1→go none Tryz.prog 39 v161.1 v161.2 (retQ o161 fun v h=>v=.int .i64 (chkR x)) (Td.s ((SC.reg false c161r2).seq .ret) :: fr) e ⟨G,L,[]⟩:=fun fr e L hx=>by
  intros;refine gr 0 0 ?_;refine sJ c161r2.eq_1 ?_
  intros;refine rV ?_;simp only[push_cast,Nat.reduceBEq]
  rw[hx]
 have hgood:∀ (e:Env) (L:List Kx.Item),chkR x=0→go none Tryz.prog 39 v161.1 v161.2 (retQ o161 fun v h=>v=.int .i64 (chkR x)) [Td.s ((SC.reg false c161r3).seq .ret)] e ⟨G,L,[]⟩:=fun e L hx=>by
  intros;refine gr 0 0 ?_;refine sJ c161r3.eq_1 ?_
  intros;refine rV ?_;simp only[push_cast,Nat.reduceBEq]
  rw[hx]
 intros;refine gr 4 38 ?_;refine sJ c161r1.eq_1 ?_
 refine(In_ok x.off G _ _).mono ?_;rintro _ _ ⟨rfl,rfl⟩;refine sI ?_
 refine gd (fun h1=>?_) (fun h1=>?_)
 ·refine sI ?_
  intros;refine gc ?_;refine sI ?_
  exact hbad _ _ _ (chkR_1 (.inl (by simpa using h1)))
 refine sI ?_
 refine(In_ok x.stamp G _ _).mono ?_;rintro _ _ ⟨rfl,rfl⟩;refine sI ?_
 refine gd (fun h2=>?_) (fun h2=>?_)
 ·refine sI ?_
  intros;refine gc ?_;refine sI ?_
  exact hbad _ _ _ (chkR_1 (.inr (.inl (by simpa using h2))))
 refine sI ?_
 refine gd (fun h3=>?_) (fun h3=>?_)
 ·refine sI ?_
  intros;refine gc ?_;refine sI ?_
  exact hbad _ _ _ (chkR_1 (.inr (.inr (.inl (by simp at h3;omega)))))
 refine sI ?_
 refine gd (fun h4=>?_) (fun h4=>?_)
 ·refine sI ?_
  intros;refine gc ?_;refine sI ?_
  exact hbad _ _ _ (chkR_1 (.inr (.inr (.inr (.inl (by simp at h4;omega))))))
 refine sI ?_
 have h1':inO x.off=true:=by simpa using h1
 have h2':inO x.stamp=true:=by simpa using h2
 have h3':x.key.size≤64:=by simp at h3;omega
 have h4':x.val.size≤64:=by simp at h4;omega
 refine gd (fun h5=>?_) (fun h5=>?_)
 ·refine sJ @bin_seq ?_
  refine gd (fun h6=>?_) (fun h6=>?_)
  ·refine sI ?_
   intros;refine gc ?_;refine sI ?_
   exact hbad _ _ _ (chkR_1 (.inr (.inr (.inr (.inr ⟨h5,.inl h6⟩)))))
  refine sJ @bin_sne ?_
  intros;refine gc ?_;refine sI ?_
  refine gb (fun h7=>?_) (fun h7=>?_)
  ·exact hbad _ _ _ (chkR_1 (.inr (.inr (.inr (.inr ⟨h5,.inr (by simpa using h7)⟩)))))
  ·(repeat first | refine go_skip ?_ | refine go_b ?_)
   refine hgood _ _ (if_pos ⟨h1',h2',h3',h4',fun h=>?_⟩)
   rcases h.2 with h | h
   ·rw[h6]at h;cases h
   ·simp[h]at h7
 ·refine sI ?_
  intros;refine gc ?_;refine sI ?_
  (repeat first | refine go_skip ?_ | refine go_b ?_)
  exact hgood _ _ (if_pos ⟨h1',h2',h3',h4',fun h=>by rw[h5]at h;cases h.1⟩)
theorem Check_ok(x:Rec)(G:Nat→Option Obj):FnS Tryz.prog 199 #[.agg (cellR x).toArray] G (.int .i64 (chkR x)):=by
 refine F199.fnS (by simp) (go_of ?_)
 unfold c199 cellR
 intros;refine gr 0 0 ?_;refine sJ c199r0.eq_1 ?_
 have hbad:∀ (fr:List Td) (e:Env) (L:List Kx.Item),chkR x=1→go none Tryz.prog 33 v199.1 v199.2 (retQ o199 fun v h=>v=.int .i64 (chkR x)) (Td.s ((SC.reg false c199r4).seq .ret) :: fr) e ⟨G,L,[]⟩:=fun fr e L hx=>by
  intros;refine gr 0 0 ?_;refine sJ c199r4.eq_1 ?_
  intros;refine rV ?_;simp only[push_cast,Nat.reduceBEq]
  rw[hx]
 intros;refine gr 5 8 ?_;refine sJ c199r1.eq_1 ?_
 refine(in_ok x.off G _ _).mono ?_;rintro _ _ ⟨rfl,rfl⟩;refine sI ?_
 intros;refine gc ?_;refine sI ?_
 refine gb (fun h1=>?_) (fun h1=>?_)
 ·(repeat first | refine go_skip ?_ | refine go_b ?_)
  intros;refine gc ?_;refine sI ?_
  refine gb (fun _=>?_) (fun h=>by rw[h1]at h;cases h)
  exact hbad _ _ _ (chkR_1 (.inl (by simpa using h1)))
 intros;refine gr 9 12 ?_;refine sJ c199r2.eq_1 ?_
 refine(in_ok x.stamp G _ _).mono ?_;rintro _ _ ⟨rfl,rfl⟩;refine sI ?_
 intros;refine gc ?_;refine sI ?_
 refine gb (fun h2=>?_) (fun h2=>?_)
 ·(repeat first | refine go_skip ?_ | refine go_b ?_)
  intros;refine gc ?_;refine sI ?_
  refine gb (fun _=>?_) (fun h=>by rw[h2]at h;cases h)
  exact hbad _ _ _ (chkR_1 (.inr (.inl (by simpa using h2))))
 have h1':inO x.off=true:=by simpa using h1
 have h2':inO x.stamp=true:=by simpa using h2
 intros;refine gr 13 20 ?_;refine sJ c199r3.eq_1 ?_
 intros;refine gc ?_;refine sI ?_
 refine gb (fun h3=>?_) (fun h3=>?_)
 ·have h3:=of_decide_eq_true h3
  by_cases h4:64 < x.key.size
  ·exact hbad _ _ _ (chkR_1 (.inr (.inr (.inl h4))))
  ·exact hbad _ _ _ (chkR_1 (.inr (.inr (.inr (.inl (by omega))))))
 have h3:=of_decide_eq_false h3
 have h3':x.key.size≤64:=by omega
 have h4':x.val.size≤64:=by omega
 have hbad2:∀ (fr:List Td) (e:Env) (L:List Kx.Item),chkR x=1→go none Tryz.prog 33 v199.1 v199.2 (retQ o199 fun v h=>v=.int .i64 (chkR x)) (Td.s ((SC.reg false c199r6).seq .ret) :: fr) e ⟨G,L,[]⟩:=fun fr e L hx=>by
  intros;refine gr 0 0 ?_;refine sJ c199r6.eq_1 ?_
  intros;refine rV ?_;simp only[push_cast,Nat.reduceBEq]
  rw[hx]
 have hgood:∀ (e:Env) (L:List Kx.Item),chkR x=0→go none Tryz.prog 33 v199.1 v199.2 (retQ o199 fun v h=>v=.int .i64 (chkR x)) [Td.s ((SC.reg false c199r7).seq .ret)] e ⟨G,L,[]⟩:=fun e L hx=>by
  intros;refine gr 0 0 ?_;refine sJ c199r7.eq_1 ?_
  intros;refine rV ?_;simp only[push_cast,Nat.reduceBEq]
  rw[hx]
 intros;refine gr 22 33 ?_;refine sJ c199r5.eq_1 ?_
 refine gd (fun h5=>?_) (fun h5=>?_)
 ·refine sJ @bin_seq ?_
  refine gd (fun h6=>?_) (fun h6=>?_)
  ·refine sI ?_
   intros;refine gc ?_;refine sI ?_
   exact hbad2 _ _ _ (chkR_1 (.inr (.inr (.inr (.inr ⟨h5,.inl h6⟩)))))
  refine sJ @bin_sne ?_
  intros;refine gc ?_;refine sI ?_
  refine gb (fun h7=>?_) (fun h7=>?_)
  ·exact hbad2 _ _ _ (chkR_1 (.inr (.inr (.inr (.inr ⟨h5,.inr (by simpa using h7)⟩)))))
  ·(repeat first | refine go_skip ?_ | refine go_b ?_)
   refine hgood _ _ (if_pos ⟨h1',h2',h3',h4',fun h=>?_⟩)
   rcases h.2 with h | h
   ·rw[h6]at h;cases h
   ·simp[h]at h7
 ·refine sI ?_
  intros;refine gc ?_;refine sI ?_
  (repeat first | refine go_skip ?_ | refine go_b ?_)
  exact hgood _ _ (if_pos ⟨h1',h2',h3',h4',fun h=>by rw[h5]at h;cases h.1⟩)
theorem F201:Fun Tryz.prog 201 46 v201 c201 o201:=Fun.mk' Tryz.func201 Tryz.ntmps201 (by kernel_rfl) (by kernel_rfl) s201 q201
theorem F163:Fun Tryz.prog 163 50 v163 c163 o163:=Fun.mk' Tryz.func163 Tryz.ntmps163 (by kernel_rfl) (by kernel_rfl) s163 q163
def prB(x:Rec)(base stamp:Int):List UInt8:=pvB (x.off - base)++pvB (x.stamp - stamp)++[if x.dead=true then 1 else 0]++ptB x.key++ptB x.val
def putR(x:Rec)(base stamp:Int):List UInt8 × Int:=if chkR x≠0 then([],chkR x)else if ¬ (inO base=true∧inO stamp=true)then([],1)else(prB x base stamp,0)
def OwnE(p:List UInt8 × Int)(L':List Kx.Item)(r:Value):Prop:=∃ u,r=.tuple #[u,.int .i64 p.2]∧OwnB p.1 L' u
theorem chk_small{x:Rec}(h:chkR x=0):(inO x.off=true∧inO x.stamp=true)∧x.key.size≤64∧x.val.size≤64:=by
 by_cases h0:inO x.off=true∧inO x.stamp=true∧x.key.size≤64∧x.val.size≤64∧¬ (x.dead=true∧(isE x.key=true∨isE x.val=false))
 ·exact⟨⟨h0.1,h0.2.1⟩,h0.2.2.1,h0.2.2.2.1⟩
 ·rw[chkR,if_neg h0]at h;cases h
theorem RPut_ok(x:Rec)(base stamp:Int)(G:Nat→Option Obj):FnO Tryz.prog 163 #[.agg (cellR x).toArray,.int .i64 base,.int .i64 stamp] G [] (fun _ L' r=>OwnE (putR x base stamp) L' r):=by
 refine F163.fnO (by simp) noRegs_nil (go_of ?_)
 unfold c163
 have hck:=RCheck_ok x
 unfold cellR at hck ⊢
 intros;refine gr 0 0 ?_;refine sJ c163r0.eq_1 ?_
 intros;refine gr 10 12 ?_;refine sJ c163r1.eq_1 ?_
 refine(hck G _ _).mono ?_;rintro _ _ ⟨rfl,rfl⟩;refine sI ?_
 intros;refine gr 12 13 ?_;refine sJ c163r2.eq_1 ?_
 intros;refine gc ?_;refine sI ?_
 refine gb (fun h1=>?_) (fun h1=>?_)
 ·intros;refine gr 14 15 ?_;refine sJ c163r3.eq_1 ?_
  (intros;try refine go_st ?_)
  refine go_ghost (ghost_nil none 5 1) ?_
  refine go_ret (retQ_o _ rfl (.cons_cons _ (List.nil_sublist _)) (noRegs_row noRegs_nil) ?_)
  rw[putR,if_pos (by simpa using h1)]
  exact⟨_,rfl,[],.nil,rfl⟩
 have h1:chkR x=0:=by simpa using h1
 have hbad:∀ (fr:List Td) (e:Env) (L:List Kx.Item),putR x base stamp=([],1)→go none Tryz.prog 50 v163.1 v163.2 (retQ o163 fun v h=>OwnE (putR x base stamp) h.L v) (Td.s ((SC.reg false c163r5).seq .ret) :: fr) e ⟨G,L,[]⟩:=fun fr e L hx=>by
  intros;refine gr 0 0 ?_;refine sJ c163r5.eq_1 ?_
  (intros;try refine go_st ?_)
  refine go_ghost (ghost_nil none 5 1) ?_
  refine go_ret (retQ_o _ rfl (.cons_cons _ (List.nil_sublist _)) (noRegs_row noRegs_nil) ?_)
  rw[hx]
  exact⟨_,rfl,[],.nil,rfl⟩
 have hpb:∀ (h:¬ (inO base=true∧inO stamp=true)),putR x base stamp=([],1):=fun h=>by rw[putR,if_neg (by simp[h1]),if_pos h]
 intros;refine gr 15 22 ?_;refine sJ c163r4.eq_1 ?_
 refine(In_ok base G _ _).mono ?_;rintro _ _ ⟨rfl,rfl⟩;refine sI ?_
 refine gd (fun h2=>?_) (fun h2=>?_)
 ·refine sI ?_
  intros;refine gc ?_;refine sI ?_
  exact hbad _ _ _ (hpb fun h=>by rw[h.1]at h2;cases h2)
 refine sI ?_
 refine(In_ok stamp G _ _).mono ?_;rintro _ _ ⟨rfl,rfl⟩;refine sI ?_
 intros;refine gc ?_;refine sI ?_
 refine gb (fun h3=>?_) (fun h3=>?_)
 ·exact hbad _ _ _ (hpb fun h=>by rw[h.2]at h3;cases h3)
 have h2:inO base=true:=by simpa using h2
 have h3:inO stamp=true:=by simpa using h3
 obtain⟨⟨ho,hst⟩,hk,hv⟩:=chk_small h1
 have hput:putR x base stamp=(prB x base stamp,0):=by rw[putR,if_neg (by simp[h1]),if_neg (by simp[h2,h3])]
 simp[inO]at h2 h3 ho hst
 have w1:IntKind.i64.wrap (x.off - base)=x.off - base:=by rw[w64_id] <;> omega
 have w2:IntKind.i64.wrap (x.stamp - stamp)=x.stamp - stamp:=by rw[w64_id] <;> omega
 have i1:I64 (x.off - base):=by unfold I64;omega
 have i2:I64 (x.stamp - stamp):=by unfold I64;omega
 have l1:=pvB_len (x.off - base)
 have l2:=pvB_len (x.stamp - stamp)
 (repeat first | refine go_skip ?_ | refine go_b ?_)
 intros;refine gr 24 28 ?_;refine sJ2 c163r6.eq_1 @w1 ?_
 refine(RPutVar_ok [] (x.off - base) i1 _ G SB.nil (by simp) _ []).mono ?_
 rintro r h' ⟨G1,L',rfl,hg1,ys,hys,rfl⟩
 simp only[List.nil_append]at hys ⊢
 refine sI ?_
 intros;refine gr 28 34 ?_;refine sJ2 c163r7.eq_1 @w2 ?_
 refine callsH_gx F162.enters (gx_slv_at [] _ (by decide) hys) ?_
 rintro h' ⟨G2,rfl,hg2,hv2⟩
 refine(RPutVar_ok _ (x.stamp - stamp) i2 _ G2 hv2 (by omega) _ []).mono ?_
 rintro r h' ⟨G3,L',rfl,hg3,ys3,hys3,rfl⟩
 refine sI ?_
 have hrest:∀ (e:Env) (L:List Kx.Item) (u:Value) (zc:List Value) (b:UInt8),b=(if x.dead=true then 1 else 0)→Cells UE 1 (pvB (x.off - base)++pvB (x.stamp - stamp)++[b]) zc→e 9=u →
   go none Tryz.prog 50 v163.1 v163.2 (retQ o163 fun v h=>OwnE (putR x base stamp) h.L v) [Td.s ((SC.reg false c163r11).seq ((SC.reg false c163r12).seq .ret))] e ⟨G3,[.row u 5 1 (pvB (x.off - base)++pvB (x.stamp - stamp)++[b]).length zc,.reg 3 [.int .i64 x.off,.string x.key,.string x.val,.bool x.dead,.int .i64 x.stamp]],[]⟩:=fun e L u zc b hb hzc e9=>by
  refine go_keep [9] ?_
  refine sJ @e9 ?_
  intros;refine gr 42 46 ?_;refine sJ c163r11.eq_1 ?_
  refine callsH_gx F185.enters (gx_slv_at [] _ (by decide) hzc) ?_
  rintro h' ⟨G4,rfl,hg4,hv4⟩
  refine(RPutText_ok _ x.key _ G4 hv4 (by simp;omega) (by omega) _ []).mono ?_
  rintro r h' ⟨G5,L',rfl,hg5,ys5,hys5,rfl⟩
  refine sI ?_
  have l3:=ptB_len x.key
  intros;refine gr 46 50 ?_;refine sJ c163r12.eq_1 ?_
  refine callsH_gx F185.enters (gx_slv_at [] _ (by decide) hys5) ?_
  rintro h' ⟨G6,rfl,hg6,hv6⟩
  refine(RPutText_ok _ x.val _ G6 hv6 (by simp;omega) (by omega) _ []).mono ?_
  rintro r h' ⟨G7,L',rfl,hg7,ys7,hys7,rfl⟩
  refine sI ?_
  (intros;try refine go_st ?_)
  refine go_ret (retQ_o _ rfl (.cons_cons _ (List.nil_sublist _)) (noRegs_row noRegs_nil) ?_)
  rw[hput]
  subst hb
  exact⟨_,rfl,ys7,hys7,rfl⟩
 intros;refine gr 0 0 ?_;refine sJ c163r8.eq_1 ?_
 intros;refine gc ?_;refine sI ?_
 refine gb (fun h5=>?_) (fun h5=>?_)
 ·intros;refine gr 36 39 ?_;refine sJ c163r9.eq_1 ?_
  intro bk hbk
  refine app8 (L1:=[]) (L2:=[_]) (x:=1) rfl rfl hys3 (by simp;omega) fun A' c' zc' hzc=>?_
  refine sI ?_
  intro _
  refine go_ghost (ghost_sub (.cons _ (List.Sublist.refl _))) ?_
  (repeat first | refine go_skip ?_ | refine go_b ?_)
  refine hrest _ [] _ _ 1 (by rw[if_pos h5]) hzc ?_
  (refine sI ?_;try with_reducible exact True.intro)
 ·intros;refine gr 39 42 ?_;refine sJ c163r10.eq_1 ?_
  intro bk hbk
  refine app8 (L1:=[]) (L2:=[_]) (x:=0) rfl rfl hys3 (by simp;omega) fun A' c' zc' hzc=>?_
  refine sI ?_
  intro _
  refine go_ghost (ghost_sub (.cons _ (List.Sublist.refl _))) ?_
  (repeat first | refine go_skip ?_ | refine go_b ?_)
  refine hrest _ [] _ _ 0 (by rw[if_neg (by rw[h5];simp)]) hzc ?_
  (refine sI ?_;try with_reducible exact True.intro)
theorem Put_ok(x:Rec)(base stamp:Int)(G:Nat→Option Obj):FnO Tryz.prog 201 #[.agg (cellR x).toArray,.int .i64 base,.int .i64 stamp] G [] (fun _ L' r=>OwnE (putR x base stamp) L' r):=by
 refine F201.fnO (by simp) noRegs_nil (go_of ?_)
 unfold c201
 have hck:=Check_ok x
 unfold cellR at hck ⊢
 intros;refine gr 0 0 ?_;refine sJ c201r0.eq_1 ?_
 intros;refine gr 11 13 ?_;refine sJ c201r1.eq_1 ?_
 refine(hck G _ _).mono ?_;rintro _ _ ⟨rfl,rfl⟩;refine sI ?_
 intros;refine gr 13 14 ?_;refine sJ c201r2.eq_1 ?_
 intros;refine gc ?_;refine sI ?_
 refine gb (fun h1=>?_) (fun h1=>?_)
 ·intros;refine gr 15 16 ?_;refine sJ c201r3.eq_1 ?_
  (intros;try refine go_st ?_)
  refine go_ghost (ghost_nil none 5 1) ?_
  refine go_ret (retQ_o _ rfl (.cons_cons _ (List.nil_sublist _)) (noRegs_row noRegs_nil) ?_)
  rw[putR,if_pos (by simpa using h1)]
  exact⟨_,rfl,[],.nil,rfl⟩
 have h1:chkR x=0:=by simpa using h1
 have hbad:∀ (fr:List Td) (e:Env) (L:List Kx.Item),putR x base stamp=([],1)→go none Tryz.prog 46 v201.1 v201.2 (retQ o201 fun v h=>OwnE (putR x base stamp) h.L v) (Td.s ((SC.reg false c201r5).seq .ret) :: fr) e ⟨G,L,[]⟩:=fun fr e L hx=>by
  intros;refine gr 0 0 ?_;refine sJ c201r5.eq_1 ?_
  (intros;try refine go_st ?_)
  refine go_ghost (ghost_nil none 5 1) ?_
  refine go_ret (retQ_o _ rfl (.cons_cons _ (List.nil_sublist _)) (noRegs_row noRegs_nil) ?_)
  rw[hx]
  exact⟨_,rfl,[],.nil,rfl⟩
 have hpb:∀ (h:¬ (inO base=true∧inO stamp=true)),putR x base stamp=([],1):=fun h=>by rw[putR,if_neg (by simp[h1]),if_pos h]
 (repeat first | refine go_skip ?_ | refine go_b ?_)
 intros;refine gr 16 23 ?_;refine sJ c201r4.eq_1 ?_
 refine(in_ok base G _ _).mono ?_;rintro _ _ ⟨rfl,rfl⟩;refine sI ?_
 refine gd (fun h2=>?_) (fun h2=>?_)
 ·refine sI ?_
  intros;refine gc ?_;refine sI ?_
  exact hbad _ _ _ (hpb fun h=>by rw[h.1]at h2;cases h2)
 refine sI ?_
 refine(in_ok stamp G _ _).mono ?_;rintro _ _ ⟨rfl,rfl⟩;refine sI ?_
 intros;refine gc ?_;refine sI ?_
 refine gb (fun h3=>?_) (fun h3=>?_)
 ·exact hbad _ _ _ (hpb fun h=>by rw[h.2]at h3;cases h3)
 have h2:inO base=true:=by simpa using h2
 have h3:inO stamp=true:=by simpa using h3
 obtain⟨⟨ho,hst⟩,hk,hv⟩:=chk_small h1
 have hput:putR x base stamp=(prB x base stamp,0):=by rw[putR,if_neg (by simp[h1]),if_neg (by simp[h2,h3])]
 simp[inO]at h2 h3 ho hst
 have w1:IntKind.i64.wrap (x.off - base)=x.off - base:=by rw[w64_id] <;> omega
 have w2:IntKind.i64.wrap (x.stamp - stamp)=x.stamp - stamp:=by rw[w64_id] <;> omega
 have i1:I64 (x.off - base):=by unfold I64;omega
 have i2:I64 (x.stamp - stamp):=by unfold I64;omega
 have l1:=pvB_len (x.off - base)
 have l2:=pvB_len (x.stamp - stamp)
 (repeat first | refine go_skip ?_ | refine go_b ?_)
 have hrest:∀ (e:Env) (b:UInt8),b=(if x.dead=true then 1 else 0)→e 1=.int .i64 base→e 2=.int .i64 stamp→e 9=.int .u8 (b.toNat:Int) →
   go none Tryz.prog 46 v201.1 v201.2 (retQ o201 fun v h=>OwnE (putR x base stamp) h.L v) [Td.s ((SC.rgX c201r9).seq ((SC.rgX c201r10).seq .ret))] e ⟨G,[.reg 3 [.int .i64 x.off,.string x.key,.string x.val,.bool x.dead,.int .i64 x.stamp]],[]⟩:=fun e b hb e1 e2 e9=>by
  refine go_keep [1,2,9] ?_
  refine sJ3 @e1 @e2 @e9 ?_
  (intros;try refine go_st ?_);refine go_x _ (List.Sublist.refl _) (by decide) ?_;refine sJ3 c201r9.eq_1 @w1 @w2 ?_
  refine(PutVar_ok [] (x.off - base) i1 _ G SB.nil (by simp) _ []).mono ?_
  rintro r h' ⟨G1,L',rfl,hg1,ys,hys,rfl⟩
  simp only[List.nil_append]at hys ⊢
  refine⟨grow_L hg1 (.cons _ (List.Sublist.refl _)),?_⟩
  refine sI ?_
  refine callsH_gx F200.enters (gx_slv_at [] _ (by decide) hys) ?_
  rintro h' ⟨G2,rfl,hg2,hv2⟩
  refine(PutVar_ok _ (x.stamp - stamp) i2 _ G2 hv2 (by omega) _ []).mono ?_
  rintro r h' ⟨G3,L',rfl,hg3,ys3,hys3,rfl⟩
  refine⟨grow_L (hg1.trans (hg2.trans hg3)) (.cons _ (List.Sublist.refl _)),?_⟩
  refine sI ?_
  (intros;try refine go_st ?_);refine go_x _ (.cons _ (List.Sublist.refl _)) (by decide) ?_;refine sJ c201r10.eq_1 ?_
  intro bk hbk
  refine⟨grow_L (fun _ _ h=>h) (.cons _ (.cons _ (List.Sublist.refl _))),?_⟩
  refine sI ?_
  refine app8 (L1:=[]) (L2:=[_]) (x:=b) rfl rfl hys3 (by simp;omega) fun A' c' zc' hzc=>?_
  refine sI ?_
  refine⟨grow_L (fun _ _ h=>h) (.cons _ (.cons _ (List.Sublist.refl _))),?_⟩
  refine sI ?_
  refine callsH_gx F216.enters (gx_slv_at [_] _ (by decide) hzc) ?_
  rintro h' ⟨G4,rfl,hg4,hv4⟩
  refine(PutText_ok _ x.key _ G4 hv4 (by simp;omega) (by omega) _ []).mono ?_
  rintro r h' ⟨G5,L',rfl,hg5,ys5,hys5,rfl⟩
  refine⟨grow_L (hg4.trans hg5) (.cons _ (.cons _ (List.Sublist.refl _))),?_⟩
  refine sI ?_
  have l3:=ptB_len x.key
  refine callsH_gx F216.enters (gx_slv_at [] _ (by decide) hys5) ?_
  rintro h' ⟨G6,rfl,hg6,hv6⟩
  refine(PutText_ok _ x.val _ G6 hv6 (by simp;omega) (by omega) _ []).mono ?_
  rintro r h' ⟨G7,L',rfl,hg7,ys7,hys7,rfl⟩
  refine⟨grow_L (hg4.trans (hg5.trans (hg6.trans hg7))) (.cons _ (.cons _ (List.Sublist.refl _))),?_⟩
  refine sI ?_
  (intros;try refine go_st ?_)
  refine go_ret (retQ_o _ rfl (.cons_cons _ (List.nil_sublist _)) (noRegs_row noRegs_nil) ?_)
  rw[hput]
  subst hb
  exact⟨_,rfl,ys7,hys7,rfl⟩
 intros;refine gr 0 0 ?_;refine sJ c201r6.eq_1 ?_
 intros;refine gr 0 0 ?_;refine sJ c201r7.eq_1 ?_
 intros;refine gc ?_;refine sI ?_
 refine gb (fun h5=>?_) (fun h5=>?_)
 ·intros;refine gr 0 0 ?_;refine sJ c201r8.eq_1 ?_
  (repeat first | (with_reducible intro _) | refine go_skip ?_ | refine go_b ?_)
  refine hrest _ 1 (by rw[if_pos h5]) ?_ ?_ ?_ <;> (refine sI ?_;try with_reducible exact True.intro)
  rfl
 ·(repeat first | refine go_skip ?_ | refine go_b ?_)
  refine hrest _ 0 (by rw[if_neg (by rw[h5];simp)]) ?_ ?_ ?_ <;> (refine sI ?_;try with_reducible exact True.intro)
  rfl
theorem F117:Fun Tryz.prog 117 14 v117 c117 o117:=Fun.mk' Tryz.func117 Tryz.ntmps117 (by kernel_rfl) (by kernel_rfl) s117 q117
theorem F152:Fun Tryz.prog 152 25 v152 c152 o152:=Fun.mk' Tryz.func152 Tryz.ntmps152 (by kernel_rfl) (by kernel_rfl) s152 q152
theorem F153:Fun Tryz.prog 153 25 v153 c153 o153:=Fun.mk' Tryz.func153 Tryz.ntmps153 (by kernel_rfl) (by kernel_rfl) s153 q153
theorem F72:Fun Tryz.prog 72 12 v72 c72 o72:=Fun.mk' Tryz.func72 Tryz.ntmps72 (by kernel_rfl) (by kernel_rfl) s72 q72
def IE(x:Int)(cs:List Value):Prop:=cs=[.int .i64 x]∧I64 x
def rng(m n:Int):Bool:=decide (0≤n) && decide (n≤m)
theorem rin_ok(n m:Int)(G:Nat→Option Obj):FnS Tryz.prog 72 #[.int .i64 n,.int .i64 m] G (.bool (rng m n)):=by
 refine F72.fnS (by simp) (go_of ?_)
 unfold c72
 intros;refine gr 0 0 ?_;refine sJ c72r0.eq_1 ?_
 intros;refine gr 5 12 ?_;refine sJ c72r1.eq_1 ?_
 refine gd (fun h1=>?_) (fun h1=>?_)
 ·refine sI ?_
  intros;refine rV ?_;simp only[push_cast,Nat.reduceBEq]
  have:0≤n:=by simpa using h1
  simp[rng,this]
 ·refine sI ?_
  intros;refine rV ?_;simp only[push_cast,Nat.reduceBEq]
  have:¬ 0≤n:=by simpa using h1
  simp[rng,this]
theorem take1{l:List Int}{k:Nat}{x y:Int}(h0:l[0]?=some y)(hx:l[k]?=some x)(f:Int→Int→Int)(hk:0 < k):((l.drop 1).take k).foldl f y=f (((l.drop 1).take (k - 1)).foldl f y) x:=by
 have hl:=List.getElem?_eq_some_iff.1 hx
 obtain⟨k,rfl⟩:∃ j,k=j+1:=⟨k - 1,by omega⟩
 have h1:(l.drop 1)[k]?=some x:=by rw[List.getElem?_drop,Nat.add_comm];exact hx
 have h2:=List.getElem?_eq_some_iff.1 h1
 rw[List.take_succ_eq_append_getElem h2.1,h2.2]
 simp
theorem Min_ok(l:List Int)(y:Int)(h0:l[0]?=some y)(v:Value)(G:Nat→Option Obj)(hl:SlV G IE 1 v l):FnS Tryz.prog 152 #[v] G (.int .i64 ((l.drop 1).foldl min y)):=by
 refine F152.fnS (by simp) (go_of ?_)
 obtain⟨A,c,rfl,hc,hm,hA⟩:=hl
 have hpos:=(List.getElem?_eq_some_iff.1 h0).1
 unfold c152
 intros;refine gr 0 0 ?_;refine sJ c152r0.eq_1 ?_
 intros;refine gr 5 7 ?_;refine sJ c152r1.eq_1 ?_
 intros;refine gc ?_;refine sI ?_
 refine gb (fun h1=>by simp at h1;omega) (fun h1=>?_)
 (repeat first | refine go_skip ?_ | refine go_b ?_)
 intros;refine gr 9 12 ?_;refine sJ c152r2.eq_1 ?_
 refine hA.x_l1 h0 rfl rfl ?_
 rintro a1 ha1 u1 ⟨hu,-⟩
 cases hu
 refine sI ?_
 intros;refine gr 0 0 ?_;refine sJ c152r3.eq_1 ?_
 (intros;try refine go_st ?_)
 refine go_loop (fun e h=>∃ k:Nat,(0 < k∧k≤l.length)∧e 4=.int .i64 k∧e 0=.slice A l.length c∧e 3=.int .i64 (((l.drop 1).take (k - 1)).foldl min y)∧h=⟨G,[],[]⟩) (fun e h=>l.length - iv (e 4)) ?_ ?_
 ·exact⟨1,⟨by omega,by omega⟩,by refine sI ?_;rfl,eE,by refine sI ?_;rfl,rfl⟩
 ·rintro e h ⟨k,⟨hk0,hk⟩,e4,e0,e3,rfl⟩
  refine go_keep [0,3,4] ?_
  refine sJ3 @e0 @e3 @e4 ?_
  intros;refine gr 12 15 ?_;refine sJ c152r4.eq_1 ?_
  intros;refine gc ?_;refine sI ?_
  refine gb (fun ht=>?_) (fun ht=>?_)
  ·have hkl:k < l.length:=by simpa using ht
   have hw3:=inc_i k c (by omega) hm
   obtain⟨x,hx⟩:∃ x,l[k]?=some x:=⟨l[k],List.getElem?_eq_getElem (by omega)⟩
   (repeat first | refine go_skip ?_ | refine go_b ?_)
   intros;refine gr 18 24 ?_;refine sJ c152r5.eq_1 ?_
   refine hA.x_l1 hx rfl rfl ?_
   rintro a1 ha1 u1 ⟨hu,-⟩
   cases hu
   refine sI ?_
   intros;refine gr 16 18 ?_;refine sJ2 c152r6.eq_1 @hw3 ?_
   (intros;try refine go_st ?_)
   refine go_l ⟨⟨k+1,⟨by omega,by omega⟩,eE,eE,by rw[Nat.add_sub_cancel,take1 h0 hx min hk0];(refine sI ?_;try with_reducible exact True.intro),rfl⟩,?_⟩
   refine sI ?_
   omega
  ·have hkl:k=l.length:=by simp at ht;omega
   subst hkl
   refine go_exit ?_
   refine sI ?_
   intros;refine gr 24 25 ?_;refine sJ c152r7.eq_1 ?_
   intros;refine rV ?_;simp only[push_cast,Nat.reduceBEq]
   rw[List.take_of_length_le (by simp)]
theorem Max_ok(l:List Int)(y:Int)(h0:l[0]?=some y)(v:Value)(G:Nat→Option Obj)(hl:SlV G IE 1 v l):FnS Tryz.prog 153 #[v] G (.int .i64 ((l.drop 1).foldl max y)):=by
 refine F153.fnS (by simp) (go_of ?_)
 obtain⟨A,c,rfl,hc,hm,hA⟩:=hl
 have hpos:=(List.getElem?_eq_some_iff.1 h0).1
 unfold c153
 intros;refine gr 0 0 ?_;refine sJ c153r0.eq_1 ?_
 intros;refine gr 5 7 ?_;refine sJ c153r1.eq_1 ?_
 intros;refine gc ?_;refine sI ?_
 refine gb (fun h1=>by simp at h1;omega) (fun h1=>?_)
 (repeat first | refine go_skip ?_ | refine go_b ?_)
 intros;refine gr 9 12 ?_;refine sJ c153r2.eq_1 ?_
 refine hA.x_l1 h0 rfl rfl ?_
 rintro a1 ha1 u1 ⟨hu,-⟩
 cases hu
 refine sI ?_
 intros;refine gr 0 0 ?_;refine sJ c153r3.eq_1 ?_
 (intros;try refine go_st ?_)
 refine go_loop (fun e h=>∃ k:Nat,(0 < k∧k≤l.length)∧e 4=.int .i64 k∧e 0=.slice A l.length c∧e 3=.int .i64 (((l.drop 1).take (k - 1)).foldl max y)∧h=⟨G,[],[]⟩) (fun e h=>l.length - iv (e 4)) ?_ ?_
 ·exact⟨1,⟨by omega,by omega⟩,by refine sI ?_;rfl,eE,by refine sI ?_;rfl,rfl⟩
 ·rintro e h ⟨k,⟨hk0,hk⟩,e4,e0,e3,rfl⟩
  refine go_keep [0,3,4] ?_
  refine sJ3 @e0 @e3 @e4 ?_
  intros;refine gr 12 15 ?_;refine sJ c153r4.eq_1 ?_
  intros;refine gc ?_;refine sI ?_
  refine gb (fun ht=>?_) (fun ht=>?_)
  ·have hkl:k < l.length:=by simpa using ht
   have hw3:=inc_i k c (by omega) hm
   obtain⟨x,hx⟩:∃ x,l[k]?=some x:=⟨l[k],List.getElem?_eq_getElem (by omega)⟩
   (repeat first | refine go_skip ?_ | refine go_b ?_)
   intros;refine gr 18 24 ?_;refine sJ c153r5.eq_1 ?_
   refine hA.x_l1 hx rfl rfl ?_
   rintro a1 ha1 u1 ⟨hu,-⟩
   cases hu
   refine sI ?_
   intros;refine gr 16 18 ?_;refine sJ2 c153r6.eq_1 @hw3 ?_
   (intros;try refine go_st ?_)
   refine go_l ⟨⟨k+1,⟨by omega,by omega⟩,eE,eE,by rw[Nat.add_sub_cancel,take1 h0 hx max hk0];(refine sI ?_;try with_reducible exact True.intro),rfl⟩,?_⟩
   refine sI ?_
   omega
  ·have hkl:k=l.length:=by simp at ht;omega
   subst hkl
   refine go_exit ?_
   refine sI ?_
   intros;refine gr 24 25 ?_;refine sJ c153r7.eq_1 ?_
   intros;refine rV ?_;simp only[push_cast,Nat.reduceBEq]
   rw[List.take_of_length_le (by simp)]
theorem min_all(m:Int):∀ (l:List Int) (y:Int),m≤l.foldl min y↔m≤y∧∀ x∈l,m≤x
 | [],y=>by simp
 | x :: l,y=>by
  have h1:m≤min y x↔m≤y∧m≤x:=by omega
  rw[List.foldl_cons,min_all m l,h1,and_assoc]
  simp
theorem max_all(m:Int):∀ (l:List Int) (y:Int),l.foldl max y≤m↔y≤m∧∀ x∈l,x≤m
 | [],y=>by simp
 | x :: l,y=>by
  have h1:max y x≤m↔y≤m∧x≤m:=by omega
  rw[List.foldl_cons,max_all m l,h1,and_assoc]
  simp
theorem within_all(m:Int)(l:List Int)(y:Int):(decide (0≤l.foldl min y) && decide (l.foldl max y≤m))=(y :: l).all (rng m):=by
 rw[Bool.eq_iff_iff]
 simp only[Bool.and_eq_true,decide_eq_true_eq,min_all,max_all,List.all_eq_true,rng,List.mem_cons]
 constructor
 ·rintro⟨⟨h1,h2⟩,h3,h4⟩ x (rfl | hx)
  ·exact⟨h1,h3⟩
  ·exact⟨h2 x hx,h4 x hx⟩
 ·intro h
  exact⟨⟨(h y (.inl rfl)).1,fun x hx=>(h x (.inr hx)).1⟩,(h y (.inl rfl)).2,fun x hx=>(h x (.inr hx)).2⟩
theorem within_ok(m:Int)(y:Int)(l:List Int)(v:Value)(G:Nat→Option Obj)(hl:SlV G IE 1 v (y :: l)):FnS Tryz.prog 117 #[.int .i64 m,v] G (.bool ((y :: l).all (rng m))):=by
 refine F117.fnS (by simp) (go_of ?_)
 rw[← within_all]
 unfold c117
 intros;refine gr 0 0 ?_;refine sJ c117r0.eq_1 ?_
 intros;refine gr 5 14 ?_;refine sJ c117r1.eq_1 ?_
 refine(Min_ok (y :: l) y rfl v G hl _ _).mono ?_;rintro _ _ ⟨rfl,rfl⟩;refine sI ?_
 refine gd (fun h1=>?_) (fun h1=>?_)
 ·refine sI ?_
  refine(Max_ok (y :: l) y rfl v G hl _ _).mono ?_;rintro _ _ ⟨rfl,rfl⟩;refine sI ?_
  intros;refine rV ?_;simp only[push_cast,Nat.reduceBEq]
  have h1:0≤l.foldl min y:=by simpa using h1
  simp[h1]
 ·refine sI ?_
  intros;refine rV ?_;simp only[push_cast,Nat.reduceBEq]
  have h1:¬ 0≤l.foldl min y:=by simpa using h1
  simp[h1]
theorem F179:Fun Tryz.prog 179 131 v179 c179 o179:=Fun.mk' Tryz.func179 Tryz.ntmps179 (by kernel_rfl) (by kernel_rfl) s179 q179
structure Batch where
 base:Int
 last:Int
 src:Int
 epoch:Int
 pid:Int
 gen:Int
 seq:Int
 txn:Bool
 ctl:Int
 recs:List Rec
def cellH(x:Batch)(v:Value):List Value:=[.int .i64 x.base,.int .i64 x.last,.int .i64 x.src,.int .i64 x.epoch,.int .i64 x.pid,.int .i64 x.gen,.int .i64 x.seq,.bool x.txn,.int .i64 x.ctl,v]
def BE(G:Nat→Option Obj)(x:Batch)(cs:List Value):Prop :=
 ∃ A c,cs=cellH x (.slice A x.recs.length c)∧(x.recs.length≤c∧c≤maxLen∧SlA G RR 5 A x.recs)∧I64 x.base∧I64 x.last∧I64 x.src∧I64 x.epoch∧I64 x.pid∧I64 x.gen∧I64 x.seq∧I64 x.ctl
theorem BE.le{G G':Nat→Option Obj}(hg:Gle G G'){x:Batch}{cs:List Value}(h:BE G x cs):BE G' x cs:=by
 obtain⟨A,c,h1,⟨h2,h3,h4⟩,h5⟩:=h
 exact⟨A,c,h1,⟨h2,h3,h4.le hg fun _ _ h=>h⟩,h5⟩
def rowF(last:Int):Int→List Rec→Bool
 | _,[]=>true
 | next,r :: rs=>decide (chkR r=0) && decide (next≤r.off) && decide (r.off≤last) && rowF last (r.off+1) rs
def Form(b:Batch):Prop :=
 (rng 1099511627776 b.base=true∧rng 1099511627776 b.last=true∧rng 1099511627776 b.src=true)∧(rng 1048576 b.epoch=true∧rng 1048576 b.gen=true∧rng 1048576 b.seq=true) ∧
  (b.base≤b.last∧b.last - b.base < 16∧b.src+(b.last - b.base)≤1099511627776∧b.seq+(b.last - b.base)≤1048576)∧(-1≤b.pid∧b.pid≤1099511627776)∧(b.pid=-1→b.gen=0∧b.seq=0∧b.txn=false∧b.ctl=0) ∧
  ((b.ctl=0∧rowF b.last b.base b.recs=true)∨((b.ctl=1∨b.ctl=2)∧b.last - b.base=0∧b.recs=[]∧b.txn=true))
instance decForm (b:Batch):Decidable (Form b):=by
 unfold Form
 infer_instance
theorem within_row(m:Int)(y:Int)(l:List Int)(v:Value)(n:Nat)(ys:List Value)(hc:Cells IE 1 (y :: l) ys)(G:Nat→Option Obj)(L:List Kx.Item)(D:List Nat):
  CallsH Tryz.prog 117 #[.int .i64 m,v] ⟨G,.row v 3 1 n ys :: L,D⟩ fun r h'=>r=.bool ((y :: l).all (rng m))∧h'=⟨G,.row v 3 1 n ys :: L,D⟩ :=
 lend1 (E:=IE) (xs:=y :: l) (R:=fun r=>r=.bool ((y :: l).all (rng m))) F117.enters (by decide) hc fun G' hg hx=>by
  have:=within_ok m y l v G' hx L D
  simpa using this
theorem cells3{a b c:Int}(ha:I64 a)(hb:I64 b)(hc:I64 c):Cells IE 1 [a,b,c] [.int .i64 a,.int .i64 b,.int .i64 c] :=
 .cons (cs:=[.int .i64 a]) ⟨rfl,ha⟩ rfl (.cons (cs:=[.int .i64 b]) ⟨rfl,hb⟩ rfl (.one (cs:=[.int .i64 c]) ⟨rfl,hc⟩ rfl))
theorem formed_ok(x:Batch)(cs:List Value)(G:Nat→Option Obj)(hx:BE G x cs):FnS Tryz.prog 179 #[.agg cs.toArray] G (.bool (decide (Form x))):=by
 obtain⟨A,c,rfl,⟨hc,hm,hA⟩,i1,i2,i3,i4,i5,i6,i7,i8⟩:=hx
 refine F179.fnS (by simp) (go_of ?_)
 unfold c179 cellH
 intros;refine gr 0 0 ?_;refine sJ c179r0.eq_1 ?_
 have hbad:∀ (fr:List Td) (e:Env) (L:List Kx.Item),¬ Form x→go none Tryz.prog 131 v179.1 v179.2 (retQ o179 fun v h=>v=.bool (decide (Form x))) (Td.s ((SC.reg false c179r2).seq .ret) :: fr) e ⟨G,L,[]⟩:=fun fr e L hx=>by
  intros;refine gr 0 0 ?_;refine sJ c179r2.eq_1 ?_
  intros;refine rV ?_;simp only[push_cast,Nat.reduceBEq]
  rw[decide_eq_false hx]
 intros;refine gr 8 26 ?_;refine sJ c179r1.eq_1 ?_
 intro b1 hb1
 refine(within_row 1099511627776 _ _ _ _ _ (cells3 i1 i2 i3) _ _ _).mono ?_;rintro _ _ ⟨rfl,rfl⟩;refine sI ?_
 refine gd (fun h1=>?_) (fun h1=>?_)
 ·refine sI ?_
  intros;refine gc ?_;refine sI ?_
  refine hbad _ _ _ fun h=>?_
  simp[h.1.1,h.1.2.1,h.1.2.2]at h1
 refine sI ?_
 intro b2 hb2
 refine(within_row 1048576 _ _ _ _ _ (cells3 i4 i6 i7) _ _ _).mono ?_;rintro _ _ ⟨rfl,rfl⟩;refine sI ?_
 intros;refine gc ?_;refine sI ?_
 refine gb (fun h2=>?_) (fun h2=>?_)
 ·refine hbad _ _ _ fun h=>?_
  simp[h.2.1.1,h.2.1.2.1,h.2.1.2.2]at h2
 have h1:rng 1099511627776 x.base=true∧rng 1099511627776 x.last=true∧rng 1099511627776 x.src=true:=by simpa using h1
 have h2:rng 1048576 x.epoch=true∧rng 1048576 x.gen=true∧rng 1048576 x.seq=true:=by simpa using h2
 have h1':=h1
 have h2':=h2
 simp[rng]at h1' h2'
 have w1:IntKind.i64.wrap (x.last - x.base)=x.last - x.base:=by rw[w64_id] <;> omega
 (repeat first | refine go_skip ?_ | refine go_b ?_)
 intros;refine gr 28 32 ?_;refine sJ2 c179r3.eq_1 @w1 ?_
 have hb5:∀ (fr:List Td) (e:Env) (L:List Kx.Item),¬ Form x→go none Tryz.prog 131 v179.1 v179.2 (retQ o179 fun v h=>v=.bool (decide (Form x))) (Td.s ((SC.reg false c179r5).seq .ret) :: fr) e ⟨G,L,[]⟩:=fun fr e L hx=>by
  intros;refine gr 0 0 ?_;refine sJ c179r5.eq_1 ?_
  intros;refine rV ?_;simp only[push_cast,Nat.reduceBEq]
  rw[decide_eq_false hx]
 have hb7:∀ (fr:List Td) (e:Env) (L:List Kx.Item),¬ Form x→go none Tryz.prog 131 v179.1 v179.2 (retQ o179 fun v h=>v=.bool (decide (Form x))) (Td.s ((SC.reg false c179r7).seq .ret) :: fr) e ⟨G,L,[]⟩:=fun fr e L hx=>by
  intros;refine gr 0 0 ?_;refine sJ c179r7.eq_1 ?_
  intros;refine rV ?_;simp only[push_cast,Nat.reduceBEq]
  rw[decide_eq_false hx]
 have hb9:∀ (fr:List Td) (e:Env) (L:List Kx.Item),¬ Form x→go none Tryz.prog 131 v179.1 v179.2 (retQ o179 fun v h=>v=.bool (decide (Form x))) (Td.s ((SC.reg false c179r9).seq .ret) :: fr) e ⟨G,L,[]⟩:=fun fr e L hx=>by
  intros;refine gr 0 0 ?_;refine sJ c179r9.eq_1 ?_
  intros;refine rV ?_;simp only[push_cast,Nat.reduceBEq]
  rw[decide_eq_false hx]
 have hb17:∀ (fr:List Td) (e:Env) (L:List Kx.Item),¬ Form x→go none Tryz.prog 131 v179.1 v179.2 (retQ o179 fun v h=>v=.bool (decide (Form x))) (Td.s ((SC.reg false c179r17).seq .ret) :: fr) e ⟨G,L,[]⟩:=fun fr e L hx=>by
  intros;refine gr 0 0 ?_;refine sJ c179r17.eq_1 ?_
  intros;refine rV ?_;simp only[push_cast,Nat.reduceBEq]
  rw[decide_eq_false hx]
 have w2:∀ (h:0≤x.last - x.base),IntKind.i64.wrap (x.src+(x.last - x.base))=x.src+(x.last - x.base):=fun h=>by rw[w64_id] <;> omega
 have w3:∀ (h:0≤x.last - x.base),IntKind.i64.wrap (x.seq+(x.last - x.base))=x.seq+(x.last - x.base):=fun h=>by rw[w64_id] <;> omega
 have w4:IntKind.i64.wrap (x.gen+x.seq)=x.gen+x.seq:=by rw[w64_id] <;> omega
 intros;refine gr 33 53 ?_;refine sJ c179r4.eq_1 ?_
 refine gd (fun h3=>?_) (fun h3=>?_)
 ·refine sI ?_
  intros;refine gc ?_;refine sI ?_
  exact hb5 _ _ _ fun h=>by have:=of_decide_eq_true h3;have:=h.2.2.1.1;omega
 have h3:=of_decide_eq_false h3
 refine sI ?_
 refine gd (fun h4=>?_) (fun h4=>?_)
 ·refine sI ?_
  intros;refine gc ?_;refine sI ?_
  exact hb5 _ _ _ fun h=>by have:=of_decide_eq_true h4;have:=h.2.2.1.2.1;omega
 have h4:=of_decide_eq_false h4
 (refine sJ (w2 (by omega)) ?_)
 refine gd (fun h5=>?_) (fun h5=>?_)
 ·refine sI ?_
  intros;refine gc ?_;refine sI ?_
  exact hb5 _ _ _ fun h=>by have:=of_decide_eq_true h5;have:=h.2.2.1.2.2.1;omega
 have h5:=of_decide_eq_false h5
 (refine sJ (w3 (by omega)) ?_)
 intros;refine gc ?_;refine sI ?_
 refine gb (fun h6=>?_) (fun h6=>?_)
 ·exact hb5 _ _ _ fun h=>by have:=of_decide_eq_true h6;have:=h.2.2.1.2.2.2;omega
 have h6:=of_decide_eq_false h6
 intros;refine gr 55 62 ?_;refine sJ c179r6.eq_1 ?_
 refine gd (fun h7=>?_) (fun h7=>?_)
 ·refine sI ?_
  intros;refine gc ?_;refine sI ?_
  exact hb7 _ _ _ fun h=>by have:=of_decide_eq_true h7;have:=h.2.2.2.1.1;omega
 have h7:=of_decide_eq_false h7
 refine sI ?_
 intros;refine gc ?_;refine sI ?_
 refine gb (fun h8=>?_) (fun h8=>?_)
 ·exact hb7 _ _ _ fun h=>by have:=of_decide_eq_true h8;have:=h.2.2.2.1.2;omega
 have h8:=of_decide_eq_false h8
 intros;refine gr 64 83 ?_;refine sJ c179r8.eq_1 ?_
 have hrest:∀ (e:Env),(x.pid=-1→x.gen=0∧x.seq=0∧x.txn=false∧x.ctl=0)→e 3=.int .i64 (x.last - x.base) →
   go none Tryz.prog 131 v179.1 v179.2 (retQ o179 fun v h=>v=.bool (decide (Form x))) [Td.s (((SC.reg false c179r10).seq (SC.blk 1 ((SC.reg false c179r11).seq (SC.cond (O.t 85) ((SC.reg false c179r12).seq (((SC.reg false c179r13).seq (SC.blk 2 ((SC.reg false c179r14).seq ((SC.cond (O.t 93) SC.skip (SC.exit 2)).seq ((SC.blk 3 ((SC.reg false c179r15).seq (((SC.reg false c179r16).seq (SC.cond (O.t 111) ((SC.reg false c179r17).seq SC.ret) SC.skip)).seq (SC.reg false c179r18)))).seq (SC.reg false c179r19)))).loop)).seq ((SC.reg false c179r20).seq SC.ret))) (((SC.reg false c179r21).seq (SC.cond (O.t 116) SC.skip (SC.reg false c179r22))).seq (SC.cond (O.t 116) ((SC.reg false c179r23).seq SC.ret) SC.skip)))))).seq ((SC.reg false c179r24).seq SC.ret))] e ⟨G,[.reg 1 [.int .i64 x.base,.int .i64 x.last,.int .i64 x.src,.int .i64 x.epoch,.int .i64 x.pid,.int .i64 x.gen,.int .i64 x.seq,.bool x.txn,.int .i64 x.ctl,.slice A x.recs.length c]],[]⟩:=fun e hpid e3=>by
  refine go_keep [3] ?_
  refine sJ @e3 ?_
  intros;refine gr 0 0 ?_;refine sJ c179r10.eq_1 ?_
  intros;refine gr 86 87 ?_;refine sJ c179r11.eq_1 ?_
  intros;refine gc ?_;refine sI ?_
  have hmk:((x.ctl=0∧rowF x.last x.base x.recs=true)∨((x.ctl=1∨x.ctl=2)∧x.last - x.base=0∧x.recs=[]∧x.txn=true))→Form x:=fun h=>⟨h1,h2,⟨by omega,by omega,by omega,by omega⟩,⟨by omega,by omega⟩,hpid,h⟩
  refine gb (fun k1=>?_) (fun k1=>?_)
  ·have k1:=of_decide_eq_true k1
   intros;refine gr 88 89 ?_;refine sJ c179r12.eq_1 ?_
   intros;refine gr 0 0 ?_;refine sJ c179r13.eq_1 ?_
   (intros;try refine go_st ?_)
   refine go_loop (fun e h=>∃ (k:Nat) (nx:Int),(k≤x.recs.length∧rowF x.last x.base x.recs=rowF x.last nx (x.recs.drop k))∧e 92=.int .i64 k∧e 91=.int .i64 x.recs.length∧e 90=.slice A x.recs.length c∧e 4=.int .i64 nx∧h.G=G∧h.D=[]∧[.reg 1 [.int .i64 x.base,.int .i64 x.last,.int .i64 x.src,.int .i64 x.epoch,.int .i64 x.pid,.int .i64 x.gen,.int .i64 x.seq,.bool x.txn,.int .i64 x.ctl,.slice A x.recs.length c]].Sublist h.L) (fun e h=>x.recs.length - iv (e 92)) ?_ ?_
   ·exact⟨0,x.base,⟨Nat.zero_le _,rfl⟩,eE,eE,eE,eE,rfl,rfl,List.Sublist.refl _⟩
   ·rintro e ⟨G',L,D⟩ ⟨k,nx,⟨hk,hrow⟩,e92,e91,e90,e4,hG,hD,hL⟩
    dsimp only at hG hD hL
    subst hG hD
    refine go_ghost (ghost_sub hL) ?_
    refine go_keep [4,90,91,92] ?_
    refine sJ4 @e4 @e90 @e91 @e92 ?_
    intros;refine gr 0 0 ?_;refine sJ c179r14.eq_1 ?_
    intros;refine gc ?_;refine sI ?_
    refine gb (fun ht=>?_) (fun ht=>?_)
    ·have hkl:k < x.recs.length:=by simpa using ht
     have hw3:=inc_i k c (by omega) hm
     obtain⟨r,hr⟩:∃ r,x.recs[k]?=some r:=⟨x.recs[k],List.getElem?_eq_getElem (by omega)⟩
     have hdr:x.recs.drop k=r :: x.recs.drop (k+1):=by
      have:=List.getElem?_eq_some_iff.1 hr
      rw[List.drop_eq_getElem_cons hkl,this.2]
     rw[hdr]at hrow
     simp only[rowF]at hrow
     have hno:rowF x.last x.base x.recs=false→¬ Form x:=fun h h'=>by
      rcases h'.2.2.2.2.2 with h9 | h9
      ·rw[h]at h9;cases h9.2
      ·omega
     intros;refine gr 94 96 ?_;refine sJ c179r15.eq_1 ?_
     refine hA.x_ld hr rfl rfl ?_
     rintro a1 ha1 cs ⟨rfl,⟨j1,j2⟩,j3,j4⟩
     unfold cellR
     refine sI ?_
     have hck:=Check_ok r
     unfold cellR at hck
     intros;refine gr 96 111 ?_;refine sJ c179r16.eq_1 ?_
     refine(hck G' _ _).mono ?_;rintro _ _ ⟨rfl,rfl⟩;refine sI ?_
     refine gd (fun k2=>?_) (fun k2=>?_)
     ·refine sI ?_
      intros;refine gc ?_;refine sI ?_
      exact hb17 _ _ _ (hno (by rw[hrow];simp at k2;simp[k2]))
     have k2:chkR r=0:=by simpa using k2
     refine sI ?_
     refine gd (fun k3=>?_) (fun k3=>?_)
     ·refine sI ?_
      intros;refine gc ?_;refine sI ?_
      exact hb17 _ _ _ (hno (by rw[hrow];have:=of_decide_eq_true k3;simp;omega))
     have k3:=of_decide_eq_false k3
     refine sI ?_
     intros;refine gc ?_;refine sI ?_
     refine gb (fun k4=>?_) (fun k4=>?_)
     ·exact hb17 _ _ _ (hno (by rw[hrow];have:=of_decide_eq_true k4;simp;omega))
     have k4:=of_decide_eq_false k4
     have hoff:=(chk_small k2).1.1
     simp[inO]at hoff
     have w5:IntKind.i64.wrap (r.off+1)=r.off+1:=by rw[w64_id] <;> omega
     (repeat first | refine go_skip ?_ | refine go_b ?_)
     intros;refine gr 113 115 ?_;refine sJ2 c179r18.eq_1 @w5 ?_
     intros;refine gr 115 116 ?_;refine sJ2 c179r19.eq_1 @hw3 ?_
     (intros;try refine go_st ?_)
     refine go_l ⟨⟨k+1,r.off+1,⟨by omega,by rw[hrow];simp[k2];omega⟩,eE,eE,eE,eE,rfl,rfl,.cons _ (List.Sublist.refl _)⟩,?_⟩
     refine sI ?_
     omega
    ·have hkl:k=x.recs.length:=by simp at ht;omega
     subst hkl
     refine go_exit ?_
     refine sI ?_
     intros;refine gr 0 0 ?_;refine sJ c179r20.eq_1 ?_
     intros;refine rV ?_;simp only[push_cast,Nat.reduceBEq]
     rw[List.drop_length]at hrow
     rw[decide_eq_true (hmk (.inl ⟨k1,hrow⟩))]
  ·have k1:=of_decide_eq_false k1
   have hb24:∀ (fr:List Td) (e:Env) (L:List Kx.Item),¬ Form x→go none Tryz.prog 131 v179.1 v179.2 (retQ o179 fun v h=>v=.bool (decide (Form x))) (Td.s ((SC.reg false c179r24).seq .ret) :: fr) e ⟨G,L,[]⟩:=fun fr e L hx=>by
    intros;refine gr 0 0 ?_;refine sJ c179r24.eq_1 ?_
    intros;refine rV ?_;simp only[push_cast,Nat.reduceBEq]
    rw[decide_eq_false hx]
   have hfin:∀ (fr:List Td) (e:Env),(x.ctl=1∨x.ctl=2)→e 3=.int .i64 (x.last - x.base)→go none Tryz.prog 131 v179.1 v179.2 (retQ o179 fun v h=>v=.bool (decide (Form x))) (Td.s ((SC.reg false c179r23).seq .ret) :: fr) e ⟨G,[.reg 1 [.int .i64 x.base,.int .i64 x.last,.int .i64 x.src,.int .i64 x.epoch,.int .i64 x.pid,.int .i64 x.gen,.int .i64 x.seq,.bool x.txn,.int .i64 x.ctl,.slice A x.recs.length c]],[]⟩:=fun fr e hc12 e3=>by
    refine go_keep [3] ?_
    refine sJ @e3 ?_
    have hnf:∀ (_:¬ (x.last - x.base=0∧x.recs=[]∧x.txn=true)),decide (Form x)=false:=fun hn=>decide_eq_false fun h=>by
     rcases h.2.2.2.2.2 with h9 | h9
     ·exact k1 h9.1
     ·exact hn h9.2
    intros;refine gr 119 131 ?_;refine sJ c179r23.eq_1 ?_
    refine gd (fun k2=>?_) (fun k2=>?_)
    ·have k2:=of_decide_eq_true k2
     refine sI ?_
     refine gd (fun k3=>?_) (fun k3=>?_)
     ·have k3:x.recs=[]:=by have:=of_decide_eq_true k3;exact List.eq_nil_of_length_eq_zero (by omega)
      refine sI ?_
      intros;refine rV ?_;simp only[push_cast,Nat.reduceBEq]
      cases ht:x.txn with
      | false=>rw[hnf fun h=>by rw[ht]at h;cases h.2.2]
      | true=>rw[decide_eq_true (hmk (.inr ⟨hc12,k2,k3,ht⟩))]
     ·have k3:=of_decide_eq_false k3
      refine sI ?_
      intros;refine rV ?_;simp only[push_cast,Nat.reduceBEq]
      rw[hnf fun h=>k3 (by rw[h.2.1];rfl)]
    ·have k2:=of_decide_eq_false k2
     refine sI ?_
     intros;refine rV ?_;simp only[push_cast,Nat.reduceBEq]
     rw[hnf fun h=>k2 h.1]
   intros;refine gr 117 118 ?_;refine sJ c179r21.eq_1 ?_
   intros;refine gc ?_;refine sI ?_
   refine gb (fun k2=>?_) (fun k2=>?_)
   ·(repeat first | refine go_skip ?_ | refine go_b ?_)
    intros;refine gc ?_;refine sI ?_
    refine gb (fun _=>?_) (fun h=>by rw[k2]at h;cases h)
    refine hfin _ _ (.inl (of_decide_eq_true k2)) ?_
    (refine sI ?_;try with_reducible exact True.intro)
   ·have k2:=of_decide_eq_false k2
    intros;refine gr 118 119 ?_;refine sJ c179r22.eq_1 ?_
    intros;refine gc ?_;refine sI ?_
    refine gb (fun k3=>?_) (fun k3=>?_)
    ·refine hfin _ _ (.inr (of_decide_eq_true k3)) ?_
     (refine sI ?_;try with_reducible exact True.intro)
    ·have k3:=of_decide_eq_false k3
     (repeat first | refine go_skip ?_ | refine go_b ?_)
     refine hb24 _ _ _ fun h=>?_
     rcases h.2.2.2.2.2 with h9 | h9
     ·exact k1 h9.1
     ·rcases h9.1 with h9 | h9
      ·exact k2 h9
      ·exact k3 h9
 refine gd (fun h9=>?_) (fun h9=>?_)
 ·have h9:=of_decide_eq_true h9
  refine sJ @w4 ?_
  refine gd (fun h10=>?_) (fun h10=>?_)
  ·refine sI ?_
   intros;refine gc ?_;refine sI ?_
   exact hb9 _ _ _ fun h=>by have:=of_decide_eq_true h10;have:=h.2.2.2.2.1 h9;omega
  have h10:=of_decide_eq_false h10
  refine sI ?_
  refine gd (fun h11=>?_) (fun h11=>?_)
  ·refine sI ?_
   intros;refine gc ?_;refine sI ?_
   exact hb9 _ _ _ fun h=>by have:=(h.2.2.2.2.1 h9).2.2.1;rw[h11]at this;cases this
  refine sI ?_
  intros;refine gc ?_;refine sI ?_
  refine gb (fun h12=>?_) (fun h12=>?_)
  ·exact hb9 _ _ _ fun h=>by have:=of_decide_eq_true h12;have:=(h.2.2.2.2.1 h9).2.2.2;omega
  have h12:=of_decide_eq_false h12
  (repeat first | refine go_skip ?_ | refine go_b ?_)
  refine go_ghost (ghost_sub (.cons _ (.cons _ (List.Sublist.refl _)))) ?_
  refine hrest _ (fun _=>⟨by omega,by omega,h11,by omega⟩) ?_
  (refine sI ?_;try with_reducible exact True.intro)
 ·have h9:=of_decide_eq_false h9
  refine sI ?_
  intros;refine gc ?_;refine sI ?_
  (repeat first | refine go_skip ?_ | refine go_b ?_)
  refine go_ghost (ghost_sub (.cons _ (.cons _ (List.Sublist.refl _)))) ?_
  refine hrest _ (fun h=>absurd h h9) ?_
  (refine sI ?_;try with_reducible exact True.intro)
theorem F127:Fun Tryz.prog 127 165 v127 c127 o127:=Fun.mk' Tryz.func127 Tryz.ntmps127 (by kernel_rfl) (by kernel_rfl) s127 q127
theorem rng_f{m n:Int}(h:(!rng m n)=true):¬ rng m n=true:=by simpa using h
theorem rng_t{m n:Int}(h:(!rng m n)=false):0≤n∧n≤m:=by simpa [rng]using h
theorem rng_i{m n:Int}(h:0≤n∧n≤m):rng m n=true:=by simp[rng,h]
theorem form_ok(x:Batch)(cs:List Value)(G:Nat→Option Obj)(hx:BE G x cs):FnS Tryz.prog 127 #[.agg cs.toArray] G (.bool (decide (Form x))):=by
 obtain⟨A,c,rfl,⟨hc,hm,hA⟩,i1,i2,i3,i4,i5,i6,i7,i8⟩:=hx
 refine F127.fnS (by simp) (go_of ?_)
 unfold c127 cellH
 intros;refine gr 0 0 ?_;refine sJ c127r0.eq_1 ?_
 have hb2:∀ (fr:List Td) (e:Env) (L:List Kx.Item),¬ Form x→go none Tryz.prog 165 v127.1 v127.2 (retQ o127 fun v h=>v=.bool (decide (Form x))) (Td.s ((SC.reg false c127r2).seq .ret) :: fr) e ⟨G,L,[]⟩:=fun fr e L hx=>by
  intros;refine gr 0 0 ?_;refine sJ c127r2.eq_1 ?_
  intros;refine rV ?_;simp only[push_cast,Nat.reduceBEq]
  rw[decide_eq_false hx]
 have hb5:∀ (fr:List Td) (e:Env) (L:List Kx.Item),¬ Form x→go none Tryz.prog 165 v127.1 v127.2 (retQ o127 fun v h=>v=.bool (decide (Form x))) (Td.s ((SC.reg false c127r5).seq .ret) :: fr) e ⟨G,L,[]⟩:=fun fr e L hx=>by
  intros;refine gr 0 0 ?_;refine sJ c127r5.eq_1 ?_
  intros;refine rV ?_;simp only[push_cast,Nat.reduceBEq]
  rw[decide_eq_false hx]
 have hb7:∀ (fr:List Td) (e:Env) (L:List Kx.Item),¬ Form x→go none Tryz.prog 165 v127.1 v127.2 (retQ o127 fun v h=>v=.bool (decide (Form x))) (Td.s ((SC.reg false c127r7).seq .ret) :: fr) e ⟨G,L,[]⟩:=fun fr e L hx=>by
  intros;refine gr 0 0 ?_;refine sJ c127r7.eq_1 ?_
  intros;refine rV ?_;simp only[push_cast,Nat.reduceBEq]
  rw[decide_eq_false hx]
 have hb15:∀ (fr:List Td) (e:Env) (L:List Kx.Item),¬ Form x→go none Tryz.prog 165 v127.1 v127.2 (retQ o127 fun v h=>v=.bool (decide (Form x))) (Td.s ((SC.reg false c127r15).seq .ret) :: fr) e ⟨G,L,[]⟩:=fun fr e L hx=>by
  intros;refine gr 0 0 ?_;refine sJ c127r15.eq_1 ?_
  intros;refine rV ?_;simp only[push_cast,Nat.reduceBEq]
  rw[decide_eq_false hx]
 intros;refine gr 8 37 ?_;refine sJ c127r1.eq_1 ?_
 refine(rin_ok x.base _ G _ _).mono ?_;rintro _ _ ⟨rfl,rfl⟩;refine sI ?_
 refine gd (fun h1=>?_) (fun h1=>?_)
 ·refine sI ?_
  intros;refine gc ?_;refine sI ?_
  exact hb2 _ _ _ fun h=>by exact rng_f h1 h.1.1
 have h1:=rng_t h1
 refine sI ?_
 refine(rin_ok x.last _ G _ _).mono ?_;rintro _ _ ⟨rfl,rfl⟩;refine sI ?_
 refine gd (fun h2=>?_) (fun h2=>?_)
 ·refine sI ?_
  intros;refine gc ?_;refine sI ?_
  exact hb2 _ _ _ fun h=>by exact rng_f h2 h.1.2.1
 have h2:=rng_t h2
 refine sI ?_
 refine(rin_ok x.src _ G _ _).mono ?_;rintro _ _ ⟨rfl,rfl⟩;refine sI ?_
 refine gd (fun h3=>?_) (fun h3=>?_)
 ·refine sI ?_
  intros;refine gc ?_;refine sI ?_
  exact hb2 _ _ _ fun h=>by exact rng_f h3 h.1.2.2
 have h3:=rng_t h3
 have w1:IntKind.i64.wrap (x.last - x.base)=x.last - x.base:=by rw[w64_id] <;> omega
 refine sI ?_
 refine gd (fun h4=>?_) (fun h4=>?_)
 ·refine sI ?_
  intros;refine gc ?_;refine sI ?_
  exact hb2 _ _ _ fun h=>by have:=of_decide_eq_true h4;have:=h.2.2.1.1;omega
 have h4:=of_decide_eq_false h4
 refine sJ @w1 ?_
 intros;refine gc ?_;refine sI ?_
 refine gb (fun h5=>?_) (fun h5=>?_)
 ·exact hb2 _ _ _ fun h=>by have:=of_decide_eq_true h5;have:=h.2.2.1.2.1;omega
 have h5:=of_decide_eq_false h5
 (repeat first | refine go_skip ?_ | refine go_b ?_)
 intros;refine gr 39 43 ?_;refine sJ2 c127r3.eq_1 @w1 ?_
 have w2:IntKind.i64.wrap (x.src+(x.last - x.base))=x.src+(x.last - x.base):=by rw[w64_id] <;> omega
 intros;refine gr 44 72 ?_;refine sJ2 c127r4.eq_1 @w2 ?_
 refine gd (fun h6=>?_) (fun h6=>?_)
 ·refine sI ?_
  intros;refine gc ?_;refine sI ?_
  exact hb5 _ _ _ fun h=>by have:=of_decide_eq_true h6;have:=h.2.2.1.2.2.1;omega
 have h6:=of_decide_eq_false h6
 refine sI ?_
 refine(rin_ok x.epoch _ G _ _).mono ?_;rintro _ _ ⟨rfl,rfl⟩;refine sI ?_
 refine gd (fun h7=>?_) (fun h7=>?_)
 ·refine sI ?_
  intros;refine gc ?_;refine sI ?_
  exact hb5 _ _ _ fun h=>by exact rng_f h7 h.2.1.1
 have h7:=rng_t h7
 refine sI ?_
 refine(rin_ok x.gen _ G _ _).mono ?_;rintro _ _ ⟨rfl,rfl⟩;refine sI ?_
 refine gd (fun h8=>?_) (fun h8=>?_)
 ·refine sI ?_
  intros;refine gc ?_;refine sI ?_
  exact hb5 _ _ _ fun h=>by exact rng_f h8 h.2.1.2.1
 have h8:=rng_t h8
 refine sI ?_
 refine(rin_ok x.seq _ G _ _).mono ?_;rintro _ _ ⟨rfl,rfl⟩;refine sI ?_
 refine gd (fun h9=>?_) (fun h9=>?_)
 ·refine sI ?_
  intros;refine gc ?_;refine sI ?_
  exact hb5 _ _ _ fun h=>by exact rng_f h9 h.2.1.2.2
 have h9:=rng_t h9
 have w3:IntKind.i64.wrap (x.seq+(x.last - x.base))=x.seq+(x.last - x.base):=by rw[w64_id] <;> omega
 refine sJ @w3 ?_
 intros;refine gc ?_;refine sI ?_
 refine gb (fun k1=>?_) (fun k1=>?_)
 ·exact hb5 _ _ _ fun h=>by have:=of_decide_eq_true k1;have:=h.2.2.1.2.2.2;omega
 have k1:=of_decide_eq_false k1
 (repeat first | refine go_skip ?_ | refine go_b ?_)
 have hrest:∀ (e:Env),(x.pid=-1→x.gen=0∧x.seq=0∧x.txn=false∧x.ctl=0)→(-1≤x.pid∧x.pid≤1099511627776)→e 3=.int .i64 (x.last - x.base) →
   go none Tryz.prog 165 v127.1 v127.2 (retQ o127 fun v h=>v=.bool (decide (Form x))) [Td.s (((SC.reg false c127r8).seq (SC.cond (O.t 108) ((SC.reg false c127r9).seq SC.ret) SC.skip)).seq ((SC.reg false c127r10).seq (((SC.reg false c127r11).seq (SC.blk 0 ((SC.reg false c127r12).seq ((SC.cond (O.t 143) SC.skip (SC.exit 0)).seq ((SC.blk 1 ((SC.reg false c127r13).seq (((SC.reg false c127r14).seq (SC.cond (O.t 161) ((SC.reg false c127r15).seq SC.ret) SC.skip)).seq (SC.reg false c127r16)))).seq (SC.reg false c127r17)))).loop)).seq ((SC.reg false c127r18).seq SC.ret))))] e ⟨G,[.reg 1 [.int .i64 x.base,.int .i64 x.last,.int .i64 x.src,.int .i64 x.epoch,.int .i64 x.pid,.int .i64 x.gen,.int .i64 x.seq,.bool x.txn,.int .i64 x.ctl,.slice A x.recs.length c]],[]⟩:=fun e hpid hpr e3=>by
  refine go_keep [3] ?_
  refine sJ @e3 ?_
  have hmk:((x.ctl=0∧rowF x.last x.base x.recs=true)∨((x.ctl=1∨x.ctl=2)∧x.last - x.base=0∧x.recs=[]∧x.txn=true))→Form x:=fun h=>⟨⟨rng_i h1,rng_i h2,rng_i h3⟩,⟨rng_i h7,rng_i h8,rng_i h9⟩,⟨by omega,by omega,by omega,by omega⟩,hpr,hpid,h⟩
  intros;refine gr 107 108 ?_;refine sJ c127r8.eq_1 ?_
  intros;refine gc ?_;refine sI ?_
  refine gb (fun k2=>?_) (fun k2=>?_)
  ·have k2:=of_decide_eq_true k2
   have hnf:∀ (_:¬ ((x.ctl=1∨x.ctl=2)∧x.last - x.base=0∧x.recs=[]∧x.txn=true)),decide (Form x)=false:=fun hn=>decide_eq_false fun h=>by
    rcases h.2.2.2.2.2 with h9 | h9
    ·exact k2 h9.1
    ·exact hn h9
   have hp0:0≤x.pid:=by
    by_cases hp:x.pid=-1
    ·exact absurd (hpid hp).2.2.2 k2
    ·omega
   intros;refine gr 110 136 ?_;refine sJ c127r9.eq_1 ?_
   have hfin:∀ (l:List SI),True:=fun _=>trivial
   refine gd (fun k3=>?_) (fun k3=>?_)
   ·have k3:=of_decide_eq_true k3
    refine sI ?_
    refine gd (fun a1=>?_) (fun a1=>?_)
    ·have a1:=of_decide_eq_true a1
     refine sI ?_
     refine gd (fun a2=>?_) (fun a2=>?_)
     ·have a2:x.recs=[]:=by have:=of_decide_eq_true a2;exact List.eq_nil_of_length_eq_zero (by omega)
      refine sI ?_
      refine gd (fun a3=>?_) (fun a3=>?_)
      ·refine sI ?_
       intros;refine rV ?_;simp only[push_cast,Nat.reduceBEq]
       rw[decide_eq_true hp0,decide_eq_true (hmk (.inr ⟨.inl k3,a1,a2,a3⟩))]
      ·refine sI ?_
       intros;refine rV ?_;simp only[push_cast,Nat.reduceBEq]
       rw[hnf fun h=>by rw[a3]at h;cases h.2.2.2]
     ·have a2:=of_decide_eq_false a2
      refine sI ?_
      intros;refine rV ?_;simp only[push_cast,Nat.reduceBEq]
      rw[hnf fun h=>a2 (by rw[h.2.2.1];rfl)]
    ·have a1:=of_decide_eq_false a1
     refine sI ?_
     intros;refine rV ?_;simp only[push_cast,Nat.reduceBEq]
     rw[hnf fun h=>a1 h.2.1]
   ·have k3:=of_decide_eq_false k3
    refine sI ?_
    refine gd (fun k4=>?_) (fun k4=>?_)
    ·have k4:=of_decide_eq_true k4
     refine sI ?_
     refine gd (fun a1=>?_) (fun a1=>?_)
     ·have a1:=of_decide_eq_true a1
      refine sI ?_
      refine gd (fun a2=>?_) (fun a2=>?_)
      ·have a2:x.recs=[]:=by have:=of_decide_eq_true a2;exact List.eq_nil_of_length_eq_zero (by omega)
       refine sI ?_
       refine gd (fun a3=>?_) (fun a3=>?_)
       ·refine sI ?_
        intros;refine rV ?_;simp only[push_cast,Nat.reduceBEq]
        rw[decide_eq_true hp0,decide_eq_true (hmk (.inr ⟨.inr k4,a1,a2,a3⟩))]
       ·refine sI ?_
        intros;refine rV ?_;simp only[push_cast,Nat.reduceBEq]
        rw[hnf fun h=>by rw[a3]at h;cases h.2.2.2]
      ·have a2:=of_decide_eq_false a2
       refine sI ?_
       intros;refine rV ?_;simp only[push_cast,Nat.reduceBEq]
       rw[hnf fun h=>a2 (by rw[h.2.2.1];rfl)]
     ·have a1:=of_decide_eq_false a1
      refine sI ?_
      intros;refine rV ?_;simp only[push_cast,Nat.reduceBEq]
      rw[hnf fun h=>a1 h.2.1]
    ·have k4:=of_decide_eq_false k4
     refine sI ?_
     intros;refine rV ?_;simp only[push_cast,Nat.reduceBEq]
     rw[hnf fun h=>by rcases h.1 with h | h;exact k3 h;exact k4 h]
  ·have k2:x.ctl=0:=by simpa using k2
   have w4:IntKind.i64.wrap (x.base - 1)=x.base - 1:=by rw[w64_id] <;> omega
   (repeat first | refine go_skip ?_ | refine go_b ?_)
   intros;refine gr 137 139 ?_;refine sJ2 c127r10.eq_1 @w4 ?_
   intros;refine gr 0 0 ?_;refine sJ c127r11.eq_1 ?_
   (intros;try refine go_st ?_)
   refine go_loop (fun e h=>∃ (k:Nat) (nx:Int),(k≤x.recs.length∧rowF x.last x.base x.recs=rowF x.last nx (x.recs.drop k))∧e 142=.int .i64 k∧e 141=.int .i64 x.recs.length∧e 140=.slice A x.recs.length c∧e 4=.int .i64 (nx - 1)∧h.G=G∧h.D=[]∧[.reg 1 [.int .i64 x.base,.int .i64 x.last,.int .i64 x.src,.int .i64 x.epoch,.int .i64 x.pid,.int .i64 x.gen,.int .i64 x.seq,.bool x.txn,.int .i64 x.ctl,.slice A x.recs.length c]].Sublist h.L) (fun e h=>x.recs.length - iv (e 142)) ?_ ?_
   ·exact⟨0,x.base,⟨Nat.zero_le _,rfl⟩,eE,eE,eE,eE,rfl,rfl,List.Sublist.refl _⟩
   ·rintro e ⟨G',L,D⟩ ⟨k,nx,⟨hk,hrow⟩,e142,e141,e140,e4,hG,hD,hL⟩
    dsimp only at hG hD hL
    subst hG hD
    refine go_ghost (ghost_sub hL) ?_
    refine go_keep [4,140,141,142] ?_
    refine sJ4 @e4 @e140 @e141 @e142 ?_
    intros;refine gr 0 0 ?_;refine sJ c127r12.eq_1 ?_
    intros;refine gc ?_;refine sI ?_
    refine gb (fun ht=>?_) (fun ht=>?_)
    ·have hkl:k < x.recs.length:=by simpa using ht
     have hw3:=inc_i k c (by omega) hm
     obtain⟨r,hr⟩:∃ r,x.recs[k]?=some r:=⟨x.recs[k],List.getElem?_eq_getElem (by omega)⟩
     have hdr:x.recs.drop k=r :: x.recs.drop (k+1):=by
      have:=List.getElem?_eq_some_iff.1 hr
      rw[List.drop_eq_getElem_cons hkl,this.2]
     rw[hdr]at hrow
     simp only[rowF]at hrow
     have hno:rowF x.last x.base x.recs=false→¬ Form x:=fun h h'=>by
      rcases h'.2.2.2.2.2 with h9 | h9
      ·rw[h]at h9;cases h9.2
      ·omega
     intros;refine gr 144 146 ?_;refine sJ c127r13.eq_1 ?_
     refine hA.x_ld hr rfl rfl ?_
     rintro a1 ha1 cs ⟨rfl,⟨j1,j2⟩,j3,j4⟩
     unfold cellR
     refine sI ?_
     have hck:=RCheck_ok r
     unfold cellR at hck
     intros;refine gr 146 161 ?_;refine sJ c127r14.eq_1 ?_
     refine(hck G' _ _).mono ?_;rintro _ _ ⟨rfl,rfl⟩;refine sI ?_
     refine gd (fun k3=>?_) (fun k3=>?_)
     ·refine sI ?_
      intros;refine gc ?_;refine sI ?_
      exact hb15 _ _ _ (hno (by rw[hrow];simp at k3;simp[k3]))
     have k3:chkR r=0:=by simpa using k3
     refine sI ?_
     refine gd (fun k4=>?_) (fun k4=>?_)
     ·refine sI ?_
      intros;refine gc ?_;refine sI ?_
      exact hb15 _ _ _ (hno (by rw[hrow];have:=of_decide_eq_true k4;simp;omega))
     have k4:=of_decide_eq_false k4
     refine sI ?_
     intros;refine gc ?_;refine sI ?_
     refine gb (fun k5=>?_) (fun k5=>?_)
     ·exact hb15 _ _ _ (hno (by rw[hrow];have:=of_decide_eq_true k5;simp;omega))
     have k5:=of_decide_eq_false k5
     have hoff:r.off=r.off+1 - 1:=by omega
     (repeat first | refine go_skip ?_ | refine go_b ?_)
     intros;refine gr 163 164 ?_;refine sJ c127r16.eq_1 ?_
     intros;refine gr 164 165 ?_;refine sJ2 c127r17.eq_1 @hw3 ?_
     (intros;try refine go_st ?_)
     refine go_l ⟨⟨k+1,r.off+1,⟨by omega,by rw[hrow];simp[k3];omega⟩,eE,eE,eE,by rw[← hoff];(refine sI ?_;try with_reducible exact True.intro),rfl,rfl,.cons _ (List.Sublist.refl _)⟩,?_⟩
     refine sI ?_
     omega
    ·have hkl:k=x.recs.length:=by simp at ht;omega
     subst hkl
     refine go_exit ?_
     refine sI ?_
     intros;refine gr 0 0 ?_;refine sJ c127r18.eq_1 ?_
     intros;refine rV ?_;simp only[push_cast,Nat.reduceBEq]
     rw[List.drop_length]at hrow
     rw[decide_eq_true (hmk (.inl ⟨k2,hrow⟩))]
 intros;refine gr 74 105 ?_;refine sJ c127r6.eq_1 ?_
 refine gd (fun q1=>?_) (fun q1=>?_)
 ·have q1:=of_decide_eq_true q1
  refine sI ?_
  refine gd (fun q2=>?_) (fun q2=>?_)
  ·refine sI ?_
   intros;refine gc ?_;refine sI ?_
   exact hb7 _ _ _ fun h=>by have:=of_decide_eq_true q2;exact this (h.2.2.2.2.1 q1).1
  have q2:=of_decide_eq_false q2
  refine sI ?_
  refine gd (fun q3=>?_) (fun q3=>?_)
  ·refine sI ?_
   intros;refine gc ?_;refine sI ?_
   exact hb7 _ _ _ fun h=>by have:=of_decide_eq_true q3;exact this (h.2.2.2.2.1 q1).2.1
  have q3:=of_decide_eq_false q3
  refine sI ?_
  refine gd (fun q4=>?_) (fun q4=>?_)
  ·refine sI ?_
   intros;refine gc ?_;refine sI ?_
   exact hb7 _ _ _ fun h=>by have:=(h.2.2.2.2.1 q1).2.2.1;rw[q4]at this;cases this
  refine sI ?_
  refine gd (fun q5=>?_) (fun q5=>?_)
  ·refine sI ?_
   intros;refine gc ?_;refine sI ?_
   exact hb7 _ _ _ fun h=>by have:=of_decide_eq_true q5;exact this (h.2.2.2.2.1 q1).2.2.2
  have q5:=of_decide_eq_false q5
  refine sI ?_
  refine gd (fun q6=>?_) (fun q6=>?_)
  ·exact absurd q1 (of_decide_eq_true q6)
  refine sI ?_
  intros;refine gc ?_;refine sI ?_
  (repeat first | refine go_skip ?_ | refine go_b ?_)
  refine hrest _ (fun _=>⟨by omega,by omega,q4,by omega⟩) (by omega) ?_
  (refine sI ?_;try with_reducible exact True.intro)
 ·have q1:=of_decide_eq_false q1
  refine sI ?_
  refine gd (fun q6=>?_) (fun q6=>?_)
  ·refine sI ?_
   refine(rin_ok x.pid _ G _ _).mono ?_;rintro _ _ ⟨rfl,rfl⟩;refine sI ?_
   intros;refine gc ?_;refine sI ?_
   refine gb (fun q7=>?_) (fun q7=>?_)
   ·refine hb7 _ _ _ fun h=>rng_f q7 (rng_i ?_)
    have:=h.2.2.2.1
    omega
   have q7:=rng_t q7
   (repeat first | refine go_skip ?_ | refine go_b ?_)
   refine hrest _ (fun h=>absurd h q1) (by omega) ?_
   (refine sI ?_;try with_reducible exact True.intro)
  ·exact absurd (of_decide_eq_false q6) (by simpa using q1)
abbrev W32:=BitVec 32
def vW(v:W32):Value:=.int .u32 (v.toNat:Int)
def poly:W32:=3988292384#32
def stp(v:W32):W32:=(v >>> 1) ^^^ (if v.getLsbD 0=true then poly else 0#32)
def stpN:Nat→W32→W32
 | 0,v=>v
 | n+1,v=>stp (stpN n v)
theorem stp_xor(a b:W32):stp (a ^^^ b)=stp a ^^^ stp b:=by
 unfold stp
 rw[BitVec.ushiftRight_xor_distrib,BitVec.getLsbD_xor]
 generalize a >>> 1=x
 generalize b >>> 1=y
 cases a.getLsbD 0 <;> cases b.getLsbD 0 <;> simp
 ·rw[BitVec.xor_assoc]
 ·rw[BitVec.xor_assoc,BitVec.xor_assoc,BitVec.xor_comm poly y]
 ·rw[BitVec.xor_assoc,BitVec.xor_comm poly (y ^^^ poly),BitVec.xor_assoc,BitVec.xor_self,BitVec.xor_zero]
theorem stpN_xor(a b:W32):∀ n,stpN n (a ^^^ b)=stpN n a ^^^ stpN n b
 | 0=>rfl
 | n+1=>by rw[stpN,stpN_xor a b n,stp_xor];rfl
theorem stp_even{v:W32}(h:v.getLsbD 0=false):stp v=v >>> 1:=by rw[stp,if_neg (by rw[h];simp),BitVec.xor_zero]
theorem stpN_low{v:W32}:∀ n,(∀ i,i < n→v.getLsbD i=false)→stpN n v=v >>> n
 | 0,_=>by simp[stpN]
 | n+1,h=>by
  rw[stpN,stpN_low n fun i hi=>h i (by omega),stp_even (by rw[BitVec.getLsbD_ushiftRight];exact h _ (by omega))]
  rw[BitVec.shiftRight_add]
theorem stp_four(v:W32):stpN 4 v=stpN 4 (v &&& 15#32) ^^^ (v >>> 4):=by
 have h1:v=(v &&& 15#32) ^^^ (v &&& ~~~15#32):=by
  apply BitVec.eq_of_getLsbD_eq
  intro i hi
  simp only[BitVec.getLsbD_xor,BitVec.getLsbD_and,BitVec.getLsbD_not]
  cases v.getLsbD i <;> cases (15#32).getLsbD i <;> simp[hi]
 have h2:stpN 4 (v &&& ~~~15#32)=v >>> 4:=by
  rw[stpN_low 4]
  ·apply BitVec.eq_of_getLsbD_eq
   intro i hi
   simp only[BitVec.getLsbD_ushiftRight,BitVec.getLsbD_and,BitVec.getLsbD_not]
   by_cases h:4+i < 32
   ·have:(15#32).getLsbD (4+i)=false:=by
     rw[BitVec.getLsbD_ofNat]
     have:Nat.testBit 15 (4+i)=false:=Nat.testBit_lt_two_pow (Nat.lt_of_lt_of_le (by decide:15 < 2 ^ 4) (Nat.pow_le_pow_right (by decide) (by omega)))
     simp[this]
    rw[this]
    simp only[h,decide_true,Bool.not_false,Bool.and_true]
   ·rw[BitVec.getLsbD_of_ge v (4+i) (by omega)]
    simp
  ·intro i hi
   have:(15#32).getLsbD i=true:=by
    match i,hi with
    | 0,_=>rfl
    | 1,_=>rfl
    | 2,_=>rfl
    | 3,_=>rfl
   rw[BitVec.getLsbD_and,BitVec.getLsbD_not,this]
   simp
 conv=>lhs;rw[h1,stpN_xor,h2]
theorem stpN_add(v:W32):∀ m n,stpN (m+n) v=stpN m (stpN n v)
 | 0,n=>by rw[Nat.zero_add];rfl
 | m+1,n=>by rw[Nat.succ_add,stpN,stpN_add v m n];rfl
def ofB(b:UInt8):W32:=BitVec.ofNat 32 b.toNat
def upd(v:W32)(c:UInt8):W32:=stpN 8 (v ^^^ ofB c)
def half4(v:W32):W32:=stpN 4 (v &&& 15#32) ^^^ (v >>> 4)
theorem upd_eq(v:W32)(c:UInt8):upd v c=half4 (half4 (v ^^^ ofB c)):=by
 rw[half4,← stp_four,half4,← stp_four,← stpN_add]
 rfl
def crcB(l:List UInt8):W32 := ~~~ (l.foldl upd 4294967295#32)
theorem ofW(a:W32):BitVec.ofInt 32 (a.toNat:Int)=a:=by
 rw[BitVec.ofInt_natCast,BitVec.ofNat_toNat]
 simp
theorem wrapW(a:W32):IntKind.u32.wrap (a.toNat:Int)=(a.toNat:Int):=by
 have:=a.isLt
 simp only[IntKind.wrap,IntKind.bits,IntKind.signed]
 simp
 omega
theorem bin_xorW(a b:W32):binV .xor (vW a) (vW b)=some (vW (a ^^^ b)):=by
 simp only[binV,vW]
 rw[if_pos trivial]
 have:(BitVec.ofInt IntKind.u32.bits (a.toNat:Int) ^^^ BitVec.ofInt IntKind.u32.bits (b.toNat:Int)).toNat=(a ^^^ b).toNat:=by
  show(BitVec.ofInt 32 (a.toNat:Int) ^^^ BitVec.ofInt 32 (b.toNat:Int)).toNat=_
  rw[ofW,ofW]
 rw[this,wrapW]
theorem bin_andW(a b:W32):binV .and (vW a) (vW b)=some (vW (a &&& b)):=by
 simp only[binV,vW]
 rw[if_pos trivial]
 have:(BitVec.ofInt IntKind.u32.bits (a.toNat:Int) &&& BitVec.ofInt IntKind.u32.bits (b.toNat:Int)).toNat=(a &&& b).toNat:=by
  show(BitVec.ofInt 32 (a.toNat:Int) &&& BitVec.ofInt 32 (b.toNat:Int)).toNat=_
  rw[ofW,ofW]
 rw[this,wrapW]
theorem bin_shrW(a:W32)(k:Nat)(hk:k≤32):binV .shr (vW a) (.int .u64 (k:Int))=some (vW (a >>> k)):=by
 simp only[binV,vW]
 rw[if_pos (by omega)]
 congr 2
 have h1:min ((k:Int)).toNat IntKind.u32.bits=k:=by simp[IntKind.bits];omega
 rw[h1,BitVec.toNat_ushiftRight,Nat.shiftRight_eq_div_pow]
 rw[Int.fdiv_eq_ediv_of_nonneg _ (by exact_mod_cast Nat.zero_le _)]
 exact_mod_cast rfl
theorem u8_32(c:UInt8):Value.int .u32 (IntKind.u32.wrap (c.toNat:Int))=vW (ofB c):=by
 have h:=c.toNat_lt
 have h2:(ofB c).toNat=c.toNat:=by simp[ofB]
 have:=wrapW (ofB c)
 rw[h2]at this
 rw[vW,h2,this]
theorem F230:Fun Tryz.prog 230 14 v230 c230 o230:=Fun.mk' Tryz.func230 Tryz.ntmps230 (by kernel_rfl) (by kernel_rfl) s230 q230
theorem F217:Fun Tryz.prog 217 11 v217 c217 o217:=Fun.mk' Tryz.func217 Tryz.ntmps217 (by kernel_rfl) (by kernel_rfl) s217 q217
theorem F205:Fun Tryz.prog 205 14 v205 c205 o205:=Fun.mk' Tryz.func205 Tryz.ntmps205 (by kernel_rfl) (by kernel_rfl) s205 q205
theorem bit0(v:W32):v.getLsbD 0=true↔v.toNat % 2=1:=by
 rw[BitVec.getLsbD,Nat.testBit_zero]
 simp
theorem bin_quoW2(v:W32):binV .quo (vW v) (.int .u32 2)=some (vW (v >>> 1)):=by
 have h:=v.isLt
 refine(bin_quo .u32 v.toNat 2 (by decide) (by simp[IntKind.max,IntKind.signed,IntKind.bits];omega) rfl).trans ?_
 rw[vW,BitVec.toNat_ushiftRight,Nat.shiftRight_eq_div_pow]
theorem bin_remW2(v:W32):binV .rem (vW v) (.int .u32 2)=some (.int .u32 ((v.toNat % 2:Nat):Int)):=bin_rem .u32 v.toNat 2 (by decide)
theorem bin_xorP(v:W32):binV .xor (vW v) (.int .u32 3988292384)=some (vW (v ^^^ poly)):=bin_xorW v poly
theorem bin_eql1(n:Nat):binV .eql (.int .u32 (n:Int)) (.int .u32 1)=some (.bool (decide (n=1))):=by
 simp only[binV]
 rw[if_pos trivial]
 congr 2
 simp
 omega
theorem step_ok(v:W32)(G:Nat→Option Obj):FnS Tryz.prog 217 #[vW v] G (vW (stp v)):=by
 refine F217.fnS (by simp) (go_of ?_)
 unfold c217
 intros;refine gr 0 0 ?_;refine sJ c217r0.eq_1 ?_
 have hr:=bin_remW2 v
 generalize hn:v.toNat % 2=n at hr
 intros;refine gr 3 5 ?_;refine sJ3 c217r1.eq_1 @hr @bin_eql1 ?_
 intros;refine gc ?_;refine sI ?_
 refine gb (fun h1=>?_) (fun h1=>?_)
 ·intros;refine gr 6 9 ?_;refine sJ3 c217r2.eq_1 @bin_quoW2 @bin_xorP ?_
  intros;refine rV ?_;simp only[push_cast,Nat.reduceBEq]
  rw[stp,if_pos ((bit0 v).2 (by rw[hn];simpa using h1))]
 ·(repeat first | refine go_skip ?_ | refine go_b ?_)
  intros;refine gr 9 11 ?_;refine sJ2 c217r3.eq_1 @bin_quoW2 ?_
  intros;refine rV ?_;simp only[push_cast,Nat.reduceBEq]
  rw[stp,if_neg (fun h=>by have:=(bit0 v).1 h;rw[hn]at this;simp[this]at h1),BitVec.xor_zero]
theorem steps_ok(v:W32)(n:Nat)(hn:n≤1000)(G:Nat→Option Obj):FnS Tryz.prog 205 #[vW v,.int .i64 (n:Int)] G (vW (stpN n v)):=by
 refine F205.fnS (by simp) (go_of ?_)
 unfold c205
 intros;refine gr 0 0 ?_;refine sJ c205r0.eq_1 ?_
 intros;refine gr 0 0 ?_;refine sJ c205r1.eq_1 ?_
 (intros;try refine go_st ?_)
 refine go_loop (fun e h=>∃ k:Nat,k≤n∧e 5=.int .i64 k∧e 1=.int .i64 n∧e 0=vW (stpN k v)∧h=⟨G,[],[]⟩) (fun e h=>n - iv (e 5)) ?_ ?_
 ·exact⟨0,Nat.zero_le _,eE,eE,by refine sI ?_;rfl,rfl⟩
 ·rintro e h ⟨k,hk,e5,e1,e0,rfl⟩
  refine go_keep [0,1,5] ?_
  refine sJ3 @e0 @e1 @e5 ?_
  intros;refine gr 6 8 ?_;refine sJ c205r2.eq_1 ?_
  intros;refine gc ?_;refine sI ?_
  refine gb (fun h1=>?_) (fun h1=>?_)
  ·have hkn:k < n:=by simpa using h1
   have hw3:=inc_i k n (by omega) (by unfold maxLen;omega)
   intros;refine gr 11 13 ?_;refine sJ c205r3.eq_1 ?_
   refine(step_ok (stpN k v) G _ _).mono ?_;rintro _ _ ⟨rfl,rfl⟩;refine sI ?_
   intros;refine gr 9 11 ?_;refine sJ2 c205r4.eq_1 @hw3 ?_
   (intros;try refine go_st ?_)
   refine go_l ⟨⟨k+1,by omega,eE,eE,by refine sI ?_;rfl,rfl⟩,?_⟩
   refine sI ?_
   omega
  ·have hkn:k=n:=by simp at h1;omega
   subst hkn
   refine go_exit ?_
   refine sI ?_
   intros;refine gr 13 14 ?_;refine sJ c205r5.eq_1 ?_
   intros;refine rV ?_;simp only[push_cast,Nat.reduceBEq]
theorem F220:Fun Tryz.prog 220 13 v220 c220 o220:=Fun.mk' Tryz.func220 Tryz.ntmps220 (by kernel_rfl) (by kernel_rfl) s220 q220
theorem F231:Fun Tryz.prog 231 24 v231 c231 o231:=Fun.mk' Tryz.func231 Tryz.ntmps231 (by kernel_rfl) (by kernel_rfl) s231 q231
theorem F211:Fun Tryz.prog 211 21 v211 c211 o211:=Fun.mk' Tryz.func211 Tryz.ntmps211 (by kernel_rfl) (by kernel_rfl) s211 q211
theorem F187:Fun Tryz.prog 187 21 v187 c187 o187:=Fun.mk' Tryz.func187 Tryz.ntmps187 (by kernel_rfl) (by kernel_rfl) s187 q187
theorem bin_and1(v:W32):binV .and (vW v) (.int .u32 1)=some (vW (v &&& 1#32)):=bin_andW v 1#32
theorem bin_and15(v:W32):binV .and (vW v) (.int .u32 15)=some (vW (v &&& 15#32)):=bin_andW v 15#32
theorem bin_Pand(v:W32):binV .and (.int .u32 3988292384) (vW v)=some (vW (poly &&& v)):=bin_andW poly v
theorem bin_shr1(v:W32):binV .shr (vW v) (.int .u64 1)=some (vW (v >>> 1)):=bin_shrW v 1 (by omega)
theorem bin_shr4(v:W32):binV .shr (vW v) (.int .u64 4)=some (vW (v >>> 4)):=bin_shrW v 4 (by omega)
theorem un_negW(v:W32):unV .neg (vW v)=some (vW (-v)):=by
 have:=v.isLt
 simp only[unV,vW]
 congr 2
 rw[BitVec.toNat_neg]
 simp only[IntKind.wrap,IntKind.bits,IntKind.signed]
 simp
 omega
theorem un_notW(v:W32):unV .xor (vW v)=some (vW (~~~v)):=by
 simp only[unV,vW]
 have:(BitVec.ofInt IntKind.u32.bits (if IntKind.u32.signed=true then -1 else IntKind.u32.max) ^^^ BitVec.ofInt IntKind.u32.bits (v.toNat:Int)).toNat=(~~~v).toNat:=by
  show(BitVec.ofInt 32 4294967295 ^^^ BitVec.ofInt 32 (v.toNat:Int)).toNat=_
  have h1:BitVec.ofInt 32 4294967295=BitVec.allOnes 32:=by decide
  rw[ofW,h1,BitVec.allOnes_xor]
 rw[this,wrapW]
theorem bin_notW(v:W32):binV .xor (vW v) (.int .u32 4294967295)=some (vW (~~~v)):=by
 have h:=bin_xorW v 4294967295#32
 have h1:(4294967295#32:W32)=BitVec.allOnes 32:=by decide
 rw[h1,BitVec.xor_allOnes]at h
 exact h
theorem stp_and(v:W32):(v >>> 1) ^^^ (poly &&& -(v &&& 1#32))=stp v:=by
 have h1:v &&& 1#32=if v.getLsbD 0=true then 1#32 else 0#32:=by
  apply BitVec.eq_of_toNat_eq
  rw[BitVec.toNat_and]
  have:(1#32).toNat=1:=rfl
  rw[this,Nat.and_one_is_mod]
  by_cases h:v.getLsbD 0=true
  ·rw[if_pos h,(bit0 v).1 h];rfl
  ·rw[if_neg h]
   have h3:¬ v.toNat % 2=1:=fun h9=>h ((bit0 v).2 h9)
   have h2:v.toNat % 2=0:=by omega
   rw[h2]
   rfl
 rw[h1,stp]
 by_cases h:v.getLsbD 0=true
 ·rw[if_pos h,if_pos h]
  have:poly &&& -1#32=poly:=by decide
  rw[this]
 ·rw[if_neg h,if_neg h]
  have:poly &&& -0#32=0#32:=by decide
  rw[this]
theorem half_ok(v:W32)(G:Nat→Option Obj):FnS Tryz.prog 230 #[vW v] G (vW (stpN 4 v)):=by
 refine F230.fnS (by simp) (go_of ?_)
 unfold c230
 intros;refine gr 0 0 ?_;refine sJ c230r0.eq_1 ?_
 intros;refine gr 0 0 ?_;refine sJ c230r1.eq_1 ?_
 (intros;try refine go_st ?_)
 refine go_loop (fun e h=>∃ k:Nat,k≤4∧e 3=.int .i64 k∧e 0=vW (stpN k v)∧h=⟨G,[],[]⟩) (fun e h=>4 - iv (e 3)) ?_ ?_
 ·exact⟨0,Nat.zero_le _,eE,by refine sI ?_;rfl,rfl⟩
 ·rintro e h ⟨k,hk,e3,e0,rfl⟩
  refine go_keep [0,3] ?_
  refine sJ2 @e0 @e3 ?_
  intros;refine gr 0 0 ?_;refine sJ c230r2.eq_1 ?_
  intros;refine gc ?_;refine sI ?_
  refine gb (fun h1=>?_) (fun h1=>?_)
  ·have hkn:k < 4:=by simp at h1;omega
   have hw3:=inc_i k 4 (by omega) (by unfold maxLen;omega)
   intros;refine gr 5 12 ?_;refine sJ7 c230r3.eq_1 @bin_shr1 @bin_and1 @un_negW @bin_Pand @bin_xorW @stp_and ?_
   intros;refine gr 12 13 ?_;refine sJ2 c230r4.eq_1 @hw3 ?_
   (intros;try refine go_st ?_)
   refine go_l ⟨⟨k+1,by omega,eE,by refine sI ?_;rfl,rfl⟩,?_⟩
   refine sI ?_
   omega
  ·have hkn:k=4:=by simp at h1;omega
   subst hkn
   refine go_exit ?_
   refine sI ?_
   intros;refine gr 13 14 ?_;refine sJ c230r5.eq_1 ?_
   intros;refine rV ?_;simp only[push_cast,Nat.reduceBEq]
def TabAt(G:Nat→Option Obj)(v:Value):Prop:=∃ b,v=.pointer (some ⟨b,0,none⟩)∧∀ i:Nat,i < 16→cellG G ⟨b,i,none⟩=some (vW (stpN 4 (BitVec.ofNat 32 i)))
theorem TabAt.le{G G':Nat→Option Obj}{v:Value}(h:TabAt G v)(hg:Gle G G'):TabAt G' v:=by
 obtain⟨b,h1,h2⟩:=h
 exact⟨b,h1,fun i hi=>cellG_le hg (h2 i hi)⟩
theorem and15(v:W32):(v &&& 15#32).toNat < 16∧BitVec.ofNat 32 (v &&& 15#32).toNat=v &&& 15#32:=by
 refine⟨?_,by simp⟩
 rw[BitVec.toNat_and]
 exact Nat.lt_of_le_of_lt Nat.and_le_right (by decide)
theorem ix_W{b n:Nat}{v:W32}(h:v.toNat < n):ixPV n 1 (.pointer (some ⟨b,0,none⟩)) (vW v)=some (.pointer (some ⟨b,v.toNat,none⟩)):=by
 simp only[ixPV,vW]
 rw[if_pos ⟨by omega,by omega⟩]
 simp[add_off]
theorem add_ok(v:W32)(c:UInt8)(p:Value)(G:Nat→Option Obj)(hp:TabAt G p):FnS Tryz.prog 231 #[vW v,.int .u8 (c.toNat:Int),p] G (vW (upd v c)):=by
 obtain⟨b,rfl,ht⟩:=hp
 refine F231.fnS (by simp) (go_of ?_)
 unfold c231
 intros;refine gr 0 0 ?_;refine sJ c231r0.eq_1 ?_
 intros;refine gr 6 10 ?_;refine sJ3 c231r1.eq_1 @u8_32 @bin_xorW ?_
 rw[upd_eq]
 generalize v ^^^ ofB c=x
 obtain⟨g1,g2⟩:=and15 x
 intros;refine gr 10 17 ?_;(try simp -implicitDefEqProofs only[kR_e,kQ_e,push_cast,Nat.reduceBEq,Nat.reduceAdd,Nat.reduceSub,Nat.reduceMul,Nat.reduceLT,Nat.reduceLeDiff,Nat.reduceEqDiff,reduceIte,Bool.not_true,Bool.not_false,true_and,and_true,Option.map_some,Option.bind_some,Int.toNat_natCast,c231r2,bin_and15,ix_W g1])
 refine⟨_,⟨_,rfl,.g (ht _ g1)⟩,?_⟩
 rw[g2]
 refine sJ2 @bin_shr4 @bin_xorW ?_
 rw[← half4]
 generalize half4 x=y
 obtain⟨k1,k2⟩:=and15 y
 intros;refine gr 17 24 ?_;(try simp -implicitDefEqProofs only[kR_e,kQ_e,push_cast,Nat.reduceBEq,Nat.reduceAdd,Nat.reduceSub,Nat.reduceMul,Nat.reduceLT,Nat.reduceLeDiff,Nat.reduceEqDiff,reduceIte,Bool.not_true,Bool.not_false,true_and,and_true,Option.map_some,Option.bind_some,Int.toNat_natCast,c231r3,bin_and15,ix_W k1])
 refine⟨_,⟨_,rfl,.g (ht _ k1)⟩,?_⟩
 rw[k2]
 refine sJ2 @bin_shr4 @bin_xorW ?_
 intros;refine rV ?_;simp only[push_cast,Nat.reduceBEq]
 rfl
theorem splice1{cs:List Value}{o:Nat}(x:Value)(h:o < cs.length):splice cs o [x]=cs.set o x:=by
 rw[splice,List.set_eq_take_append_cons_drop,if_pos h]
 simp
theorem adder_ok(G:Nat→Option Obj):FnD Tryz.prog 220 #[] G (fun G' r=>∃ p,r=.func (.func 231) #[] #[p]∧TabAt G' p):=by
 refine F220.fnD (by simp) (go_of ?_)
 unfold c220
 intros;refine gr 0 0 ?_;refine sJ c220r0.eq_1 ?_
 intros;refine gr 0 0 ?_;refine sJ c220r1.eq_1 ?_
 intro b hb
 refine sI ?_
 intros;refine gr 0 0 ?_;refine sJ c220r2.eq_1 ?_
 (intros;try refine go_st ?_)
 refine go_loop (fun e h=>∃ (k:Nat) (cs:List Value),(k≤16∧cs.length=16∧∀ i,i < k→cs[i]?=some (vW (stpN 4 (BitVec.ofNat 32 i))))∧e 3=.int .i64 k∧e 1=.pointer (some ⟨b,0,none⟩)∧h=⟨G,[.blk b cs],[]⟩) (fun e h=>16 - iv (e 3)) ?_ ?_
 ·exact⟨0,_,⟨Nat.zero_le _,rfl,fun i hi=>by omega⟩,eE,eE,rfl⟩
 ·rintro e h ⟨k,cs,⟨hk,hl,ht⟩,e3,e1,rfl⟩
  refine go_keep [1,3] ?_
  refine sJ2 @e1 @e3 ?_
  intros;refine gr 0 0 ?_;refine sJ c220r3.eq_1 ?_
  intros;refine gc ?_;refine sI ?_
  refine gb (fun h1=>?_) (fun h1=>?_)
  ·have hkn:k < 16:=by simp at h1;omega
   have hw3:=inc_i k 16 (by omega) (by unfold maxLen;omega)
   have hkw:Value.int .u32 (IntKind.u32.wrap (k:Int))=vW (BitVec.ofNat 32 k):=by
    have h2:(BitVec.ofNat 32 k).toNat=k:=by simp;omega
    have:=wrapW (BitVec.ofNat 32 k)
    rw[h2]at this
    rw[vW,h2,this]
   intros;refine gr 5 6 ?_;refine sJ c220r4.eq_1 ?_
   intros;refine gr 6 11 ?_;refine sJ2 c220r5.eq_1 @hkw ?_
   refine(half_ok (BitVec.ofNat 32 k) G _ _).mono ?_;rintro _ _ ⟨rfl,rfl⟩;refine sI ?_
   refine⟨by omega,?_⟩
   refine stX_blk (xs:=[vW (stpN 4 (BitVec.ofNat 32 k))]) [] [] rfl (by simp;omega) ⟨rfl,rfl⟩ ?_
   rw[splice1 _ (by omega),show 0+k * 1=k by omega]
   refine sI ?_
   intros;refine gr 11 12 ?_;refine sJ2 c220r6.eq_1 @hw3 ?_
   (intros;try refine go_st ?_)
   refine go_l ⟨⟨k+1,_,⟨by omega,by simp[hl],fun i hi=>?_⟩,eE,eE,rfl⟩,?_⟩
   ·rw[List.getElem?_set]
    by_cases hik:k=i
    ·rw[if_pos hik,if_pos (by omega),← hik]
    ·rw[if_neg hik];exact ht i (by omega)
   ·refine sI ?_
    omega
  ·have hkn:k=16:=by simp at h1;omega
   subst hkn
   refine go_exit ?_
   refine sI ?_
   intros;refine gr 12 13 ?_;refine sJ c220r7.eq_1 ?_
   (intros;try refine go_st ?_)
   refine go_gx (gx_blk_at [] []) ?_
   rintro h' ⟨G2,rfl,hg2,hc⟩
   intros;refine rV ?_;simp only[push_cast,Nat.reduceBEq]
   exact⟨_,rfl,b,rfl,fun i hi=>by simpa [add_off]using hc i _ (ht i hi)⟩
theorem fold_succ{l:List UInt8}{k:Nat}{x:UInt8}(hx:l[k]?=some x)(v:W32):(l.take (k+1)).foldl upd v=upd ((l.take k).foldl upd v) x:=by
 have hk:=List.getElem?_eq_some_iff.1 hx
 rw[List.take_succ_eq_append_getElem hk.1,hk.2]
 simp
theorem Sum_ok(l:List UInt8)(v:Value)(G:Nat→Option Obj)(hl:SB G v l):FnD Tryz.prog 211 #[v] G (fun _ r=>r=vW (crcB l)):=by
 refine F211.fnD (by simp) (go_of ?_)
 obtain⟨A,c,rfl,hc,hm,hA⟩:=hl
 unfold c211
 intros;refine gr 0 0 ?_;refine sJ c211r0.eq_1 ?_
 intros;refine gr 7 8 ?_;refine sJ c211r1.eq_1 ?_
 refine(adder_ok G _ []).mono ?_
 rintro r h' ⟨G1,rfl,hg1,p,rfl,hp⟩
 refine sI ?_
 have hA1:=hA.le hg1 (E':=UE) fun _ _ h=>h
 intros;refine gr 0 0 ?_;refine sJ c211r2.eq_1 ?_
 intros;refine gr 0 0 ?_;refine sJ c211r3.eq_1 ?_
 (intros;try refine go_st ?_)
 refine go_loop (fun e h=>∃ k:Nat,k≤l.length∧e 10=.int .i64 k∧e 9=.int .i64 l.length∧e 8=.slice A l.length c∧e 3=.func (.func 231) #[] #[p]∧e 4=vW ((l.take k).foldl upd 4294967295#32)∧h=⟨G1,[],[]⟩) (fun e h=>l.length - iv (e 10)) ?_ ?_
 ·exact⟨0,Nat.zero_le _,eE,eE,eE,eE,by refine sI ?_;rfl,rfl⟩
 ·rintro e h ⟨k,hk,e10,e9,e8,e3,e4,rfl⟩
  refine go_keep [3,4,8,9,10] ?_
  refine sJ5 @e3 @e4 @e8 @e9 @e10 ?_
  intros;refine gr 0 0 ?_;refine sJ c211r4.eq_1 ?_
  intros;refine gc ?_;refine sI ?_
  refine gb (fun h1=>?_) (fun h1=>?_)
  ·have hkn:k < l.length:=by simpa using h1
   have hw3:=inc_i k c (by omega) hm
   obtain⟨x,hx⟩:∃ x,l[k]?=some x:=⟨l[k],List.getElem?_eq_getElem (by omega)⟩
   intros;refine gr 12 14 ?_;refine sJ c211r5.eq_1 ?_
   refine hA1.x_l1 hx rfl rfl ?_
   rintro a1 ha1 u1 hu
   cases hu
   refine sI ?_
   intros;refine gr 14 18 ?_;refine sJ c211r6.eq_1 ?_
   refine .inl ⟨_,_,rfl,(add_ok _ x p G1 hp _ _).mono ?_⟩
   rintro _ _ ⟨rfl,rfl⟩
   refine sI ?_
   intros;refine gr 18 19 ?_;refine sJ2 c211r7.eq_1 @hw3 ?_
   (intros;try refine go_st ?_)
   refine go_l ⟨⟨k+1,by omega,eE,eE,eE,eE,by rw[fold_succ hx];(refine sI ?_;try with_reducible exact True.intro),rfl⟩,?_⟩
   refine sI ?_
   omega
  ·have hkn:k=l.length:=by simp at h1;omega
   subst hkn
   refine go_exit ?_
   refine sI ?_
   intros;refine gr 19 21 ?_;refine sJ2 c211r8.eq_1 @un_notW ?_
   intros;refine rV ?_;simp only[push_cast,Nat.reduceBEq]
   rw[List.take_length]
   rfl
theorem RSum_ok(l:List UInt8)(v:Value)(G:Nat→Option Obj)(hl:SB G v l):FnS Tryz.prog 187 #[v] G (vW (crcB l)):=by
 refine F187.fnS (by simp) (go_of ?_)
 obtain⟨A,c,rfl,hc,hm,hA⟩:=hl
 unfold c187
 intros;refine gr 0 0 ?_;refine sJ c187r0.eq_1 ?_
 intros;refine gr 0 0 ?_;refine sJ c187r1.eq_1 ?_
 intros;refine gr 0 0 ?_;refine sJ c187r2.eq_1 ?_
 (intros;try refine go_st ?_)
 refine go_loop (fun e h=>∃ k:Nat,k≤l.length∧e 4=.int .i64 k∧e 0=.slice A l.length c∧e 3=vW ((l.take k).foldl upd 4294967295#32)∧h=⟨G,[],[]⟩) (fun e h=>l.length - iv (e 4)) ?_ ?_
 ·exact⟨0,Nat.zero_le _,eE,eE,by refine sI ?_;rfl,rfl⟩
 ·rintro e h ⟨k,hk,e4,e0,e3,rfl⟩
  refine go_keep [0,3,4] ?_
  refine sJ3 @e0 @e3 @e4 ?_
  intros;refine gr 5 8 ?_;refine sJ c187r3.eq_1 ?_
  intros;refine gc ?_;refine sI ?_
  refine gb (fun h1=>?_) (fun h1=>?_)
  ·have hkn:k < l.length:=by simpa using h1
   have hw3:=inc_i k c (by omega) hm
   obtain⟨x,hx⟩:∃ x,l[k]?=some x:=⟨l[k],List.getElem?_eq_getElem (by omega)⟩
   intros;refine gr 11 19 ?_;refine sJ c187r4.eq_1 ?_
   refine hA.x_l1 hx rfl rfl ?_
   rintro a1 ha1 u1 hu
   cases hu
   refine sJ2 @u8_32 @bin_xorW ?_
   refine(steps_ok _ 8 (by omega) G _ _).mono ?_;rintro _ _ ⟨rfl,rfl⟩;refine sI ?_
   intros;refine gr 9 11 ?_;refine sJ2 c187r5.eq_1 @hw3 ?_
   (intros;try refine go_st ?_)
   refine go_l ⟨⟨k+1,by omega,eE,eE,by rw[fold_succ hx];refine sI ?_;rfl,rfl⟩,?_⟩
   refine sI ?_
   omega
  ·have hkn:k=l.length:=by simp at h1;omega
   subst hkn
   refine go_exit ?_
   refine sI ?_
   intros;refine gr 19 21 ?_;refine sJ2 c187r6.eq_1 @bin_notW ?_
   intros;refine rV ?_;simp only[push_cast,Nat.reduceBEq]
   rw[List.take_length]
   rfl
theorem F203:Fun Tryz.prog 203 33 v203 c203 o203:=Fun.mk' Tryz.func203 Tryz.ntmps203 (by kernel_rfl) (by kernel_rfl) s203 q203
theorem F165:Fun Tryz.prog 165 41 v165 c165 o165:=Fun.mk' Tryz.func165 Tryz.ntmps165 (by kernel_rfl) (by kernel_rfl) s165 q165
theorem F186:Fun Tryz.prog 186 15 v186 c186 o186:=Fun.mk' Tryz.func186 Tryz.ntmps186 (by kernel_rfl) (by kernel_rfl) s186 q186
theorem F202:Fun Tryz.prog 202 9 v202 c202 o202:=Fun.mk' Tryz.func202 Tryz.ntmps202 (by kernel_rfl) (by kernel_rfl) s202 q202
theorem F164:Fun Tryz.prog 164 10 v164 c164 o164:=Fun.mk' Tryz.func164 Tryz.ntmps164 (by kernel_rfl) (by kernel_rfl) s164 q164
def putN(n k:Nat):List UInt8:=(List.range k).map fun i=>UInt8.ofNat (n / 256 ^ (k - 1 - i))
theorem putN_len(n k:Nat):(putN n k).length=k:=by simp[putN]
theorem putN_take{n k i:Nat}(h:i < k):(putN n k).take (i+1)=(putN n k).take i++[UInt8.ofNat (n / 256 ^ (k - 1 - i))]:=by
 have hl:i < (putN n k).length:=by rw[putN_len];exact h
 rw[List.take_succ_eq_append_getElem hl]
 congr 2
 simp[putN]
def sealB(l:List UInt8):List UInt8:=l++putN (crcB l).toNat 4
theorem bin_shrN(n s:Nat)(hs:s≤64):binV .shr (.int .u64 (n:Int)) (.int .i64 (s:Int))=some (.int .u64 ((n / 2 ^ s:Nat):Int)):=by
 simp only[binV]
 rw[if_pos (by omega)]
 congr 2
 have h1:min ((s:Int)).toNat IntKind.u64.bits=s:=by simp[IntKind.bits];omega
 rw[h1,Int.fdiv_eq_ediv_of_nonneg _ (by exact_mod_cast Nat.zero_le _)]
 exact_mod_cast rfl
theorem OPut_ok(l:List UInt8)(n k:Nat)(hn:n < 18446744073709551616)(hk:1≤k∧k≤8)(v:Value)(G:Nat→Option Obj)(hl:SB G v l)(hb:l.length≤100000):
  FnO Tryz.prog 203 #[v,.int .u64 (n:Int),.int .i64 (k:Int)] G [] (fun _ L' r=>OwnB (l++putN n k) L' r):=by
 refine F203.fnO (by simp) noRegs_nil (go_of ?_)
 have hl0:=hl
 obtain⟨A,c,rfl,hc,hm,hA⟩:=hl
 unfold c203
 intros;refine gr 0 0 ?_;refine sJ c203r0.eq_1 ?_
 intros;refine gr 9 11 ?_;refine sJ c203r1.eq_1 ?_
 refine(Clone_ok l _ G hl0 (by omega) _ []).mono ?_
 rintro r h' ⟨G1,L',rfl,hg1,ys,hys,rfl⟩
 refine sI ?_
 intros;refine gr 11 16 ?_;refine sJ c203r2.eq_1 ?_
 refine gd (fun h1=>by simp at h1;omega) (fun h1=>?_)
 refine sI ?_
 intros;refine gc ?_;refine sI ?_
 refine gb (fun h2=>by simp at h2;omega) (fun h2=>?_)
 have w1:IntKind.i64.wrap ((k:Int) - 1)=(k:Int) - 1:=by rw[w64_id] <;> omega
 have w2:IntKind.i64.wrap (8 * ((k:Int) - 1))=8 * (k:Int) - 8:=by rw[w64_id] <;> omega
 (repeat first | refine go_skip ?_ | refine go_b ?_)
 intros;refine gr 18 21 ?_;refine sJ3 c203r4.eq_1 @w1 @w2 ?_
 (intros;try refine go_st ?_)
 refine go_loop (fun e h=>∃ (i:Nat) (zc:List Value) (u:Value),(i≤k∧Cells UE 1 (l++(putN n k).take i) zc)∧e 8=.int .i64 (8 * (k:Int) - 8 - 8 * i)∧e 1=.int .u64 (n:Int)∧e 7=u∧h.G=G1∧h.D=[]∧[Item.row u 5 1 (l++(putN n k).take i).length zc].Sublist h.L) (fun e h=>iv1 (e 8)) ?_ ?_
 ·exact⟨0,ys,r,⟨Nat.zero_le _,by simpa using hys⟩,by refine sI ?_;simp,eE,eE,rfl,rfl,by simp⟩
 ·rintro e ⟨G',L,D⟩ ⟨i,zc,u,⟨hi,hcs⟩,e8,e1,e7,hG,hD,hL⟩
  dsimp only at hG hD hL
  subst hG hD
  refine go_ghost (ghost_sub hL) ?_
  refine go_keep [1,7,8] ?_
  refine sJ3 @e1 @e7 @e8 ?_
  intros;refine gr 21 22 ?_;refine sJ c203r5.eq_1 ?_
  intros;refine gc ?_;refine sI ?_
  refine gb (fun ht=>?_) (fun ht=>?_)
  ·have hik:i < k:=by have:=of_decide_eq_true ht;omega
   have htk:=putN_take (n:=n) hik
   have hsh:binV .shr (.int .u64 (n:Int)) (.int .i64 (8 * (k:Int) - 8 - 8 * i))=some (.int .u64 ((n / 256 ^ (k - 1 - i):Nat):Int)):=by
    have e1:8 * (k:Int) - 8 - 8 * i=((8 * (k - 1 - i):Nat):Int):=by omega
    rw[e1,bin_shrN n _ (by omega),Nat.pow_mul]
   generalize n / 256 ^ (k - 1 - i)=q at htk hsh
   have w3:IntKind.i64.wrap (8 * (k:Int) - 8 - 8 * i - 8)=8 * (k:Int) - 8 - 8 * ((i+1:Nat):Int):=by rw[w64_id] <;> omega
   have hll:(l++(putN n k).take i).length≤200000:=by simp[putN_len];omega
   intros;refine gr 25 32 ?_;refine sJ3 c203r6.eq_1 @hsh @u8_nat ?_
   intro bk hbk
   refine app8 (L1:=[]) (L2:=[]) rfl rfl hcs (by omega) fun A' c' zc' hzc=>?_
   rw[List.append_assoc,← htk]at hzc ⊢
   refine sI ?_
   intros;refine gr 23 25 ?_;refine sJ2 c203r7.eq_1 @w3 ?_
   (intros;try refine go_st ?_)
   refine go_l ⟨⟨i+1,zc',_,⟨by omega,hzc⟩,eE,eE,eE,rfl,rfl,.cons _ (List.Sublist.refl _)⟩,?_⟩
   refine sJ @iv1_i ?_
   omega
  ·have hik:i=k:=by have:=of_decide_eq_false ht;omega
   subst hik
   refine go_exit ?_
   refine sI ?_
   intros;refine gr 32 33 ?_;refine sJ c203r8.eq_1 ?_
   (intros;try refine go_st ?_)
   rw[List.take_of_length_le (by rw[putN_len];exact Nat.le_refl _)]at hcs ⊢
   refine go_ret (retQ_o _ rfl (List.Sublist.refl _) (noRegs_row noRegs_nil) ?_)
   exact⟨zc,hcs,rfl⟩
theorem ROPut_ok(l:List UInt8)(n k:Nat)(hn:n < 18446744073709551616)(hk:1≤k∧k≤8)(v:Value)(G:Nat→Option Obj)(hl:SB G v l)(hb:l.length≤100000):
  FnO Tryz.prog 165 #[v,.int .u64 (n:Int),.int .i64 (k:Int)] G [] (fun _ L' r=>OwnB (l++putN n k) L' r):=by
 refine F165.fnO (by simp) noRegs_nil (go_of ?_)
 have hl0:=hl
 obtain⟨A,c,rfl,hc,hm,hA⟩:=hl
 unfold c165
 intros;refine gr 0 0 ?_;refine sJ c165r0.eq_1 ?_
 intros;refine gr 10 12 ?_;refine sJ c165r1.eq_1 ?_
 refine(Copy_ok l _ G hl0 (by omega) _ []).mono ?_
 rintro r h' ⟨G1,L',rfl,hg1,ys,hys,rfl⟩
 refine sI ?_
 intros;refine gr 12 17 ?_;refine sJ c165r2.eq_1 ?_
 refine gd (fun h1=>by simp at h1;omega) (fun h1=>?_)
 refine sI ?_
 intros;refine gc ?_;refine sI ?_
 refine gb (fun h2=>by simp at h2;omega) (fun h2=>?_)
 have w1:IntKind.i64.wrap ((k:Int) - 1)=(k:Int) - 1:=by rw[w64_id] <;> omega
 (repeat first | refine go_skip ?_ | refine go_b ?_)
 intros;refine gr 0 0 ?_;refine sJ c165r4.eq_1 ?_
 (intros;try refine go_st ?_)
 refine go_loop (fun e h=>∃ (i:Nat) (zc:List Value) (u:Value),(i≤k∧Cells UE 1 (l++(putN n k).take i) zc)∧e 20=.int .i64 i∧e 19=.int .i64 k∧e 1=.int .u64 (n:Int)∧e 2=.int .i64 k∧e 7=u∧h.G=G1∧h.D=[]∧[Item.row u 5 1 (l++(putN n k).take i).length zc].Sublist h.L) (fun e h=>k - iv (e 20)) ?_ ?_
 ·exact⟨0,ys,r,⟨Nat.zero_le _,by simpa using hys⟩,eE,eE,eE,eE,eE,rfl,rfl,by simp⟩
 ·rintro e ⟨G',L,D⟩ ⟨i,zc,u,⟨hi,hcs⟩,e20,e19,e1,e2,e7,hG,hD,hL⟩
  dsimp only at hG hD hL
  subst hG hD
  refine go_ghost (ghost_sub hL) ?_
  refine go_keep [1,2,7,19,20] ?_
  refine sJ5 @e1 @e2 @e7 @e19 @e20 ?_
  intros;refine gr 0 0 ?_;refine sJ c165r5.eq_1 ?_
  intros;refine gc ?_;refine sI ?_
  refine gb (fun ht=>?_) (fun ht=>?_)
  ·have hik:i < k:=by have:=of_decide_eq_true ht;omega
   have hw3:=inc_i i k hik (by unfold maxLen;omega)
   have w2:IntKind.i64.wrap ((k:Int) - 1 - i)=((k - 1 - i:Nat):Int):=by rw[w64_id] <;> omega
   have htk:=putN_take (n:=n) hik
   have hll:(l++(putN n k).take i).length≤200000:=by simp[putN_len];omega
   generalize hmm:k - 1 - i=m at htk w2
   (repeat first | refine go_skip ?_ | refine go_b ?_)
   intros;refine gr 22 23 ?_;refine sJ c165r6.eq_1 ?_
   intros;refine gr 23 24 ?_;refine sJ c165r7.eq_1 ?_
   intros;refine gr 24 27 ?_;refine sJ3 c165r8.eq_1 @w1 @w2 ?_
   (intros;try refine go_st ?_)
   refine go_loop (fun e h=>∃ j:Nat,j≤m∧e 28=.int .i64 j∧e 27=.int .i64 m∧(∃ q:Nat,q=n / 256 ^ j∧e 9=.int .u64 (q:Int))∧e 1=.int .u64 (n:Int)∧e 2=.int .i64 k∧e 7=u∧e 19=.int .i64 k∧e 20=.int .i64 i∧h=⟨G',[.row u 5 1 (l++(putN n k).take i).length zc],[]⟩) (fun e h=>m - iv (e 28)) ?_ ?_
   ·exact⟨0,Nat.zero_le _,eE,eE,⟨n,by simp,eE⟩,eE,eE,eE,eE,eE,rfl⟩
   ·rintro e h ⟨j,hj,e28,e27,⟨q,hq,e9⟩,e1,e2,e7,e19,e20,rfl⟩
    refine go_keep [1,2,7,9,19,20,27,28] ?_
    (try simp -implicitDefEqProofs only[kR_e,kQ_e,push_cast,Nat.reduceBEq,Nat.reduceAdd,Nat.reduceSub,Nat.reduceMul,Nat.reduceLT,Nat.reduceLeDiff,Nat.reduceEqDiff,reduceIte,Bool.not_true,Bool.not_false,true_and,and_true,Option.map_some,Option.bind_some,Int.toNat_natCast,e1,e2,e7,e9,e19,e20,e27,e28])
    intros;refine gr 0 0 ?_;refine sJ c165r9.eq_1 ?_
    intros;refine gc ?_;refine sI ?_
    have hqn:q≤n:=by rw[hq];exact Nat.div_le_self _ _
    refine gb (fun ht=>?_) (fun ht=>?_)
    ·have hjm:j < m:=by have:=of_decide_eq_true ht;omega
     have hw4:=inc_i j m hjm (by unfold maxLen;omega)
     have hqq:binV .quo (.int .u64 (q:Int)) (.int .u64 256)=some (.int .u64 ((q / 256:Nat):Int)):=bin_quo .u64 q 256 (by decide) (by simp[IntKind.max,IntKind.signed,IntKind.bits];omega) rfl
     have hq2:q / 256=n / 256 ^ (j+1):=by rw[hq,Nat.div_div_eq_div_mul,Nat.pow_succ]
     generalize q / 256=q2 at hqq hq2
     (repeat first | refine go_skip ?_ | refine go_b ?_)
     intros;refine gr 30 32 ?_;refine sJ2 c165r10.eq_1 @hqq ?_
     intros;refine gr 32 33 ?_;refine sJ2 c165r11.eq_1 @hw4 ?_
     (intros;try refine go_st ?_)
     refine go_l ⟨⟨j+1,by omega,eE,eE,⟨q2,hq2,eE⟩,eE,eE,eE,eE,eE,rfl⟩,?_⟩
     refine sI ?_
     omega
    ·have hjm:j=m:=by have:=of_decide_eq_false ht;omega
     subst hjm
     rw[← hq]at htk
     have hr:binV .rem (.int .u64 (q:Int)) (.int .u64 256)=some (.int .u64 ((q % 256:Nat):Int)):=bin_rem .u64 q 256 (by decide)
     have hw:IntKind.u8.wrap ((q % 256:Nat):Int)=((UInt8.ofNat q).toNat:Int):=by rw[u8_nat];simp
     generalize q % 256=q3 at hr hw
     refine go_exit ?_
     refine sI ?_
     intros;refine gr 33 39 ?_;refine sJ2 c165r12.eq_1 @hr ?_
     intro bk hbk
     refine app8 (L1:=[]) (L2:=[]) rfl hw hcs (by omega) fun A' c' zc' hzc=>?_
     rw[List.append_assoc,← htk]at hzc ⊢
     refine sI ?_
     intros;refine gr 39 40 ?_;refine sJ2 c165r13.eq_1 @hw3 ?_
     (intros;try refine go_st ?_)
     refine go_l ⟨⟨i+1,zc',_,⟨by omega,hzc⟩,eE,eE,eE,eE,eE,rfl,rfl,.cons _ (List.Sublist.refl _)⟩,?_⟩
     refine sI ?_
     omega
  ·have hik:i=k:=by have:=of_decide_eq_false ht;omega
   subst hik
   refine go_exit ?_
   refine sI ?_
   intros;refine gr 40 41 ?_;refine sJ c165r14.eq_1 ?_
   (intros;try refine go_st ?_)
   rw[List.take_of_length_le (by rw[putN_len];exact Nat.le_refl _)]at hcs ⊢
   refine go_ret (retQ_o _ rfl (List.Sublist.refl _) (noRegs_row noRegs_nil) ?_)
   exact⟨zc,hcs,rfl⟩
theorem sealB_len(l:List UInt8):(sealB l).length=l.length+4:=by simp[sealB,putN_len]
theorem u64_W(v:W32):IntKind.u64.wrap (v.toNat:Int)=(v.toNat:Int):=by
 have:=v.isLt
 simp only[IntKind.wrap,IntKind.bits,IntKind.signed]
 simp
 omega
theorem bin_quoW(v:W32)(b:Nat)(hb:b≠0):binV .quo (.int .u32 (v.toNat:Int)) (.int .u32 (b:Int))=some (.int .u32 ((v.toNat / b:Nat):Int)):=by
 have h:=v.isLt
 exact bin_quo .u32 v.toNat b hb (by simp[IntKind.max,IntKind.signed,IntKind.bits];omega) rfl
theorem four_ok(v:W32)(G:Nat→Option Obj):FnO Tryz.prog 186 #[vW v] G [] (fun _ L' r=>OwnB (putN v.toNat 4) L' r):=by
 refine F186.fnO (by simp) noRegs_nil (go_of ?_)
 unfold c186
 unfold vW
 intros;refine gr 0 0 ?_;refine sJ c186r0.eq_1 ?_
 have q1:binV .quo (.int .u32 (v.toNat:Int)) (.int .u32 16777216)=some (.int .u32 ((v.toNat / 16777216:Nat):Int)):=bin_quoW v 16777216 (by decide)
 have q2:binV .quo (.int .u32 (v.toNat:Int)) (.int .u32 65536)=some (.int .u32 ((v.toNat / 65536:Nat):Int)):=bin_quoW v 65536 (by decide)
 have q3:binV .quo (.int .u32 (v.toNat:Int)) (.int .u32 256)=some (.int .u32 ((v.toNat / 256:Nat):Int)):=bin_quoW v 256 (by decide)
 have hput:putN v.toNat 4=[UInt8.ofNat (v.toNat / 16777216),UInt8.ofNat (v.toNat / 65536),UInt8.ofNat (v.toNat / 256),UInt8.ofNat v.toNat]:=by
  simp[putN,List.range_succ]
 rw[hput]
 generalize v.toNat / 16777216=n1 at q1 ⊢
 generalize v.toNat / 65536=n2 at q2 ⊢
 generalize v.toNat / 256=n3 at q3 ⊢
 generalize v.toNat=n4 at *
 intros;refine gr 3 15 ?_;refine sJ5 c186r1.eq_1 @q1 @q2 @q3 @u8_nat ?_
 intro b hb
 (intros;try refine go_st ?_)
 refine go_ret (retQ_o _ rfl (List.Sublist.refl _) (noRegs_row noRegs_nil) ?_)
 exact⟨_,cells_b [UInt8.ofNat n1,UInt8.ofNat n2,UInt8.ofNat n3,UInt8.ofNat n4],rfl⟩
theorem Seal_ok(l:List UInt8)(v:Value)(G:Nat→Option Obj)(hl:SB G v l)(hb:l.length≤100000):FnO Tryz.prog 202 #[v] G [] (fun _ L' r=>OwnB (sealB l) L' r):=by
 refine F202.fnO (by simp) noRegs_nil (go_of ?_)
 unfold c202
 have hsum:=Sum_ok l v G hl
 unfold sealB
 generalize crcB l=w at hsum ⊢
 intros;refine gr 0 0 ?_;refine sJ c202r0.eq_1 ?_
 intros;refine gr 3 9 ?_;refine sJ c202r1.eq_1 ?_
 refine apX_v (.inr ⟨⟨none,rfl⟩,rfl,rfl,rfl,rfl⟩) hl rfl UE1 (by unfold maxLen;omega) fun ys A c hc=>?_
 simp only[Nat.zero_add,List.nil_append]
 refine sI ?_
 refine(hsum _ []).mono ?_
 rintro r h' ⟨G1,rfl,hg1,rfl⟩
 unfold vW
 refine sJ @u64_W ?_
 refine callsH_gx F203.enters (gx_slv_at [] _ (by decide) hc) ?_
 rintro h' ⟨G2,rfl,hg2,hv2⟩
 refine(OPut_ok l w.toNat 4 (by have:=w.isLt;omega) (by omega) _ G2 hv2 hb _ []).mono ?_
 rintro r h' ⟨G3,L',rfl,hg3,ys3,hys3,rfl⟩
 refine sI ?_
 (intros;try refine go_st ?_)
 refine go_ret (retQ_o _ rfl (List.Sublist.refl _) (noRegs_row noRegs_nil) ?_)
 exact⟨ys3,hys3,rfl⟩
theorem RSeal_ok(l:List UInt8)(v:Value)(G:Nat→Option Obj)(hl:SB G v l)(hb:l.length≤100000):FnO Tryz.prog 164 #[v] G [] (fun _ L' r=>OwnB (sealB l) L' r):=by
 refine F164.fnO (by simp) noRegs_nil (go_of ?_)
 unfold c164
 have hsum:=RSum_ok l v G hl
 unfold sealB
 generalize crcB l=w at hsum ⊢
 intros;refine gr 0 0 ?_;refine sJ c164r0.eq_1 ?_
 intros;refine gr 3 10 ?_;refine sJ c164r1.eq_1 ?_
 intro b0 hb0
 refine apX_v (.inr ⟨⟨_,rfl⟩,rfl,rfl,rfl,rfl⟩) hl rfl UE1 (by unfold maxLen;omega) fun ys A c hc=>?_
 simp only[Nat.zero_add,List.nil_append]
 refine sI ?_
 refine(hsum _ _).mono ?_;rintro _ _ ⟨rfl,rfl⟩;refine sI ?_
 refine(ownL_d (by decide) (four_ok w G) _ []).mono ?_
 rintro r h' ⟨G1,rfl,hg1,hv1⟩
 refine sI ?_
 refine apX_v (L1:=[]) (.inl rfl) hv1 rfl UE1 (by rw[putN_len];unfold maxLen;omega) fun ys' A' c' hc'=>?_
 have hh:=hc.app hc'
 refine sI ?_
 (intros;try refine go_st ?_)
 refine go_ret (retQ_o _ rfl (List.Sublist.refl _) (noRegs_row noRegs_nil) ?_)
 rw[← List.length_append]
 exact⟨_,hh,rfl⟩
def headN(b:Batch):List Int:=[b.base,b.last - b.base,b.src,b.epoch,b.pid,b.gen,b.seq]
def headB(l:List Int):List UInt8:=l.flatMap pvB
def markB(b:Batch):UInt8:=UInt8.ofNat (b.ctl.toNat+if b.txn=true then 4 else 0)
def recsB(base stamp:Int)(l:List Rec):List UInt8:=l.flatMap fun r=>prB r base stamp
def tailB(b:Batch):List UInt8:=match b.recs with
 | []=>[]
 | r :: rs=>pvB r.stamp++recsB b.base r.stamp (r :: rs)
def bodyB(b:Batch):List UInt8:=headB (headN b)++[markB b]++pvB b.recs.length++tailB b
def bytesB(b:Batch):List UInt8:=putN (sealB (bodyB b)).length 4++sealB (bodyB b)
theorem headB_len:∀ (l:List Int),(headB l).length≤10 * l.length
 | []=>by simp[headB]
 | n :: l=>by
  have:=headB_len l
  have h2:=pvB_len n
  simp[headB]at this ⊢
  omega
theorem headB_succ{l:List Int}{k:Nat}{n:Int}(h:l[k]?=some n):headB (l.take (k+1))=headB (l.take k)++pvB n:=by
 have hk:=List.getElem?_eq_some_iff.1 h
 rw[List.take_succ_eq_append_getElem hk.1,hk.2]
 simp[headB]
theorem recsB_succ{base stamp:Int}{l:List Rec}{k:Nat}{r:Rec}(h:l[k]?=some r):recsB base stamp (l.take (k+1))=recsB base stamp (l.take k)++prB r base stamp:=by
 have hk:=List.getElem?_eq_some_iff.1 h
 rw[List.take_succ_eq_append_getElem hk.1,hk.2]
 simp[recsB]
theorem prB_len{r:Rec}{base stamp:Int}(hk:r.key.size≤64)(hv:r.val.size≤64):(prB r base stamp).length≤169:=by
 have h1:=pvB_len (r.off - base)
 have h2:=pvB_len (r.stamp - stamp)
 have h3:=ptB_len r.key
 have h4:=ptB_len r.val
 simp[prB]
 omega
theorem rowF_all:∀ (l:List Rec) (last nx:Int),rowF last nx l=true→(∀ r∈l,chkR r=0)∧nx+l.length≤max nx (last+1)
 | [],last,nx,_=>⟨by simp,by simp;omega⟩
 | r :: l,last,nx,h=>by
  simp only[rowF,Bool.and_eq_true,decide_eq_true_eq]at h
  obtain⟨⟨⟨h1,h2⟩,h3⟩,h4⟩:=h
  obtain⟨h5,h6⟩:=rowF_all l last (r.off+1) h4
  refine⟨fun x hx=>?_,?_⟩
  ·rcases List.mem_cons.1 hx with rfl | hx
   ·exact h1
   ·exact h5 x hx
  ·simp
   omega
theorem form_recs{b:Batch}(h:Form b):(∀ r∈b.recs,chkR r=0)∧b.recs.length≤16:=by
 rcases h.2.2.2.2.2 with h9 | h9
 ·obtain⟨h1,h2⟩:=rowF_all _ _ _ h9.2
  have:=h.2.2.1
  exact⟨h1,by omega⟩
 ·rw[h9.2.2.1]
  exact⟨by simp,by simp⟩
end Go.Proofs.YtpmofpekcbghnaaGreat

/- Parts of a proof, 20 texts in one file. No condition. -/
import Derived.Test.YtpmofpekcbghnaaGreatRows
import Derived.Laws.Strings
import Derived.Test.YtpmofpekcbghnaaGreatM1
import Derived.Test.YtpmofpekcbghnaaGreatM2
set_option linter.unusedSimpArgs false
set_option linter.unusedVariables false
namespace Go.Proofs.YtpmofpekcbghnaaGreat
open Go Go.Kx
abbrev ac(a b:Nat):SI:=⟨none,.mv a (.t b),none,0⟩
abbrev af(a:Nat)(b:Int):SI:=⟨none,.mv a (.i b),none,0⟩
abbrev ah(a b:Nat):SI:=⟨none,.ld a (.t b) none,none,0⟩
abbrev ai(a:Nat):SI:=⟨none,.nop,(some a),0⟩
abbrev aj(a b c:Nat):SI:=⟨none,.ext a (.t b) c,none,0⟩
abbrev ak(a b c:Nat):SI:=⟨none,.flA a (.t b) c,none,0⟩
abbrev am(a b c:Nat):SI:=⟨none,.ldR a b c none,none,0⟩
abbrev ao(a b c d:Nat):SI:=⟨none,.stR a b c (.t d),none,0⟩
abbrev aq(a b c d:Nat):SI:=⟨none,.ldR a b c (some d),none,0⟩
abbrev ar(a b:Nat):SI:=⟨none,.nck a (.t b),none,0⟩
abbrev au(a b c:Nat):SI:=⟨none,.call a b [(.t c)],none,0⟩
abbrev av(a b:Nat):SI:=⟨none,.len a false (.t b),none,0⟩
abbrev aw(a b c:Nat):SI:=⟨none,.pick a (.t b) (.b true) (.t c),none,0⟩
abbrev ay(a b c d:Nat):SI:=⟨none,.call a b [(.t c),(.t d)],none,0⟩
abbrev az(a b c:Nat):SI:=⟨none,.st (.t a) b (.t c),none,0⟩
abbrev aA(a b c:Nat):SI:=⟨some (a,false),.mv b (.t c),none,b⟩
abbrev aB(a:Nat):SI:=⟨none,.mv a (.b false),none,0⟩
abbrev aC(a b:Nat):SI:=⟨none,.bxR a (.t b),none,0⟩
abbrev aD(a b:Nat)(c:Int):SI:=⟨none,.bin a .add (.t b) (.i c),none,0⟩
abbrev aE(a b c:Nat):SI:=⟨some (a,true),.mv b (.t c),none,b⟩
abbrev aF(a b c:Nat):SI:=⟨none,.pick a (.t b) (.t c) (.b false),none,0⟩
abbrev aG(a b c d:Nat):SI:=⟨none,.ixA a (.t b) (.t c) d,none,0⟩
abbrev aH(a b c:Nat):SI:=⟨none,.ld a (.t b) (some c),none,0⟩
abbrev aI(a:Nat):SI:=⟨none,.mv a (.v (.slice none 0 0)),none,0⟩
abbrev aJ(a b c:Nat):SI:=⟨none,.bin a .lss (.t b) (.t c),none,0⟩
abbrev aK(a b:Nat):SI:=⟨some (a,false),.nop,(some b),99999⟩
abbrev aL(a b c d:Nat):SI:=⟨some (a,false),.ldR b c d none,none,b⟩
abbrev aM(a b:Nat)(c:Int):SI:=⟨none,.bin a .neq (.t b) (.i c),none,0⟩
abbrev aN(a b:Nat):SI:=⟨none,.un a .not (.t b),none,0⟩
abbrev aO(a b:Nat):SI:=⟨none,.bx a (.t b),none,0⟩
abbrev aP(a b c d e f:Nat):SI:=⟨none,.app a (.t b) (.t c) d e f,none,0⟩
abbrev aQ(a b:Nat)(c:Int):SI:=⟨none,.bin a .eql (.t b) (.i c),none,0⟩
abbrev aR(a b:Nat)(c:Int):SI:=⟨none,.bin a .lss (.t b) (.i c),none,0⟩
abbrev aS(a b c:Nat):SI:=⟨some (a,false),.un b .not (.t c),none,b⟩
abbrev aT(a b c:Nat):SI:=⟨some (a,false),.ld b (.t c) none,none,b⟩
abbrev aU(a:Nat):SI:=⟨none,.alR a [(.int .i64 0),(.int .i64 0),(.int .i64 0),(.slice none 0 0),(.slice none 0 0)],none,0⟩
abbrev aV(a b c d:Nat):SI:=⟨some (a,true),.call b c [(.t d)],none,b⟩
abbrev aW(a b:Nat):SI:=⟨some (a,true),.nop,(some b),99999⟩
abbrev aX(a b c d:Nat):SI:=⟨some (a,true),.ldR b c d none,none,b⟩
abbrev aY(a b c:Nat)(d:Int):SI:=⟨some (a,false),.bin b .gtr (.t c) (.i d),none,b⟩
abbrev aZ(a b c:Nat)(d:Int):SI:=⟨some (a,true),.bin b .eql (.t c) (.i d),none,b⟩
abbrev a8(a b c d:Nat):SI:=⟨some (a,false),.call b c [(.t d)],none,b⟩
abbrev a9(a b c d e:Nat):SI:=⟨none,.call a b [(.t c),(.t d),(.t e)],none,0⟩
abbrev ba(a b c:Nat):SI:=⟨none,.bin a .add (.t b) (.t c),none,0⟩
abbrev bc(a:Nat):SI:=⟨none,.alR a [(.int .i64 0),(.int .i64 0),(.slice none 0 0)],none,0⟩
abbrev bd(a b c d e:Nat):SI:=⟨some (a,true),.ldR b c d (some e),none,b⟩
abbrev bf(a b:Nat)(c:Int):SI:=⟨none,.bin a .geq (.t b) (.i c),none,0⟩
abbrev bg(a b c:Nat):SI:=⟨none,.bin a .sub (.t b) (.t c),none,0⟩
abbrev bh(a:Nat):SI:=⟨none,.alR a [(.int .i64 0),(.int .i64 0),(.int .i64 0),(.int .i64 0),(.int .i64 0),(.int .i64 0),(.int .i64 0),(.bool false),(.int .i64 0),(.slice none 0 0)],none,0⟩
abbrev bi(a b c:Nat)(d:Int):SI:=⟨some (a,false),.bin b .neq (.t c) (.i d),none,b⟩
abbrev bj(a b c:Nat):SI:=⟨some (a,false),.len b false (.t c),none,b⟩
abbrev bl(a:Nat):SI:=⟨none,.alR a [(.int .i64 0),(.slice none 0 0)],none,0⟩
abbrev bm(a b:Nat):SI:=⟨none,.cvI a .u64 (.t b),none,0⟩
abbrev bn(a:Nat):SI:=⟨none,.bld a [(.int .i64 0),(.int .i64 0),(.slice none 0 0)] [],none,0⟩
abbrev bo(a b:Nat)(c:Int):SI:=⟨none,.bin a .gtr (.t b) (.i c),none,0⟩
abbrev bp(a:Nat):SI:=⟨none,.bld a [(.int .i64 0),(.int .i64 0),(.int .i64 0),(.int .i64 0),(.int .i64 0),(.int .i64 0),(.int .i64 0),(.bool false),(.int .i64 0),(.slice none 0 0)] [],none,0⟩
abbrev bq(a b c d:Nat):SI:=⟨none,.sl a (.t b) none (some (.t c)) none d,none,0⟩
abbrev bt(a b c:Nat)(d:Int):SI:=⟨some (a,true),.bin b .leq (.t c) (.i d),none,b⟩
abbrev bu(a b c:Nat):SI:=⟨none,.bin a .eql (.t b) (.t c),none,0⟩
abbrev bw(a b:Nat)(c:Int):SI:=⟨none,.bin a .sub (.t b) (.i c),none,0⟩
abbrev bz(a b c:Nat):SI:=⟨none,.mm a false (.t b) (.t c),none,0⟩
abbrev bA(a b:Nat)(c:Int):SI:=⟨none,.bin a .shr (.t b) (.v (.int .u64 c)),none,0⟩
abbrev bB(a:Nat):SI:=⟨none,.al a [(.int .i64 0),(.int .i64 0),(.int .i64 0),(.slice none 0 0),(.slice none 0 0)],none,0⟩
abbrev bC(a b c:Nat)(d:Int):SI:=⟨none,.call a b [(.t c),(.i d)],none,0⟩
abbrev bD(a b c:Nat):SI:=⟨some (a,true),.ld b (.t c) none,none,b⟩
abbrev bE(a b c:Nat)(d:Int):SI:=⟨some (a,false),.bin b .lss (.t c) (.i d),none,b⟩
abbrev bF(a:Nat):SI:=⟨none,.al a [(.int .i64 0)],none,0⟩
abbrev bG(a b c:Nat):SI:=⟨none,.mkf a (.func b) [(.t c)],none,0⟩
abbrev bH(a b c d e f g:Nat):SI:=⟨none,.bls a b c d [(.int .i64 0),(.slice none 0 0)] [(e,f,(.t g))],none,0⟩
abbrev bI(a b c:Nat):SI:=⟨none,.cav a (.t b) [(.t c)],none,0⟩
abbrev bJ(a b c d:Nat):SI:=⟨none,.cav a (.t b) [(.t c),(.t d)],none,0⟩
abbrev bK(a b:Nat)(c:Int)(d e:Nat):SI:=⟨none,.ixP a (.t b) (.i c) d e,none,0⟩
abbrev bL(a:Nat):SI:=⟨none,.mv a (.v (.string ⟨#[]⟩)),none,0⟩
abbrev bM(a b c d:Nat):SI:=⟨none,.mkf a (.func b) [(.t c),(.t d)],none,0⟩
abbrev bN(a b c d e:Nat):SI:=⟨some (a,true),.ixA b (.t c) (.t d) e,none,b⟩
abbrev bO(a b c d:Nat):SI:=⟨some (a,false),.pick b (.t c) (.t d) (.b false),none,b⟩
abbrev bP(a b c:Nat):SI:=⟨none,.bin a .gtr (.t b) (.t c),none,0⟩
abbrev bQ(a b:Nat):SI:=⟨none,.cvI a .i64 (.t b),none,0⟩
abbrev bR(a b c d:Nat):SI:=⟨some (a,true),.pick b (.t c) (.b true) (.t d),none,b⟩
abbrev bS(a:Nat):SI:=⟨none,.bld a [(.int .i64 0),(.slice none 0 0)] [],none,0⟩
abbrev bT(a b c d e f g:Nat):SI:=⟨none,.bls a b c d [(.int .u8 0)] [(e,f,(.t g))],none,0⟩
abbrev bU(a b:Nat):SI:=⟨none,.call a b [],none,0⟩
abbrev bV(a b c d:Nat):SI:=⟨some (a,false),.flA b (.t c) d,none,b⟩
abbrev bW(a b:Nat)(c:Int):SI:=⟨none,.st (.t a) b (.i c),none,0⟩
abbrev bX(a b c:Nat):SI:=⟨none,.mm a true (.t b) (.t c),none,0⟩
abbrev bY(a b:Nat):SI:=⟨none,.isn a false (.t b),none,0⟩
abbrev bZ(a:Nat):SI:=⟨none,.bl0 a,none,0⟩
abbrev cd(a b:Nat):SI:=⟨none,.len a true (.t b),none,0⟩
abbrev cf(a b:Nat):SI:=⟨none,.cvI a .u8 (.t b),none,0⟩
abbrev ci(a b c:Nat):SI:=⟨none,.bin a .xor (.t b) (.t c),none,0⟩
abbrev cj(a b c d e:Nat):SI:=⟨some (a,false),.ixA b (.t c) (.t d) e,none,b⟩
abbrev ck(a b c d:Nat):SI:=⟨some (a,false),.bin b .gtr (.t c) (.t d),none,b⟩
abbrev cm(a b c:Nat)(d:Int):SI:=⟨some (a,true),.bin b .sub (.t c) (.i d),none,b⟩
abbrev cn(a:Nat):SI:=⟨none,.mv a (.b true),none,0⟩
abbrev cp(a:Nat):SI:=⟨none,.mv a (.i (-1)),none,0⟩
abbrev cr(a:Nat):SI:=⟨none,.mv a (.v .nilFunc),none,0⟩
abbrev cv(a b c:Nat):SI:=⟨some (a,true),.un b .not (.t c),none,b⟩
abbrev cw(a:Nat):SI:=⟨none,.alR a [(.int .i64 0),(.string ⟨#[]⟩),(.string ⟨#[]⟩),(.bool false),(.int .i64 0)],none,0⟩
abbrev cz(a b c:Nat):SI:=⟨none,.bin a .geq (.t b) (.t c),none,0⟩
abbrev cA(a b c:Nat):SI:=⟨none,.bin a .neq (.t b) (.t c),none,0⟩
abbrev cB(a:Nat)(b:Int):SI:=⟨none,.mv a (.v (.int .u64 b)),none,0⟩
abbrev cC(a b c d:Nat):SI:=⟨some (a,true),.bin b .geq (.t c) (.t d),none,b⟩
abbrev cD(a b c d:Nat):SI:=⟨some (a,true),.bin b .leq (.t c) (.t d),none,b⟩
abbrev cE(a b c d:Nat):SI:=⟨some (a,true),.bin b .eql (.t c) (.t d),none,b⟩
abbrev cF(a b c d:Nat):SI:=⟨some (a,true),.ld b (.t c) (some d),none,b⟩
abbrev cG(a b c:Nat):SI:=⟨some (a,true),.len b false (.t c),none,b⟩
abbrev cH(a:Nat):SI:=⟨none,.bld a [(.int .i64 0),(.int .i64 0),(.int .i64 0),(.slice none 0 0),(.slice none 0 0)] [],none,0⟩
abbrev cI(a b:Nat)(c:Int)(d:Nat):SI:=⟨none,.ixA a (.t b) (.i c) d,none,0⟩
abbrev cJ(a b c d e:Nat):SI:=⟨some (a,false),.call b c [(.t d),(.t e)],none,b⟩
abbrev cK(a b c d e:Nat):SI:=⟨some (a,false),.ldR b c d (some e),none,b⟩
abbrev cL(a b c:Nat):SI:=⟨none,.call a b [(.v (.slice none 0 0)),(.t c)],none,0⟩
abbrev cM(a b:Nat):SI:=⟨none,.st (.t a) b (.b false),none,0⟩
abbrev cN(a b c d:Nat):SI:=⟨none,.sl a (.t b) (some (.t c)) none none d,none,0⟩
abbrev cO(a b c d:Nat)(e:Int):SI:=⟨none,.call a b [(.t c),(.t d),(.i e)],none,0⟩
abbrev cP(a b:Nat):SI:=⟨none,.cav a (.t b) [],none,0⟩
abbrev cQ(a b c d e:Nat):SI:=⟨none,.ixP a (.t b) (.t c) d e,none,0⟩
abbrev cR(a b c:Nat)(d:Int)(e f:Nat):SI:=⟨some (a,false),.ixP b (.t c) (.i d) e f,none,b⟩
abbrev cS(a:Nat)(b:Int):SI:=⟨none,.mv a (.v (.int .u32 b)),none,0⟩
abbrev cT(a b:Nat)(c:Int):SI:=⟨none,.bin a .leq (.t b) (.i c),none,0⟩
abbrev cU(a b c d:Nat):SI:=⟨none,.bld a [(.int .i64 0),(.int .i64 0),(.int .i64 0),(.slice none 0 0),(.slice none 0 0)] [(b,c,(.t d))],none,0⟩
abbrev cV(a b c d e f g:Nat):SI:=⟨none,.bls a b c d [(.int .i64 0)] [(e,f,(.t g))],none,0⟩
abbrev cW(a b:Nat):SI:=⟨none,.bin a .eql (.t b) (.i (-1)),none,0⟩
abbrev cX(a b c d:Nat):SI:=⟨none,.bld a [(.int .i64 0),(.slice none 0 0)] [(b,c,(.t d))],none,0⟩
abbrev cY(a:Nat):SI:=⟨none,.al a [(.int .i64 0),(.int .i64 0),(.int .i64 0),(.int .i64 0),(.int .i64 0),(.int .i64 0),(.int .i64 0),(.bool false),(.int .i64 0),(.slice none 0 0)],none,0⟩
abbrev cZ(a:Nat):SI:=⟨none,.al a [(.int .i64 0),(.slice none 0 0)],none,0⟩
abbrev da(a b c d e f g:Nat):SI:=⟨none,.bls a b c d [(.int .i64 0),(.int .i64 0),(.int .i64 0),(.int .i64 0),(.int .i64 0),(.int .i64 0),(.int .i64 0),(.bool false),(.int .i64 0),(.slice none 0 0)] [(e,f,(.t g))],none,0⟩
abbrev dh(a b c d:Nat)(e:Int):SI:=⟨some (a,false),.call b c [(.t d),(.i e)],none,b⟩
abbrev di(a:Nat):SI:=⟨none,.alR a [(.int .i64 0),(.int .i64 0)],none,0⟩
abbrev dj(a b c d e f:Nat):SI:=⟨none,.call a b [(.t c),(.t d),(.t e),(.t f)],none,0⟩
abbrev dk(a b c d:Nat):SI:=⟨some (a,false),.bin b .lss (.t c) (.t d),none,b⟩
abbrev dl(a b c d e:Nat):SI:=⟨none,.app a (.v (.slice none 0 0)) (.t b) c d e,none,0⟩
abbrev dm(a b c d:Nat):SI:=⟨none,.call a b [(.t c),(.v (.func (.func d) #[] #[]))],none,0⟩
abbrev dp(a b:Nat)(c:Int):SI:=⟨none,.bin a .and (.t b) (.v (.int .u32 c)),none,0⟩
abbrev dq(a b c:Nat)(d:Int)(e f g h i j k l m:Nat):SI:=⟨none,.bld a [(.int .i64 0),(.int .i64 0),(.int .i64 0),(.slice none 0 0),(.slice none 0 0)] [(b,c,(.i d)),(e,f,(.t g)),(h,i,(.t j)),(k,l,(.t m))],none,0⟩
abbrev dr(a:Nat):SI:=⟨none,.bld a [(.int .i64 0),(.string ⟨#[]⟩),(.string ⟨#[]⟩),(.bool false),(.int .i64 0)] [],none,0⟩
abbrev aa(l:List SI):SC:=.reg false l
abbrev ab(a:List SI)(n:Nat)(b:List SI):SC:=.seq (.reg false a) (.cond (.t n) (.seq (.reg false b) .ret) .skip)
def c5r0:List SI:=[aC 2 0,aC 3 1,aB 4]
def c5r1:List SI:=[bU 11 11,ac 5 11]
def c5r2:List SI:=[aq 12 2 0 5,ai 3,aq 14 3 3 10,ay 15 23 12 14,aN 16 15,ac 17 16,aK 17 3,aL 17 19 3 0,aY 17 20 19 3,aw 21 17 20]
def c5r3:List SI:=[ac 22 5,ac 4 22]
def c5r4:List SI:=[aq 24 2 0 5,au 25 15 24,ac 23 25,aj 26 23 0,aj 27 23 1,bc 6,ao 6 0 3 26,ac 7 27]
def c5r5:List SI:=[aq 28 2 0 5,aq 29 3 0 13,ay 30 24 28 29,aU 8,ao 8 0 5 30]
def c5r6:List SI:=[aq 32 8 0 5,au 33 15 32,ac 31 33,aj 34 31 0,aj 35 31 1,bc 9,ao 9 0 3 34,ac 10 35]
def c5r7:List SI:=[ac 36 7,aM 37 36 0,ac 38 37,aA 38 39 10,bi 38 40 39 0,aw 41 38 40]
def c5r8:List SI:=[ac 42 5,ac 4 42]
def c5r9:List (Bool × SI):=[(true,ac 43 5),(true,ac 44 43),(true,bd 44 45 8 0 5),(true,bd 44 47 2 0 5),(false,aV 44 46 20 45),(false,aV 44 48 20 47),(true,cC 44 49 46 48),(true,aF 50 44 49),(true,ac 51 50),(true,bd 51 52 8 0 5),(true,bd 51 54 9 0 3),(false,aV 51 53 20 52),(false,aV 51 55 22 54),(true,cD 51 56 53 55),(true,aF 57 51 56),(true,ac 58 57),(true,aW 58 8),(true,aX 58 60 8 1),(true,aW 58 2),(true,aX 58 62 2 1),(true,cE 58 63 60 62),(true,aF 64 58 63),(true,ac 4 64)]
def c5:SC:=(.seq (aa c5r0) (.seq (aa c5r1) (.seq (ab c5r2 21 c5r3) (.seq (aa c5r4) (.seq (aa c5r5) (.seq (aa c5r6) (.seq (ab c5r7 41 c5r8) (.seq (.rgX c5r9) .ret))))))))
def v5:List Nat × List Nat:=([2,3,6,8,9],[2,3,6,8,9,13,18,59,61])
def o5:List RS:=[.t 4]
def c11r0:List SI:=[aB 0]
def c11r1:List SI:=[⟨none,.bls 26 3 3 1 [(.int .i64 0),(.int .i64 0),(.int .i64 0)] [(0,1,(.i 0)),(1,1,(.i 1)),(2,1,(.i 2))],none,0⟩,⟨none,.call 27 13 [(.t 26),(.i 4096),(.i 1)],none,0⟩,ac 25 27,aj 28 25 0,aj 29 25 1,aU 1,ao 1 0 5 28,ac 2 29]
def c11r2:RX:=.br [(true,aq 31 1 0 5)] (bU 32 43) (.br [] (ay 33 25 31 32) (.leaf [(true,ac 30 33),(true,aj 34 30 0),(true,aj 35 30 1),(true,aj 36 30 2),(false,bB 3),(false,az 3 5 34),(true,ac 4 35),(true,ac 5 36)]) (bB 3) (.leaf [(false,ay 33 25 31 32),(true,ac 30 33),(true,aj 34 30 0),(true,aj 35 30 1),(true,aj 36 30 2),(false,az 3 5 34),(true,ac 4 35),(true,ac 5 36)])) (bB 3) (.leaf [(false,bU 32 43),(false,ay 33 25 31 32),(true,ac 30 33),(true,aj 34 30 0),(true,aj 35 30 1),(true,aj 36 30 2),(false,az 3 5 34),(true,ac 4 35),(true,ac 5 36)])
def c11r3:List SI:=[aH 38 3 5,bC 39 33 38 1,ac 37 39,aj 40 37 0,aj 41 37 1,aU 6,ao 6 0 5 40,ac 7 41]
def c11r4:List SI:=[aq 43 6 0 5,bC 44 44 43 2,ac 42 44,aj 45 42 0,aj 46 42 1,aU 8,ao 8 0 5 45,ac 9 46]
def c11r5:List SI:=[aq 48 8 0 5,⟨none,.call 49 35 [(.t 48),(.i 0),(.i 0)],none,0⟩,ac 47 49,aj 50 47 0,aj 51 47 1,aU 10,ao 10 0 5 50,ac 11 51]
def c11r6:RX:=.br [(true,aq 53 10 0 5)] (bU 54 43) (.br [] (ay 55 25 53 54) (.leaf [(true,ac 52 55),(true,aj 56 52 0),(true,aj 57 52 1),(true,aj 58 52 2),(false,bB 12),(false,az 12 5 56),(true,ac 13 57),(true,ac 14 58)]) (bB 12) (.leaf [(false,ay 55 25 53 54),(true,ac 52 55),(true,aj 56 52 0),(true,aj 57 52 1),(true,aj 58 52 2),(false,az 12 5 56),(true,ac 13 57),(true,ac 14 58)])) (bB 12) (.leaf [(false,bU 54 43),(false,ay 55 25 53 54),(true,ac 52 55),(true,aj 56 52 0),(true,aj 57 52 1),(true,aj 58 52 2),(false,az 12 5 56),(true,ac 13 57),(true,ac 14 58)])
def c11r7:List SI:=[aq 60 10 0 5,bC 61 37 60 2,ac 59 61,aj 62 59 0,aj 63 59 1,aU 15,ao 15 0 5 62,ac 16 63]
def c11r8:List SI:=[aq 65 10 0 5,bC 66 37 65 1,ac 64 66,aj 67 64 0,aj 68 64 1,aU 17,ao 17 0 5 67,ac 18 68]
def c11r9:List SI:=[aq 70 17 0 5,au 71 15 70,ac 69 71,aj 72 69 0,aj 73 69 1,bc 19,ao 19 0 3 72,ac 20 73]
def c11r10:List SI:=[aq 75 17 0 5,bC 76 36 75 0,ac 74 76,aj 77 74 0,aj 78 74 1,aU 21,ao 21 0 5 77,ac 22 78]
def c11r11:List SI:=[aq 80 21 0 5,bC 81 36 80 0,ac 79 81,aj 82 79 0,aj 83 79 1,aU 23,ao 23 0 5 82,ac 24 83]
def c11r12:List SI:=[ac 84 2,aM 85 84 0,ac 86 85,aA 86 87 5,bi 86 88 87 0,aw 89 86 88,ac 90 89,aA 90 91 7,bi 90 92 91 0,aw 93 90 92,ac 94 93,aA 94 95 9,bi 94 96 95 0,aw 97 94 96,ac 98 97,aA 98 99 11,bi 98 100 99 0,aw 101 98 100,ac 102 101,aA 102 103 18,bi 102 104 103 0,aw 105 102 104,ac 106 105,aA 106 107 20,bi 106 108 107 0,aw 109 106 108,ac 110 109,aA 110 111 22,bi 110 112 111 0,aw 113 110 112,ac 114 113,aK 114 17,aL 114 116 17 3,bj 114 117 116,bi 114 118 117 1,aw 119 114 118]
def c11r13:List SI:=[aB 0]
def c11r14:List SI:=[ac 120 4,aQ 121 120 0,ac 122 121,cF 122 123 3 5,aV 122 124 20 123,aZ 122 125 124 0,aF 126 122 125,ac 127 126,bd 127 128 6 0 5,aV 127 129 20 128,aZ 127 130 129 0,aF 131 127 130,ac 132 131,bd 132 133 8 0 5,aV 132 134 20 133,aZ 132 135 134 2,aF 136 132 135,ac 137 136,aW 137 10,aX 137 139 10 1,⟨some (137,true),.bin 140 .eql (.t 139) (.i (-1)),none,140⟩,aF 141 137 140,ac 142 141,aE 142 143 14,aZ 142 144 143 180,aF 145 142 144,ac 146 145,aE 146 147 16,aZ 146 148 147 181,aF 149 146 148,ac 150 149,aW 150 17,aX 150 152 17 0,aZ 150 153 152 2,aF 154 150 153,ac 155 154,aW 155 17,aX 155 157 17 1,aZ 155 158 157 1,aF 159 155 158,ac 160 159,aW 160 17,aX 160 162 17 3,⟨some (160,true),.ixA 163 (.t 162) (.i 0) 1,none,163⟩,bD 160 164 163,aZ 160 165 164 1,aF 166 160 165,ac 167 166,bd 167 168 17 0 5,aV 167 169 20 168,aZ 167 170 169 2,aF 171 167 170,ac 172 171,bd 172 173 19 0 3,aV 172 174 22 173,aZ 172 175 174 2,aF 176 172 175,ac 177 176,aE 177 178 24,aZ 177 179 178 150,aF 180 177 179,ac 181 180,bd 181 182 21 0 5,aV 181 183 18 182,aZ 181 184 183 0,aF 185 181 184,ac 186 185,⟨some (186,true),.bld 187 [(.int .i64 0),(.int .i64 0),(.int .i64 0),(.slice none 0 0),(.slice none 0 0)] [],none,187⟩,aV 186 188 18 187,aZ 186 189 188 1,aF 190 186 189,ac 0 190]
def c11:SC:=(.seq (aa c11r0) (.seq (aa c11r1) (.seq (.rgZ c11r2) (.seq (aa c11r3) (.seq (aa c11r4) (.seq (aa c11r5) (.seq (.rgZ c11r6) (.seq (aa c11r7) (.seq (aa c11r8) (.seq (aa c11r9) (.seq (aa c11r10) (.seq (aa c11r11) (.seq (ab c11r12 119 c11r13) (.seq (aa c11r14) .ret))))))))))))))
def v11:List Nat × List Nat:=([1,6,8,10,15,17,19,21,23],[1,6,8,10,15,17,19,21,23,115,138,151,156,161])
def o11:List RS:=[.t 0]
def c12r0:List SI:=[aC 1 0,aB 2]
def c12r1:List SI:=[af 3 0]
def c12r2:List SI:=[ac 4 3,ai 1,am 6 1 4,av 7 6,aJ 8 4 7,ac 9 8,aE 9 10 3,⟨some (9,true),.bin 11 .lss (.t 10) (.i 10),none,11⟩,aF 12 9 11]
def c12r3:List SI:=[ai 1,am 16 1 4,ac 17 3,aG 18 16 17 7,ak 19 18 2,aH 20 19 3,au 21 45 20,aN 22 21,ac 23 22,aK 23 1,aL 23 25 1 4,aA 23 26 3,cj 23 27 25 26 7,bV 23 28 27 5,aT 23 29 28,bj 23 30 29,aY 23 31 30 60,aw 32 23 31]
def c12r4:List SI:=[aB 2]
def c12r5:List SI:=[ac 13 3,aD 14 13 1,ac 3 14]
def c12r6:List SI:=[ai 1,am 34 1 4,av 35 34,cT 36 35 8,ac 37 36,aW 37 1,aX 37 39 1 3,cG 37 40 39,bt 37 41 40 30,aF 42 37 41,ac 2 42]
def c12:SC:=(.seq (aa c12r0) (.seq (.seq (aa c12r1) (.blk 0 (.loop (.seq (.seq (aa c12r2) (.cond (.t 12) .skip (.exit 0))) (.seq (.blk 1 (ab c12r3 32 c12r4)) (aa c12r5)))))) (.seq (aa c12r6) .ret)))
def v12:List Nat × List Nat:=([1],[1,5,15,24,33,38])
def o12:List RS:=[.t 2]
def c13r0:List SI:=[aU 6,af 7 0]
def c13r1:List SI:=[ac 14 1,bC 15 46 14 0,ac 13 15,aj 16 13 0,aj 17 13 1,bc 8,ao 8 0 3 16,ac 9 17]
def c13r2:List SI:=[ac 18 9,aM 19 18 0,ac 20 19,aA 20 21 0,a8 20 22 47 21,aS 20 23 22,aw 24 20 23,ac 25 24,aA 25 26 0,bj 25 27 26,aY 25 28 27 5,aw 29 25 28,ac 30 29,aA 30 31 2,bE 30 32 31 1,aw 33 30 32,ac 34 33,aA 34 35 2,aA 34 36 0,bj 34 37 36,ck 34 38 35 37,aw 39 34 38]
def c13r3:List SI:=[cH 40,ao 6 0 5 40,af 7 1]
def c13r4:RX:=.br [(true,ac 41 0),(true,cI 42 41 0 1),(true,ah 43 42),(true,ac 44 2),(true,ac 45 0)] (au 46 48 45) (.leaf [(true,dq 47 0 1 1 1 1 43 2 1 44 3 1 46),(false,bB 10),(false,az 10 5 47)]) (bB 10) (.leaf [(false,au 46 48 45),(true,dq 47 0 1 1 1 1 43 2 1 44 3 1 46),(false,az 10 5 47)])
def c13r5:List SI:=[ac 48 0,av 49 48,af 50 0]
def c13r6:List SI:=[aJ 51 50 49]
def c13r7:List SI:=[aG 52 48 50 1,ah 53 52,ac 12 53]
def c13r8:List SI:=[ak 54 10 4,ah 55 54,ac 56 12,aq 57 8 0 3,⟨none,.bld 58 [(.int .i64 0),(.bool false),(.int .i64 0),(.int .i64 0),(.slice none 0 0),(.slice none 0 0),(.int .i64 0)] [(0,1,(.t 56)),(1,1,(.b true)),(2,3,(.t 57))],none,0⟩,⟨none,.bls 59 50 1 7 [(.int .i64 0),(.bool false),(.int .i64 0),(.int .i64 0),(.slice none 0 0),(.slice none 0 0),(.int .i64 0)] [(0,7,(.t 58))],none,0⟩,aP 60 55 59 50 7 88,ak 61 10 4,az 61 1 60]
def c13r9:List SI:=[aD 62 50 1,ac 50 62]
def c13r10:List SI:=[aH 63 10 5,ao 6 0 5 63,af 7 0]
def c13:SC:=(.seq (aa c13r0) (.seq (aa c13r1) (.seq (ab c13r2 39 c13r3) (.seq (.rgZ c13r4) (.seq (.seq (aa c13r5) (.blk 0 (.loop (.seq (aa c13r6) (.seq (.cond (.t 51) .skip (.exit 0)) (.seq (.blk 1 (.seq (aa c13r7) (aa c13r8))) (aa c13r9))))))) (.seq (aa c13r10) .ret))))))
def v13:List Nat × List Nat:=([6,8],[6,8])
def o13:List RS:=[.r 6 (some 5),.t 7]
def c15r0:List SI:=[aC 1 0,bc 2,af 3 0]
def c15r1:List SI:=[aq 6 1 0 5,au 7 18 6,ac 4 7]
def c15r2:List SI:=[ac 8 4,aM 9 8 0]
def c15r3:List SI:=[bn 10,ac 11 4,ao 2 0 3 10,ac 3 11]
def c15r4:List SI:=[ai 1,am 13 1 1,aR 14 13 0]
def c15r5:List SI:=[bn 15,ao 2 0 3 15,af 3 180]
def c15r6:List SI:=[aq 16 1 0 5,cU 17 0 5 16,aO 18 17,ac 5 18]
def c15r7:List SI:=[ac 19 5,ai 1,am 21 1 1,ay 22 51 19 21,ar 23 22,ak 24 23 2,aH 25 24 3,ao 2 0 3 25,af 3 0]
def c15:SC:=(.seq (aa c15r0) (.seq (.seq (aa c15r1) (ab c15r2 9 c15r3)) (.seq (ab c15r4 14 c15r5) (.seq (aa c15r6) (.seq (aa c15r7) .ret)))))
def v15:List Nat × List Nat:=([1,2],[1,2,12,20])
def o15:List RS:=[.r 2 (some 3),.t 3]
def c18r0:List SI:=[aC 1 0,af 2 0]
def c18r1:List SI:=[⟨none,.al 3 [(.slice none 0 0)],none,0⟩]
def c18r2:List SI:=[ai 1,am 8 1 4,av 9 8,af 10 0]
def c18r3:List SI:=[aJ 11 10 9]
def c18r4:List SI:=[aG 12 8 10 7,aH 13 12 7,⟨none,.alR 5 [(.int .i64 0),(.bool false),(.int .i64 0),(.int .i64 0),(.slice none 0 0),(.slice none 0 0),(.int .i64 0)],none,0⟩,ao 5 0 7 13]
def c18r5:List SI:=[ah 14 3,ai 5,am 16 5 0,cV 17 3 1 1 0 1 16,aP 18 14 17 3 1 8,az 3 1 18]
def c18r6:List SI:=[aD 19 10 1,ac 10 19]
def c18r7:List SI:=[ai 1,am 21 1 0,au 22 53 21,aN 23 22,ac 24 23,aT 24 25 3,a8 24 26 47 25,aS 24 27 26,aw 28 24 27,ac 29 28,aT 29 30 3,bj 29 31 30,aY 29 32 31 5,aw 33 29 32,ac 34 33,aK 34 1,aL 34 36 1 2,bE 34 37 36 1,aw 38 34 37,ac 39 38,aK 39 1,aL 39 41 1 2,aT 39 42 3,bj 39 43 42,ck 39 44 41 43,aw 45 39 44,ac 46 45,aK 46 1,aL 46 48 1 4,⟨some (46,false),.call 49 54 [(.t 48),(.v (.func (.func 55) #[] #[]))],none,49⟩,aw 50 46 49]
def c18r8:List SI:=[af 2 1]
def c18r9:List SI:=[ai 1,am 52 1 3,au 53 47 52,aN 54 53,ac 55 54,aK 55 1,aL 55 57 1 3,⟨some (55,false),.mkf 58 (.func 57) [(.t 3)],none,58⟩,cJ 55 59 56 57 58,aw 60 55 59]
def c18r10:List SI:=[af 2 1]
def c18r11:List SI:=[ai 1,am 62 1 1,cW 63 62]
def c18r12:List SI:=[af 2 0]
def c18r13:List SI:=[ah 64 3,ai 1,am 66 1 1,ay 67 59 64 66,ac 6 67]
def c18r14:List SI:=[ac 68 6,aR 69 68 0,ac 70 69,aK 70 1,aL 70 72 1 4,aA 70 73 6,cj 70 74 72 73 7,bV 70 75 74 1,aT 70 76 75,aS 70 77 76,aw 78 70 77,ac 79 78,aK 79 1,aL 79 81 1 3,aK 79 1,aL 79 83 1 1,cJ 79 84 58 81 83,aS 79 85 84,aw 86 79 85]
def c18r15:List SI:=[af 2 1]
def c18r16:List SI:=[af 2 0]
def c18:SC:=(.seq (aa c18r0) (.seq (aa c18r1) (.seq (.seq (aa c18r2) (.blk 0 (.loop (.seq (aa c18r3) (.seq (.cond (.t 11) .skip (.exit 0)) (.seq (.blk 1 (.seq (aa c18r4) (aa c18r5))) (aa c18r6))))))) (.seq (ab c18r7 50 c18r8) (.seq (ab c18r9 60 c18r10) (.seq (ab c18r11 63 c18r12) (.seq (aa c18r13) (.seq (ab c18r14 86 c18r15) (.seq (aa c18r16) .ret)))))))))
def v18:List Nat × List Nat:=([1,5],[1,5,7,15,20,35,40,47,51,56,61,65,71,80,82])
def o18:List RS:=[.t 2]
def c20r0:List SI:=[aO 1 0,af 2 0]
def c20r1:List SI:=[aH 6 1 5,au 7 18 6,aM 8 7 0]
def c20r2:List SI:=[af 2 0]
def c20r3:List SI:=[aH 9 1 5,cU 10 0 5 9,aO 11 10,ac 3 11]
def c20r4:List SI:=[ak 12 1 1,ah 13 12,bf 14 13 0]
def c20r5:List SI:=[ac 15 3,ak 16 1 1,ah 17 16,ay 18 51 15 17,ar 19 18,ak 20 19 6,ah 21 20,ac 2 21]
def c20r6:List SI:=[bF 4,bW 4 1 0]
def c20r7:List SI:=[ac 22 3,au 23 61 22]
def c20r8:List SI:=[ac 5 24]
def c20r9:List SI:=[ah 25 4,ac 26 5,ar 27 26,ak 28 27 6,ah 29 28,bX 30 25 29]
def c20r10:List SI:=[az 4 1 30]
def c20r11:List SI:=[ah 31 4,ac 2 31]
def c20:SC:=(.seq (aa c20r0) (.seq (ab c20r1 8 c20r2) (.seq (aa c20r3) (.seq (ab c20r4 14 c20r5) (.seq (aa c20r6) (.seq (.seq (aa c20r7) (.blk 0 (.rf (.t 23) [24] (aa c20r8) (.blk 1 (.rgT c20r9 c20r10))))) (.seq (aa c20r11) .ret)))))))
def v20:List Nat × List Nat:=([],[])
def o20:List RS:=[.t 2]
def c22r0:List SI:=[aC 1 0,af 2 0]
def c22r1:List SI:=[aq 3 1 0 3,au 4 62 3,aM 5 4 0]
def c22r2:List SI:=[af 2 0]
def c22r3:List SI:=[aq 6 1 0 3,au 7 63 6,ac 2 7]
def c22:SC:=(.seq (aa c22r0) (.seq (ab c22r1 5 c22r2) (.seq (aa c22r3) .ret)))
def v22:List Nat × List Nat:=([1],[1])
def o22:List RS:=[.t 2]
def c23r0:List SI:=[aC 2 0,aC 3 1,aB 4]
def c23r1:List SI:=[aq 5 2 0 5,au 6 12 5,ac 7 6,bd 7 8 3 0 10,aV 7 9 64 8,aF 10 7 9,ac 4 10]
def c23:SC:=(.seq (aa c23r0) (.seq (aa c23r1) .ret))
def v23:List Nat × List Nat:=([2,3],[2,3])
def o23:List RS:=[.t 4]
def c24r0:List SI:=[aC 2 0,aC 3 1,aU 4]
def c24r1:List SI:=[aq 7 2 0 5,aU 5,ao 5 0 5 7]
def c24r2:List SI:=[af 6 0]
def c24r3:List SI:=[ai 3,am 9 3 0]
def c24r4:List SI:=[aQ 11 9 0,ac 10 11]
def c24r5:List SI:=[aq 13 2 0 5,ai 3,aq 15 3 3 10,ay 16 25 13 15,ac 12 16,aj 17 12 0,aj 18 12 1,aj 19 12 2,ao 5 0 5 17,ac 6 19]
def c24r6:List SI:=[aQ 21 9 1,ac 20 21]
def c24r7:List SI:=[aq 23 2 0 5,ai 3,am 25 3 1,ay 26 33 23 25,ac 22 26,aj 27 22 0,aj 28 22 1,ao 5 0 5 27,ac 6 28]
def c24r8:List SI:=[aQ 30 9 2,ac 29 30]
def c24r9:List SI:=[aq 32 2 0 5,ai 3,am 34 3 1,ay 35 44 32 34,ac 31 35,aj 36 31 0,aj 37 31 1,ao 5 0 5 36,ac 6 37]
def c24r10:List SI:=[aQ 39 9 3,ac 38 39]
def c24r11:List SI:=[aq 41 2 0 5,ai 3,am 43 3 1,ai 3,am 45 3 2,a9 46 35 41 43 45,ac 40 46,aj 47 40 0,aj 48 40 1,ao 5 0 5 47,ac 6 48]
def c24r12:List SI:=[aQ 50 9 4,ac 49 50]
def c24r13:List SI:=[aq 52 2 0 5,ai 3,am 54 3 1,ay 55 36 52 54,ac 51 55,aj 56 51 0,aj 57 51 1,ao 5 0 5 56,ac 6 57]
def c24r14:List SI:=[aQ 59 9 5,ac 58 59]
def c24r15:List SI:=[aq 61 2 0 5,ai 3,am 63 3 1,ay 64 37 61 63,ac 60 64,aj 65 60 0,aj 66 60 1,ao 5 0 5 65,ac 6 66]
def c24r16:List SI:=[ac 67 6,aM 68 67 0]
def c24r17:List SI:=[aq 69 2 0 5,ao 4 0 5 69]
def c24r18:List SI:=[aq 70 5 0 5,ao 4 0 5 70]
def c24:SC:=(.seq (aa c24r0) (.seq (aa c24r1) (.seq (aa c24r2) (.seq (.seq (aa c24r3) (.blk 0 (.seq (aa c24r4) (.cond (.t 10) (aa c24r5) (.seq (aa c24r6) (.cond (.t 20) (aa c24r7) (.seq (aa c24r8) (.cond (.t 29) (aa c24r9) (.seq (aa c24r10) (.cond (.t 38) (aa c24r11) (.seq (aa c24r12) (.cond (.t 49) (aa c24r13) (.seq (aa c24r14) (.cond (.t 58) (aa c24r15) .skip)))))))))))))) (.seq (ab c24r16 68 c24r17) (.seq (aa c24r18) .ret))))))
def v24:List Nat × List Nat:=([2,3,4,5],[2,3,4,5,8,14,24,33,42,44,53,62])
def o24:List RS:=[.r 4 (some 5)]
def c25r0:List SI:=[aC 2 0,aO 3 1,aU 4,bF 5,af 6 0]
def c25r1:List SI:=[aq 8 2 0 5,bM 9 66 3 5,ay 10 65 8 9,ac 7 10,aj 11 7 0,aj 12 7 1,ao 4 0 5 11,ac 6 12]
def c25r2:List SI:=[ac 13 6,aM 14 13 0]
def c25r3:List SI:=[cH 15,ac 16 6,ao 4 0 5 15,bW 5 1 0,ac 6 16]
def c25r4:List WI:=[(true,false,aq 17 4 0 5),(true,false,ah 18 5),(false,false,ao 4 0 5 17),(false,true,az 5 1 18),(true,false,af 6 0)]
def c25:SC:=(.seq (aa c25r0) (.seq (aa c25r1) (.seq (ab c25r2 14 c25r3) (.seq (.rgW c25r4) .ret))))
def v25:List Nat × List Nat:=([2,4],[2,4])
def o25:List RS:=[.r 4 (some 5),.c 5 none,.t 6]
def c27r0:List SI:=[aC 1 0,aI 2]
def c27r1:List SI:=[aq 3 1 0 3,au 4 62 3,aM 5 4 0]
def c27r2:List SI:=[aI 2]
def c27r3:List SI:=[aq 6 1 0 3,ai 1,am 8 1 1,ay 9 76 6 8,au 10 75 9,ac 2 10]
def c27:SC:=(.seq (aa c27r0) (.seq (ab c27r1 5 c27r2) (.seq (aa c27r3) .ret)))
def v27:List Nat × List Nat:=([1],[1,7])
def o27:List RS:=[.t 2]
def c33r0:List SI:=[aC 2 0,aO 3 1,aU 4,af 5 0]
def c33r1:List SI:=[aq 6 2 0 5,ah 7 3,bG 8 81 3,a9 9 80 6 7 8,aj 10 9 0,aj 11 9 1,ao 4 0 5 10,ac 5 11]
def c33:SC:=(.seq (aa c33r0) (.seq (aa c33r1) .ret))
def v33:List Nat × List Nat:=([2,4],[2,4])
def o33:List RS:=[.r 4 (some 5),.t 5]
def c35r0:List SI:=[aC 3 0,aO 4 1,aO 5 2,aU 6,af 7 0]
def c35r1:List SI:=[aq 8 3 0 5,ah 9 4,bM 10 85 5 4,a9 11 80 8 9 10,aj 12 11 0,aj 13 11 1,ao 6 0 5 12,ac 7 13]
def c35:SC:=(.seq (aa c35r0) (.seq (aa c35r1) .ret))
def v35:List Nat × List Nat:=([3,6],[3,6])
def o35:List RS:=[.r 6 (some 5),.t 7]
def c36r0:List SI:=[aC 2 0,aU 4,af 5 0]
def c36r1:List SI:=[aq 6 2 0 5,ac 7 1,⟨none,.call 8 80 [(.t 6),(.t 7),(.v (.func (.func 88) #[] #[]))],none,0⟩,aj 9 8 0,aj 10 8 1,ao 4 0 5 9,ac 5 10]
def c36:SC:=(.seq (aa c36r0) (.seq (aa c36r1) .ret))
def v36:List Nat × List Nat:=([2,4],[2,4])
def o36:List RS:=[.r 4 (some 5),.t 5]
def c37r0:List SI:=[aC 2 0,aO 3 1,aU 4,af 5 0]
def c37r1:List SI:=[aq 6 2 0 5,ah 7 3,bG 8 91 3,a9 9 80 6 7 8,aj 10 9 0,aj 11 9 1,ao 4 0 5 10,ac 5 11]
def c37:SC:=(.seq (aa c37r0) (.seq (aa c37r1) .ret))
def v37:List Nat × List Nat:=([2,4],[2,4])
def o37:List RS:=[.r 4 (some 5),.t 5]
def c43r0:List SI:=[bh 0]
def c43r1:List SI:=[⟨none,.bld 1 [(.int .i64 0),(.string ⟨#[]⟩),(.string ⟨#[]⟩),(.bool false),(.int .i64 0)] [(2,1,(.v (.string ⟨#[118]⟩)))],none,0⟩,⟨none,.bld 2 [(.int .i64 0),(.string ⟨#[]⟩),(.string ⟨#[]⟩),(.bool false),(.int .i64 0)] [(0,1,(.i 1)),(2,1,(.v (.string ⟨#[119]⟩)))],none,0⟩,⟨none,.bls 3 103 2 5 [(.int .i64 0),(.string ⟨#[]⟩),(.string ⟨#[]⟩),(.bool false),(.int .i64 0),(.int .i64 0),(.string ⟨#[]⟩),(.string ⟨#[]⟩),(.bool false),(.int .i64 0)] [(0,5,(.t 1)),(5,5,(.t 2))],none,0⟩,⟨none,.bld 4 [(.int .i64 0),(.int .i64 0),(.int .i64 0),(.int .i64 0),(.int .i64 0),(.int .i64 0),(.int .i64 0),(.bool false),(.int .i64 0),(.slice none 0 0)] [(1,1,(.i 1)),(4,1,(.i (-1))),(9,1,(.t 3))],none,0⟩,ao 0 0 10 4]
def c43:SC:=(.seq (aa c43r0) (.seq (aa c43r1) .ret))
def v43:List Nat × List Nat:=([0],[0])
def o43:List RS:=[.r 0 (some 10)]
def c44r0:List SI:=[aC 2 0,aO 3 1,aU 4,af 5 0]
def c44r1:List SI:=[aq 6 2 0 5,ah 7 3,bG 8 102 3,a9 9 80 6 7 8,aj 10 9 0,aj 11 9 1,ao 4 0 5 10,ac 5 11]
def c44:SC:=(.seq (aa c44r0) (.seq (aa c44r1) .ret))
def v44:List Nat × List Nat:=([2,4],[2,4])
def o44:List RS:=[.r 4 (some 5),.t 5]
def c45r0:List SI:=[aC 1 0,aB 2]
def c45r1:List SI:=[af 3 0]
def c45r2:List SI:=[ac 4 3,ai 1,am 6 1 2,av 7 6,aJ 8 4 7,ac 9 8,aE 9 10 3,⟨some (9,true),.bin 11 .lss (.t 10) (.i 300),none,11⟩,aF 12 9 11]
def c45r3:List SI:=[ai 1,am 16 1 2,ac 17 3,aG 18 16 17 2,ak 19 18 1,ah 20 19,av 21 20,bo 22 21 5000]
def c45r4:List SI:=[aB 2]
def c45r5:List SI:=[ac 13 3,aD 14 13 1,ac 3 14]
def c45r6:List SI:=[ai 1,am 24 1 2,av 25 24,cT 26 25 12,ac 2 26]
def c45:SC:=(.seq (aa c45r0) (.seq (.seq (aa c45r1) (.blk 0 (.loop (.seq (.seq (aa c45r2) (.cond (.t 12) .skip (.exit 0))) (.seq (.blk 1 (ab c45r3 22 c45r4)) (aa c45r5)))))) (.seq (aa c45r6) .ret)))
def v45:List Nat × List Nat:=([1],[1,5,15,23])
def o45:List RS:=[.t 2]
def c46r0:List SI:=[bc 4,af 5 0]
def c46r1:List SI:=[ac 6 0,ac 7 1,ay 8 103 6 7,aN 9 8]
def c46r2:List SI:=[bn 10,ao 4 0 3 10,af 5 1]
def c46r3:List SI:=[ac 11 0,ac 12 1,ac 13 1,cX 14 0 1 13,bH 15 120 1 2 0 2 14,⟨none,.bld 16 [(.int .i64 0),(.int .i64 0),(.slice none 0 0)] [(0,1,(.t 11)),(1,1,(.t 12)),(2,1,(.t 15))],none,0⟩,ao 4 0 3 16,af 5 0]
def c46:SC:=(.seq (aa c46r0) (.seq (ab c46r1 9 c46r2) (.seq (aa c46r3) .ret)))
def v46:List Nat × List Nat:=([4],[4])
def o46:List RS:=[.r 4 (some 3),.t 5]
def c47r0:List SI:=[aB 2]
def c47r1:List SI:=[ac 5 0,av 6 5,af 7 0]
def c47r2:List SI:=[aJ 8 7 6]
def c47r3:List SI:=[ac 9 7,aG 10 5 7 1,ah 11 10,ac 3 9,ac 4 11]
def c47r4:List SI:=[ac 12 4,au 13 53 12,aN 14 13,ac 15 14,aA 15 16 3,aY 15 17 16 0,aA 15 18 17,aE 18 19 0,aE 18 20 3,cm 18 21 20 1,bN 18 22 19 21 1,bD 18 23 22,aE 18 24 4,cC 18 25 23 24,bO 15 26 18 25,aw 27 15 26]
def c47r5:List SI:=[aB 2]
def c47r6:List SI:=[aD 28 7 1,ac 7 28]
def c47r7:List SI:=[ac 29 0,av 30 29,bo 31 30 0,ac 2 31]
def c47:SC:=(.seq (aa c47r0) (.seq (.seq (aa c47r1) (.blk 0 (.loop (.seq (aa c47r2) (.seq (.cond (.t 8) .skip (.exit 0)) (.seq (.blk 1 (.seq (aa c47r3) (ab c47r4 27 c47r5))) (aa c47r6))))))) (.seq (aa c47r7) .ret)))
def v47:List Nat × List Nat:=([],[])
def o47:List RS:=[.t 2]
def c48r0:List SI:=[aI 2]
def c48r1:List SI:=[ac 3 0,bY 4 3]
def c48r2:List SI:=[aI 2]
def c48r3:List SI:=[bZ 5,ac 6 0,aP 7 5 6 3 1 8,ac 2 7]
def c48:SC:=(.seq (aa c48r0) (.seq (ab c48r1 4 c48r2) (.seq (aa c48r3) .ret)))
def v48:List Nat × List Nat:=([],[])
def o48:List RS:=[.t 2]
def c51r0:List SI:=[⟨none,.mv 4 (.v (.pointer none)),none,0⟩]
def c51r1:List SI:=[ac 8 0,ar 9 8,ak 10 9 0,ak 11 10 4,ah 12 11,ac 13 1,⟨none,.call 14 105 [(.t 12),(.t 13),(.v (.func (.func 106) #[] #[]))],none,0⟩,ac 7 14,aj 15 7 0,aj 16 7 1,ac 5 15,ac 6 16]
def c51r2:List SI:=[ac 17 6,aN 18 17]
def c51r3:List SI:=[⟨none,.mv 4 (.v (.pointer none)),none,0⟩]
def c51r4:List SI:=[ac 19 0,ar 20 19,ak 21 20 0,ak 22 21 4,ah 23 22,ac 24 5,aG 25 23 24 7,ac 4 25]
def c51:SC:=(.seq (aa c51r0) (.seq (aa c51r1) (.seq (ab c51r2 18 c51r3) (.seq (aa c51r4) .ret))))
def v51:List Nat × List Nat:=([],[])
def o51:List RS:=[.t 4]
def c53r0:List SI:=[aB 2]
def c53r1:List SI:=[ac 3 0,bf 4 3 0,ac 5 4,aE 5 6 0,bt 5 7 6 1048576,aF 8 5 7,ac 2 8]
def c53:SC:=(.seq (aa c53r0) (.seq (aa c53r1) .ret))
def v53:List Nat × List Nat:=([],[])
def o53:List RS:=[.t 2]
def c54r0:List SI:=[aB 4]
def c54r1:List SI:=[ac 5 0,ac 6 1,ay 7 107 5 6,bf 8 7 0,ac 4 8]
def c54:SC:=(.seq (aa c54r0) (.seq (aa c54r1) .ret))
def v54:List Nat × List Nat:=([],[])
def o54:List RS:=[.t 4]
def c55r0:List SI:=[aC 1 0,aB 2]
def c55r1:List SI:=[ai 1,am 5 1 0,au 6 53 5,aN 7 6,ac 8 7,aK 8 1,aL 8 10 1 5,a8 8 11 108 10,bi 8 12 11 0,aw 13 8 12,ac 14 13,aK 14 1,aL 14 16 1 6,bE 14 17 16 0,aw 18 14 17,ac 19 18,aK 19 1,aL 19 21 1 6,aY 19 22 21 1099511627777,aw 23 19 22]
def c55r2:List SI:=[cn 2]
def c55r3:List SI:=[ai 1,aq 25 1 2 3,bc 3,ao 3 0 3 25]
def c55r4:List SI:=[ai 1,am 27 1 1,aN 28 27]
def c55r5:List SI:=[aq 30 3 0 3,au 31 89 30,ac 29 31,aj 32 29 0,aj 33 29 1,ao 3 0 3 32]
def c55r6:List (Bool × SI):=[(true,aq 34 3 0 3),(false,au 35 62 34),(true,aM 36 35 0),(true,ac 37 36),(true,aK 37 1),(true,aL 37 39 1 1),(true,aA 37 40 39),(true,aW 40 1),(true,aX 40 42 1 6),(true,bd 40 43 1 0 7),(false,aV 40 44 68 43),(true,⟨some (40,true),.bin 45 .gtr (.t 42) (.t 44),none,45⟩),(true,bO 37 46 40 45),(true,aw 47 37 46),(true,ac 2 47)]
def c55:SC:=(.seq (aa c55r0) (.seq (ab c55r1 23 c55r2) (.seq (aa c55r3) (.seq (.seq (aa c55r4) (.cond (.t 28) (aa c55r5) .skip)) (.seq (.rgX c55r6) .ret)))))
def v55:List Nat × List Nat:=([1,3],[1,3,4,9,15,20,24,26,38,41])
def o55:List RS:=[.t 2]
def c56r0:List SI:=[aB 4]
def c56r1:List SI:=[ac 5 0,ac 6 1,ay 7 109 5 6,bf 8 7 0,ac 4 8]
def c56:SC:=(.seq (aa c56r0) (.seq (aa c56r1) .ret))
def v56:List Nat × List Nat:=([],[])
def o56:List RS:=[.t 4]
def c57r0:List SI:=[aB 3]
def c57r1:List SI:=[ah 4 1,ac 5 0,ay 6 58 4 5,aN 7 6,ac 3 7]
def c57:SC:=(.seq (aa c57r0) (.seq (aa c57r1) .ret))
def v57:List Nat × List Nat:=([],[])
def o57:List RS:=[.t 3]
def c58r0:List SI:=[aB 4]
def c58r1:List SI:=[ac 5 0,ac 6 1,ay 7 59 5 6,bf 8 7 0,ac 4 8]
def c58:SC:=(.seq (aa c58r0) (.seq (aa c58r1) .ret))
def v58:List Nat × List Nat:=([],[])
def o58:List RS:=[.t 4]
def c59r0:List SI:=[af 4 0]
def c59r1:List SI:=[ac 6 0,av 7 6,af 8 0]
def c59r2:List SI:=[aJ 9 8 7]
def c59r3:List SI:=[ac 10 8,ac 5 10]
def c59r4:List SI:=[ac 11 1,ac 12 0,ac 13 5,aG 14 12 13 1,ah 15 14,bu 16 11 15]
def c59r5:List SI:=[ac 17 5,ac 4 17]
def c59r6:List SI:=[aD 18 8 1,ac 8 18]
def c59r7:List SI:=[cp 4]
def c59:SC:=(.seq (aa c59r0) (.seq (.seq (aa c59r1) (.blk 0 (.loop (.seq (aa c59r2) (.seq (.cond (.t 9) .skip (.exit 0)) (.seq (.blk 1 (.seq (aa c59r3) (ab c59r4 16 c59r5))) (aa c59r6))))))) (.seq (aa c59r7) .ret)))
def v59:List Nat × List Nat:=([],[])
def o59:List RS:=[.t 4]
def c61r0:List SI:=[aO 1 0,cr 2]
def c61r1:List SI:=[bG 3 111 1,ac 2 3]
def c61:SC:=(.seq (aa c61r0) (.seq (aa c61r1) .ret))
def v61:List Nat × List Nat:=([],[])
def o61:List RS:=[.t 2]
def c62r0:List SI:=[aC 1 0,af 2 0]
def c62r1:List SI:=[ai 1,am 6 1 0,ai 1,am 8 1 1,ay 9 103 6 8,aN 10 9,ac 11 10,aK 11 1,aL 11 13 1 2,bj 11 14 13,⟨some (11,false),.bin 15 .eql (.t 14) (.i 0),none,15⟩,aw 16 11 15]
def c62r2:List SI:=[af 2 1]
def c62r3:List SI:=[ai 1,am 18 1 2,av 19 18,af 20 0]
def c62r4:List SI:=[aJ 21 20 19]
def c62r5:List SI:=[ac 22 20,aG 23 18 20 2,aH 24 23 2,bl 4,ac 3 22,ao 4 0 2 24]
def c62r6:List (Bool × SI):=[(true,ai 4),(true,am 26 4 1),(true,av 27 26),(true,ai 1),(true,am 29 1 0),(true,bP 30 27 29),(true,ac 31 30),(true,cK 31 32 4 0 2),(false,a8 31 33 112 32),(true,aS 31 34 33),(true,aw 35 31 34),(true,ac 36 35),(true,aA 36 37 3),(true,aY 36 38 37 0),(true,aA 36 39 38),(true,aW 39 1),(true,aX 39 41 1 2),(true,aE 39 42 3),(true,cm 39 43 42 1),(true,bN 39 44 41 43 2),(true,cF 39 45 44 2),(true,bd 39 46 4 0 2),(false,⟨some (39,true),.call 47 113 [(.t 45),(.t 46)],none,47⟩),(true,cv 39 48 47),(true,bO 36 49 39 48),(true,aw 50 36 49)]
def c62r7:List SI:=[af 2 1]
def c62r8:List SI:=[aD 51 20 1,ac 20 51]
def c62r9:List SI:=[ai 1,am 53 1 2,av 54 53,bo 55 54 256]
def c62r10:List SI:=[af 2 2]
def c62r11:List SI:=[af 2 0]
def c62:SC:=(.seq (aa c62r0) (.seq (ab c62r1 16 c62r2) (.seq (.seq (aa c62r3) (.blk 0 (.loop (.seq (aa c62r4) (.seq (.cond (.t 21) .skip (.exit 0)) (.seq (.blk 1 (.seq (aa c62r5) (.seq (.rgX c62r6) (.cond (.t 50) (.seq (aa c62r7) .ret) .skip)))) (aa c62r8))))))) (.seq (ab c62r9 55 c62r10) (.seq (aa c62r11) .ret)))))
def v62:List Nat × List Nat:=([1,4],[1,4,5,7,12,17,25,28,40,52])
def o62:List RS:=[.t 2]
def c63r0:List SI:=[aC 1 0,af 2 0]
def c63r1:List (Bool × SI):=[(true,ai 1),(true,am 4 1 1),(true,ai 1),(true,am 6 1 2),(true,aq 7 1 0 3),(false,au 8 115 7),(true,aG 9 6 8 2),(true,aH 10 9 2),(false,au 11 114 10),(true,bX 12 4 11),(true,ac 2 12)]
def c63:SC:=(.seq (aa c63r0) (.seq (.rgX c63r1) .ret))
def v63:List Nat × List Nat:=([1],[1,3,5])
def o63:List RS:=[.t 2]
def c64r0:List SI:=[aC 1 0,aB 2]
def c64r1:List SI:=[af 3 0]
def c64r2:List SI:=[ai 1,am 7 1 9,av 8 7,af 9 0]
def c64r3:List SI:=[aJ 10 9 8]
def c64r4:List SI:=[aG 11 7 9 5,aH 12 11 5,cw 5,ao 5 0 5 12]
def c64r5:List SI:=[ac 13 3,ai 5,am 15 5 1,cd 16 15,ai 5,am 18 5 2,cd 19 18,ba 20 16 19,ba 21 13 20,ac 3 21]
def c64r6:List SI:=[ac 22 3,bo 23 22 20000]
def c64r7:List SI:=[aB 2]
def c64r8:List SI:=[aD 24 9 1,ac 9 24]
def c64r9:List SI:=[ai 1,am 26 1 9,av 27 26,cT 28 27 100,ac 2 28]
def c64:SC:=(.seq (aa c64r0) (.seq (aa c64r1) (.seq (.seq (aa c64r2) (.blk 0 (.loop (.seq (aa c64r3) (.seq (.cond (.t 10) .skip (.exit 0)) (.seq (.blk 1 (.seq (aa c64r4) (.seq (aa c64r5) (ab c64r6 23 c64r7)))) (aa c64r8))))))) (.seq (aa c64r9) .ret))))
def v64:List Nat × List Nat:=([1,5],[1,5,6,14,17,25])
def o64:List RS:=[.t 2]
def c65r0:List SI:=[aC 2 0,aU 4,af 5 0]
def c65r1:List SI:=[aq 9 2 0 5,au 10 18 9,ac 6 10]
def c65r2:List SI:=[ac 11 6,aM 12 11 0]
def c65r3:List SI:=[cH 13,ac 14 6,ao 4 0 5 13,ac 5 14]
def c65r4:List (Bool × SI):=[(true,ai 2),(true,am 16 2 4),(true,ai 2),(true,am 19 2 3),(false,au 17 116 16),(true,ai 2),(false,au 20 48 19)]
def c65r5:List SI:=[ao 2 4 1 17,ai 2,ao 2 3 1 20]
def c65r6:List SI:=[aq 23 2 0 5,cU 24 0 5 23,aO 25 24,ac 7 25]
def c65r7:List SI:=[ac 26 1,ac 27 7,bI 28 26 27,ac 8 28]
def c65r8:List SI:=[ac 29 8,aM 30 29 0]
def c65r9:List SI:=[cH 31,ac 32 8,ao 4 0 5 31,ac 5 32]
def c65r10:List SI:=[ac 33 7,ar 34 33,ak 35 34 0,aH 36 35 5,ao 4 0 5 36,af 5 0]
def c65:SC:=(.seq (aa c65r0) (.seq (.seq (aa c65r1) (ab c65r2 12 c65r3)) (.seq (.rgY c65r4 c65r5) (.seq (aa c65r6) (.seq (.seq (aa c65r7) (ab c65r8 30 c65r9)) (.seq (aa c65r10) .ret))))))
def v65:List Nat × List Nat:=([2,4],[2,4,15,18,21,22])
def o65:List RS:=[.r 4 (some 5),.t 5]
def c66r0:List SI:=[af 4 0]
def c66r1:List SI:=[ac 8 0,ar 9 8,ak 10 9 0,ak 11 10 1,ah 12 11,aR 13 12 0]
def c66r2:List SI:=[af 4 180]
def c66r3:List SI:=[ac 14 0,ar 15 14,ak 16 15 0,ak 17 16 3,ah 18 17,av 19 18,ac 20 0,ar 21 20,ak 22 21 0,ak 23 22 2,ah 24 23,aJ 25 19 24]
def c66r4:List SI:=[af 4 181]
def c66r5:List SI:=[ac 26 0,ac 27 0,ar 28 27,ak 29 28 0,ak 30 29 1,ah 31 30,ay 32 51 26 31,ac 5 32]
def c66r6:RX:=.br [(true,aH 34 1 10),(true,ac 35 5),(true,ar 36 35),(true,aH 37 36 7)] (au 38 68 37) (.br [] (ay 39 67 34 38) (.leaf [(true,ac 33 39),(true,aj 40 33 0),(true,aj 41 33 1),(false,cY 6),(false,az 6 10 40),(true,ac 7 41)]) (cY 6) (.leaf [(false,ay 39 67 34 38),(true,ac 33 39),(true,aj 40 33 0),(true,aj 41 33 1),(false,az 6 10 40),(true,ac 7 41)])) (cY 6) (.leaf [(false,au 38 68 37),(false,ay 39 67 34 38),(true,ac 33 39),(true,aj 40 33 0),(true,aj 41 33 1),(false,az 6 10 40),(true,ac 7 41)])
def c66r7:List SI:=[ac 42 7,aM 43 42 0]
def c66r8:List SI:=[ac 44 7,ac 4 44]
def c66r9:List (Bool × SI):=[(true,ac 45 0),(true,ar 46 45),(true,ak 47 46 0),(true,ak 48 47 0),(true,ah 49 48),(true,ak 50 6 0),(true,ah 51 50),(true,ak 52 6 3)]
def c66r10:List SI:=[az 52 1 49,az 2 1 51]
def c66r11:List WI:=[(true,false,ac 54 5),(true,false,ac 55 5),(true,false,ar 56 55),(true,false,ak 57 56 2),(true,false,aH 58 57 3),(true,false,aH 59 6 10),(false,true,ay 60 69 58 59),(true,false,ac 53 60),(true,false,aj 61 53 0),(true,false,aj 62 53 1),(true,false,ar 63 54),(true,false,ak 64 63 2),(false,true,az 64 3 61),(true,false,ac 7 62)]
def c66r12:List SI:=[ac 65 7,aM 66 65 0]
def c66r13:List SI:=[ac 67 7,ac 4 67]
def c66r14:List WI:=[(true,false,ac 69 5),(true,false,ac 70 5),(true,false,ar 71 70),(true,false,ak 72 71 5),(true,false,ah 73 72),(true,false,ac 74 0),(true,false,ar 75 74),(true,false,ak 76 75 0),(true,false,ak 77 76 0),(true,false,ah 78 77),(true,false,ah 79 2),(false,true,a9 80 70 73 78 79),(true,false,ac 68 80),(true,false,aj 81 68 0),(true,false,aj 82 68 1),(true,false,ar 83 69),(true,false,ak 84 83 5),(false,true,az 84 1 81),(true,false,ac 7 82)]
def c66r15:List SI:=[ac 85 7,aM 86 85 0]
def c66r16:List SI:=[ac 87 7,ac 4 87]
def c66r17:List SI:=[ac 88 0,au 89 71 88]
def c66r18:List SI:=[af 4 0]
def c66:SC:=(.seq (aa c66r0) (.seq (ab c66r1 13 c66r2) (.seq (.seq (.reg true c66r3) (.cond (.t 25) (.seq (aa c66r4) .ret) .skip)) (.seq (aa c66r5) (.seq (.rgZ c66r6) (.seq (ab c66r7 43 c66r8) (.seq (.rgY c66r9 c66r10) (.seq (.seq (.rgW c66r11) (ab c66r12 66 c66r13)) (.seq (.seq (.rgW c66r14) (ab c66r15 86 c66r16)) (.seq (aa c66r17) (.seq (aa c66r18) .ret)))))))))))
def v66:List Nat × List Nat:=([],[])
def o66:List RS:=[.t 4]
def c67r0:List SI:=[aC 2 0,bh 4,af 5 0]
def c67r1:List SI:=[ac 10 1,cV 11 3 1 1 0 1 10,⟨none,.call 12 117 [(.i 1099511627776),(.t 11)],none,0⟩,aN 13 12]
def c67r2:List SI:=[bp 14,ao 4 0 10 14,af 5 1]
def c67r3:List SI:=[aq 15 2 0 10,au 16 118 15,ac 6 16]
def c67r4:List SI:=[ac 17 6,aM 18 17 0]
def c67r5:List SI:=[bp 19,ac 20 6,ao 4 0 10 19,ac 5 20]
def c67r6:List SI:=[ac 21 1,ai 2,am 23 2 0,bg 24 21 23,ac 7 24]
def c67r7:List WI:=[(true,false,ac 25 1),(true,false,ai 2),(true,false,am 27 2 1),(true,false,ac 28 7),(true,false,ba 29 27 28),(true,false,ai 2),(true,false,am 31 2 9),(true,false,ai 2),(false,false,au 32 119 31),(false,true,ao 2 0 1 25),(true,false,ai 2),(false,true,ao 2 1 1 29),(true,false,ai 2),(false,true,ao 2 9 1 32)]
def c67r8:List SI:=[ai 2,am 37 2 9,av 38 37,af 39 0]
def c67r9:List SI:=[aJ 40 39 38]
def c67r10:List SI:=[ac 41 39,ac 8 41]
def c67r11:List SI:=[ai 2,am 43 2 9,ac 44 8,aG 45 43 44 5,ak 46 45 0,ah 47 46,ac 48 7,ba 49 47 48,aG 50 43 44 5,ak 51 50 0,az 51 1 49]
def c67r12:List SI:=[aD 52 39 1,ac 39 52]
def c67r13:List SI:=[aq 53 2 0 10,au 54 118 53,ac 9 54]
def c67r14:List SI:=[ac 55 9,aM 56 55 0]
def c67r15:List SI:=[bp 57,ac 58 9,ao 4 0 10 57,ac 5 58]
def c67r16:List SI:=[aq 59 2 0 10,ao 4 0 10 59,af 5 0]
def c67:SC:=(.seq (aa c67r0) (.seq (ab c67r1 13 c67r2) (.seq (.seq (aa c67r3) (ab c67r4 18 c67r5)) (.seq (aa c67r6) (.seq (.rgW c67r7) (.seq (.seq (aa c67r8) (.blk 0 (.loop (.seq (aa c67r9) (.seq (.cond (.t 40) .skip (.exit 0)) (.seq (.blk 1 (.seq (aa c67r10) (aa c67r11))) (aa c67r12))))))) (.seq (.seq (aa c67r13) (ab c67r14 56 c67r15)) (.seq (aa c67r16) .ret))))))))
def v67:List Nat × List Nat:=([2,4],[2,4,22,26,30,33,34,35,36,42])
def o67:List RS:=[.r 4 (some 10),.t 5]
def c68r0:List SI:=[aC 1 0,af 2 0]
def c68r1:List SI:=[ai 1,aq 4 1 2 3,au 5 22 4,ac 2 5]
def c68:SC:=(.seq (aa c68r0) (.seq (aa c68r1) .ret))
def v68:List Nat × List Nat:=([1],[1,3])
def o68:List RS:=[.t 2]
def c69r0:List SI:=[aC 2 0,aC 3 1,bc 4,af 5 0]
def c69r1:List SI:=[aq 11 2 0 3,au 12 62 11,ac 6 12]
def c69r2:List SI:=[ac 13 6,aQ 14 13 0]
def c69r3:List SI:=[aq 15 3 0 10,au 16 118 15,ac 6 16]
def c69r4:List SI:=[ac 18 6,aM 19 18 0,ac 17 19]
def c69r5:List SI:=[bn 20,ac 21 6,ao 4 0 3 20,ac 5 21]
def c69r6:List (Bool × SI):=[(true,ai 3),(true,am 24 3 0),(true,aq 25 2 0 3),(false,au 26 63 25),(true,aJ 27 24 26),(true,ac 22 27)]
def c69r7:List SI:=[bn 28,ao 4 0 3 28,af 5 71]
def c69r8:List (Bool × SI):=[(true,aq 30 3 0 10),(true,ai 2),(true,am 33 2 0),(false,au 31 120 30),(true,bP 34 31 33),(true,ac 29 34)]
def c69r9:List SI:=[bn 35,ao 4 0 3 35,af 5 70]
def c69r10:List SI:=[aq 36 2 0 3,au 37 115 36,ac 7 37]
def c69r11:RX:=.br [(true,ai 2),(true,am 40 2 2),(true,ac 41 7),(true,aG 42 40 41 2),(true,aH 43 42 2),(true,aq 44 3 0 10),(true,ai 2),(true,am 46 2 0)] (a9 47 121 43 44 46) (.leaf [(true,ac 38 47),(true,aj 48 38 0),(true,aj 49 38 1),(false,cZ 8),(false,az 8 2 48),(true,ac 9 49)]) (cZ 8) (.leaf [(false,a9 47 121 43 44 46),(true,ac 38 47),(true,aj 48 38 0),(true,aj 49 38 1),(false,az 8 2 48),(true,ac 9 49)])
def c69r12:List SI:=[ac 50 9,aQ 51 50 0]
def c69r13:RX:=.br [(true,aq 52 2 0 3),(true,ai 2),(true,am 54 2 2),(true,ac 55 7),(true,bq 56 54 55 2),(true,aH 58 8 2)] (au 57 86 56) (.leaf [(false,bH 59 120 1 2 0 2 58),(false,aP 60 57 59 120 2 32),(false,ay 61 122 52 60),(false,ao 4 0 3 61),(true,af 5 0)]) (bH 59 120 1 2 0 2 58) (.leaf [(false,au 57 86 56),(false,aP 60 57 59 120 2 32),(false,ay 61 122 52 60),(false,ao 4 0 3 61),(true,af 5 0)])
def c69r14:List SI:=[ai 2,am 63 2 2,av 64 63,aQ 65 64 256]
def c69r15:List SI:=[bn 66,ao 4 0 3 66,af 5 2]
def c69r16:List SI:=[ai 3,am 69 3 0,aq 70 3 0 10,da 71 43 1 10 0 10 70,ai 2,am 73 2 0,a9 74 123 69 71 73,ac 67 74,aj 75 67 0,aj 76 67 1,bl 10,ao 10 0 2 75,ac 6 76]
def c69r17:List SI:=[ac 77 6,aM 78 77 0]
def c69r18:List SI:=[bn 79,ac 80 6,ao 4 0 3 79,ac 5 80]
def c69r19:RX:=.br [(true,aq 81 2 0 3),(true,ai 2),(true,am 83 2 2),(true,aq 85 10 0 2)] (au 84 86 83) (.leaf [(false,bH 86 120 1 2 0 2 85),(false,aP 87 84 86 120 2 32),(false,ay 88 122 81 87),(false,ao 4 0 3 88),(true,af 5 0)]) (bH 86 120 1 2 0 2 85) (.leaf [(false,au 84 86 83),(false,aP 87 84 86 120 2 32),(false,ay 88 122 81 87),(false,ao 4 0 3 88),(true,af 5 0)])
def c69:SC:=(.seq (aa c69r0) (.seq (aa c69r1) (.seq (.seq (aa c69r2) (.cond (.t 14) (aa c69r3) .skip)) (.seq (.blk 0 (.seq (aa c69r4) (.cond (.t 17) (.seq (aa c69r5) .ret) (.seq (.rgX c69r6) (.cond (.t 22) (.seq (aa c69r7) .ret) (.seq (.rgX c69r8) (.cond (.t 29) (.seq (aa c69r9) .ret) .skip))))))) (.seq (aa c69r10) (.seq (.seq (.rgZ c69r11) (.seq (aa c69r12) (.cond (.t 51) (.seq (.rgZ c69r13) .ret) .skip))) (.seq (ab c69r14 65 c69r15) (.seq (aa c69r16) (.seq (ab c69r17 78 c69r18) (.seq (.rgZ c69r19) .ret))))))))))
def v69:List Nat × List Nat:=([2,3,4,10],[2,3,4,10,23,32,39,45,53,62,68,72,82])
def o69:List RS:=[.r 4 (some 3),.t 5]
def c70r0:List SI:=[aI 6,af 7 0]
def c70r1:List SI:=[ac 11 0,au 12 108 11,aM 13 12 0,ac 14 13,aA 14 15 1,dh 14 16 124 15 1048576,aS 14 17 16,aw 18 14 17,ac 19 18,aA 19 20 2,dh 19 21 124 20 1099511627776,aS 19 22 21,aw 23 19 22]
def c70r2:List SI:=[aI 6,af 7 1]
def c70r3:List SI:=[ac 24 0,au 25 125 24,ac 26 1,ac 27 2,⟨none,.bld 28 [(.int .i64 0),(.int .i64 0)] [(0,1,(.t 26)),(1,1,(.t 27))],none,0⟩,di 9,ac 8 25,ao 9 0 2 28]
def c70r4:List SI:=[ac 29 0,av 30 29,aQ 31 30 0]
def c70r5:List SI:=[ac 32 8,aq 33 9 0 2,⟨none,.bls 34 151 1 2 [(.int .i64 0),(.int .i64 0)] [(0,2,(.t 33))],none,0⟩,aP 35 32 34 151 2 16,ac 6 35,af 7 0]
def c70r6:List SI:=[ac 36 8,ac 37 8,av 38 37,bw 39 38 1,aG 40 36 39 2,ac 10 40]
def c70r7:List SI:=[ac 46 1,ac 47 10,ar 48 47,ak 49 48 0,ah 50 49,aJ 51 46 50,ac 45 51]
def c70r8:List SI:=[aI 6,af 7 100]
def c70r9:List SI:=[ac 53 1,ac 54 10,ar 55 54,ak 56 55 0,ah 57 56,bu 58 53 57,ac 52 58]
def c70r10:List SI:=[ac 60 2,ac 61 10,ar 62 61,ak 63 62 1,ah 64 63,aJ 65 60 64,ac 59 65]
def c70r11:List SI:=[aI 6,af 7 71]
def c70r12:List SI:=[ac 67 2,ac 68 10,ar 69 68,ak 70 69 1,ah 71 70,bu 72 67 71,ac 66 72]
def c70r13:List SI:=[ac 73 10,aq 74 9 0 2,ar 75 73,az 75 2 74]
def c70r14:List SI:=[ac 41 8,aq 42 9 0 2,⟨none,.bls 43 151 1 2 [(.int .i64 0),(.int .i64 0)] [(0,2,(.t 42))],none,0⟩,aP 44 41 43 151 2 16,ac 8 44]
def c70r15:List SI:=[ac 76 8,ac 6 76,af 7 0]
def c70:SC:=(.seq (aa c70r0) (.seq (ab c70r1 23 c70r2) (.seq (aa c70r3) (.seq (ab c70r4 31 c70r5) (.seq (.seq (aa c70r6) (.blk 0 (.seq (aa c70r7) (.cond (.t 45) (.seq (aa c70r8) .ret) (.seq (aa c70r9) (.cond (.t 52) .skip (.seq (aa c70r10) (.cond (.t 59) (.seq (aa c70r11) .ret) (.seq (aa c70r12) (.cond (.t 66) (aa c70r13) (aa c70r14))))))))))) (.seq (aa c70r15) .ret))))))
def v70:List Nat × List Nat:=([9],[9])
def o70:List RS:=[.t 6,.t 7]
def c71r0:List SI:=[ac 5 0,ac 6 0,ar 7 6,ak 8 7 0,ak 9 8 1,ah 10 9,ay 11 51 5 10,⟨none,.al 2 [(.pointer none)],none,0⟩,az 2 1 11]
def c71r1:List SI:=[ac 12 0,ar 13 12,ak 14 13 0,ak 15 14 1,ah 16 15,aR 17 16 0,ac 18 17,aT 18 19 2,⟨some (18,false),.eqf 20 false [3] (.t 19) (.v (.pointer none)),none,20⟩,aw 21 18 20]
def c71r2:List SI:=[ah 22 2,ar 23 22,aH 24 23 7,au 25 68 24,bF 3,az 3 1 25]
def c71r3:List SI:=[ac 26 0,au 27 61 26]
def c71r4:List SI:=[ac 4 28]
def c71r5:List SI:=[ac 29 4,ah 30 2,⟨none,.eqf 31 true [3] (.t 29) (.t 30),none,0⟩]
def c71r6:List (Bool × SI):=[(true,ah 32 3),(true,ac 33 4),(true,ar 34 33),(true,ak 35 34 5),(true,ah 36 35),(true,ac 37 4),(true,ar 38 37),(true,aH 39 38 7),(true,ah 41 2),(true,ar 42 41),(true,ak 43 42 5),(true,ah 44 43),(true,ah 45 2),(true,ar 46 45),(true,aH 47 46 7),(false,au 40 68 39),(false,au 48 68 47),(false,dj 49 126 36 40 44 48),(true,bz 50 32 49)]
def c71r7:List SI:=[az 3 1 50]
def c71r8:List SI:=[ah 51 2,ah 52 2,ar 53 52,ak 54 53 6,ah 55 54,ah 56 3,bX 57 55 56,ar 58 51,ak 59 58 6]
def c71r9:List SI:=[az 59 1 57]
def c71:SC:=(.seq (aa c71r0) (.seq (.seq (aa c71r1) (.cond (.t 21) .ret .skip)) (.seq (aa c71r2) (.seq (.seq (aa c71r3) (.blk 0 (.rf (.t 27) [28] (aa c71r4) (.blk 1 (.seq (aa c71r5) (.cond (.t 31) (.rgY c71r6 c71r7) .skip)))))) (.rgT c71r8 c71r9)))))
def v71:List Nat × List Nat:=([],[])
def o71:List RS:=[]
def c75r0:List SI:=[aI 2]
def c75r1:List SI:=[ac 3 0,cL 4 129 3,ac 2 4]
def c75:SC:=(.seq (aa c75r0) (.seq (aa c75r1) .ret))
def v75:List Nat × List Nat:=([],[])
def o75:List RS:=[.t 2]
def c76r0:List SI:=[aO 2 0,aO 3 1,cr 4]
def c76r1:List SI:=[bM 5 130 2 3,ac 4 5]
def c76:SC:=(.seq (aa c76r0) (.seq (aa c76r1) .ret))
def v76:List Nat × List Nat:=([],[])
def o76:List RS:=[.t 4]
def c80r0:List SI:=[aC 3 0,aO 4 1,aO 5 2,aU 6,af 7 0]
def c80r1:List SI:=[aq 8 3 0 5,bM 9 134 4 5,ay 10 65 8 9,aj 11 10 0,aj 12 10 1,ao 6 0 5 11,ac 7 12]
def c80:SC:=(.seq (aa c80r0) (.seq (aa c80r1) .ret))
def v80:List Nat × List Nat:=([3,6],[3,6])
def o80:List RS:=[.r 6 (some 5),.t 7]
def c81r0:List SI:=[af 5 0]
def c81r1:List SI:=[ac 10 0,ar 11 10,ak 12 11 0,ak 13 12 1,ah 14 13,aR 15 14 0,ac 16 15,aA 16 17 1,⟨some (16,false),.nck 18 (.t 17),none,18⟩,bV 16 19 18 1,aT 16 20 19,aS 16 21 20,aw 22 16 21]
def c81r2:List SI:=[af 5 180]
def c81r3:List SI:=[ah 23 2,ac 24 0,ar 25 24,ak 26 25 0,ak 27 26 1,ah 28 27,bu 29 23 28]
def c81r4:List SI:=[af 5 0]
def c81r5:List SI:=[ac 30 0,ac 31 0,ar 32 31,ak 33 32 0,ak 34 33 1,ah 35 34,ay 36 51 30 35,ac 6 36]
def c81r6:List SI:=[ac 37 1,ac 38 6,ar 39 38,aH 40 39 7,ay 41 82 37 40]
def c81r7:List SI:=[ac 42 1,ar 43 42,aH 44 43 7,au 45 68 44,ac 7 45]
def c81r8:List SI:=[ac 46 1,ac 47 1,ar 48 47,ak 49 48 6,ah 50 49,ac 51 7,bz 52 50 51,ar 53 46,ak 54 53 6,az 54 1 52]
def c81r9:List (Bool × SI):=[(true,ac 56 0),(true,ar 57 56),(true,ak 58 57 0),(true,ak 59 58 3),(true,ah 60 59),(true,ah 61 2),(false,ay 62 83 60 61),(true,ac 55 62),(true,aj 63 55 0),(true,aj 64 55 1),(true,ac 8 63),(true,ac 9 64)]
def c81r10:List SI:=[ac 65 7,ac 66 6,ar 67 66,ak 68 67 6,ah 69 68,cz 70 65 69,ac 71 70,aE 71 72 9,cv 71 73 72,aF 74 71 73]
def c81r11:List (Bool × SI):=[(true,ac 75 0),(true,ac 76 0),(true,ar 77 76),(true,ak 78 77 0),(true,ak 79 78 3),(true,ah 80 79),(true,ac 81 8),(true,ah 82 2),(false,cV 83 3 1 1 0 1 82),(false,a9 84 84 80 81 83),(true,ar 85 75),(true,ak 86 85 0),(true,ak 87 86 3)]
def c81r12:List SI:=[az 87 1 84]
def c81r13:List SI:=[ac 88 0,au 89 71 88]
def c81r14:List SI:=[ac 90 1,ac 91 1,ar 92 91,ak 93 92 6,ah 94 93,ac 95 6,ar 96 95,ak 97 96 6,ah 98 97,bX 99 94 98,ac 100 7,bz 101 99 100,ar 102 90,ak 103 102 6]
def c81r15:List SI:=[az 103 1 101]
def c81r16:List SI:=[af 5 0]
def c81:SC:=(.seq (aa c81r0) (.seq (ab c81r1 22 c81r2) (.seq (.seq (.reg true c81r3) (.cond (.t 29) (.seq (aa c81r4) .ret) .skip)) (.seq (aa c81r5) (.seq (aa c81r6) (.seq (aa c81r7) (.seq (aa c81r8) (.seq (.seq (.rgX c81r9) (.seq (aa c81r10) (.cond (.t 74) (.rgY c81r11 c81r12) .skip))) (.seq (aa c81r13) (.seq (.rgT c81r14 c81r15) (.seq (aa c81r16) .ret)))))))))))
def v81:List Nat × List Nat:=([],[])
def o81:List RS:=[.t 5]
def c82r0:List SI:=[aC 3 1]
def c82r1:List (Bool × SI):=[(true,ac 8 0),(true,ar 9 8),(true,ak 10 9 5),(true,ah 11 10),(true,ac 12 0),(true,ar 13 12),(true,aH 14 13 7),(true,ai 3),(true,am 17 3 5),(true,aq 18 3 0 7),(false,au 15 68 14),(false,au 19 68 18),(false,dj 20 126 11 15 17 19),(true,ac 4 20)]
def c82r2:List SI:=[ai 3,aq 22 3 2 3,bc 5,ao 5 0 3 22,aB 6]
def c82r3:List SI:=[ac 23 0,ar 24 23,ak 25 24 2,ak 26 25 1,ah 27 26,ac 7 27]
def c82r4:List SI:=[ac 28 7,ai 3,⟨none,.nop,none,0⟩,am 31 3 3,bu 32 28 31,ac 33 32,aE 33 34 4,aE 33 35 7,cC 33 36 34 35,aF 37 33 36]
def c82r5:List WI:=[(true,false,ac 39 0),(true,false,ar 40 39),(true,false,ak 41 40 2),(true,false,aH 42 41 3),(true,false,ai 3),(true,false,aq 44 3 2 3),(true,false,ac 45 4),(true,false,ac 46 0),(true,false,ar 47 46),(true,false,aH 48 47 7),(false,false,au 49 68 48),(true,false,bz 50 45 49),(false,true,a9 51 135 42 44 50),(true,false,ac 38 51),(true,false,aj 52 38 0),(true,false,aj 53 38 1),(false,true,ao 5 0 3 52),(true,false,ac 6 53)]
def c82r6:List SI:=[ac 54 6,aN 55 54]
def c82r7:List SI:=[ai 3,aq 57 3 2 3,ao 5 0 3 57]
def c82r8:List WI:=[(true,false,ac 58 0),(true,false,ac 59 0),(true,false,aq 60 5 0 3),(true,false,ai 3),(true,false,am 62 3 5),(true,false,ar 63 58),(true,false,ak 64 63 2),(false,false,az 64 3 60),(true,false,ar 65 59),(true,false,ak 66 65 5),(false,true,az 66 1 62)]
def c82:SC:=(.seq (aa c82r0) (.seq (.rgX c82r1) (.seq (aa c82r2) (.seq (.seq (aa c82r3) (.seq (aa c82r4) (.cond (.t 37) (.rgW c82r5) .skip))) (.seq (.seq (aa c82r6) (.cond (.t 55) (aa c82r7) .skip)) (.rgW c82r8))))))
def v82:List Nat × List Nat:=([3,5],[3,5,16,21,29,30,43,56,61])
def o82:List RS:=[]
def c83r0:List SI:=[af 4 0,aB 5]
def c83r1:List SI:=[ac 10 0,av 11 10,ac 6 11]
def c83r2:List SI:=[ac 12 6,af 7 0,ac 8 12]
def c83r3:List SI:=[ac 13 7,ac 14 8,aJ 15 13 14]
def c83r4:List SI:=[ac 16 7,ac 17 8,ba 18 16 17,bm 19 18,bA 20 19 1,bQ 21 20,ac 9 21]
def c83r5:List SI:=[ac 22 0,ac 23 9,aG 24 22 23 1,ah 25 24,ac 26 1,ay 27 136 25 26]
def c83r6:List SI:=[ac 28 9,aD 29 28 1,ac 7 29]
def c83r7:List SI:=[ac 30 9,ac 8 30]
def c83r8:List SI:=[ac 31 7,ac 32 7,ac 33 6,aJ 34 32 33,ac 35 34,aE 35 36 0,aE 35 37 7,bN 35 38 36 37 1,bD 35 39 38,aE 35 40 1,cE 35 41 39 40,aE 35 42 41,aA 42 43 0,aA 42 44 7,cj 42 45 43 44 1,aT 42 46 45,a8 42 47 137 46,aA 42 48 47,aE 48 49 1,aV 48 50 137 49,bO 42 51 48 50,bR 35 52 42 51,aF 53 35 52,ac 4 31,ac 5 53]
def c83:SC:=(.seq (aa c83r0) (.seq (aa c83r1) (.seq (aa c83r2) (.seq (.blk 0 (.loop (.seq (.seq (aa c83r3) (.cond (.t 15) .skip (.exit 0))) (.blk 1 (.seq (aa c83r4) (.seq (aa c83r5) (.cond (.t 27) (aa c83r6) (aa c83r7)))))))) (.seq (aa c83r8) .ret)))))
def v83:List Nat × List Nat:=([],[])
def o83:List RS:=[.t 4,.t 5]
def c85r0:List SI:=[af 6 0]
def c85r1:List SI:=[ah 10 2,aR 11 10 0,ac 9 11]
def c85r2:List SI:=[af 6 1]
def c85r3:List SI:=[ac 13 1,ar 14 13,ak 15 14 1,ah 16 15,aN 17 16,ac 12 17]
def c85r4:List SI:=[af 6 180]
def c85r5:List SI:=[ac 18 1,ar 19 18,ak 20 19 2,ak 21 20 2,ah 22 21,au 23 86 22,ac 7 23]
def c85r6:List SI:=[ac 24 7,ac 25 7,av 26 25,bw 27 26 1,aG 28 24 27 2,ac 8 28]
def c85r7:List SI:=[ac 29 8,ac 30 8,ar 31 30,ak 32 31 1,ah 33 32,ac 34 8,ar 35 34,ak 36 35 1,ah 37 36,av 38 37,ah 39 2,ac 40 8,ar 41 40,ak 42 41 1,ah 43 42,av 44 43,bz 45 39 44,bg 46 38 45,bq 47 33 46 1,ar 48 29,ak 49 48 1]
def c85r8:List SI:=[az 49 1 47]
def c85r9:List SI:=[ac 50 1,ac 51 1,ac 52 7,ar 53 50,ak 54 53 1,cM 54 1,ar 55 51,ak 56 55 2,ak 57 56 2,az 57 1 52]
def c85r10:List SI:=[ac 58 0,ar 59 58,ak 60 59 0,ak 61 60 1,ah 62 61,ah 63 3,bu 64 62 63]
def c85r11:List SI:=[ac 65 0,ar 66 65,ak 67 66 0,ak 68 67 1,⟨none,.st (.t 68) 1 (.i (-1)),none,0⟩]
def c85r12:List SI:=[ac 69 0,ar 70 69,ak 71 70 0,ak 72 71 3,ah 73 72,av 74 73,bo 75 74 1]
def c85r13:List SI:=[ac 76 0,ah 77 3,ay 78 87 76 77]
def c85r14:List SI:=[ac 79 0,au 80 71 79]
def c85r15:List SI:=[af 6 0]
def c85:SC:=(.seq (aa c85r0) (.seq (.blk 0 (.seq (aa c85r1) (.cond (.t 9) (.seq (aa c85r2) .ret) (ab c85r3 12 c85r4)))) (.seq (aa c85r5) (.seq (aa c85r6) (.seq (.rgT c85r7 c85r8) (.seq (aa c85r9) (.seq (.seq (.reg true c85r10) (.cond (.t 64) (aa c85r11) .skip)) (.seq (.seq (aa c85r12) (.cond (.t 75) (aa c85r13) .skip)) (.seq (aa c85r14) (.seq (aa c85r15) .ret))))))))))
def v85:List Nat × List Nat:=([],[])
def o85:List RS:=[.t 6]
def c86r0:List SI:=[aI 2]
def c86r1:List SI:=[ac 3 0,bY 4 3]
def c86r2:List SI:=[aI 2]
def c86r3:List SI:=[bZ 5,ac 6 0,aP 7 5 6 120 2 32,ac 2 7]
def c86:SC:=(.seq (aa c86r0) (.seq (ab c86r1 4 c86r2) (.seq (aa c86r3) .ret)))
def v86:List Nat × List Nat:=([],[])
def o86:List RS:=[.t 2]
def c87r0:List SI:=[aO 3 1]
def c87r1:List SI:=[ac 4 0,ac 5 0,ar 6 5,ak 7 6 0,ak 8 7 3,ah 9 8,bG 10 141 3,ay 11 140 9 10,ar 12 4,ak 13 12 0,ak 14 13 3,az 14 1 11]
def c87:SC:=(.seq (aa c87r0) (aa c87r1))
def v87:List Nat × List Nat:=([],[])
def o87:List RS:=[]
def c88r0:List SI:=[af 4 0]
def c88r1:List SI:=[ac 6 1,ar 7 6,ak 8 7 1,ah 9 8]
def c88r2:List SI:=[af 4 150]
def c88r3:List SI:=[ac 10 1,ar 11 10,ak 12 11 1,⟨none,.st (.t 12) 1 (.b true),none,0⟩]
def c88r4:List SI:=[ac 14 1,ac 15 1,ar 16 15,ak 17 16 2,aH 18 17 3,au 19 89 18,ac 13 19,aj 20 13 0,aj 21 13 1,ar 22 14,ak 23 22 2,az 23 3 20]
def c88r5:List SI:=[ac 24 1,ar 25 24,aH 26 25 7,au 27 68 26,ac 5 27]
def c88r6:List WI:=[(true,false,ac 28 1),(true,false,ac 29 1),(true,false,ac 30 1),(true,false,ar 31 30),(true,false,ak 32 31 5),(true,false,ah 33 32),(true,false,ac 34 5),(true,false,ac 36 1),(true,false,ar 37 36),(true,false,ak 38 37 6),(true,false,ah 39 38),(true,false,ac 40 5),(true,false,bz 41 39 40),(false,false,ay 35 90 33 34),(true,false,ar 42 28),(true,false,ak 43 42 5),(false,true,az 43 1 35),(true,false,ar 44 29),(true,false,ak 45 44 6),(false,true,az 45 1 41)]
def c88r7:List SI:=[af 4 0]
def c88:SC:=(.seq (aa c88r0) (.seq (ab c88r1 9 c88r2) (.seq (aa c88r3) (.seq (aa c88r4) (.seq (aa c88r5) (.seq (.rgW c88r6) (.seq (aa c88r7) .ret)))))))
def v88:List Nat × List Nat:=([],[])
def o88:List RS:=[.t 4]
def c89r0:List SI:=[aC 1 0,bc 2,af 3 0]
def c89r1:List SI:=[ai 1,am 9 1 0,ai 1,am 11 1 1,ay 12 103 9 11,aN 13 12,ac 14 13,aK 14 1,aL 14 16 1 2,bj 14 17 16,⟨some (14,false),.bin 18 .eql (.t 17) (.i 0),none,18⟩,aw 19 14 18,ac 20 19,aK 20 1,aL 20 22 1 2,⟨some (20,false),.ixA 23 (.t 22) (.i 0) 2,none,23⟩,bV 20 24 23 0,aT 20 25 24,a8 20 26 142 25,aS 20 27 26,aw 28 20 27]
def c89r2:List SI:=[bn 29,ao 2 0 3 29,af 3 0]
def c89r3:List SI:=[aq 30 1 0 3,⟨none,.call 31 122 [(.t 30),(.v (.slice none 0 0))],none,0⟩,ao 2 0 3 31]
def c89r4:List SI:=[ai 1,am 33 1 2,av 34 33,af 35 0]
def c89r5:List SI:=[aJ 36 35 34]
def c89r6:List SI:=[ac 37 35,aG 38 33 35 2,aH 39 38 2,bl 5,ac 4 37,ao 5 0 2 39]
def c89r7:List SI:=[ac 40 3,ai 5,am 42 5 1,av 43 42,ba 44 40 43,ac 3 44]
def c89r8:List (Bool × SI):=[(true,ai 2),(true,am 46 2 2),(true,av 47 46),(true,ac 48 4),(true,aJ 49 47 48),(true,ac 50 49),(true,aA 50 51 4),(true,aY 50 52 51 0),(true,aA 50 53 52),(true,aW 53 1),(true,aX 53 55 1 2),(true,aE 53 56 4),(true,cm 53 57 56 1),(true,bN 53 58 55 57 2),(true,cF 53 59 58 2),(false,aV 53 60 112 59),(true,cv 53 61 60),(true,aE 53 62 61),(true,aK 62 1),(true,aL 62 64 1 2),(true,aA 62 65 4),(true,⟨some (62,false),.bin 66 .sub (.t 65) (.i 1),none,66⟩),(true,cj 62 67 64 66 2),(true,⟨some (62,false),.ld 68 (.t 67) (some 2),none,68⟩),(true,cK 62 69 5 0 2),(false,cJ 62 70 113 68 69),(true,aS 62 71 70),(true,bR 53 72 62 71),(true,bO 50 73 53 72),(true,aw 74 50 73)]
def c89r9:List SI:=[aq 76 5 0 2,au 77 143 76,ac 75 77,aj 78 75 0,aj 79 75 1,bl 6,ao 6 0 2 78,ac 7 79]
def c89r10:List SI:=[ac 80 3,ai 6,am 82 6 1,av 83 82,bg 84 80 83,ac 3 84]
def c89r11:List SI:=[ai 2,am 86 2 2,aq 87 6 0 2,bH 88 120 1 2 0 2 87,aP 89 86 88 120 2 32,ai 2,ao 2 2 1 89]
def c89r12:List SI:=[aD 91 35 1,ac 35 91]
def c89r13:List SI:=[aq 92 2 0 3,ac 93 3,ao 2 0 3 92,ac 3 93]
def c89:SC:=(.seq (aa c89r0) (.seq (ab c89r1 28 c89r2) (.seq (aa c89r3) (.seq (.seq (aa c89r4) (.blk 0 (.loop (.seq (aa c89r5) (.seq (.cond (.t 36) .skip (.exit 0)) (.seq (.blk 1 (.seq (aa c89r6) (.seq (aa c89r7) (.seq (.seq (.rgX c89r8) (.cond (.t 74) (.exit 1) .skip)) (.seq (aa c89r9) (.seq (aa c89r10) (aa c89r11))))))) (aa c89r12))))))) (.seq (aa c89r13) .ret)))))
def v89:List Nat × List Nat:=([1,2,5,6],[1,2,5,6,8,10,15,21,32,41,45,54,63,81,85,90])
def o89:List RS:=[.r 2 (some 3),.t 3]
def c90r0:List SI:=[aO 2 0,aO 3 1,aI 4]
def c90r1:List SI:=[ah 6 2,au 7 108 6,aM 8 7 0]
def c90r2:List SI:=[aI 4]
def c90r3:List SI:=[ah 9 2,av 10 9,bM 11 145 2 3,ay 12 144 10 11,ac 5 12]
def c90r4:List SI:=[ah 13 2,ac 14 5,bq 15 13 14 2,au 16 125 15,ac 4 16]
def c90:SC:=(.seq (aa c90r0) (.seq (ab c90r1 8 c90r2) (.seq (aa c90r3) (.seq (aa c90r4) .ret))))
def v90:List Nat × List Nat:=([],[])
def o90:List RS:=[.t 4]
def c91r0:List SI:=[af 5 0]
def c91r1:List SI:=[ac 7 1,ar 8 7,ak 9 8 1,ah 10 9,aN 11 10,ac 6 11]
def c91r2:List SI:=[af 5 180]
def c91r3:List (Bool × SI):=[(true,ac 13 0),(true,ar 14 13),(true,ak 15 14 0),(true,ak 16 15 3),(true,ah 17 16),(true,ah 18 2),(false,ay 19 58 17 18),(true,aN 20 19),(true,ac 12 20)]
def c91r4:List SI:=[af 5 181]
def c91r5:List SI:=[ac 22 0,ar 23 22,ak 24 23 0,ak 25 24 0,ah 26 25,aQ 27 26 1048576,ac 21 27]
def c91r6:List SI:=[af 5 2]
def c91r7:RX:=.br [(true,ac 28 0),(true,ac 29 0),(true,ac 30 0),(true,ar 31 30),(true,ak 32 31 0),(true,ak 33 32 0)] (ah 34 33) (.br [(true,aD 35 34 1),(true,ar 37 28),(true,ak 38 37 0),(true,ak 39 38 0)] (ah 36 2) (.leaf [(false,az 39 1 35),(true,ar 40 29),(true,ak 41 40 0),(true,ak 42 41 1),(false,az 42 1 36)]) (az 39 1 35) (.leaf [(false,ah 36 2),(true,ar 40 29),(true,ak 41 40 0),(true,ak 42 41 1),(false,az 42 1 36)])) (ah 36 2) (.leaf [(false,ah 34 33),(true,aD 35 34 1),(true,ar 37 28),(true,ak 38 37 0),(true,ak 39 38 0),(false,az 39 1 35),(true,ar 40 29),(true,ak 41 40 0),(true,ak 42 41 1),(false,az 42 1 36)])
def c91r8:List SI:=[ac 43 0,au 44 71 43]
def c91r9:List SI:=[af 5 0]
def c91:SC:=(.seq (aa c91r0) (.seq (.blk 0 (.seq (aa c91r1) (.cond (.t 6) (.seq (aa c91r2) .ret) (.seq (.rgX c91r3) (.cond (.t 12) (.seq (aa c91r4) .ret) (ab c91r5 21 c91r6)))))) (.seq (.rgZ c91r7) (.seq (aa c91r8) (.seq (aa c91r9) .ret)))))
def v91:List Nat × List Nat:=([],[])
def o91:List RS:=[.t 5]
def Ef : Sch := .br [(true, 0), (true, 1), (true, 2), (true, 3), (true, 4), (true, 5)] 6 (.br [(true, 7), (true, 9), (true, 10), (true, 11)] 8 (.leaf [(false, 12), (true, 13), (true, 14), (true, 15), (false, 16)]) 12 (.leaf [(false, 8), (true, 13), (true, 14), (true, 15), (false, 16)])) 8 (.leaf [(false, 6), (true, 7), (true, 9), (true, 10), (true, 11), (false, 12), (true, 13), (true, 14), (true, 15), (false, 16)])
theorem Ek : ZOk Tryz.prog Tryz.f91.ntmps v91.1 v91.2 (IG 7 ((Tryz.f91.body).getD .skip)) c91r7 := ZOk.mk Ef (by kernel_rfl) (by kernel_rfl) (by kernel_rfl) (by kernel_rfl)
theorem s91 : jc Tryz.prog Tryz.f91.ntmps v91.1 v91.2 ((Tryz.f91.body).getD .skip) c91 := jc.mk [(7, .z c91r7)] (⟨⟨_, by kernel_rfl, Ek⟩, trivial⟩) (by kernel_rfl)
theorem q91 : fu Tryz.prog Tryz.f91.ntmps v91.1 v91.2 Tryz.f91.results.toList = some o91 := by kernel_rfl
def c102r0:List SI:=[af 5 0]
def c102r1:List SI:=[ac 7 0,ar 8 7,ak 9 8 0,ak 10 9 1,ah 11 10,aR 12 11 0,ac 6 12]
def c102r2:List SI:=[af 5 180]
def c102r3:List (Bool × SI):=[(true,ah 14 2),(true,ac 15 0),(true,ar 16 15),(true,ak 17 16 0),(true,ak 18 17 1),(true,ah 19 18),(true,bu 20 14 19),(true,ac 21 20),(true,aA 21 22 0),(true,⟨some (21,false),.nck 23 (.t 22),none,23⟩),(true,bV 21 24 23 0),(true,bV 21 25 24 3),(true,aT 21 26 25),(true,aT 21 27 2),(false,cJ 21 28 58 26 27),(true,aS 21 29 28),(true,aw 30 21 29),(true,ac 13 30)]
def c102r4:List SI:=[af 5 181]
def c102r5:List SI:=[ac 31 0,ah 32 2,ay 33 87 31 32]
def c102r6:List SI:=[ac 34 0,au 35 71 34]
def c102r7:List SI:=[af 5 0]
def c102:SC:=(.seq (aa c102r0) (.seq (.blk 0 (.seq (aa c102r1) (.cond (.t 6) (.seq (aa c102r2) .ret) (.seq (.rgX c102r3) (.cond (.t 13) (.seq (aa c102r4) .ret) .skip))))) (.seq (aa c102r5) (.seq (aa c102r6) (.seq (aa c102r7) .ret)))))
def v102:List Nat × List Nat:=([],[])
def o102:List RS:=[.t 5]
def c103r0:List SI:=[aB 4]
def c103r1:List SI:=[ac 5 0,bf 6 5 256,ac 7 6,aE 7 8 0,bt 7 9 8 4096,aF 10 7 9,ac 11 10,aE 11 12 1,aV 11 13 142 12,aF 14 11 13,ac 4 14]
def c103:SC:=(.seq (aa c103r0) (.seq (aa c103r1) .ret))
def v103:List Nat × List Nat:=([],[])
def o103:List RS:=[.t 4]
def c105r0:List SI:=[af 6 0,aB 7]
def c105r1:List SI:=[ac 12 0,av 13 12,ac 8 13]
def c105r2:List SI:=[ac 14 8,af 9 0,ac 10 14]
def c105r3:List SI:=[ac 15 9,ac 16 10,aJ 17 15 16]
def c105r4:List SI:=[ac 18 9,ac 19 10,ba 20 18 19,bm 21 20,bA 22 21 1,bQ 23 22,ac 11 23]
def c105r5:List SI:=[ac 24 2,ac 25 0,ac 26 11,aG 27 25 26 7,aH 28 27 7,ac 29 1,bJ 30 24 28 29,aR 31 30 0]
def c105r6:List SI:=[ac 32 11,aD 33 32 1,ac 9 33]
def c105r7:List SI:=[ac 34 11,ac 10 34]
def c105r8:List SI:=[ac 35 9,ac 36 9,ac 37 8,aJ 38 36 37,ac 39 38,aE 39 40 2,aE 39 41 0,aE 39 42 9,bN 39 43 41 42 7,cF 39 44 43 7,aE 39 45 1,⟨some (39,true),.cav 46 (.t 40) [(.t 44),(.t 45)],none,46⟩,aZ 39 47 46 0,aF 48 39 47,ac 6 35,ac 7 48]
def c105:SC:=(.seq (aa c105r0) (.seq (aa c105r1) (.seq (aa c105r2) (.seq (.blk 0 (.loop (.seq (.seq (aa c105r3) (.cond (.t 17) .skip (.exit 0))) (.blk 1 (.seq (aa c105r4) (.seq (aa c105r5) (.cond (.t 31) (aa c105r6) (aa c105r7)))))))) (.seq (aa c105r8) .ret)))))
def v105:List Nat × List Nat:=([],[])
def o105:List RS:=[.t 6,.t 7]
def c106r0:List SI:=[aC 2 0,af 4 0]
def c106r1:List SI:=[ai 2,am 6 2 0,ac 7 1,bg 8 6 7,ac 4 8]
def c106:SC:=(.seq (aa c106r0) (.seq (aa c106r1) .ret))
def v106:List Nat × List Nat:=([2],[2,5])
def o106:List RS:=[.t 4]
def c107r0:List SI:=[af 4 0]
def c107r1:List SI:=[ac 6 0,av 7 6,af 8 0]
def c107r2:List SI:=[aJ 9 8 7]
def c107r3:List SI:=[ac 10 8,ac 5 10]
def c107r4:List SI:=[ac 11 1,ac 12 0,ac 13 5,aG 14 12 13 7,aH 15 14 7,bI 16 11 15]
def c107r5:List SI:=[ac 17 5,ac 4 17]
def c107r6:List SI:=[aD 18 8 1,ac 8 18]
def c107r7:List SI:=[cp 4]
def c107:SC:=(.seq (aa c107r0) (.seq (.seq (aa c107r1) (.blk 0 (.loop (.seq (aa c107r2) (.seq (.cond (.t 9) .skip (.exit 0)) (.seq (.blk 1 (.seq (aa c107r3) (ab c107r4 16 c107r5))) (aa c107r6))))))) (.seq (aa c107r7) .ret)))
def v107:List Nat × List Nat:=([],[])
def o107:List RS:=[.t 4]
def c108r0:List SI:=[af 2 0]
def c108r1:List SI:=[ac 5 0,av 6 5,af 7 0]
def c108r2:List SI:=[aJ 8 7 6]
def c108r3:List SI:=[ac 9 7,aG 10 5 7 2,aH 11 10 2,di 4,ac 3 9,ao 4 0 2 11]
def c108r4:List SI:=[ai 4,am 13 4 0,bC 14 124 13 1048576,aN 15 14,ac 16 15,aK 16 4,aL 16 18 4 1,dh 16 19 124 18 1099511627776,aS 16 20 19,aw 21 16 20]
def c108r5:List SI:=[af 2 1]
def c108r6:List SI:=[ac 22 3,bo 23 22 0,ac 24 23,aW 24 4,aX 24 26 4 0,aE 24 27 0,aE 24 28 3,cm 24 29 28 1,bN 24 30 27 29 2,⟨some (24,true),.flA 31 (.t 30) 0,none,31⟩,bD 24 32 31,⟨some (24,true),.bin 33 .sub (.t 26) (.t 32),none,33⟩,aW 24 4,aX 24 35 4 1,aE 24 36 0,aE 24 37 3,cm 24 38 37 1,bN 24 39 36 38 2,⟨some (24,true),.flA 40 (.t 39) 1,none,40⟩,bD 24 41 40,⟨some (24,true),.bin 42 .sub (.t 35) (.t 41),none,42⟩,⟨some (24,true),.mm 43 false (.t 33) (.t 42),none,43⟩,bt 24 44 43 0,aF 45 24 44]
def c108r7:List SI:=[af 2 1]
def c108r8:List SI:=[aD 46 7 1,ac 7 46]
def c108r9:List SI:=[af 2 0]
def c108:SC:=(.seq (aa c108r0) (.seq (.seq (aa c108r1) (.blk 0 (.loop (.seq (aa c108r2) (.seq (.cond (.t 8) .skip (.exit 0)) (.seq (.blk 1 (.seq (aa c108r3) (.seq (ab c108r4 21 c108r5) (.seq (.reg true c108r6) (.cond (.t 45) (.seq (aa c108r7) .ret) .skip))))) (aa c108r8))))))) (.seq (aa c108r9) .ret)))
def v108:List Nat × List Nat:=([4],[4,12,17,25,34])
def o108:List RS:=[.t 2]
def c109r0:List SI:=[af 4 0]
def c109r1:List SI:=[ac 6 0,av 7 6,af 8 0]
def c109r2:List SI:=[aJ 9 8 7]
def c109r3:List SI:=[ac 10 8,ac 5 10]
def c109r4:List SI:=[ac 11 1,ac 12 0,ac 13 5,aG 14 12 13 1,ah 15 14,bI 16 11 15]
def c109r5:List SI:=[ac 17 5,ac 4 17]
def c109r6:List SI:=[aD 18 8 1,ac 8 18]
def c109r7:List SI:=[cp 4]
def c109:SC:=(.seq (aa c109r0) (.seq (.seq (aa c109r1) (.blk 0 (.loop (.seq (aa c109r2) (.seq (.cond (.t 9) .skip (.exit 0)) (.seq (.blk 1 (.seq (aa c109r3) (ab c109r4 16 c109r5))) (aa c109r6))))))) (.seq (aa c109r7) .ret)))
def v109:List Nat × List Nat:=([],[])
def o109:List RS:=[.t 4]
def c111r0:List SI:=[ah 5 1,ar 6 5,ak 7 6 0,ak 8 7 3,ah 9 8,av 10 9,af 11 0]
def c111r1:List SI:=[aJ 12 11 10]
def c111r2:List SI:=[aG 13 9 11 1,ah 14 13,ac 4 14]
def c111r3:List SI:=[ac 15 0,ah 16 1,ac 17 4,ay 18 51 16 17,bI 19 15 18,aN 20 19]
def c111r4:List SI:=[aD 21 11 1,ac 11 21]
def c111:SC:=(.seq (aa c111r0) (.blk 0 (.loop (.seq (aa c111r1) (.seq (.cond (.t 12) .skip (.exit 0)) (.seq (.blk 1 (.seq (aa c111r2) (.seq (aa c111r3) (.cond (.t 20) .ret .skip)))) (aa c111r4)))))))
def v111:List Nat × List Nat:=([],[])
def o111:List RS:=[]
def c112r0:List SI:=[aC 1 0,aB 2]
def c112r1:List SI:=[aq 6 1 0 2,au 7 131 6,ac 5 7,aj 8 5 0,aj 9 5 1,ac 3 8,ac 4 9]
def c112r2:List SI:=[ai 1,am 11 1 0,au 12 142 11,ac 13 12,aE 13 14 4,aW 13 1,aX 13 16 1 1,cG 13 17 16,cE 13 18 14 17,aF 19 13 18,ac 2 19]
def c112:SC:=(.seq (aa c112r0) (.seq (aa c112r1) (.seq (aa c112r2) .ret)))
def v112:List Nat × List Nat:=([1],[1,10,15])
def o112:List RS:=[.t 2]
def c113r0:List SI:=[aC 2 0,aC 3 1,aB 4]
def c113r1:List (Bool × SI):=[(true,ai 3),(true,am 6 3 0),(true,ai 2),(true,am 8 2 0),(true,bP 9 6 8),(true,ac 10 9),(true,aW 10 3),(true,aX 10 12 3 0),(true,bd 10 13 2 0 2),(false,aV 10 14 114 13),(true,cC 10 15 12 14),(true,aF 16 10 15),(true,ac 4 16)]
def c113:SC:=(.seq (aa c113r0) (.seq (.rgX c113r1) .ret))
def v113:List Nat × List Nat:=([2,3],[2,3,5,7,11])
def o113:List RS:=[.t 4]
def c114r0:List SI:=[aO 1 0,af 2 0]
def c114r1:List SI:=[ak 5 1 0,ah 6 5,bF 3,az 3 1 6]
def c114r2:List SI:=[aH 7 1 2,au 8 151 7]
def c114r3:List SI:=[bh 4,ao 4 0 10 9]
def c114r4:List SI:=[ai 4,am 12 4 1,aD 13 12 1,az 3 1 13]
def c114r5:List SI:=[ah 14 3,ac 2 14]
def c114:SC:=(.seq (aa c114r0) (.seq (aa c114r1) (.seq (.seq (aa c114r2) (.blk 0 (.rf (.t 8) [9,10] (aa c114r3) (.blk 1 (aa c114r4))))) (.seq (aa c114r5) .ret))))
def v114:List Nat × List Nat:=([4],[4,11])
def o114:List RS:=[.t 2]
def c115r0:List SI:=[aC 1 0,af 2 0]
def c115r1:List SI:=[ai 1,am 4 1 2,av 5 4,bw 6 5 1,ac 2 6]
def c115:SC:=(.seq (aa c115r0) (.seq (aa c115r1) .ret))
def v115:List Nat × List Nat:=([1],[1,3])
def o115:List RS:=[.t 2]
def c116r0:List SI:=[aI 2]
def c116r1:List SI:=[ac 3 0,bY 4 3]
def c116r2:List SI:=[aI 2]
def c116r3:List SI:=[bZ 5,ac 6 0,aP 7 5 6 50 7 88,ac 2 7]
def c116:SC:=(.seq (aa c116r0) (.seq (ab c116r1 4 c116r2) (.seq (aa c116r3) .ret)))
def v116:List Nat × List Nat:=([],[])
def o116:List RS:=[.t 2]
def c117r0:List SI:=[aB 4]
def c117r1:List SI:=[ac 5 1,au 6 152 5,bf 7 6 0,ac 8 7,aE 8 9 1,aV 8 10 153 9,aE 8 11 0,cD 8 12 10 11,aF 13 8 12,ac 4 13]
def c117:SC:=(.seq (aa c117r0) (.seq (aa c117r1) .ret))
def v117:List Nat × List Nat:=([],[])
def o117:List RS:=[.t 4]
theorem s117 : gM Tryz.prog Tryz.f117.ntmps v117.1 v117.2 ((Tryz.f117.body).getD .skip) = some c117 := by kernel_rfl
theorem q117 : fu Tryz.prog Tryz.f117.ntmps v117.1 v117.2 Tryz.f117.results.toList = some o117 := by kernel_rfl
def c118r0:List SI:=[aC 1 0,af 2 0]
def c118r1:List SI:=[aq 6 1 0 10,au 7 154 6,ac 5 7,aj 8 5 0,aj 9 5 1,ac 3 8,ac 4 9]
def c118r2:List SI:=[ac 10 4,ac 2 10]
def c118:SC:=(.seq (aa c118r0) (.seq (aa c118r1) (.seq (aa c118r2) .ret)))
def v118:List Nat × List Nat:=([1],[1])
def o118:List RS:=[.t 2]
def c119r0:List SI:=[aI 2]
def c119r1:List SI:=[ac 3 0,bY 4 3]
def c119r2:List SI:=[aI 2]
def c119r3:List SI:=[bZ 5,ac 6 0,aP 7 5 6 103 5 56,ac 2 7]
def c119:SC:=(.seq (aa c119r0) (.seq (ab c119r1 4 c119r2) (.seq (aa c119r3) .ret)))
def v119:List Nat × List Nat:=([],[])
def o119:List RS:=[.t 2]
def c120r0:List SI:=[aC 1 0,af 2 0]
def c120r1:List SI:=[aq 6 1 0 10,au 7 154 6,ac 5 7,aj 8 5 0,aj 9 5 1,ac 3 8,ac 4 9]
def c120r2:List SI:=[ac 10 3,av 11 10,ac 2 11]
def c120:SC:=(.seq (aa c120r0) (.seq (aa c120r1) (.seq (aa c120r2) .ret)))
def v120:List Nat × List Nat:=([1],[1])
def o120:List RS:=[.t 2]
def c121r0:List SI:=[aC 3 0,aC 4 1,bl 6,af 7 0]
def c121r1:List SI:=[aq 13 3 0 2,au 14 131 13,ac 12 14,aj 15 12 0,aj 16 12 1,ac 8 15,ac 9 16]
def c121r2:List SI:=[ac 17 9,ai 3,am 19 3 1,av 20 19,cA 21 17 20,ac 22 21,aK 22 3,aL 22 24 3 0,a8 22 25 155 24,aS 22 26 25,aw 27 22 26,ac 28 27,aA 28 29 2,a8 28 30 156 29,aS 28 31 30,aw 32 28 31]
def c121r3:List SI:=[bS 33,ao 6 0 2 33,af 7 1]
def c121r4:List SI:=[aq 35 4 0 10,au 36 154 35,ac 34 36,aj 37 34 0,aj 38 34 1,ac 10 37,ac 11 38]
def c121r5:List SI:=[ac 40 11,aM 41 40 0,ac 39 41]
def c121r6:List SI:=[bS 42,ac 43 11,ao 6 0 2 42,ac 7 43]
def c121r7:List (Bool × SI):=[(true,ai 4),(true,am 46 4 0),(true,aq 47 3 0 2),(false,au 48 114 47),(true,aJ 49 46 48),(true,ac 44 49)]
def c121r8:List SI:=[bS 50,ao 6 0 2 50,af 7 71]
def c121r9:List SI:=[ai 3,am 53 3 1,av 54 53,ac 55 10,av 56 55,ba 57 54 56,ac 58 2,bP 59 57 58,ac 51 59]
def c121r10:List SI:=[bS 60,ao 6 0 2 60,af 7 70]
def c121r11:List (Bool × SI):=[(true,ai 3),(true,am 62 3 0),(true,ai 3),(true,am 64 3 1),(true,ac 65 10),(false,⟨none,.bls 66 118 2 1 [(.slice none 0 0),(.slice none 0 0)] [(0,1,(.t 64)),(1,1,(.t 65))],none,0⟩),(false,au 67 157 66),(true,⟨none,.bld 68 [(.int .i64 0),(.slice none 0 0)] [(0,1,(.t 62)),(1,1,(.t 67))],none,0⟩)]
def c121r12:List SI:=[ao 6 0 2 68,af 7 0]
def c121:SC:=(.seq (aa c121r0) (.seq (.seq (aa c121r1) (ab c121r2 32 c121r3)) (.seq (aa c121r4) (.seq (.blk 0 (.seq (aa c121r5) (.cond (.t 39) (.seq (aa c121r6) .ret) (.seq (.rgX c121r7) (.cond (.t 44) (.seq (aa c121r8) .ret) (ab c121r9 51 c121r10)))))) (.seq (.rgY c121r11 c121r12) .ret)))))
def v121:List Nat × List Nat:=([3,4,6],[3,4,6,18,23,45,52,61,63])
def o121:List RS:=[.r 6 (some 2),.t 7]
def c122r0:List SI:=[aC 2 0,bc 4]
def c122r1:List SI:=[ai 2,am 6 2 0,ai 2,am 8 2 1,ac 9 1,⟨none,.bld 10 [(.int .i64 0),(.int .i64 0),(.slice none 0 0)] [(0,1,(.t 6)),(1,1,(.t 8)),(2,1,(.t 9))],none,0⟩,ao 4 0 3 10]
def c122:SC:=(.seq (aa c122r0) (.seq (aa c122r1) .ret))
def v122:List Nat × List Nat:=([2,4],[2,4,5,7])
def o122:List RS:=[.r 4 (some 3)]
def c123r0:List SI:=[bl 6,af 7 0]
def c123r1:List SI:=[ac 13 0,au 14 158 13,ac 12 14,aj 15 12 0,aj 16 12 1,bl 8,ao 8 0 2 15,ac 9 16]
def c123r2:List SI:=[ac 17 9,aM 18 17 0,ac 19 18,aA 19 20 2,a8 19 21 156 20,aS 19 22 21,aw 23 19 22]
def c123r3:List SI:=[bS 24,ao 6 0 2 24,af 7 1]
def c123r4:List SI:=[ac 25 1,av 26 25,af 27 0]
def c123r5:List SI:=[aJ 28 27 26]
def c123r6:List SI:=[aG 29 25 27 10,aH 30 29 10,bh 11,ao 11 0 10 30]
def c123r7:List SI:=[aq 32 8 0 2,aq 33 11 0 10,ac 34 2,a9 35 121 32 33 34,ac 31 35,aj 36 31 0,aj 37 31 1,ao 8 0 2 36,ac 9 37]
def c123r8:List SI:=[ac 38 9,aM 39 38 0]
def c123r9:List SI:=[bS 40,ac 41 9,ao 6 0 2 40,ac 7 41]
def c123r10:List SI:=[aD 42 27 1,ac 27 42]
def c123r11:List SI:=[aq 43 8 0 2,ao 6 0 2 43,af 7 0]
def c123:SC:=(.seq (aa c123r0) (.seq (aa c123r1) (.seq (ab c123r2 23 c123r3) (.seq (.seq (aa c123r4) (.blk 0 (.loop (.seq (aa c123r5) (.seq (.cond (.t 28) .skip (.exit 0)) (.seq (.blk 1 (.seq (aa c123r6) (.seq (aa c123r7) (ab c123r8 39 c123r9)))) (aa c123r10))))))) (.seq (aa c123r11) .ret)))))
def v123:List Nat × List Nat:=([6,8,11],[6,8,11])
def o123:List RS:=[.r 6 (some 2),.t 7]
def c124r0:List SI:=[aB 4]
def c124r1:List SI:=[ac 5 0,bf 6 5 0,ac 7 6,aE 7 8 0,aE 7 9 1,cD 7 10 8 9,aF 11 7 10,ac 4 11]
def c124:SC:=(.seq (aa c124r0) (.seq (aa c124r1) .ret))
def v124:List Nat × List Nat:=([],[])
def o124:List RS:=[.t 4]
def c125r0:List SI:=[aI 2]
def c125r1:List SI:=[ac 3 0,bY 4 3]
def c125r2:List SI:=[aI 2]
def c125r3:List SI:=[bZ 5,ac 6 0,aP 7 5 6 151 2 16,ac 2 7]
def c125:SC:=(.seq (aa c125r0) (.seq (ab c125r1 4 c125r2) (.seq (aa c125r3) .ret)))
def v125:List Nat × List Nat:=([],[])
def o125:List RS:=[.t 2]
def c126r0:List SI:=[aO 4 0,aO 5 1,aO 6 2,aO 7 3,bF 8]
def c126r1:List SI:=[ah 15 4,au 16 108 15,aM 17 16 0,ac 18 17,aT 18 19 6,a8 18 20 108 19,bi 18 21 20 0,aw 22 18 21]
def c126r2:List SI:=[bW 8 1 0]
def c126r3:List SI:=[ah 23 4,au 24 159 23]
def c126r4:List SI:=[di 10,ao 10 0 2 26]
def c126r5:List SI:=[ah 28 6,ai 10,am 30 10 0,ah 31 7,a9 32 160 28 30 31,ac 27 32,aj 33 27 0,aj 34 27 1,ac 11 33,ac 12 34]
def c126r6:List SI:=[ac 35 11,ai 10,am 37 10 0,bu 38 35 37]
def c126r7:List SI:=[ah 40 4,ai 10,am 42 10 0,ah 43 5,a9 44 160 40 42 43,ac 39 44,aj 45 39 0,aj 46 39 1,ac 13 45,ac 14 46]
def c126r8:List SI:=[ac 47 14,ac 48 12,bz 49 47 48,az 8 1 49]
def c126r9:List SI:=[bW 8 1 0]
def c126:SC:=(.seq (aa c126r0) (.seq (ab c126r1 22 c126r2) (.seq (.seq (aa c126r3) (.blk 0 (.rf (.t 24) [25,26] (aa c126r4) (.blk 1 (.seq (aa c126r5) (.seq (aa c126r6) (.cond (.t 38) (.seq (aa c126r7) (.seq (aa c126r8) .ret)) .skip))))))) (.seq (aa c126r9) .ret))))
def v126:List Nat × List Nat:=([10],[10,29,36,41])
def o126:List RS:=[.c 8 none]
def c129r0:List SI:=[aO 2 0,aI 4]
def c129r1:List SI:=[ac 6 1]
def c129r2:List SI:=[bh 5,ao 5 0 10 7]
def c129r3:List SI:=[ah 8 2,aq 9 5 0 10,da 10 43 1 10 0 10 9,aP 11 8 10 43 10 96,az 2 1 11]
def c129r4:List SI:=[ah 12 2,ac 4 12]
def c129:SC:=(.seq (aa c129r0) (.seq (.seq (aa c129r1) (.blk 0 (.rf (.t 6) [7] (aa c129r2) (.blk 1 (aa c129r3))))) (.seq (aa c129r4) .ret)))
def v129:List Nat × List Nat:=([5],[5])
def o129:List RS:=[.t 4]
def c130r0:List SI:=[ak 10 1 2,ah 11 10,av 12 11,af 13 0]
def c130r1:List SI:=[aJ 14 13 12]
def c130r2:List SI:=[aG 15 11 13 2,aH 16 15 2,bl 5,ao 5 0 2 16]
def c130r3:List SI:=[aq 18 5 0 2,au 19 131 18,ac 17 19,aj 20 17 0,aj 21 17 1,ac 6 20,ac 7 21]
def c130r4:List SI:=[ac 22 6,av 23 22,af 24 0]
def c130r5:List SI:=[aJ 25 24 23]
def c130r6:List SI:=[aG 26 22 24 10,aH 27 26 10,bh 9,ao 9 0 10 27]
def c130r7:List SI:=[ai 9,am 29 9 1,ah 30 2,cz 31 29 30,ac 32 31,aE 32 33 0,bd 32 34 9 0 10,⟨some (32,true),.cav 35 (.t 33) [(.t 34)],none,35⟩,cv 32 36 35,aF 37 32 36]
def c130r8:List SI:=[aD 38 24 1,ac 24 38]
def c130r9:List SI:=[aD 39 13 1,ac 13 39]
def c130:SC:=(.seq (aa c130r0) (.blk 0 (.loop (.seq (aa c130r1) (.seq (.cond (.t 14) .skip (.exit 0)) (.seq (.blk 1 (.seq (aa c130r2) (.seq (aa c130r3) (.seq (aa c130r4) (.blk 2 (.loop (.seq (aa c130r5) (.seq (.cond (.t 25) .skip (.exit 2)) (.seq (.blk 3 (.seq (aa c130r6) (.seq (aa c130r7) (.cond (.t 37) .ret .skip)))) (aa c130r8)))))))))) (aa c130r9)))))))
def v130:List Nat × List Nat:=([5,9],[5,9,28])
def o130:List RS:=[]
def c131r0:List SI:=[aO 1 0,⟨none,.al 2 [(.slice none 0 0)],none,0⟩,bF 3]
def c131r1:List SI:=[aH 6 1 2,au 7 151 6]
def c131r2:List SI:=[bh 4,ao 4 0 10 8]
def c131r3:List SI:=[ac 5 9]
def c131r4:List SI:=[ah 10 2,aq 11 4 0 10,da 12 43 1 10 0 10 11,aP 13 10 12 43 10 96,ac 14 5,az 2 1 13,az 3 1 14]
def c131r5:List WI:=[(true,false,ah 15 2),(true,false,ah 16 3),(false,false,az 2 1 15),(false,true,az 3 1 16)]
def c131:SC:=(.seq (aa c131r0) (.seq (.seq (aa c131r1) (.blk 0 (.rf (.t 7) [8,9] (.seq (aa c131r2) (aa c131r3)) (.blk 1 (aa c131r4))))) (.seq (.rgW c131r5) .ret)))
def v131:List Nat × List Nat:=([4],[4])
def o131:List RS:=[.c 2 none,.c 3 none]
def c134r0:List SI:=[af 4 0]
def c134r1:List SI:=[ac 6 0,ah 7 1,ay 8 51 6 7,ac 5 8]
def c134r2:List SI:=[ac 9 5,⟨none,.eqf 10 false [3] (.t 9) (.v (.pointer none)),none,0⟩]
def c134r3:List SI:=[af 4 1]
def c134r4:List SI:=[ah 11 2,ac 12 0,ac 13 5,bJ 14 11 12 13,ac 4 14]
def c134:SC:=(.seq (aa c134r0) (.seq (aa c134r1) (.seq (ab c134r2 10 c134r3) (.seq (aa c134r4) .ret))))
def v134:List Nat × List Nat:=([],[])
def o134:List RS:=[.t 4]
def c135r0:List SI:=[aC 3 0,aC 4 1,bc 6,aB 7]
def c135r1:List SI:=[aq 14 3 0 3,ac 15 2,ay 16 167 14 15,ac 13 16,aj 17 13 0,aj 18 13 1,ao 3 0 3 17,ac 8 18]
def c135r2:List (Bool × SI):=[(true,aq 19 3 0 3),(true,aq 21 4 0 3),(false,au 20 27 19),(false,au 22 27 21),(true,ac 9 20),(true,ac 10 22)]
def c135r3:List SI:=[ac 23 8,aM 24 23 0,ac 25 24,aA 25 26 9,bj 25 27 26,aA 25 28 10,bj 25 29 28,ck 25 30 27 29,aw 31 25 30,ac 32 31,aA 32 33 9,aA 32 34 10,aA 32 35 9,bj 32 36 35,⟨some (32,false),.sl 37 (.t 34) none (some (.t 36)) none 10,none,37⟩,⟨some (32,false),.call 38 168 [(.t 33),(.t 37),(.v (.func (.func 169) #[] #[]))],none,38⟩,aS 32 39 38,aw 40 32 39]
def c135r4:List SI:=[aq 41 3 0 3,ao 6 0 3 41,aB 7]
def c135r5:List SI:=[ac 42 10,ac 43 9,av 44 43,cN 45 42 44 10,av 46 45,af 47 0]
def c135r6:List SI:=[aJ 48 47 46]
def c135r7:List SI:=[aG 49 45 47 10,aH 50 49 10,bh 12,ao 12 0 10 50]
def c135r8:List SI:=[aq 52 3 0 3,aq 53 12 0 10,ay 54 69 52 53,ac 51 54,aj 55 51 0,aj 56 51 1,ao 3 0 3 55,ac 8 56]
def c135r9:List SI:=[ac 57 8,aM 58 57 0]
def c135r10:List SI:=[aq 59 3 0 3,ao 6 0 3 59,aB 7]
def c135r11:List SI:=[aD 60 47 1,ac 47 60]
def c135r12:List SI:=[aq 61 3 0 3,ao 6 0 3 61,cn 7]
def c135:SC:=(.seq (aa c135r0) (.seq (aa c135r1) (.seq (.rgX c135r2) (.seq (ab c135r3 40 c135r4) (.seq (.seq (aa c135r5) (.blk 0 (.loop (.seq (aa c135r6) (.seq (.cond (.t 48) .skip (.exit 0)) (.seq (.blk 1 (.seq (aa c135r7) (.seq (aa c135r8) (ab c135r9 58 c135r10)))) (aa c135r11))))))) (.seq (aa c135r12) .ret))))))
def v135:List Nat × List Nat:=([3,4,6,12],[3,4,6,12])
def o135:List RS:=[.r 6 (some 3),.t 7]
def c136r0:List SI:=[aB 4]
def c136r1:List SI:=[ac 5 0,au 6 170 5,ac 7 6,aE 7 8 1,aV 7 9 170 8,cv 7 10 9,aF 11 7 10,ac 12 11,aA 12 13 0,aA 12 14 1,dk 12 15 13 14,aw 16 12 15,ac 4 16]
def c136:SC:=(.seq (aa c136r0) (.seq (aa c136r1) .ret))
def v136:List Nat × List Nat:=([],[])
def o136:List RS:=[.t 4]
def c137r0:List SI:=[aB 2]
def c137r1:List SI:=[ac 3 0,ac 4 0,cA 5 3 4,ac 2 5]
def c137:SC:=(.seq (aa c137r0) (.seq (aa c137r1) .ret))
def v137:List Nat × List Nat:=([],[])
def o137:List RS:=[.t 2]
def c140r0:List SI:=[aI 4]
def c140r1:List SI:=[ac 8 0,ac 9 1,ay 10 109 8 9,ac 5 10]
def c140r2:List SI:=[ac 11 5,cW 12 11]
def c140r3:List SI:=[ac 13 0,ac 4 13]
def c140r4:List SI:=[ac 14 5,aD 15 14 1,ac 6 15]
def c140r5:List SI:=[ac 16 6,ac 17 0,av 18 17,aJ 19 16 18]
def c140r6:List SI:=[ac 22 0,ac 23 6,aG 24 22 23 1,ah 25 24,ac 7 25]
def c140r7:List SI:=[ac 26 1,ac 27 7,bI 28 26 27,aN 29 28]
def c140r8:List SI:=[ac 30 0,ac 31 5,ac 32 7,aG 33 30 31 1,az 33 1 32]
def c140r9:List SI:=[ac 34 5,aD 35 34 1,ac 5 35]
def c140r10:List SI:=[ac 20 6,aD 21 20 1,ac 6 21]
def c140r11:List SI:=[ac 36 0,ac 37 5,cN 38 36 37 1,⟨none,.clr 99999 (.t 38) ([(.int .i64 0)]).toArray,none,0⟩]
def c140r12:List SI:=[ac 39 0,ac 40 5,bq 41 39 40 1,ac 4 41]
def c140:SC:=(.seq (aa c140r0) (.seq (aa c140r1) (.seq (ab c140r2 12 c140r3) (.seq (.seq (aa c140r4) (.blk 0 (.loop (.seq (.seq (aa c140r5) (.cond (.t 19) .skip (.exit 0))) (.seq (.blk 1 (.seq (aa c140r6) (.seq (aa c140r7) (.cond (.t 29) (.seq (aa c140r8) (aa c140r9)) .skip)))) (aa c140r10)))))) (.seq (aa c140r11) (.seq (aa c140r12) .ret))))))
def v140:List Nat × List Nat:=([],[])
def o140:List RS:=[.t 4]
def c141r0:List SI:=[aB 3]
def c141r1:List SI:=[ac 4 0,ah 5 1,bu 6 4 5,ac 3 6]
def c141:SC:=(.seq (aa c141r0) (.seq (aa c141r1) .ret))
def v141:List Nat × List Nat:=([],[])
def o141:List RS:=[.t 3]
def c142r0:List SI:=[aB 2]
def c142r1:List SI:=[ac 3 0,bf 4 3 0,ac 5 4,aE 5 6 0,bt 5 7 6 1099511627776,aF 8 5 7,ac 2 8]
def c142:SC:=(.seq (aa c142r0) (.seq (aa c142r1) .ret))
def v142:List Nat × List Nat:=([],[])
def o142:List RS:=[.t 2]
def c143r0:List SI:=[aC 1 0,bl 2,af 3 0]
def c143r1:List SI:=[aq 7 1 0 2,au 8 131 7,ac 6 8,aj 9 6 0,aj 10 6 1,ac 4 9,ac 5 10]
def c143r2:List WI:=[(true,false,aq 11 1 0 2),(true,false,ac 12 5),(true,false,ai 1),(true,false,am 15 1 1),(true,false,av 16 15),(true,false,ac 17 5),(true,false,bg 18 16 17),(false,false,ay 13 172 11 12),(false,false,ao 2 0 2 13),(true,false,ac 3 18)]
def c143:SC:=(.seq (aa c143r0) (.seq (aa c143r1) (.seq (.rgW c143r2) .ret)))
def v143:List Nat × List Nat:=([1,2],[1,2,14])
def o143:List RS:=[.r 2 (some 2),.t 3]
def c144r0:List SI:=[af 4 0]
def c144r1:List SI:=[ac 8 0,af 5 0,ac 6 8]
def c144r2:List SI:=[ac 9 5,ac 10 6,aJ 11 9 10]
def c144r3:List SI:=[ac 12 5,ac 13 6,ba 14 12 13,bm 15 14,bA 16 15 1,bQ 17 16,ac 7 17]
def c144r4:List SI:=[ac 18 1,ac 19 7,bI 20 18 19,aN 21 20]
def c144r5:List SI:=[ac 22 7,aD 23 22 1,ac 5 23]
def c144r6:List SI:=[ac 24 7,ac 6 24]
def c144r7:List SI:=[ac 25 5,ac 4 25]
def c144:SC:=(.seq (aa c144r0) (.seq (aa c144r1) (.seq (.blk 0 (.loop (.seq (.seq (aa c144r2) (.cond (.t 11) .skip (.exit 0))) (.blk 1 (.seq (aa c144r3) (.seq (aa c144r4) (.cond (.t 21) (aa c144r5) (aa c144r6)))))))) (.seq (aa c144r7) .ret))))
def v144:List Nat × List Nat:=([],[])
def o144:List RS:=[.t 4]
def c145r0:List SI:=[aB 4]
def c145r1:List SI:=[ah 5 1,ac 6 0,aG 7 5 6 2,ak 8 7 1,ah 9 8,ah 10 2,cz 11 9 10,ac 4 11]
def c145:SC:=(.seq (aa c145r0) (.seq (.reg true c145r1) .ret))
def v145:List Nat × List Nat:=([],[])
def o145:List RS:=[.t 4]
def c151r0:List SI:=[aO 1 0,cr 2]
def c151r1:List SI:=[bG 3 177 1,ac 2 3]
def c151:SC:=(.seq (aa c151r0) (.seq (aa c151r1) .ret))
def v151:List Nat × List Nat:=([],[])
def o151:List RS:=[.t 2]
def c152r0:List SI:=[af 2 0]
def c152r1:List SI:=[ac 5 0,av 6 5,aR 7 6 1]
def c152r2:List SI:=[ac 9 0,cI 10 9 0 1,ah 11 10,ac 3 11]
def c152r3:List SI:=[af 4 1]
def c152r4:List SI:=[ac 12 4,ac 13 0,av 14 13,aJ 15 12 14]
def c152r5:List SI:=[ac 18 3,ac 19 0,ac 20 4,aG 21 19 20 1,ah 22 21,bz 23 18 22,ac 3 23]
def c152r6:List SI:=[ac 16 4,aD 17 16 1,ac 4 17]
def c152r7:List SI:=[ac 24 3,ac 2 24]
def c152:SC:=(.seq (aa c152r0) (.seq (.seq (aa c152r1) (.cond (.t 7) .dead .skip)) (.seq (aa c152r2) (.seq (.seq (aa c152r3) (.blk 0 (.loop (.seq (.seq (aa c152r4) (.cond (.t 15) .skip (.exit 0))) (.seq (.blk 1 (aa c152r5)) (aa c152r6)))))) (.seq (aa c152r7) .ret)))))
def v152:List Nat × List Nat:=([],[])
def o152:List RS:=[.t 2]
theorem s152 : gM Tryz.prog Tryz.f152.ntmps v152.1 v152.2 ((Tryz.f152.body).getD .skip) = some c152 := by kernel_rfl
theorem q152 : fu Tryz.prog Tryz.f152.ntmps v152.1 v152.2 Tryz.f152.results.toList = some o152 := by kernel_rfl
def c153r0:List SI:=[af 2 0]
def c153r1:List SI:=[ac 5 0,av 6 5,aR 7 6 1]
def c153r2:List SI:=[ac 9 0,cI 10 9 0 1,ah 11 10,ac 3 11]
def c153r3:List SI:=[af 4 1]
def c153r4:List SI:=[ac 12 4,ac 13 0,av 14 13,aJ 15 12 14]
def c153r5:List SI:=[ac 18 3,ac 19 0,ac 20 4,aG 21 19 20 1,ah 22 21,bX 23 18 22,ac 3 23]
def c153r6:List SI:=[ac 16 4,aD 17 16 1,ac 4 17]
def c153r7:List SI:=[ac 24 3,ac 2 24]
def c153:SC:=(.seq (aa c153r0) (.seq (.seq (aa c153r1) (.cond (.t 7) .dead .skip)) (.seq (aa c153r2) (.seq (.seq (aa c153r3) (.blk 0 (.loop (.seq (.seq (aa c153r4) (.cond (.t 15) .skip (.exit 0))) (.seq (.blk 1 (aa c153r5)) (aa c153r6)))))) (.seq (aa c153r7) .ret)))))
def v153:List Nat × List Nat:=([],[])
def o153:List RS:=[.t 2]
theorem s153 : gM Tryz.prog Tryz.f153.ntmps v153.1 v153.2 ((Tryz.f153.body).getD .skip) = some c153 := by kernel_rfl
theorem q153 : fu Tryz.prog Tryz.f153.ntmps v153.1 v153.2 Tryz.f153.results.toList = some o153 := by kernel_rfl
def c154r0:List SI:=[aC 1 0,aI 2,af 3 0]
def c154r1:List SI:=[aq 5 1 0 10,au 6 179 5,aN 7 6]
def c154r2:List SI:=[aI 2,af 3 1]
def c154r3:List SI:=[aq 8 1 0 10,au 9 180 8,ac 4 9]
def c154r4:List SI:=[ac 10 4,av 11 10,bo 12 11 2048]
def c154r5:List SI:=[aI 2,af 3 2]
def c154r6:List SI:=[ac 13 4,ac 2 13,af 3 0]
def c154:SC:=(.seq (aa c154r0) (.seq (ab c154r1 7 c154r2) (.seq (aa c154r3) (.seq (ab c154r4 12 c154r5) (.seq (aa c154r6) .ret)))))
def v154:List Nat × List Nat:=([1],[1])
def o154:List RS:=[.t 2,.t 3]
def c155r0:List SI:=[aB 2]
def c155r1:List SI:=[ac 3 0,bf 4 3 0,ac 5 4,aE 5 6 0,bt 5 7 6 1099511627776,aF 8 5 7,ac 2 8]
def c155:SC:=(.seq (aa c155r0) (.seq (aa c155r1) .ret))
def v155:List Nat × List Nat:=([],[])
def o155:List RS:=[.t 2]
def c156r0:List SI:=[aB 2]
def c156r1:List SI:=[ac 3 0,bf 4 3 1,ac 5 4,aE 5 6 0,bt 5 7 6 4096,aF 8 5 7,ac 2 8]
def c156:SC:=(.seq (aa c156r0) (.seq (aa c156r1) .ret))
def v156:List Nat × List Nat:=([],[])
def o156:List RS:=[.t 2]
def c157r0:List SI:=[aI 2]
def c157r1:List SI:=[af 3 0]
def c157r2:List SI:=[ac 9 0,av 10 9,af 11 0]
def c157r3:List SI:=[aJ 12 11 10]
def c157r4:List SI:=[aG 13 9 11 1,ah 14 13,ac 5 14]
def c157r5:List SI:=[ac 15 3,ac 16 5,av 17 16,ba 18 15 17,ac 3 18]
def c157r6:List SI:=[ac 19 3,aR 20 19 0]
def c157r7:List SI:=[aD 22 11 1,ac 11 22]
def c157r8:List SI:=[ac 23 3,cL 24 181 23,ac 6 24]
def c157r9:List SI:=[ac 25 0,av 26 25,af 27 0]
def c157r10:List SI:=[aJ 28 27 26]
def c157r11:List SI:=[aG 29 25 27 1,ah 30 29,ac 8 30]
def c157r12:List SI:=[ac 31 6,ac 32 8,aP 33 31 32 5 1 1,ac 6 33]
def c157r13:List SI:=[aD 34 27 1,ac 27 34]
def c157r14:List SI:=[ac 35 6,ac 2 35]
def c157:SC:=(.seq (aa c157r0) (.seq (aa c157r1) (.seq (.seq (aa c157r2) (.blk 0 (.loop (.seq (aa c157r3) (.seq (.cond (.t 12) .skip (.exit 0)) (.seq (.blk 1 (.seq (aa c157r4) (.seq (aa c157r5) (.seq (aa c157r6) (.cond (.t 20) .dead .skip))))) (aa c157r7))))))) (.seq (aa c157r8) (.seq (.seq (aa c157r9) (.blk 2 (.loop (.seq (aa c157r10) (.seq (.cond (.t 28) .skip (.exit 2)) (.seq (.blk 3 (.seq (aa c157r11) (aa c157r12))) (aa c157r13))))))) (.seq (aa c157r14) .ret))))))
def v157:List Nat × List Nat:=([],[])
def o157:List RS:=[.t 2]
def c158r0:List SI:=[bl 2,af 3 0]
def c158r1:List SI:=[ac 4 0,au 5 155 4,aN 6 5]
def c158r2:List SI:=[bS 7,ao 2 0 2 7,af 3 1]
def c158r3:List SI:=[ac 8 0,cX 9 0 1 8,ao 2 0 2 9,af 3 0]
def c158:SC:=(.seq (aa c158r0) (.seq (ab c158r1 6 c158r2) (.seq (aa c158r3) .ret)))
def v158:List Nat × List Nat:=([2],[2])
def o158:List RS:=[.r 2 (some 2),.t 3]
def c159r0:List SI:=[aO 1 0,cr 2]
def c159r1:List SI:=[bG 3 182 1,ac 2 3]
def c159:SC:=(.seq (aa c159r0) (.seq (aa c159r1) .ret))
def v159:List Nat × List Nat:=([],[])
def o159:List RS:=[.t 2]
def c160r0:List SI:=[af 6 0,af 7 0]
def c160r1:List SI:=[af 8 0]
def c160r2:List SI:=[ac 9 0,au 10 108 9,aQ 11 10 0]
def c160r3:List SI:=[ac 12 0,ac 13 1,ay 14 183 12 13,ac 8 14]
def c160r4:List SI:=[ac 15 8,aQ 16 15 0]
def c160r5:List SI:=[cp 6,af 7 0]
def c160r6:List SI:=[ac 17 8,ac 18 0,av 19 18,aJ 20 17 19]
def c160r7:List SI:=[ac 21 0,ac 22 8,aG 23 21 22 2,ak 24 23 1,ah 25 24,ac 2 25]
def c160r8:List SI:=[ac 26 0,ac 27 8,bw 28 27 1,aG 29 26 28 2,ak 30 29 0,ah 31 30,ac 32 2,ac 6 31,ac 7 32]
def c160:SC:=(.seq (aa c160r0) (.seq (aa c160r1) (.seq (.seq (aa c160r2) (.cond (.t 11) (aa c160r3) .skip)) (.seq (ab c160r4 16 c160r5) (.seq (.seq (aa c160r6) (.cond (.t 20) (aa c160r7) .skip)) (.seq (aa c160r8) .ret))))))
def v160:List Nat × List Nat:=([],[])
def o160:List RS:=[.t 6,.t 7]
def c161r0:List SI:=[aC 1 0,af 2 0]
def c161r1:List SI:=[ai 1,am 4 1 0,au 5 184 4,aN 6 5,ac 7 6,aK 7 1,aL 7 9 1 4,a8 7 10 184 9,aS 7 11 10,aw 12 7 11,ac 13 12,aK 13 1,aL 13 15 1 1,⟨some (13,false),.len 16 true (.t 15),none,16⟩,aY 13 17 16 64,aw 18 13 17,ac 19 18,aK 19 1,aL 19 21 1 2,⟨some (19,false),.len 22 true (.t 21),none,22⟩,aY 19 23 22 64,aw 24 19 23,ac 25 24,aK 25 1,aL 25 27 1 3,aA 25 28 27,aW 28 1,aX 28 30 1 1,⟨some (28,true),.bin 31 .eql (.t 30) (.v (.string ⟨#[]⟩)),none,31⟩,aE 28 32 31,aK 32 1,aL 32 34 1 2,⟨some (32,false),.bin 35 .neq (.t 34) (.v (.string ⟨#[]⟩)),none,35⟩,bR 28 36 32 35,bO 25 37 28 36,aw 38 25 37]
def c161r2:List SI:=[af 2 1]
def c161r3:List SI:=[af 2 0]
def c161:SC:=(.seq (aa c161r0) (.seq (ab c161r1 38 c161r2) (.seq (aa c161r3) .ret)))
def v161:List Nat × List Nat:=([1],[1,3,8,14,20,26,29,33])
def o161:List RS:=[.t 2]
theorem s161 : gM Tryz.prog Tryz.f161.ntmps v161.1 v161.2 ((Tryz.f161.body).getD .skip) = some c161 := by kernel_rfl
theorem q161 : fu Tryz.prog Tryz.f161.ntmps v161.1 v161.2 Tryz.f161.results.toList = some o161 := by kernel_rfl
def c162r0:List SI:=[aI 4]
def c162r1:List SI:=[ac 7 1,bm 8 7,⟨none,.bin 9 .mul (.v (.int .u64 2)) (.t 8),none,0⟩,ac 5 9]
def c162r2:List SI:=[ac 10 1,aR 11 10 0]
def c162r3:List SI:=[ac 12 1,aD 13 12 1,⟨none,.un 14 .neg (.t 13),none,0⟩,bm 15 14,⟨none,.bin 16 .mul (.v (.int .u64 2)) (.t 15),none,0⟩,⟨none,.bin 17 .add (.t 16) (.v (.int .u64 1)),none,0⟩,ac 5 17]
def c162r4:List SI:=[ac 18 0,au 19 176 18,ac 6 19]
def c162r5:List SI:=[ac 20 5,⟨none,.bin 21 .geq (.t 20) (.v (.int .u64 128)),none,0⟩]
def c162r6:List SI:=[ac 22 6,ac 23 5,⟨none,.bin 24 .rem (.t 23) (.v (.int .u64 128)),none,0⟩,⟨none,.bin 25 .add (.v (.int .u64 128)) (.t 24),none,0⟩,cf 26 25,bT 27 5 1 1 0 1 26,aP 28 22 27 5 1 1,ac 6 28]
def c162r7:List SI:=[ac 29 5,⟨none,.bin 30 .quo (.t 29) (.v (.int .u64 128)),none,0⟩,ac 5 30]
def c162r8:List SI:=[ac 31 6,ac 32 5,cf 33 32,bT 34 5 1 1 0 1 33,aP 35 31 34 5 1 1,ac 4 35]
def c162:SC:=(.seq (aa c162r0) (.seq (aa c162r1) (.seq (.seq (aa c162r2) (.cond (.t 11) (aa c162r3) .skip)) (.seq (aa c162r4) (.seq (.blk 0 (.loop (.seq (.seq (aa c162r5) (.cond (.t 21) .skip (.exit 0))) (.blk 1 (.seq (aa c162r6) (aa c162r7)))))) (.seq (aa c162r8) .ret))))))
def v162:List Nat × List Nat:=([],[])
def o162:List RS:=[.t 4]
theorem s162 : gM Tryz.prog Tryz.f162.ntmps v162.1 v162.2 ((Tryz.f162.body).getD .skip) = some c162 := by kernel_rfl
theorem q162 : fu Tryz.prog Tryz.f162.ntmps v162.1 v162.2 Tryz.f162.results.toList = some o162 := by kernel_rfl
def c163r0:List SI:=[aC 3 0,aI 6,af 7 0]
def c163r1:List SI:=[aq 10 3 0 5,au 11 161 10,ac 8 11]
def c163r2:List SI:=[ac 12 8,aM 13 12 0]
def c163r3:List SI:=[ac 14 8,aI 6,ac 7 14]
def c163r4:List SI:=[ac 15 1,au 16 184 15,aN 17 16,ac 18 17,aA 18 19 2,a8 18 20 184 19,aS 18 21 20,aw 22 18 21]
def c163r5:List SI:=[aI 6,af 7 1]
def c163r6:List SI:=[ai 3,am 24 3 0,ac 25 1,bg 26 24 25,cL 27 162 26,ac 9 27]
def c163r7:List SI:=[ac 28 9,ai 3,am 30 3 4,ac 31 2,bg 32 30 31,ay 33 162 28 32,ac 9 33]
def c163r8:List SI:=[ai 3,am 35 3 3]
def c163r9:List SI:=[ac 36 9,⟨none,.bls 37 5 1 1 [(.int .u8 0)] [(0,1,(.v (.int .u8 1)))],none,0⟩,aP 38 36 37 5 1 1,ac 9 38]
def c163r10:List SI:=[ac 39 9,⟨none,.bls 40 5 1 1 [(.int .u8 0)] [(0,1,(.v (.int .u8 0)))],none,0⟩,aP 41 39 40 5 1 1,ac 9 41]
def c163r11:List SI:=[ac 42 9,ai 3,am 44 3 1,ay 45 185 42 44,ac 9 45]
def c163r12:List SI:=[ac 46 9,ai 3,am 48 3 2,ay 49 185 46 48,ac 6 49,af 7 0]
def c163:SC:=(.seq (aa c163r0) (.seq (aa c163r1) (.seq (ab c163r2 13 c163r3) (.seq (ab c163r4 22 c163r5) (.seq (aa c163r6) (.seq (aa c163r7) (.seq (.seq (aa c163r8) (.cond (.t 35) (aa c163r9) (aa c163r10))) (.seq (aa c163r11) (.seq (aa c163r12) .ret)))))))))
def v163:List Nat × List Nat:=([3],[3,23,29,34,43,47])
def o163:List RS:=[.t 6,.t 7]
theorem s163 : gM Tryz.prog Tryz.f163.ntmps v163.1 v163.2 ((Tryz.f163.body).getD .skip) = some c163 := by kernel_rfl
theorem q163 : fu Tryz.prog Tryz.f163.ntmps v163.1 v163.2 Tryz.f163.results.toList = some o163 := by kernel_rfl
def c167r0:List SI:=[aO 2 0,aO 3 1,bc 4,af 5 0]
def c167r1:List SI:=[aH 6 2 3,ah 7 3,bM 8 189 2 3,a9 9 188 6 7 8,aj 10 9 0,aj 11 9 1,ao 4 0 3 10,ac 5 11]
def c167:SC:=(.seq (aa c167r0) (.seq (aa c167r1) .ret))
def v167:List Nat × List Nat:=([4],[4])
def o167:List RS:=[.r 4 (some 3),.t 5]
def c168r0:List SI:=[aB 6]
def c168r1:List SI:=[ac 10 0,av 11 10,ac 12 1,av 13 12,cA 14 11 13]
def c168r2:List SI:=[aB 6]
def c168r3:List SI:=[ac 15 0,av 16 15,af 17 0]
def c168r4:List SI:=[aJ 18 17 16]
def c168r5:List SI:=[ac 19 17,aG 20 15 17 10,aH 21 20 10,bh 8,ac 7 19,ao 8 0 10 21]
def c168r6:List SI:=[ac 22 1,ac 23 7,aG 24 22 23 10,aH 25 24 10,bh 9,ao 9 0 10 25]
def c168r7:List SI:=[ac 26 2,aq 27 8 0 10,aq 28 9 0 10,bJ 29 26 27 28,aN 30 29]
def c168r8:List SI:=[aB 6]
def c168r9:List SI:=[aD 31 17 1,ac 17 31]
def c168r10:List SI:=[cn 6]
def c168:SC:=(.seq (aa c168r0) (.seq (ab c168r1 14 c168r2) (.seq (.seq (aa c168r3) (.blk 0 (.loop (.seq (aa c168r4) (.seq (.cond (.t 18) .skip (.exit 0)) (.seq (.blk 1 (.seq (aa c168r5) (.seq (aa c168r6) (ab c168r7 30 c168r8)))) (aa c168r9))))))) (.seq (aa c168r10) .ret))))
def v168:List Nat × List Nat:=([8,9],[8,9])
def o168:List RS:=[.t 6]
def c169r0:List SI:=[aC 2 0,aC 3 1,aB 4]
def c169r1:List SI:=[ai 2,am 7 2 9,ai 3,am 9 3 9,ay 10 191 7 9,aN 11 10]
def c169r2:List SI:=[aB 4]
def c169r3:List SI:=[⟨none,.mv 5 (.v (.func (.func 192) #[] #[])),none,0⟩]
def c169r4:List (Bool × SI):=[(true,ac 12 5),(true,aq 13 2 0 10),(true,ac 15 5),(true,aq 16 3 0 10),(false,bI 14 12 13),(false,bI 17 15 16),(true,⟨none,.eqf 18 false [0,0,0,0,0,0,0,0,0] (.t 14) (.t 17),none,0⟩),(true,ac 4 18)]
def c169:SC:=(.seq (aa c169r0) (.seq (ab c169r1 11 c169r2) (.seq (aa c169r3) (.seq (.rgX c169r4) .ret))))
def v169:List Nat × List Nat:=([2,3],[2,3,6,8])
def o169:List RS:=[.t 4]
def c170r0:List SI:=[aB 2]
def c170r1:List SI:=[ac 3 0,ac 4 0,cA 5 3 4,ac 2 5]
def c170:SC:=(.seq (aa c170r0) (.seq (aa c170r1) .ret))
def v170:List Nat × List Nat:=([],[])
def o170:List RS:=[.t 2]
def c172r0:List SI:=[aC 2 0,bl 4]
def c172r1:List (Bool × SI):=[(true,ai 2),(true,am 6 2 0),(true,ai 2),(true,am 8 2 1),(true,ac 9 1),(true,bq 10 8 9 1),(false,au 11 194 10),(true,⟨none,.bld 12 [(.int .i64 0),(.slice none 0 0)] [(0,1,(.t 6)),(1,1,(.t 11))],none,0⟩)]
def c172r2:List SI:=[ao 4 0 2 12]
def c172:SC:=(.seq (aa c172r0) (.seq (.rgY c172r1 c172r2) .ret))
def v172:List Nat × List Nat:=([2,4],[2,4,5,7])
def o172:List RS:=[.r 4 (some 2)]
def c176r0:List SI:=[aI 2]
def c176r1:List SI:=[ac 3 0,dl 4 3 5 1 1,ac 2 4]
def c176:SC:=(.seq (aa c176r0) (.seq (aa c176r1) .ret))
def v176:List Nat × List Nat:=([],[])
def o176:List RS:=[.t 2]
theorem s176 : gM Tryz.prog Tryz.f176.ntmps v176.1 v176.2 ((Tryz.f176.body).getD .skip) = some c176 := by kernel_rfl
theorem q176 : fu Tryz.prog Tryz.f176.ntmps v176.1 v176.2 Tryz.f176.results.toList = some o176 := by kernel_rfl
def c177r0:List SI:=[ak 8 1 0,ah 9 8,af 3 0,ac 4 9]
def c177r1:List SI:=[ak 11 1 1,ah 12 11,ac 13 3,ay 14 178 12 13,ac 10 14,aj 15 10 0,aj 16 10 1,aj 17 10 2,bh 5,ao 5 0 10 15,ac 6 16,ac 7 17]
def c177r2:List SI:=[ac 18 7,aM 19 18 0,ac 20 19,aK 20 5,aL 20 22 5 0,aA 20 23 4,dk 20 24 22 23,aw 25 20 24,ac 26 25,aA 26 27 0,cK 26 28 5 0 10,aA 26 29 6,⟨some (26,false),.cav 30 (.t 27) [(.t 28),(.t 29)],none,30⟩,aS 26 31 30,aw 32 26 31]
def c177r3:List SI:=[ac 33 6,ai 5,am 35 5 1,aD 36 35 1,ac 3 33,ac 4 36]
def c177:SC:=(.seq (.reg true c177r0) (.blk 0 (.loop (.blk 1 (.seq (aa c177r1) (.seq (.seq (aa c177r2) (.cond (.t 32) .ret .skip)) (.reg true c177r3)))))))
def v177:List Nat × List Nat:=([5],[5,21,34])
def o177:List RS:=[]
def c178r0:List SI:=[bh 4,af 5 0,af 6 0]
def c178r1:List SI:=[ac 12 0,ac 13 1,cO 14 196 12 13 4,ac 11 14,aj 15 11 0,aj 16 11 1,ac 7 15,ac 6 16]
def c178r2:List SI:=[ac 17 6,aM 18 17 0]
def c178r3:List SI:=[bp 19,ac 20 6,ao 4 0 10 19,af 5 0,ac 6 20]
def c178r4:List SI:=[ac 21 7,⟨none,.bin 22 .lss (.t 21) (.v (.int .u64 5)),none,0⟩,ac 23 22,aA 23 24 7,⟨some (23,false),.bin 25 .gtr (.t 24) (.v (.int .u64 2044)),none,25⟩,aw 26 23 25]
def c178r5:List SI:=[bp 27,ao 4 0 10 27,af 5 0,af 6 11]
def c178r6:List SI:=[ac 28 0,ac 29 1,aD 30 29 4,cN 31 28 30 1,ac 8 31]
def c178r7:List SI:=[ac 32 8,av 33 32,bm 34 33,ac 35 7,aJ 36 34 35]
def c178r8:List SI:=[bp 37,ao 4 0 10 37,af 5 0,af 6 10]
def c178r9:List SI:=[ac 39 8,ac 40 7,bq 41 39 40 1,au 42 197 41,ac 38 42,aj 43 38 0,aj 44 38 1,ac 9 43,ac 6 44]
def c178r10:List SI:=[ac 45 6,aM 46 45 0]
def c178r11:List SI:=[bp 47,ac 48 6,ao 4 0 10 47,af 5 0,ac 6 48]
def c178r12:List SI:=[ac 50 9,au 51 198 50,ac 49 51,aj 52 49 0,aj 53 49 1,ao 4 0 10 52,ac 10 53]
def c178r13:List SI:=[ac 54 10,aN 55 54,ac 56 55,cK 56 57 4 0 10,a8 56 58 118 57,bi 56 59 58 0,aw 60 56 59]
def c178r14:List SI:=[bp 61,ao 4 0 10 61,af 5 0,af 6 11]
def c178r15:List SI:=[aq 62 4 0 10,ac 63 1,aD 64 63 4,ac 65 7,bQ 66 65,ba 67 64 66,ao 4 0 10 62,ac 5 67,af 6 0]
def c178:SC:=(.seq (aa c178r0) (.seq (aa c178r1) (.seq (ab c178r2 18 c178r3) (.seq (ab c178r4 26 c178r5) (.seq (aa c178r6) (.seq (ab c178r7 36 c178r8) (.seq (aa c178r9) (.seq (ab c178r10 46 c178r11) (.seq (aa c178r12) (.seq (ab c178r13 60 c178r14) (.seq (aa c178r15) .ret)))))))))))
def v178:List Nat × List Nat:=([4],[4])
def o178:List RS:=[.r 4 (some 10),.t 5,.t 6]
def c179r0:List SI:=[aC 1 0,aB 2]
def c179r1:List SI:=[ai 1,am 8 1 0,ai 1,am 10 1 1,ai 1,am 12 1 2,⟨none,.bls 13 3 3 1 [(.int .i64 0),(.int .i64 0),(.int .i64 0)] [(0,1,(.t 8)),(1,1,(.t 10)),(2,1,(.t 12))],none,0⟩,⟨none,.call 14 117 [(.i 1099511627776),(.t 13)],none,0⟩,aN 15 14,ac 16 15,aK 16 1,aL 16 18 1 3,aK 16 1,aL 16 20 1 5,aK 16 1,aL 16 22 1 6,⟨some (16,false),.bls 23 3 3 1 [(.int .i64 0),(.int .i64 0),(.int .i64 0)] [(0,1,(.t 18)),(1,1,(.t 20)),(2,1,(.t 22))],none,23⟩,⟨some (16,false),.call 24 117 [(.i 1048576),(.t 23)],none,24⟩,aS 16 25 24,aw 26 16 25]
def c179r2:List SI:=[aB 2]
def c179r3:List SI:=[ai 1,am 28 1 1,ai 1,am 30 1 0,bg 31 28 30,ac 3 31]
def c179r4:List SI:=[ac 33 3,aR 34 33 0,ac 35 34,aA 35 36 3,⟨some (35,false),.bin 37 .geq (.t 36) (.i 16),none,37⟩,aw 38 35 37,ac 39 38,aK 39 1,aL 39 41 1 2,aA 39 42 3,⟨some (39,false),.bin 43 .add (.t 41) (.t 42),none,43⟩,aY 39 44 43 1099511627776,aw 45 39 44,ac 46 45,aK 46 1,aL 46 48 1 6,aA 46 49 3,⟨some (46,false),.bin 50 .add (.t 48) (.t 49),none,50⟩,aY 46 51 50 1048576,aw 52 46 51,ac 32 52]
def c179r5:List SI:=[aB 2]
def c179r6:List SI:=[ai 1,am 55 1 4,⟨none,.bin 56 .lss (.t 55) (.i (-1)),none,0⟩,ac 57 56,aK 57 1,aL 57 59 1 4,aY 57 60 59 1099511627776,aw 61 57 60,ac 53 61]
def c179r7:List SI:=[aB 2]
def c179r8:List SI:=[ai 1,am 64 1 4,cW 65 64,ac 66 65,aW 66 1,aX 66 68 1 5,aW 66 1,aX 66 70 1 6,⟨some (66,true),.bin 71 .add (.t 68) (.t 70),none,71⟩,⟨some (66,true),.bin 72 .neq (.t 71) (.i 0),none,72⟩,aE 66 73 72,aK 73 1,aL 73 75 1 7,bR 66 76 73 75,aE 66 77 76,aK 77 1,aL 77 79 1 8,bi 77 80 79 0,bR 66 81 77 80,aF 82 66 81,ac 62 82]
def c179r9:List SI:=[aB 2]
def c179r10:List SI:=[ai 1,am 84 1 8]
def c179r11:List SI:=[aQ 86 84 0,ac 85 86]
def c179r12:List SI:=[ai 1,am 88 1 0,ac 4 88]
def c179r13:List SI:=[ai 1,am 90 1 9,av 91 90,af 92 0]
def c179r14:List SI:=[aJ 93 92 91]
def c179r15:List SI:=[aG 94 90 92 5,aH 95 94 5,cw 6,ao 6 0 5 95]
def c179r16:List SI:=[aq 96 6 0 5,au 97 199 96,aM 98 97 0,ac 99 98,aK 99 6,aL 99 101 6 0,aA 99 102 4,dk 99 103 101 102,aw 104 99 103,ac 105 104,aK 105 6,aL 105 107 6 0,aK 105 1,aL 105 109 1 1,ck 105 110 107 109,aw 111 105 110]
def c179r17:List SI:=[aB 2]
def c179r18:List SI:=[ai 6,am 113 6 0,aD 114 113 1,ac 4 114]
def c179r19:List SI:=[aD 115 92 1,ac 92 115]
def c179r20:List SI:=[cn 2]
def c179r21:List SI:=[aQ 117 84 1,ac 116 117]
def c179r22:List SI:=[aQ 118 84 2,ac 116 118]
def c179r23:List SI:=[ac 119 3,aQ 120 119 0,ac 121 120,aW 121 1,aX 121 123 1 9,cG 121 124 123,aZ 121 125 124 0,aF 126 121 125,ac 127 126,aW 127 1,aX 127 129 1 7,aF 130 127 129,ac 2 130]
def c179r24:List SI:=[aB 2]
def c179:SC:=(.seq (aa c179r0) (.seq (ab c179r1 26 c179r2) (.seq (aa c179r3) (.seq (.blk 0 (.seq (aa c179r4) (.cond (.t 32) (.seq (aa c179r5) .ret) (.seq (aa c179r6) (.cond (.t 53) (.seq (aa c179r7) .ret) (ab c179r8 62 c179r9)))))) (.seq (.seq (aa c179r10) (.blk 1 (.seq (aa c179r11) (.cond (.t 85) (.seq (aa c179r12) (.seq (.seq (aa c179r13) (.blk 2 (.loop (.seq (aa c179r14) (.seq (.cond (.t 93) .skip (.exit 2)) (.seq (.blk 3 (.seq (aa c179r15) (.seq (ab c179r16 111 c179r17) (aa c179r18)))) (aa c179r19))))))) (.seq (aa c179r20) .ret))) (.seq (.seq (aa c179r21) (.cond (.t 116) .skip (aa c179r22))) (.cond (.t 116) (.seq (aa c179r23) .ret) .skip)))))) (.seq (aa c179r24) .ret))))))
def v179:List Nat × List Nat:=([1,6],[1,6,7,9,11,17,19,21,27,29,40,47,54,58,63,67,69,74,78,83,87,89,100,106,108,112,122,128])
def o179:List RS:=[.t 2]
theorem s179 : gM Tryz.prog Tryz.f179.ntmps v179.1 v179.2 ((Tryz.f179.body).getD .skip) = some c179 := by kernel_rfl
theorem q179 : fu Tryz.prog Tryz.f179.ntmps v179.1 v179.2 Tryz.f179.results.toList = some o179 := by kernel_rfl
def c180r0:List SI:=[aC 1 0,aI 2]
def c180r1:List SI:=[aI 3]
def c180r2:List SI:=[ai 1,am 13 1 0,ai 1,am 15 1 1,ai 1,am 17 1 0,bg 18 15 17,ai 1,am 20 1 2,ai 1,am 22 1 3,ai 1,am 24 1 4,ai 1,am 26 1 5,ai 1,am 28 1 6,⟨none,.bld 29 [(.int .i64 0),(.int .i64 0),(.int .i64 0),(.int .i64 0),(.int .i64 0),(.int .i64 0),(.int .i64 0)] [(0,1,(.t 13)),(1,1,(.t 18)),(2,1,(.t 20)),(3,1,(.t 22)),(4,1,(.t 24)),(5,1,(.t 26)),(6,1,(.t 28))],none,0⟩,af 30 0]
def c180r3:List SI:=[aR 31 30 7]
def c180r4:List SI:=[⟨none,.ixV 32 (.t 29) (.t 30) 7 1 none,none,0⟩,ac 5 32]
def c180r5:List SI:=[ac 33 3,ac 34 5,ay 35 200 33 34,ac 3 35]
def c180r6:List SI:=[aD 36 30 1,ac 30 36]
def c180r7:List SI:=[ai 1,am 38 1 8,cf 39 38,ac 6 39]
def c180r8:List SI:=[ai 1,am 41 1 7]
def c180r9:List SI:=[ac 42 6,⟨none,.bin 43 .or (.t 42) (.v (.int .u8 4)),none,0⟩,ac 6 43]
def c180r10:List (Bool × SI):=[(true,ac 44 3),(true,ac 45 6),(true,ai 1),(true,am 49 1 9),(true,av 50 49),(false,bT 46 5 1 1 0 1 45),(false,aP 47 44 46 5 1 1),(false,ay 51 200 47 50),(true,ac 3 51)]
def c180r11:List SI:=[ai 1,am 53 1 9,av 54 53,bo 55 54 0]
def c180r12:List SI:=[ai 1,am 57 1 9,cI 58 57 0 5,ak 59 58 4,ah 60 59,ac 7 60]
def c180r13:List SI:=[ac 61 3,ac 62 7,ay 63 200 61 62,ac 3 63]
def c180r14:List SI:=[ai 1,am 65 1 9,av 66 65,af 67 0]
def c180r15:List SI:=[aJ 68 67 66]
def c180r16:List SI:=[aG 69 65 67 5,aH 70 69 5,cw 9,ao 9 0 5 70]
def c180r17:List SI:=[aq 72 9 0 5,ai 1,am 74 1 0,ac 75 7,a9 76 201 72 74 75,ac 71 76,aj 77 71 0,aj 78 71 1,ac 10 77,ac 11 78]
def c180r18:List SI:=[ac 79 3,ac 80 10,aP 81 79 80 5 1 1,ac 3 81]
def c180r19:List SI:=[aD 82 67 1,ac 67 82]
def c180r20:List SI:=[ac 83 3,au 84 202 83,ac 3 84]
def c180r21:List SI:=[ac 85 3,av 86 85,bm 87 86,⟨none,.call 88 203 [(.v (.slice none 0 0)),(.t 87),(.i 4)],none,0⟩,ac 89 3,aP 90 88 89 5 1 1,ac 2 90]
def c180:SC:=(.seq (aa c180r0) (.seq (aa c180r1) (.seq (.seq (aa c180r2) (.blk 0 (.loop (.seq (aa c180r3) (.seq (.cond (.t 31) .skip (.exit 0)) (.seq (.blk 1 (.seq (aa c180r4) (aa c180r5))) (aa c180r6))))))) (.seq (aa c180r7) (.seq (.seq (aa c180r8) (.cond (.t 41) (aa c180r9) .skip)) (.seq (.rgX c180r10) (.seq (.seq (aa c180r11) (.cond (.t 55) (.seq (aa c180r12) (.seq (aa c180r13) (.seq (aa c180r14) (.blk 2 (.loop (.seq (aa c180r15) (.seq (.cond (.t 68) .skip (.exit 2)) (.seq (.blk 3 (.seq (aa c180r16) (.seq (aa c180r17) (aa c180r18)))) (aa c180r19))))))))) .skip)) (.seq (aa c180r20) (.seq (aa c180r21) .ret)))))))))
def v180:List Nat × List Nat:=([1,9],[1,9,12,14,16,19,21,23,25,27,37,40,48,52,56,64,73])
def o180:List RS:=[.t 2]
theorem s180 : gM Tryz.prog Tryz.f180.ntmps v180.1 v180.2 ((Tryz.f180.body).getD .skip) = some c180 := by kernel_rfl
theorem q180 : fu Tryz.prog Tryz.f180.ntmps v180.1 v180.2 Tryz.f180.results.toList = some o180 := by kernel_rfl
def c181r0:List SI:=[aI 4]
def c181r1:List SI:=[ac 5 1,aR 6 5 0]
def c181r2:List SI:=[ac 8 1,ac 9 0,⟨none,.cpc 10 (.t 9),none,0⟩,ac 11 0,av 12 11,bg 13 10 12,bg 14 8 13,ac 1 14]
def c181r3:List SI:=[ac 15 1,bo 16 15 0]
def c181r4:List SI:=[ac 17 0,ac 18 0,⟨none,.cpc 19 (.t 18),none,0⟩,bq 20 17 19 1,ac 21 1,⟨none,.apz 22 5 1 1 (.t 20) (.t 21),none,0⟩,ac 23 0,av 24 23,bq 25 22 24 1,ac 0 25]
def c181r5:List SI:=[ac 26 0,ac 4 26]
def c181:SC:=(.seq (aa c181r0) (.seq (.seq (aa c181r1) (.cond (.t 6) .dead .skip)) (.seq (.seq (aa c181r2) (.seq (aa c181r3) (.cond (.t 16) (aa c181r4) .skip))) (.seq (aa c181r5) .ret))))
def v181:List Nat × List Nat:=([],[])
def o181:List RS:=[.t 4]
def c182r0:List SI:=[ah 4 1,av 5 4,bw 6 5 1,ac 3 6]
def c182r1:List SI:=[ac 7 3,bf 8 7 0]
def c182r2:List SI:=[ac 11 0,ac 12 3,ah 13 1,ac 14 3,aG 15 13 14 2,aH 16 15 2,bJ 17 11 12 16,aN 18 17]
def c182r3:List SI:=[ac 9 3,bw 10 9 1,ac 3 10]
def c182:SC:=(.seq (aa c182r0) (.blk 0 (.loop (.seq (.seq (aa c182r1) (.cond (.t 8) .skip (.exit 0))) (.seq (.blk 1 (.seq (aa c182r2) (.cond (.t 18) .ret .skip))) (aa c182r3))))))
def v182:List Nat × List Nat:=([],[])
def o182:List RS:=[]
def c183r0:List SI:=[aO 2 0,aO 3 1,af 4 0]
def c183r1:List SI:=[ah 5 2,av 6 5,bM 7 204 2 3,ay 8 144 6 7,ac 4 8]
def c183:SC:=(.seq (aa c183r0) (.seq (aa c183r1) .ret))
def v183:List Nat × List Nat:=([],[])
def o183:List RS:=[.t 4]
def c184r0:List SI:=[aB 2]
def c184r1:List SI:=[ac 3 0,bf 4 3 0,ac 5 4,aE 5 6 0,bt 5 7 6 1099511627776,aF 8 5 7,ac 2 8]
def c184:SC:=(.seq (aa c184r0) (.seq (aa c184r1) .ret))
def v184:List Nat × List Nat:=([],[])
def o184:List RS:=[.t 2]
theorem s184 : gM Tryz.prog Tryz.f184.ntmps v184.1 v184.2 ((Tryz.f184.body).getD .skip) = some c184 := by kernel_rfl
theorem q184 : fu Tryz.prog Tryz.f184.ntmps v184.1 v184.2 Tryz.f184.results.toList = some o184 := by kernel_rfl
def c185r0:List SI:=[aI 4]
def c185r1:List SI:=[ac 5 0,ac 6 1,cd 7 6,ay 8 162 5 7,ac 9 1,aP 10 8 9 5 1 1,ac 4 10]
def c185:SC:=(.seq (aa c185r0) (.seq (aa c185r1) .ret))
def v185:List Nat × List Nat:=([],[])
def o185:List RS:=[.t 4]
theorem s185 : gM Tryz.prog Tryz.f185.ntmps v185.1 v185.2 ((Tryz.f185.body).getD .skip) = some c185 := by kernel_rfl
theorem q185 : fu Tryz.prog Tryz.f185.ntmps v185.1 v185.2 Tryz.f185.results.toList = some o185 := by kernel_rfl
def c188r0:List SI:=[aC 3 0,bc 6,af 7 0]
def c188r1:List SI:=[aq 9 3 0 3,au 10 62 9,ac 8 10]
def c188r2:List SI:=[ac 11 8,aM 12 11 0]
def c188r3:List SI:=[bn 13,ac 14 8,ao 6 0 3 13,ac 7 14]
def c188r4:List SI:=[aq 15 3 0 3,ac 16 1,ay 17 206 15 16,aN 18 17]
def c188r5:List SI:=[bn 19,ao 6 0 3 19,af 7 90]
def c188r6:List SI:=[ac 20 2,cP 21 20,ao 6 0 3 21,af 7 0]
def c188:SC:=(.seq (aa c188r0) (.seq (.seq (aa c188r1) (ab c188r2 12 c188r3)) (.seq (ab c188r4 18 c188r5) (.seq (aa c188r6) .ret))))
def v188:List Nat × List Nat:=([3,6],[3,6])
def o188:List RS:=[.r 6 (some 3),.t 7]
def c189r0:List SI:=[bc 2]
def c189r1:List SI:=[aI 3]
def c189r2:List SI:=[ak 6 0 2,ah 7 6,av 8 7,af 9 0]
def c189r3:List SI:=[aJ 10 9 8]
def c189r4:List SI:=[aG 11 7 9 2,aH 12 11 2,bl 5,ao 5 0 2 12]
def c189r5:List SI:=[ai 5,am 14 5 0,ah 15 1,aJ 16 14 15]
def c189r6:List SI:=[ac 17 3,aq 18 5 0 2,ah 19 1,ay 20 190 18 19,bH 21 120 1 2 0 2 20,aP 22 17 21 120 2 32,ac 3 22]
def c189r7:List SI:=[aD 23 9 1,ac 9 23]
def c189r8:List SI:=[ac 24 3,av 25 24,aQ 26 25 0]
def c189r9:List SI:=[ah 27 1,cX 28 0 1 27,bH 29 120 1 2 0 2 28,ac 3 29]
def c189r10:List SI:=[aH 30 0 3,ac 31 3,ay 32 122 30 31,ao 2 0 3 32]
def c189:SC:=(.seq (aa c189r0) (.seq (aa c189r1) (.seq (.seq (aa c189r2) (.blk 0 (.loop (.seq (aa c189r3) (.seq (.cond (.t 10) .skip (.exit 0)) (.seq (.blk 1 (.seq (aa c189r4) (.seq (aa c189r5) (.cond (.t 16) (aa c189r6) .skip)))) (aa c189r7))))))) (.seq (.seq (aa c189r8) (.cond (.t 26) (aa c189r9) .skip)) (.seq (aa c189r10) .ret)))))
def v189:List Nat × List Nat:=([2,5],[2,5,13])
def o189:List RS:=[.r 2 (some 3)]
def c190r0:List SI:=[aO 2 0,aO 3 1,cZ 4]
def c190r1:List SI:=[bF 5,bW 5 1 0]
def c190r2:List SI:=[aH 8 2 2,au 9 151 8]
def c190r3:List SI:=[bh 6,ao 6 0 10 10]
def c190r4:List SI:=[ac 7 11]
def c190r5:List SI:=[ai 6,am 13 6 1,ah 14 3,cz 15 13 14]
def c190r6:List SI:=[ac 16 7,az 5 1 16]
def c190r7:List SI:=[aH 17 2 2,ah 18 5,ay 19 172 17 18,az 4 2 19]
def c190:SC:=(.seq (aa c190r0) (.seq (aa c190r1) (.seq (.seq (aa c190r2) (.blk 0 (.rf (.t 9) [10,11] (.seq (aa c190r3) (aa c190r4)) (.blk 1 (.seq (.seq (aa c190r5) (.cond (.t 15) (.exit 0) .skip)) (aa c190r6)))))) (.seq (aa c190r7) .ret))))
def v190:List Nat × List Nat:=([6],[6,12])
def o190:List RS:=[.c 4 (some 2)]
def c191r0:List SI:=[aB 4]
def c191r1:List SI:=[ac 6 0,av 7 6,ac 8 1,av 9 8,cA 10 7 9]
def c191r2:List SI:=[aB 4]
def c191r3:List SI:=[ac 11 0,av 12 11,af 13 0]
def c191r4:List SI:=[aJ 14 13 12]
def c191r5:List SI:=[ac 15 13,ac 5 15]
def c191r6:List SI:=[ac 16 0,ac 17 5,aG 18 16 17 5,aH 19 18 5,ac 20 1,ac 21 5,aG 22 20 21 5,aH 23 22 5,⟨none,.eqf 24 true [0,2,2,1,0] (.t 19) (.t 23),none,0⟩]
def c191r7:List SI:=[aB 4]
def c191r8:List SI:=[aD 25 13 1,ac 13 25]
def c191r9:List SI:=[cn 4]
def c191:SC:=(.seq (aa c191r0) (.seq (ab c191r1 10 c191r2) (.seq (.seq (aa c191r3) (.blk 0 (.loop (.seq (aa c191r4) (.seq (.cond (.t 14) .skip (.exit 0)) (.seq (.blk 1 (.seq (aa c191r5) (.seq (.reg true c191r6) (.cond (.t 24) (.seq (aa c191r7) .ret) .skip)))) (aa c191r8))))))) (.seq (aa c191r9) .ret))))
def v191:List Nat × List Nat:=([],[])
def o191:List RS:=[.t 4]
def c192r0:List SI:=[aC 1 0,⟨none,.alR 2 [(.int .i64 0),(.int .i64 0),(.int .i64 0),(.int .i64 0),(.int .i64 0),(.int .i64 0),(.int .i64 0),(.int .i64 0),(.int .i64 0)],none,0⟩]
def c192r1:List SI:=[ai 1,am 5 1 8,⟨none,.bin 6 .mul (.t 5) (.i 2),none,0⟩,ac 3 6]
def c192r2:List SI:=[ai 1,am 8 1 7]
def c192r3:List SI:=[ac 9 3,aD 10 9 1,ac 3 10]
def c192r4:List SI:=[ai 1,am 12 1 0,ai 1,am 14 1 1,ai 1,am 16 1 2,ai 1,am 18 1 3,ai 1,am 20 1 4,ai 1,am 22 1 5,ai 1,am 24 1 6,ai 1,am 26 1 8,ac 27 3,ai 1,am 29 1 8,⟨none,.bin 30 .mul (.t 29) (.i 2),none,0⟩,bg 31 27 30,⟨none,.bld 32 [(.int .i64 0),(.int .i64 0),(.int .i64 0),(.int .i64 0),(.int .i64 0),(.int .i64 0),(.int .i64 0),(.int .i64 0),(.int .i64 0)] [(0,1,(.t 12)),(1,1,(.t 14)),(2,1,(.t 16)),(3,1,(.t 18)),(4,1,(.t 20)),(5,1,(.t 22)),(6,1,(.t 24)),(7,1,(.t 26)),(8,1,(.t 31))],none,0⟩,ao 2 0 9 32]
def c192:SC:=(.seq (aa c192r0) (.seq (aa c192r1) (.seq (.seq (aa c192r2) (.cond (.t 8) (aa c192r3) .skip)) (.seq (aa c192r4) .ret))))
def v192:List Nat × List Nat:=([1,2],[1,2,4,7,11,13,15,17,19,21,23,25,28])
def o192:List RS:=[.r 2 (some 9)]
def c194r0:List SI:=[aI 2]
def c194r1:List SI:=[ac 3 0,bY 4 3]
def c194r2:List SI:=[aI 2]
def c194r3:List SI:=[bZ 5,ac 6 0,aP 7 5 6 5 1 1,ac 2 7]
def c194:SC:=(.seq (aa c194r0) (.seq (ab c194r1 4 c194r2) (.seq (aa c194r3) .ret)))
def v194:List Nat × List Nat:=([],[])
def o194:List RS:=[.t 2]
theorem s194 : gM Tryz.prog Tryz.f194.ntmps v194.1 v194.2 ((Tryz.f194.body).getD .skip) = some c194 := by kernel_rfl
theorem q194 : fu Tryz.prog Tryz.f194.ntmps v194.1 v194.2 Tryz.f194.results.toList = some o194 := by kernel_rfl
def c196r0:List SI:=[cB 6 0,af 7 0]
def c196r1:List SI:=[ac 12 2,aR 13 12 1,ac 14 13,aA 14 15 2,aY 14 16 15 8,aw 17 14 16,ac 18 17,aA 18 19 1,bE 18 20 19 0,aw 21 18 20]
def c196r2:List SI:=[cB 6 0,af 7 1]
def c196r3:List SI:=[ac 22 0,ac 23 1,ay 24 210 22 23,ac 8 24]
def c196r4:List SI:=[ac 25 8,av 26 25,ac 27 2,aJ 28 26 27]
def c196r5:List SI:=[cB 6 0,af 7 10]
def c196r6:List SI:=[cB 9 0]
def c196r7:List SI:=[ac 29 8,ac 30 2,bq 31 29 30 1,av 32 31,af 33 0]
def c196r8:List SI:=[aJ 34 33 32]
def c196r9:List SI:=[aG 35 31 33 1,ah 36 35,ac 11 36]
def c196r10:List SI:=[ac 37 9,⟨none,.bin 38 .shl (.t 37) (.v (.int .u64 8)),none,0⟩,ac 39 11,bm 40 39,⟨none,.bin 41 .or (.t 38) (.t 40),none,0⟩,ac 9 41]
def c196r11:List SI:=[aD 42 33 1,ac 33 42]
def c196r12:List SI:=[ac 43 9,ac 6 43,af 7 0]
def c196:SC:=(.seq (aa c196r0) (.seq (ab c196r1 21 c196r2) (.seq (aa c196r3) (.seq (ab c196r4 28 c196r5) (.seq (aa c196r6) (.seq (.seq (aa c196r7) (.blk 0 (.loop (.seq (aa c196r8) (.seq (.cond (.t 34) .skip (.exit 0)) (.seq (.blk 1 (.seq (aa c196r9) (aa c196r10))) (aa c196r11))))))) (.seq (aa c196r12) .ret)))))))
def v196:List Nat × List Nat:=([],[])
def o196:List RS:=[.t 6,.t 7]
def c197r0:List SI:=[aI 2,af 3 0]
def c197r1:List SI:=[ac 7 0,av 8 7,bw 9 8 4,ac 4 9]
def c197r2:List SI:=[ac 10 4,aR 11 10 0]
def c197r3:List SI:=[aI 2,af 3 10]
def c197r4:List SI:=[ac 13 0,ac 14 4,cO 15 196 13 14 4,ac 12 15,aj 16 12 0,aj 17 12 1,ac 5 16,ac 6 17]
def c197r5:List SI:=[ac 18 6,aM 19 18 0,ac 20 19,aA 20 21 5,aA 20 22 0,aA 20 23 4,⟨some (20,false),.sl 24 (.t 22) none (some (.t 23)) none 1,none,24⟩,a8 20 25 211 24,⟨some (20,false),.cvI 26 .u64 (.t 25),none,26⟩,⟨some (20,false),.bin 27 .neq (.t 21) (.t 26),none,27⟩,aw 28 20 27]
def c197r6:List SI:=[aI 2,af 3 20]
def c197r7:List SI:=[ac 29 0,ac 30 4,bq 31 29 30 1,dl 32 31 5 1 1,ac 2 32,af 3 0]
def c197:SC:=(.seq (aa c197r0) (.seq (aa c197r1) (.seq (ab c197r2 11 c197r3) (.seq (.seq (aa c197r4) (ab c197r5 28 c197r6)) (.seq (aa c197r7) .ret)))))
def v197:List Nat × List Nat:=([],[])
def o197:List RS:=[.t 2,.t 3]
def c198r0:List SI:=[aO 1 0,bh 2,⟨none,.al 3 [(.bool false)],none,0⟩]
def c198r1:List SI:=[bF 4,bW 4 1 0]
def c198r2:List SI:=[⟨none,.st (.t 3) 1 (.b true),none,0⟩]
def c198r3:List SI:=[⟨none,.mkf 15 (.func 212) [(.t 1),(.t 4),(.t 3)],none,0⟩,ac 5 15]
def c198r4:List SI:=[⟨none,.al 6 [(.int .i64 0),(.int .i64 0),(.int .i64 0),(.int .i64 0),(.int .i64 0),(.int .i64 0),(.int .i64 0)],none,0⟩]
def c198r5:List SI:=[af 16 0]
def c198r6:List SI:=[aR 17 16 7]
def c198r7:List SI:=[ac 18 16,ac 7 18]
def c198r8:List SI:=[ac 19 7,ac 20 5,cP 21 20,cQ 22 6 19 7 1,az 22 1 21]
def c198r9:List SI:=[aD 23 16 1,ac 16 23]
def c198r10:List SI:=[ah 24 3,aN 25 24,ac 26 25,aT 26 27 4,aT 26 28 1,bj 26 29 28,⟨some (26,false),.bin 30 .geq (.t 27) (.t 29),none,30⟩,aw 31 26 30,ac 32 31,aT 32 33 1,aT 32 34 4,cj 32 35 33 34 1,aT 32 36 35,⟨some (32,false),.bin 37 .geq (.t 36) (.v (.int .u8 8)),none,37⟩,aw 38 32 37,ac 39 38,cR 39 40 6 0 7 1,aT 39 41 40,bE 39 42 41 0,aw 43 39 42,ac 44 43,cR 44 45 6 0 7 1,aT 44 46 45,aY 44 47 46 1099511627776,aw 48 44 47,ac 49 48,cR 49 50 6 1 7 1,aT 49 51 50,bE 49 52 51 0,aw 53 49 52,ac 54 53,cR 54 55 6 1 7 1,aT 54 56 55,⟨some (54,false),.bin 57 .geq (.t 56) (.i 16),none,57⟩,aw 58 54 57]
def c198r11:List SI:=[bp 59,ao 2 0 10 59,cM 3 1]
def c198r12:List SI:=[ah 60 1,ah 61 4,aG 62 60 61 1,ah 63 62,ac 8 63]
def c198r13:List SI:=[ah 64 4,aD 65 64 1,az 4 1 65]
def c198r14:List SI:=[bK 66 6 0 7 1,ah 67 66,bK 68 6 0 7 1,ah 69 68,bK 70 6 1 7 1,ah 71 70,ba 72 69 71,bK 73 6 2 7 1,ah 74 73,bK 75 6 3 7 1,ah 76 75,bK 77 6 4 7 1,ah 78 77,bK 79 6 5 7 1,ah 80 79,bK 81 6 6 7 1,ah 82 81,ac 83 8,⟨none,.bin 84 .and (.t 83) (.v (.int .u8 4)),none,0⟩,⟨none,.bin 85 .neq (.t 84) (.v (.int .u8 0)),none,0⟩,ac 86 8,⟨none,.bin 87 .andNot (.t 86) (.v (.int .u8 4)),none,0⟩,bQ 88 87,⟨none,.bld 89 [(.int .i64 0),(.int .i64 0),(.int .i64 0),(.int .i64 0),(.int .i64 0),(.int .i64 0),(.int .i64 0),(.bool false),(.int .i64 0),(.slice none 0 0)] [(0,1,(.t 67)),(1,1,(.t 72)),(2,1,(.t 74)),(3,1,(.t 76)),(4,1,(.t 78)),(5,1,(.t 80)),(6,1,(.t 82)),(7,1,(.t 85)),(8,1,(.t 88))],none,0⟩,ao 2 0 10 89]
def c198r15:List SI:=[ac 90 5,cP 91 90,ac 9 91]
def c198r16:List SI:=[ah 92 3,aN 93 92,ac 94 93,aA 94 95 9,bE 94 96 95 0,aw 97 94 96,ac 98 97,aA 98 99 9,aY 98 100 99 16,aw 101 98 100]
def c198r17:List SI:=[bp 102,ao 2 0 10 102,cM 3 1]
def c198r18:List SI:=[af 10 0]
def c198r19:List SI:=[ac 103 9,bo 104 103 0]
def c198r20:List SI:=[ac 105 5,cP 106 105,ac 10 106]
def c198r21:List SI:=[af 11 0]
def c198r22:List SI:=[ac 107 11,ac 108 9,aJ 109 107 108,ac 110 109,bD 110 111 3,aF 112 110 111]
def c198r23:List SI:=[ah 116 1,ah 117 4,ai 2,am 119 2 0,ac 120 10,dj 121 214 116 117 119 120,ac 115 121,aj 122 115 0,aj 123 115 1,aj 124 115 2,cw 12,ao 12 0 5 122,ac 13 123,ac 14 124]
def c198r24:List SI:=[ah 125 3,ac 126 125,aE 126 127 14,aZ 126 128 127 0,aF 129 126 128,ac 130 129,aE 130 131 11,⟨some (130,true),.bin 132 .gtr (.t 131) (.i 0),none,132⟩,aE 130 133 132,aK 133 12,aL 133 135 12 4,aA 133 136 10,⟨some (133,false),.bin 137 .eql (.t 135) (.t 136),none,137⟩,bR 130 138 133 137,aF 139 130 138,az 3 1 139]
def c198r25:List SI:=[ac 140 13,az 4 1 140]
def c198r26:List SI:=[ai 2,am 142 2 9,aq 143 12 0 5,⟨none,.bls 144 103 1 5 [(.int .i64 0),(.string ⟨#[]⟩),(.string ⟨#[]⟩),(.bool false),(.int .i64 0)] [(0,5,(.t 143))],none,0⟩,aP 145 142 144 103 5 56,ai 2,ao 2 9 1 145]
def c198r27:List SI:=[ac 113 11,aD 114 113 1,ac 11 114]
def c198r28:List WI:=[(true,false,aq 147 2 0 10),(true,false,ah 148 3),(true,false,ac 149 148),(true,false,bD 149 150 4),(true,false,bD 149 151 1),(true,false,cG 149 152 151),(true,false,cE 149 153 150 152),(true,false,aF 154 149 153),(false,false,ao 2 0 10 147),(false,true,az 3 1 154)]
def c198:SC:=(.seq (aa c198r0) (.seq (aa c198r1) (.seq (aa c198r2) (.seq (aa c198r3) (.seq (aa c198r4) (.seq (.seq (aa c198r5) (.blk 0 (.loop (.seq (aa c198r6) (.seq (.cond (.t 17) .skip (.exit 0)) (.seq (.blk 1 (.seq (aa c198r7) (aa c198r8))) (aa c198r9))))))) (.seq (ab c198r10 58 c198r11) (.seq (aa c198r12) (.seq (aa c198r13) (.seq (aa c198r14) (.seq (aa c198r15) (.seq (ab c198r16 101 c198r17) (.seq (aa c198r18) (.seq (.seq (aa c198r19) (.cond (.t 104) (aa c198r20) .skip)) (.seq (.seq (aa c198r21) (.blk 2 (.loop (.seq (.seq (aa c198r22) (.cond (.t 112) .skip (.exit 2))) (.seq (.blk 3 (.seq (aa c198r23) (.seq (aa c198r24) (.seq (aa c198r25) (aa c198r26))))) (aa c198r27)))))) (.seq (.rgW c198r28) .ret))))))))))))))))
def v198:List Nat × List Nat:=([2,12],[2,12,118,134,141,146])
def o198:List RS:=[.r 2 (some 10),.c 3 none]
def c199r0:List SI:=[aC 1 0,af 2 0]
def c199r1:List SI:=[ai 1,am 5 1 0,au 6 215 5,aN 7 6,ac 3 7]
def c199r2:List SI:=[ai 1,am 9 1 4,au 10 215 9,aN 11 10,ac 3 11]
def c199r3:List SI:=[ai 1,am 13 1 1,cd 14 13,ai 1,am 16 1 2,cd 17 16,bX 18 14 17,bo 19 18 64,ac 3 19]
def c199r4:List SI:=[af 2 1]
def c199r5:List SI:=[ai 1,am 22 1 3,ac 23 22,aW 23 1,aX 23 25 1 1,⟨some (23,true),.bin 26 .eql (.t 25) (.v (.string ⟨#[]⟩)),none,26⟩,aE 23 27 26,aK 27 1,aL 27 29 1 2,⟨some (27,false),.bin 30 .neq (.t 29) (.v (.string ⟨#[]⟩)),none,30⟩,bR 23 31 27 30,aF 32 23 31,ac 20 32]
def c199r6:List SI:=[af 2 1]
def c199r7:List SI:=[af 2 0]
def c199:SC:=(.seq (aa c199r0) (.seq (.blk 0 (.seq (.seq (aa c199r1) (.cond (.t 3) .skip (.seq (aa c199r2) (.cond (.t 3) .skip (aa c199r3))))) (.cond (.t 3) (.seq (aa c199r4) .ret) (ab c199r5 20 c199r6)))) (.seq (aa c199r7) .ret)))
def v199:List Nat × List Nat:=([1],[1,4,8,12,15,21,24,28])
def o199:List RS:=[.t 2]
theorem s199 : gM Tryz.prog Tryz.f199.ntmps v199.1 v199.2 ((Tryz.f199.body).getD .skip) = some c199 := by kernel_rfl
theorem q199 : fu Tryz.prog Tryz.f199.ntmps v199.1 v199.2 Tryz.f199.results.toList = some o199 := by kernel_rfl
def c200r0:List SI:=[aI 4]
def c200r1:List SI:=[ac 7 1,bm 8 7,⟨none,.bin 9 .shl (.t 8) (.v (.int .u64 1)),none,0⟩,ac 10 1,bA 11 10 63,bm 12 11,ci 13 9 12,ac 5 13]
def c200r2:List SI:=[ac 14 0,au 15 194 14,ac 6 15]
def c200r3:List SI:=[ac 16 5,⟨none,.bin 17 .geq (.t 16) (.v (.int .u64 128)),none,0⟩]
def c200r4:List SI:=[ac 20 6,ac 21 5,cf 22 21,⟨none,.bin 23 .or (.t 22) (.v (.int .u8 128)),none,0⟩,bT 24 5 1 1 0 1 23,aP 25 20 24 5 1 1,ac 6 25]
def c200r5:List SI:=[ac 18 5,bA 19 18 7,ac 5 19]
def c200r6:List SI:=[ac 26 6,ac 27 5,cf 28 27,bT 29 5 1 1 0 1 28,aP 30 26 29 5 1 1,ac 4 30]
def c200:SC:=(.seq (aa c200r0) (.seq (aa c200r1) (.seq (aa c200r2) (.seq (.blk 0 (.loop (.seq (.seq (aa c200r3) (.cond (.t 17) .skip (.exit 0))) (.seq (.blk 1 (aa c200r4)) (aa c200r5))))) (.seq (aa c200r6) .ret)))))
def v200:List Nat × List Nat:=([],[])
def o200:List RS:=[.t 4]
theorem s200 : gM Tryz.prog Tryz.f200.ntmps v200.1 v200.2 ((Tryz.f200.body).getD .skip) = some c200 := by kernel_rfl
theorem q200 : fu Tryz.prog Tryz.f200.ntmps v200.1 v200.2 Tryz.f200.results.toList = some o200 := by kernel_rfl
def c201r0:List SI:=[aC 3 0,aI 6,af 7 0]
def c201r1:List SI:=[aq 11 3 0 5,au 12 199 11,ac 8 12]
def c201r2:List SI:=[ac 13 8,aM 14 13 0]
def c201r3:List SI:=[ac 15 8,aI 6,ac 7 15]
def c201r4:List SI:=[ac 16 1,au 17 215 16,aN 18 17,ac 19 18,aA 19 20 2,a8 19 21 215 20,aS 19 22 21,aw 23 19 22]
def c201r5:List SI:=[aI 6,af 7 1]
def c201r6:List SI:=[⟨none,.mv 9 (.v (.int .u8 0)),none,0⟩]
def c201r7:List SI:=[ai 3,am 25 3 3]
def c201r8:List SI:=[⟨none,.mv 9 (.v (.int .u8 1)),none,0⟩]
def c201r9:List (Bool × SI):=[(true,ai 3),(true,am 27 3 0),(true,ac 28 1),(true,bg 29 27 28),(true,ai 3),(true,am 32 3 4),(true,ac 33 2),(true,bg 34 32 33),(false,cL 30 200 29),(false,ay 35 200 30 34),(true,ac 10 35)]
def c201r10:List (Bool × SI):=[(true,ac 36 10),(true,ac 37 9),(true,ai 3),(true,am 41 3 1),(true,ai 3),(true,am 44 3 2),(false,bT 38 5 1 1 0 1 37),(false,aP 39 36 38 5 1 1),(false,ay 42 216 39 41),(false,ay 45 216 42 44),(true,ac 6 45),(true,af 7 0)]
def c201:SC:=(.seq (aa c201r0) (.seq (.seq (aa c201r1) (ab c201r2 14 c201r3)) (.seq (ab c201r4 23 c201r5) (.seq (aa c201r6) (.seq (.seq (aa c201r7) (.cond (.t 25) (aa c201r8) .skip)) (.seq (.rgX c201r9) (.seq (.rgX c201r10) .ret)))))))
def v201:List Nat × List Nat:=([3],[3,24,26,31,40,43])
def o201:List RS:=[.t 6,.t 7]
theorem s201 : gM Tryz.prog Tryz.f201.ntmps v201.1 v201.2 ((Tryz.f201.body).getD .skip) = some c201 := by kernel_rfl
theorem q201 : fu Tryz.prog Tryz.f201.ntmps v201.1 v201.2 Tryz.f201.results.toList = some o201 := by kernel_rfl
def c202r0:List SI:=[aI 2]
def c202r1:List SI:=[ac 3 0,dl 4 3 5 1 1,ac 5 0,au 6 211 5,bm 7 6,cO 8 203 4 7 4,ac 2 8]
def c202:SC:=(.seq (aa c202r0) (.seq (aa c202r1) .ret))
def v202:List Nat × List Nat:=([],[])
def o202:List RS:=[.t 2]
theorem s202 : gM Tryz.prog Tryz.f202.ntmps v202.1 v202.2 ((Tryz.f202.body).getD .skip) = some c202 := by kernel_rfl
theorem q202 : fu Tryz.prog Tryz.f202.ntmps v202.1 v202.2 Tryz.f202.results.toList = some o202 := by kernel_rfl
def c203r0:List SI:=[aI 6]
def c203r1:List SI:=[ac 9 0,au 10 194 9,ac 7 10]
def c203r2:List SI:=[ac 11 2,aR 12 11 1,ac 13 12,aA 13 14 2,aY 13 15 14 8,aw 16 13 15]
def c203r3:List SI:=[ac 17 7,ac 6 17]
def c203r4:List SI:=[ac 18 2,bw 19 18 1,⟨none,.bin 20 .mul (.i 8) (.t 19),none,0⟩,ac 8 20]
def c203r5:List SI:=[ac 21 8,bf 22 21 0]
def c203r6:List SI:=[ac 25 7,ac 26 1,ac 27 8,⟨none,.bin 28 .shr (.t 26) (.t 27),none,0⟩,cf 29 28,bT 30 5 1 1 0 1 29,aP 31 25 30 5 1 1,ac 7 31]
def c203r7:List SI:=[ac 23 8,bw 24 23 8,ac 8 24]
def c203r8:List SI:=[ac 32 7,ac 6 32]
def c203:SC:=(.seq (aa c203r0) (.seq (aa c203r1) (.seq (ab c203r2 16 c203r3) (.seq (.seq (aa c203r4) (.blk 0 (.loop (.seq (.seq (aa c203r5) (.cond (.t 22) .skip (.exit 0))) (.seq (.blk 1 (aa c203r6)) (aa c203r7)))))) (.seq (aa c203r8) .ret)))))
def v203:List Nat × List Nat:=([],[])
def o203:List RS:=[.t 6]
theorem s203 : gM Tryz.prog Tryz.f203.ntmps v203.1 v203.2 ((Tryz.f203.body).getD .skip) = some c203 := by kernel_rfl
theorem q203 : fu Tryz.prog Tryz.f203.ntmps v203.1 v203.2 Tryz.f203.results.toList = some o203 := by kernel_rfl
def c204r0:List SI:=[aB 4]
def c204r1:List SI:=[ah 5 1,ac 6 0,aG 7 5 6 2,ak 8 7 0,ah 9 8,ah 10 2,bP 11 9 10,ac 4 11]
def c204:SC:=(.seq (aa c204r0) (.seq (.reg true c204r1) .ret))
def v204:List Nat × List Nat:=([],[])
def o204:List RS:=[.t 4]
def c206r0:List SI:=[aC 2 0,aB 4]
def c206r1:List SI:=[ai 2,am 6 2 1,ac 7 1,⟨none,.bin 8 .leq (.t 6) (.t 7),none,0⟩,ac 9 8,aE 9 10 1,bd 9 11 2 0 3,aV 9 12 63 11,cD 9 13 10 12,aF 14 9 13,ac 4 14]
def c206:SC:=(.seq (aa c206r0) (.seq (aa c206r1) .ret))
def v206:List Nat × List Nat:=([2],[2,5])
def o206:List RS:=[.t 4]
def c210r0:List SI:=[aI 4]
def c210r1:List SI:=[ac 5 0,ac 6 1,ac 7 0,av 8 7,bz 9 6 8,cN 10 5 9 1,ac 4 10]
def c210:SC:=(.seq (aa c210r0) (.seq (aa c210r1) .ret))
def v210:List Nat × List Nat:=([],[])
def o210:List RS:=[.t 4]
def c211r0:List SI:=[cS 2 0]
def c211r1:List SI:=[bU 7 220,ac 3 7]
def c211r2:List SI:=[cS 4 4294967295]
def c211r3:List SI:=[ac 8 0,av 9 8,af 10 0]
def c211r4:List SI:=[aJ 11 10 9]
def c211r5:List SI:=[aG 12 8 10 1,ah 13 12,ac 6 13]
def c211r6:List SI:=[ac 14 3,ac 15 4,ac 16 6,bJ 17 14 15 16,ac 4 17]
def c211r7:List SI:=[aD 18 10 1,ac 10 18]
def c211r8:List SI:=[ac 19 4,⟨none,.un 20 .xor (.t 19),none,0⟩,ac 2 20]
def c211:SC:=(.seq (aa c211r0) (.seq (aa c211r1) (.seq (aa c211r2) (.seq (.seq (aa c211r3) (.blk 0 (.loop (.seq (aa c211r4) (.seq (.cond (.t 11) .skip (.exit 0)) (.seq (.blk 1 (.seq (aa c211r5) (aa c211r6))) (aa c211r7))))))) (.seq (aa c211r8) .ret)))))
def v211:List Nat × List Nat:=([],[])
def o211:List RS:=[.t 2]
theorem s211 : gM Tryz.prog Tryz.f211.ntmps v211.1 v211.2 ((Tryz.f211.body).getD .skip) = some c211 := by kernel_rfl
theorem q211 : fu Tryz.prog Tryz.f211.ntmps v211.1 v211.2 Tryz.f211.results.toList = some o211 := by kernel_rfl
def c212r0:List SI:=[af 3 0]
def c212r1:List SI:=[ah 8 0,ah 9 1,ay 10 213 8 9,ac 7 10,aj 11 7 0,aj 12 7 1,aj 13 7 2,ac 4 11,ac 5 12,ac 6 13]
def c212r2:List SI:=[ac 14 6,aM 15 14 0]
def c212r3:List SI:=[cM 2 1]
def c212r4:List SI:=[af 3 0]
def c212r5:List SI:=[ac 16 5,az 1 1 16]
def c212r6:List SI:=[ac 17 4,ac 3 17]
def c212:SC:=(.seq (aa c212r0) (.seq (aa c212r1) (.seq (.seq (aa c212r2) (.cond (.t 15) (.seq (aa c212r3) (.seq (aa c212r4) .ret)) .skip)) (.seq (aa c212r5) (.seq (aa c212r6) .ret)))))
def v212:List Nat × List Nat:=([],[])
def o212:List RS:=[.t 3]
def c213r0:List SI:=[af 4 0,af 5 0,af 6 0]
def c213r1:List SI:=[ac 10 1,aR 11 10 0]
def c213r2:List SI:=[af 4 0,af 5 0,af 6 1]
def c213r3:List SI:=[cB 7 0]
def c213r4:List SI:=[ac 12 0,ac 13 1,ay 14 210 12 13,av 15 14,af 16 0]
def c213r5:List SI:=[aJ 17 16 15]
def c213r6:List SI:=[ac 18 16,aG 19 14 16 1,ah 20 19,ac 8 18,ac 9 20]
def c213r7:List SI:=[ac 21 8,aQ 22 21 9,ac 23 22,aE 23 24 9,⟨some (23,true),.bin 25 .gtr (.t 24) (.v (.int .u8 1)),none,25⟩,aF 26 23 25,ac 27 26,aA 27 28 8,aY 27 29 28 0,aA 27 30 29,aE 30 31 9,⟨some (30,true),.bin 32 .eql (.t 31) (.v (.int .u8 0)),none,32⟩,bO 27 33 30 32,aw 34 27 33]
def c213r8:List SI:=[af 4 0,af 5 0,af 6 11]
def c213r9:List SI:=[ac 35 7,ac 36 9,⟨none,.bin 37 .and (.t 36) (.v (.int .u8 127)),none,0⟩,bm 38 37,ac 39 8,⟨none,.bin 40 .mul (.i 7) (.t 39),none,0⟩,⟨none,.bin 41 .shl (.t 38) (.t 40),none,0⟩,⟨none,.bin 42 .or (.t 35) (.t 41),none,0⟩,ac 7 42]
def c213r10:List SI:=[ac 43 9,⟨none,.bin 44 .lss (.t 43) (.v (.int .u8 128)),none,0⟩]
def c213r11:List SI:=[ac 45 7,bA 46 45 1,bQ 47 46,ac 48 7,⟨none,.bin 49 .and (.t 48) (.v (.int .u64 1)),none,0⟩,bQ 50 49,⟨none,.un 51 .neg (.t 50),none,0⟩,ci 52 47 51,ac 53 1,ac 54 8,ba 55 53 54,aD 56 55 1,ac 4 52,ac 5 56,af 6 0]
def c213r12:List SI:=[aD 57 16 1,ac 16 57]
def c213r13:List SI:=[af 4 0,af 5 0,af 6 10]
def c213:SC:=(.seq (aa c213r0) (.seq (ab c213r1 11 c213r2) (.seq (aa c213r3) (.seq (.seq (aa c213r4) (.blk 0 (.loop (.seq (aa c213r5) (.seq (.cond (.t 17) .skip (.exit 0)) (.seq (.blk 1 (.seq (aa c213r6) (.seq (ab c213r7 34 c213r8) (.seq (aa c213r9) (ab c213r10 44 c213r11))))) (aa c213r12))))))) (.seq (aa c213r13) .ret)))))
def v213:List Nat × List Nat:=([],[])
def o213:List RS:=[.t 4,.t 5,.t 6]
def c214r0:List SI:=[cw 8,af 9 0,af 10 0]
def c214r1:List SI:=[ac 13 2,au 14 215 13,aN 15 14,ac 16 15,aA 16 17 3,a8 16 18 215 17,aS 16 19 18,aw 20 16 19,ac 21 20,aA 21 22 1,bE 21 23 22 0,aw 24 21 23,ac 25 24,aA 25 26 1,aA 25 27 0,bj 25 28 27,ck 25 29 26 28,aw 30 25 29]
def c214r2:List SI:=[dr 31,ao 8 0 5 31,af 9 0,af 10 1]
def c214r3:List SI:=[ac 32 0,ac 33 1,⟨none,.bld 34 [(.slice none 0 0),(.int .i64 0),(.int .i64 0)] [(0,1,(.t 32)),(1,1,(.t 33))],none,0⟩,aO 35 34,ac 11 35]
def c214r4:List SI:=[⟨none,.mv 12 (.v (.func (.func 221) #[] #[])),none,0⟩]
def c214r5:List SI:=[ac 36 2,ac 37 11,dm 38 224 37 213,ay 39 223 36 38,ai 8,ao 8 0 1 39]
def c214r6:List SI:=[ac 41 3,ac 42 11,dm 43 224 42 213,ay 44 223 41 43,ai 8,ao 8 4 1 44]
def c214r7:List SI:=[ac 46 11,dm 47 225 46 226,ai 8,ao 8 3 1 47]
def c214r8:List SI:=[ac 49 11,ac 50 12,ay 51 227 49 50,ac 52 11,ac 53 12,ay 54 227 52 53,ai 8,ao 8 1 1 51,ai 8,ao 8 2 1 54]
def c214r9:List SI:=[ac 57 11,ar 58 57,ak 59 58 2,ah 60 59,aQ 61 60 0]
def c214r10:List SI:=[ac 62 11,aq 63 8 0 5,au 64 199 63,ar 65 62,ak 66 65 2,az 66 1 64]
def c214r11:List SI:=[ac 67 11,ar 68 67,ak 69 68 2,ah 70 69,aM 71 70 0]
def c214r12:List WI:=[(true,false,dr 72),(true,false,ac 73 11),(true,false,ar 74 73),(true,false,ak 75 74 2),(true,false,ah 76 75),(false,false,ao 8 0 5 72),(true,false,af 9 0),(true,false,ac 10 76)]
def c214r13:List WI:=[(true,false,aq 77 8 0 5),(true,false,ac 78 11),(true,false,ar 79 78),(true,false,ak 80 79 1),(true,false,ah 81 80),(false,false,ao 8 0 5 77),(true,false,ac 9 81),(true,false,af 10 0)]
def c214:SC:=(.seq (aa c214r0) (.seq (ab c214r1 30 c214r2) (.seq (aa c214r3) (.seq (aa c214r4) (.seq (aa c214r5) (.seq (aa c214r6) (.seq (aa c214r7) (.seq (aa c214r8) (.seq (.seq (aa c214r9) (.cond (.t 61) (aa c214r10) .skip)) (.seq (.seq (aa c214r11) (.cond (.t 71) (.seq (.rgW c214r12) .ret) .skip)) (.seq (.rgW c214r13) .ret)))))))))))
def v214:List Nat × List Nat:=([8],[8,40,45,48,55,56])
def o214:List RS:=[.r 8 (some 5),.t 9,.t 10]
def c215r0:List SI:=[aB 2]
def c215r1:List SI:=[ac 3 0,bf 4 3 0,ac 5 4,aE 5 6 0,bt 5 7 6 1099511627776,aF 8 5 7,ac 2 8]
def c215:SC:=(.seq (aa c215r0) (.seq (aa c215r1) .ret))
def v215:List Nat × List Nat:=([],[])
def o215:List RS:=[.t 2]
theorem s215 : gM Tryz.prog Tryz.f215.ntmps v215.1 v215.2 ((Tryz.f215.body).getD .skip) = some c215 := by kernel_rfl
theorem q215 : fu Tryz.prog Tryz.f215.ntmps v215.1 v215.2 Tryz.f215.results.toList = some o215 := by kernel_rfl
def c216r0:List SI:=[aI 4]
def c216r1:List SI:=[ac 5 0,ac 6 1,cd 7 6,ay 8 200 5 7,ac 9 1,aP 10 8 9 5 1 1,ac 4 10]
def c216:SC:=(.seq (aa c216r0) (.seq (aa c216r1) .ret))
def v216:List Nat × List Nat:=([],[])
def o216:List RS:=[.t 4]
theorem s216 : gM Tryz.prog Tryz.f216.ntmps v216.1 v216.2 ((Tryz.f216.body).getD .skip) = some c216 := by kernel_rfl
theorem q216 : fu Tryz.prog Tryz.f216.ntmps v216.1 v216.2 Tryz.f216.results.toList = some o216 := by kernel_rfl
def c220r0:List SI:=[cr 0]
def c220r1:List SI:=[⟨none,.al 1 [(.int .u32 0),(.int .u32 0),(.int .u32 0),(.int .u32 0),(.int .u32 0),(.int .u32 0),(.int .u32 0),(.int .u32 0),(.int .u32 0),(.int .u32 0),(.int .u32 0),(.int .u32 0),(.int .u32 0),(.int .u32 0),(.int .u32 0),(.int .u32 0)],none,0⟩]
def c220r2:List SI:=[af 3 0]
def c220r3:List SI:=[aR 4 3 16]
def c220r4:List SI:=[ac 5 3,ac 2 5]
def c220r5:List SI:=[ac 6 2,ac 7 2,⟨none,.cvI 8 .u32 (.t 7),none,0⟩,au 9 230 8,cQ 10 1 6 16 1,az 10 1 9]
def c220r6:List SI:=[aD 11 3 1,ac 3 11]
def c220r7:List SI:=[bG 12 231 1,ac 0 12]
def c220:SC:=(.seq (aa c220r0) (.seq (aa c220r1) (.seq (.seq (aa c220r2) (.blk 0 (.loop (.seq (aa c220r3) (.seq (.cond (.t 4) .skip (.exit 0)) (.seq (.blk 1 (.seq (aa c220r4) (aa c220r5))) (aa c220r6))))))) (.seq (aa c220r7) .ret))))
def v220:List Nat × List Nat:=([],[])
def o220:List RS:=[.t 0]
theorem s220 : gM Tryz.prog Tryz.f220.ntmps v220.1 v220.2 ((Tryz.f220.body).getD .skip) = some c220 := by kernel_rfl
theorem q220 : fu Tryz.prog Tryz.f220.ntmps v220.1 v220.2 Tryz.f220.results.toList = some o220 := by kernel_rfl
def c221r0:List SI:=[bL 4,af 5 0,af 6 0]
def c221r1:List SI:=[ac 7 0,ac 8 1,cO 9 222 7 8 64,aj 10 9 0,aj 11 9 1,aj 12 9 2,ac 4 10,ac 5 11,ac 6 12]
def c221:SC:=(.seq (aa c221r0) (.seq (aa c221r1) .ret))
def v221:List Nat × List Nat:=([],[])
def o221:List RS:=[.t 4,.t 5,.t 6]
def c222r0:List SI:=[bL 6,af 7 0,af 8 0]
def c222r1:List SI:=[ac 11 0,ac 12 1,ay 13 213 11 12,ac 10 13,aj 14 10 0,aj 15 10 1,aj 16 10 2,ac 9 14,ac 7 15,ac 8 16]
def c222r2:List SI:=[ac 18 8,aM 19 18 0,ac 17 19]
def c222r3:List SI:=[ac 20 8,bL 6,af 7 0,ac 8 20]
def c222r4:List SI:=[ac 22 9,aR 23 22 0,ac 21 23]
def c222r5:List SI:=[bL 6,af 7 0,af 8 11]
def c222r6:List SI:=[ac 25 9,ac 26 2,bP 27 25 26,ac 24 27]
def c222r7:List SI:=[bL 6,af 7 0,af 8 2]
def c222r8:List SI:=[ac 29 9,ac 30 0,av 31 30,ac 32 7,bg 33 31 32,bP 34 29 33,ac 28 34]
def c222r9:List SI:=[bL 6,af 7 0,af 8 10]
def c222r10:List SI:=[ac 35 0,ac 36 7,ac 37 7,ac 38 9,ba 39 37 38,⟨none,.sl 40 (.t 35) (some (.t 36)) (some (.t 39)) none 1,none,0⟩,⟨none,.cvS 41 (.t 40),none,0⟩,ac 42 7,ac 43 9,ba 44 42 43,ac 6 41,ac 7 44,af 8 0]
def c222:SC:=(.seq (aa c222r0) (.seq (aa c222r1) (.seq (.blk 0 (.seq (aa c222r2) (.cond (.t 17) (.seq (aa c222r3) .ret) (.seq (aa c222r4) (.cond (.t 21) (.seq (aa c222r5) .ret) (.seq (aa c222r6) (.cond (.t 24) (.seq (aa c222r7) .ret) (ab c222r8 28 c222r9)))))))) (.seq (aa c222r10) .ret))))
def v222:List Nat × List Nat:=([],[])
def o222:List RS:=[.t 6,.t 7,.t 8]
def c223r0:List SI:=[af 4 0]
def c223r1:List SI:=[ac 5 1,⟨none,.bin 6 .lss (.t 5) (.i (-1099511627776)),none,0⟩,ac 7 6,aA 7 8 1,aY 7 9 8 1099511627776,aw 10 7 9]
def c223r2:List SI:=[cp 4]
def c223r3:List SI:=[ac 11 0,ac 12 1,ba 13 11 12,ac 4 13]
def c223:SC:=(.seq (aa c223r0) (.seq (ab c223r1 10 c223r2) (.seq (aa c223r3) .ret)))
def v223:List Nat × List Nat:=([],[])
def o223:List RS:=[.t 4]
def c224r0:List SI:=[af 4 0]
def c224r1:List SI:=[af 5 0]
def c224r2:List SI:=[ac 6 0,ar 7 6,ak 8 7 2,ah 9 8,aQ 10 9 0]
def c224r3:List WI:=[(true,false,ac 12 0),(true,false,ac 13 0),(true,false,ac 14 1),(true,false,ac 15 0),(true,false,ar 16 15),(true,false,ak 17 16 0),(true,false,ah 18 17),(true,false,ac 19 0),(true,false,ar 20 19),(true,false,ak 21 20 1),(true,false,ah 22 21),(false,true,bJ 23 14 18 22),(true,false,ac 11 23),(true,false,aj 24 11 0),(true,false,aj 25 11 1),(true,false,aj 26 11 2),(true,false,ac 5 24),(true,false,ar 27 12),(true,false,ak 28 27 1),(false,true,az 28 1 25),(true,false,ar 29 13),(true,false,ak 30 29 2),(false,true,az 30 1 26)]
def c224r4:List SI:=[ac 31 5,ac 4 31]
def c224:SC:=(.seq (aa c224r0) (.seq (aa c224r1) (.seq (.seq (aa c224r2) (.cond (.t 10) (.rgW c224r3) .skip)) (.seq (aa c224r4) .ret))))
def v224:List Nat × List Nat:=([],[])
def o224:List RS:=[.t 4]
def c225r0:List SI:=[aB 4]
def c225r1:List SI:=[aB 5]
def c225r2:List SI:=[ac 6 0,ar 7 6,ak 8 7 2,ah 9 8,aQ 10 9 0]
def c225r3:List WI:=[(true,false,ac 12 0),(true,false,ac 13 0),(true,false,ac 14 1),(true,false,ac 15 0),(true,false,ar 16 15),(true,false,ak 17 16 0),(true,false,ah 18 17),(true,false,ac 19 0),(true,false,ar 20 19),(true,false,ak 21 20 1),(true,false,ah 22 21),(false,true,bJ 23 14 18 22),(true,false,ac 11 23),(true,false,aj 24 11 0),(true,false,aj 25 11 1),(true,false,aj 26 11 2),(true,false,ac 5 24),(true,false,ar 27 12),(true,false,ak 28 27 1),(false,true,az 28 1 25),(true,false,ar 29 13),(true,false,ak 30 29 2),(false,true,az 30 1 26)]
def c225r4:List SI:=[ac 31 5,ac 4 31]
def c225:SC:=(.seq (aa c225r0) (.seq (aa c225r1) (.seq (.seq (aa c225r2) (.cond (.t 10) (.rgW c225r3) .skip)) (.seq (aa c225r4) .ret))))
def v225:List Nat × List Nat:=([],[])
def o225:List RS:=[.t 4]
def c226r0:List SI:=[aB 4,af 5 0,af 6 0]
def c226r1:List SI:=[ac 8 1,ac 9 0,av 10 9,cz 11 8 10,ac 7 11]
def c226r2:List SI:=[aB 4,af 5 0,af 6 10]
def c226r3:List SI:=[ac 13 0,ac 14 1,aG 15 13 14 1,ah 16 15,⟨none,.bin 17 .gtr (.t 16) (.v (.int .u8 1)),none,0⟩,ac 12 17]
def c226r4:List SI:=[aB 4,af 5 0,af 6 11]
def c226r5:List SI:=[ac 18 0,ac 19 1,aG 20 18 19 1,ah 21 20,⟨none,.bin 22 .eql (.t 21) (.v (.int .u8 1)),none,0⟩,ac 23 1,aD 24 23 1,ac 4 22,ac 5 24,af 6 0]
def c226:SC:=(.seq (aa c226r0) (.seq (.blk 0 (.seq (aa c226r1) (.cond (.t 7) (.seq (aa c226r2) .ret) (ab c226r3 12 c226r4)))) (.seq (aa c226r5) .ret)))
def v226:List Nat × List Nat:=([],[])
def o226:List RS:=[.t 4,.t 5,.t 6]
def c227r0:List SI:=[bL 4]
def c227r1:List SI:=[bL 5]
def c227r2:List SI:=[ac 6 0,ar 7 6,ak 8 7 2,ah 9 8,aQ 10 9 0]
def c227r3:List WI:=[(true,false,ac 12 0),(true,false,ac 13 0),(true,false,ac 14 1),(true,false,ac 15 0),(true,false,ar 16 15),(true,false,ak 17 16 0),(true,false,ah 18 17),(true,false,ac 19 0),(true,false,ar 20 19),(true,false,ak 21 20 1),(true,false,ah 22 21),(false,true,bJ 23 14 18 22),(true,false,ac 11 23),(true,false,aj 24 11 0),(true,false,aj 25 11 1),(true,false,aj 26 11 2),(true,false,ac 5 24),(true,false,ar 27 12),(true,false,ak 28 27 1),(false,true,az 28 1 25),(true,false,ar 29 13),(true,false,ak 30 29 2),(false,true,az 30 1 26)]
def c227r4:List SI:=[ac 31 5,ac 4 31]
def c227:SC:=(.seq (aa c227r0) (.seq (aa c227r1) (.seq (.seq (aa c227r2) (.cond (.t 10) (.rgW c227r3) .skip)) (.seq (aa c227r4) .ret))))
def v227:List Nat × List Nat:=([],[])
def o227:List RS:=[.t 4]
def c230r0:List SI:=[cS 2 0]
def c230r1:List SI:=[af 3 0]
def c230r2:List SI:=[aR 4 3 4]
def c230r3:List SI:=[ac 5 0,bA 6 5 1,ac 7 0,dp 8 7 1,⟨none,.un 9 .neg (.t 8),none,0⟩,⟨none,.bin 10 .and (.v (.int .u32 3988292384)) (.t 9),none,0⟩,ci 11 6 10,ac 0 11]
def c230r4:List SI:=[aD 12 3 1,ac 3 12]
def c230r5:List SI:=[ac 13 0,ac 2 13]
def c230:SC:=(.seq (aa c230r0) (.seq (.seq (aa c230r1) (.blk 0 (.loop (.seq (aa c230r2) (.seq (.cond (.t 4) .skip (.exit 0)) (.seq (.blk 1 (aa c230r3)) (aa c230r4))))))) (.seq (aa c230r5) .ret)))
def v230:List Nat × List Nat:=([],[])
def o230:List RS:=[.t 2]
theorem s230 : gM Tryz.prog Tryz.f230.ntmps v230.1 v230.2 ((Tryz.f230.body).getD .skip) = some c230 := by kernel_rfl
theorem q230 : fu Tryz.prog Tryz.f230.ntmps v230.1 v230.2 Tryz.f230.results.toList = some o230 := by kernel_rfl
def c231r0:List SI:=[cS 5 0]
def c231r1:List SI:=[ac 6 0,ac 7 1,⟨none,.cvI 8 .u32 (.t 7),none,0⟩,ci 9 6 8,ac 0 9]
def c231r2:List SI:=[ac 10 0,dp 11 10 15,cQ 12 2 11 16 1,ah 13 12,ac 14 0,bA 15 14 4,ci 16 13 15,ac 0 16]
def c231r3:List SI:=[ac 17 0,dp 18 17 15,cQ 19 2 18 16 1,ah 20 19,ac 21 0,bA 22 21 4,ci 23 20 22,ac 5 23]
def c231:SC:=(.seq (aa c231r0) (.seq (aa c231r1) (.seq (aa c231r2) (.seq (aa c231r3) .ret))))
def v231:List Nat × List Nat:=([],[])
def o231:List RS:=[.t 5]
theorem s231 : gM Tryz.prog Tryz.f231.ntmps v231.1 v231.2 ((Tryz.f231.body).getD .skip) = some c231 := by kernel_rfl
theorem q231 : fu Tryz.prog Tryz.f231.ntmps v231.1 v231.2 Tryz.f231.results.toList = some o231 := by kernel_rfl
theorem F176:Fun Tryz.prog 176 5 v176 c176 o176:=Fun.mk' Tryz.func176 Tryz.ntmps176 (by kernel_rfl) (by kernel_rfl) s176 q176
theorem F194:Fun Tryz.prog 194 8 v194 c194 o194:=Fun.mk' Tryz.func194 Tryz.ntmps194 (by kernel_rfl) (by kernel_rfl) s194 q194
def UE(x:UInt8)(cs:List Value):Prop:=cs=[.int .u8 (x.toNat:Int)]
theorem UE1:∀ (x:UInt8) cs,UE x cs→∀ u∈cs,u.oneCell'=true:=fun x cs h u hu=>by
 rw[h]at hu;simp at hu;subst hu;rfl
abbrev SB(G:Nat→Option Obj)(v:Value)(l:List UInt8):Prop:=SlV G UE 1 v l
abbrev qD(zs:List UInt8)(L':List Kx.Item)(r:Value):Prop:=xH UE 5 1 zs L' r
theorem SB.le{G G':Nat→Option Obj}{v:Value}{l:List UInt8}(h:SB G v l)(hg:Gle G G'):SB G' v l:=SlV.le h hg fun _ _ h=>h
def qC(l:List UInt8):List Value:=l.map fun b=>.int .u8 (b.toNat:Int)
theorem nR:∀ (l:List UInt8),Cells UE 1 l (qC l)
 | []=>.nil
 | b :: l=>.cons (cs:=[.int .u8 (b.toNat:Int)]) rfl rfl (nR l)
theorem mW(s:ByteArray):byteCells s=qC s.data.toList:=rfl
theorem xO{P:Program}{h:H}{d:Nat}{l:List SI}{e:Env}{K:Env→H→Prop}{u:Value}{b:Nat}{zs:List UInt8}{zc:List Value}{L1 L2:List Kx.Item}{x:UInt8}{y:Int}(hL:h.L=.row (.slice (some ⟨b,0,none⟩) 1 1) 5 1 1 [.int .u8 y] :: L1++.row u 5 1 zs.length zc :: L2)(hy:y=(x.toNat:Int))
  (hc:Cells UE 1 zs zc) (hz:zs.length≤10000000)
  (hk:∀ A' c' zc',Cells UE 1 (zs++[x]) zc'→kR P l d e K (.slice A' (zs++[x]).length c') ⟨h.G,.row (.slice (some ⟨b,0,none⟩) 1 1) 5 1 1 [.int .u8 y] :: L1++.row (.slice A' (zs++[x]).length c') 5 1 (zs++[x]).length zc' :: L2,h.D⟩) :
  apX P u (.slice (some ⟨b,0,none⟩) 1 1) 5 1 1 d l e h K:=by
 subst hy;refine⟨.row (.slice (some ⟨b,0,none⟩) 1 1) 5 1 1 [.int .u8 (x.toNat:Int)] :: L1,zs.length,zc,L2,1,[.int .u8 (x.toNat:Int)],.inl hL,kZ (h:=h) (by rw[hL];exact .head _) (UE1 x _ rfl) rfl,by unfold maxLen;omega,fun A' c'=>?_⟩;have:=hk A' c' (zc++[.int .u8 (x.toNat:Int)]) (hc.app (.one (show UE x [.int .u8 (x.toNat:Int)]from rfl) rfl))
 simp only[List.length_append,List.length_cons,List.length_nil,Nat.zero_add]at this;exact this
theorem DH{P:Program}{h:H}{d:Nat}{l:List SI}{e:Env}{K:Env→H→Prop}{u:Value}{s:ByteArray}{zs:List UInt8}{zc:List Value}{L1 L2:List Kx.Item}(hr:yP h.L u 5 1 L1 zs.length zc L2)(hc:Cells UE 1 zs zc)(hz:zs.length+s.size≤10000000)
  (hk:∀ A' c' zc',Cells UE 1 (zs++s.data.toList) zc'→kR P l d e K (.slice A' (zs++s.data.toList).length c') { h with L:=L1++.row (.slice A' (zs++s.data.toList).length c') 5 1 (zs++s.data.toList).length zc' :: L2 }) :
  apX P u (.string s) 5 1 1 d l e h K:=by
 refine⟨L1,zs.length,zc,L2,s.size,qC s.data.toList,hr,⟨fun u hu=>?_,?_,.inr (.inr ⟨s,rfl,rfl,mW s,rfl⟩)⟩,by unfold maxLen;omega,fun A' c'=>?_⟩
 ·simp[qC]at hu;obtain⟨_,_,rfl⟩:=hu;rfl
 ·simp[qC]
 ·have:=hk A' c' (zc++qC s.data.toList) (hc.app (nR _));rw[List.length_append]at this;exact this
theorem ve(k:IntKind)(a b:Int):eZ .mul (.int k a) (.int k b)=some (.int k (k.wrap (a * b))):=by simp[eZ]
theorem vN(k:IntKind)(a b:Int):eZ .add (.int k a) (.int k b)=some (.int k (k.wrap (a+b))):=by simp[eZ]
theorem C3(k:IntKind)(a b:Nat)(hb:b≠0)(ha:(a:Int)≤k.max)(hk:k.signed=false):eZ .quo (.int k a) (.int k b)=some (.int k ((a / b:Nat):Int)):=by
 have h1:¬ (b:Int)=0:=by omega
 have h2:k.wrap (((a / b:Nat):Int))=((a / b:Nat):Int):=by
  have hq:=Nat.div_le_self a b;generalize a / b=q at hq ⊢;cases k <;> simp[IntKind.signed]at hk <;> simp[IntKind.max,IntKind.signed,IntKind.bits]at ha <;> simp only[IntKind.wrap,IntKind.signed,IntKind.bits] <;> simp <;> omega
 simp only[eZ];rw[if_pos trivial,if_neg h1];have:(a:Int).tdiv (b:Int)=((a / b:Nat):Int):=by rw[Int.tdiv_eq_ediv_of_nonneg (by omega)];rfl
 rw[this,h2]
theorem AM(k:IntKind)(a b:Nat)(hb:b≠0):eZ .rem (.int k a) (.int k b)=some (.int k ((a % b:Nat):Int)):=by
 have h1:¬ (b:Int)=0:=by omega
 simp only[eZ];rw[if_pos trivial,if_neg h1];have:(a:Int).tmod (b:Int)=((a % b:Nat):Int):=by rw[Int.tmod_eq_emod_of_nonneg (by omega)];rfl
 rw[this]
theorem fo{P:Program}{f:FuncId}{args:Array Value}{h:H}{M:H→Prop}{R:Value→H→Prop}(hE:gL P f)(hg:ez h M)(hc:∀ h',M h'→ee P f args h' R):ee P f args h R :=
 ⟨hE,fun β w hs=>by
  obtain⟨h1,m,s1,t1,d1,r1⟩:=hg β w hs
  exact((hc h1 m).2 β w s1).mono fun _ _ ⟨v,h2,a,⟨b1,b2⟩,c,d,r⟩=>⟨v,h2,a,⟨b1.trans d1,r1.trans b2⟩,c,t1.trans d,r⟩⟩
theorem SB.nil{G:Nat→Option Obj}:SB G (.slice none 0 0) []:=⟨none,0,rfl,Nat.le_refl _,Nat.zero_le _,fun i x hx=>by simp at hx⟩
theorem Db(l:List UInt8)(v:Value)(G:Nat→Option Obj)(hl:SB G v l)(hb:l.length≤1000000):
  FnO Tryz.prog 176 #[v] G [] (fun _ L' r=>qD l L' r):=by
 refine F176.fnO (by simp) dt (dF ?_);unfold c176;intros;refine gr 0 0 ?_;refine sJ c176r0.eq_1 ?_;intros;refine gr 3 5 ?_;refine sJ c176r1.eq_1 ?_;refine l5 (.inr ⟨⟨none,rfl⟩,rfl,rfl,rfl,rfl⟩) hl rfl UE1 (by unfold maxLen;omega) fun ys A c hc=>?_
 simp only[Nat.zero_add];refine sI ?_
 (intros;try refine du ?_)
 refine dC (dG _ rfl (List.Sublist.refl _) (dw dt) ?_);exact⟨ys,hc,rfl⟩
theorem oL(l:List UInt8)(v:Value)(G:Nat→Option Obj)(hl:SB G v l)(hb:l.length≤1000000):
  FnO Tryz.prog 194 #[v] G [] (fun _ L' r=>qD l L' r):=by
 refine F194.fnO (by simp) dt (dF ?_);have hl0:=hl;obtain⟨A,c,rfl,hc,hm,hA⟩:=hl;unfold c194;intros;refine gr 0 0 ?_;refine sJ c194r0.eq_1 ?_;intros;refine gr 3 4 ?_;refine sJ c194r1.eq_1 ?_;intros;refine gc ?_;refine sI ?_;refine gb (fun ht=>?_) (fun ht=>?_)
 ·intros;refine gr 0 0 ?_;refine sJ c194r2.eq_1 ?_
  (intros;try refine du ?_)
  have hA0:l=[]:=by
   match l,hA with
   | [],_=>rfl
   | x :: xs,hA=>obtain⟨a,_,ha,_⟩:=hA 0 x rfl;subst ha;cases ht
  subst hA0;refine dx (dR none 5 1) ?_;refine dC (dG _ rfl (List.Sublist.refl _) (dw dt) ?_);exact⟨[],.nil,rfl⟩
 ·intros;refine gr 5 8 ?_;refine sJ c194r3.eq_1 ?_;intro b hb';refine l5 (.inr ⟨⟨_,rfl⟩,rfl,rfl,rfl,rfl⟩) hl0 rfl UE1 (by unfold maxLen;omega) fun ys A c hc=>?_
  simp only[Nat.zero_add];refine sI ?_
  (intros;try refine du ?_)
  refine dC (dG _ rfl (List.Sublist.refl _) (dw dt) ?_);exact⟨ys,hc,rfl⟩
theorem F200:Fun Tryz.prog 200 31 v200 c200 o200:=Fun.mk' Tryz.func200 Tryz.ntmps200 (by kernel_rfl) (by kernel_rfl) s200 q200
theorem F162:Fun Tryz.prog 162 36 v162 c162 o162:=Fun.mk' Tryz.func162 Tryz.ntmps162 (by kernel_rfl) (by kernel_rfl) s162 q162
def zig(n:Int):Nat:=if 0≤n then(2 * n).toNat else(-2 * n - 1).toNat
def nX:Nat→Nat→List UInt8
 | 0,z=>[UInt8.ofNat z]
 | f+1,z=>if z < 128 then[UInt8.ofNat z]else UInt8.ofNat (128+z % 128) :: nX f (z / 128)
def pvB(n:Int):List UInt8:=nX 9 (zig n)
theorem nV:∀ f z,(nX f z).length≤f+1∧1≤(nX f z).length
 | 0,z=>by simp[nX]
 | f+1,z=>by
  unfold nX;split
  ·simp
  ·have:=nV f (z / 128);simp;omega
theorem gw(n:Int):(pvB n).length≤10:=(nV 9 _).1
theorem py{n:Int}(h:I64 n):zig n < 18446744073709551616:=by
 unfold zig I64 at *;split <;> omega
theorem rD{f z:Nat}(h:z < 128):nX f z=[UInt8.ofNat z]:=by
 cases f with
 | zero=>rfl
 | succ f=>exact if_pos h
def Ck(p:List UInt8)(z0:Nat)(zs:List UInt8)(z:Nat):Prop:=∃ f,f≤9∧zs.length+f=p.length+9∧z < 2 * 128 ^ f∧zs++nX f z=p++nX 9 z0
theorem o7(p:List UInt8){z0:Nat}(h:z0 < 18446744073709551616):Ck p z0 p z0:=⟨9,Nat.le_refl _,rfl,by omega,rfl⟩
theorem rQ{p zs:List UInt8}{z0 z:Nat}(h:Ck p z0 zs z)(hz:z < 128):zs++[UInt8.ofNat z]=p++nX 9 z0:=by
 obtain⟨f,_,_,_,h⟩:=h;rw[← h,rD hz]
theorem po{p zs:List UInt8}{z0 z:Nat}(h:Ck p z0 zs z)(hz:¬ z < 128):Ck p z0 (zs++[UInt8.ofNat (128+z % 128)]) (z / 128):=by
 obtain⟨f,h1,h2,h3,h4⟩:=h;cases f with
 | zero=>simp at h3;omega
 | succ f =>
  refine⟨f,by omega,by simp;omega,by rw[Nat.pow_succ]at h3;omega,?_⟩;rw[← h4,nX,if_neg hz];simp
theorem sM{p zs:List UInt8}{z0 z:Nat}(h:Ck p z0 zs z):zs.length≤p.length+9:=by
 obtain⟨f,h1,h2,_⟩:=h;omega
theorem DX(z:Nat):eZ .or (.int .u8 (IntKind.u8.wrap (z:Int))) (.int .u8 128)=some (.int .u8 ((UInt8.ofNat (128+z % 128)).toNat:Int)):=by
 have key:∀ b:Fin 256,(BitVec.ofInt 8 ((b.val:Nat):Int) ||| BitVec.ofInt 8 128).toNat=128+b.val % 128:=by decide +kernel
 have h1:IntKind.u8.wrap (z:Int)=((z % 256:Nat):Int):=by rw[IntKind.wrap_u8];omega
 have h2:=key ⟨z % 256,Nat.mod_lt _ (by omega)⟩;rw[h1];simp only[eZ];rw[if_pos trivial];have h3:(BitVec.ofInt IntKind.u8.bits ((z % 256:Nat):Int) ||| BitVec.ofInt IntKind.u8.bits 128).toNat=128+z % 128:=by
  refine h2.trans ?_;dsimp only;omega
 rw[h3];simp[IntKind.wrap_u8]
theorem sT(z:Nat):IntKind.u8.wrap (z:Int)=((UInt8.ofNat z).toNat:Int):=by
 rw[IntKind.wrap_u8];simp
theorem HH(z:Nat):eZ .shr (.int .u64 (z:Int)) (.int .u64 7)=some (.int .u64 ((z / 128:Nat):Int)):=by
 simp[eZ,IntKind.bits];rw[Int.fdiv_eq_ediv_of_nonneg _ (by omega)]
theorem Hu(n:Int):eZ .shl (.int .u64 (IntKind.u64.wrap n)) (.int .u64 1)=some (.int .u64 (IntKind.u64.wrap (IntKind.u64.wrap n * 2))):=by
 simp[eZ,IntKind.bits]
def sgn(n:Int):Int:=if 0≤n then 0 else -1
theorem Ff{n:Int}(h:I64 n):eZ .shr (.int .i64 n) (.int .u64 63)=some (.int .i64 (sgn n)):=by
 have h1:n.fdiv 9223372036854775808=sgn n:=by
  rw[Int.fdiv_eq_ediv_of_nonneg _ (by omega)];unfold sgn I64 at *;split <;> omega
 simp[eZ,IntKind.bits,h1]
theorem Cg{n:Int}(h:I64 n):eZ .xor (.int .u64 (IntKind.u64.wrap (IntKind.u64.wrap n * 2))) (.int .u64 (IntKind.u64.wrap (sgn n)))=some (.int .u64 (zig n:Int)):=by
 have hz:=py h;have key:(BitVec.ofInt 64 (IntKind.u64.wrap (IntKind.u64.wrap n * 2)) ^^^ BitVec.ofInt 64 (IntKind.u64.wrap (sgn n))).toNat=zig n:=by
  unfold I64 at h;by_cases h0:0≤n
  ·have e1:IntKind.u64.wrap (IntKind.u64.wrap n * 2)=2 * n:=by rw[IntKind.wrap_u64,IntKind.wrap_u64];omega
   have e2:IntKind.u64.wrap (sgn n)=0:=by rw[sgn,if_pos h0];rfl
   rw[e1,e2];have:BitVec.ofInt 64 0=0#64:=rfl;rw[this,BitVec.xor_zero,BitVec.toNat_ofInt];simp[zig,h0];omega
  ·have e1:IntKind.u64.wrap (IntKind.u64.wrap n * 2)=(2 * n) % 18446744073709551616:=by rw[IntKind.wrap_u64,IntKind.wrap_u64];omega
   have e2:IntKind.u64.wrap (sgn n)=18446744073709551615:=by rw[sgn,if_neg h0];rfl
   rw[e1,e2];have:BitVec.ofInt 64 18446744073709551615=BitVec.allOnes 64:=by decide
   rw[this,BitVec.xor_allOnes,BitVec.toNat_not,BitVec.toNat_ofInt];simp[zig,h0];omega
 simp only[eZ];rw[if_pos trivial];have e3:(BitVec.ofInt IntKind.u64.bits (IntKind.u64.wrap (IntKind.u64.wrap n * 2)) ^^^ BitVec.ofInt IntKind.u64.bits (IntKind.u64.wrap (sgn n))).toNat=zig n:=key;rw[e3,IntKind.wrap_u64];congr 2;omega
theorem i9(l:List UInt8)(n:Int)(hn:I64 n)(v:Value)(G:Nat→Option Obj)(hl:SB G v l)(hb:l.length≤100000):
  FnO Tryz.prog 200 #[v,.int .i64 n] G [] (fun _ L' r=>qD (l++pvB n) L' r):=by
 refine F200.fnO (by simp) dt (dF ?_);have hl0:=hl;obtain⟨A,c,rfl,hc,hm,hA⟩:=hl;unfold c200;intros;refine gr 0 0 ?_;refine sJ c200r0.eq_1 ?_;intros;refine gr 7 14 ?_;(refine sJ4 c200r1.eq_1 @Hu (Ff hn) (Cg hn) ?_);intros;refine gr 14 16 ?_;refine sJ c200r2.eq_1 ?_;refine(oL l _ G hl0 (by omega) _ []).mono ?_;rintro r h' ⟨G1,L',rfl,hg1,ys,hys,rfl⟩;refine sI ?_
 (intros;try refine du ?_)
 refine dW (fun e h=>∃ (z:Nat) (zs:List UInt8) (zc:List Value) (u:Value),(Ck l (zig n) zs z∧Cells UE 1 zs zc)∧e 5=.int .u64 (z:Int)∧e 6=u∧h.G=G1∧h.D=[]∧[Item.row u 5 1 zs.length zc].Sublist h.L) (fun e h=>iv (e 5)) ?_ ?_
 ·exact⟨zig n,l,ys,_,⟨o7 l (py hn),hys⟩,eE,eE,rfl,rfl,List.Sublist.refl _⟩
 ·rintro e ⟨G',L,D⟩ ⟨z,zs,zc,u,⟨hp,hcs⟩,e5,e6,hG,hD,hL⟩;dsimp only at hG hD hL;subst hG hD;refine dx (dD hL) ?_;refine dz [5,6] ?_;refine sJ2 @e5 @e6 ?_;have hlen:=sM hp;intros;refine gr 16 17 ?_;refine sJ c200r3.eq_1 ?_;intros;refine gc ?_;refine sI ?_;refine gb (fun ht=>?_) (fun ht=>?_)
  ·have hz:¬ z < 128:=by simp at ht;omega
   intros;refine gr 20 26 ?_;refine sJ2 c200r4.eq_1 @DX ?_;intro bk hbk;refine xO (L1:=[]) (L2:=[]) rfl rfl hcs (by omega) fun A' c' zc' hzc=>?_
   refine sI ?_;intros;refine gr 18 20 ?_;refine sJ2 c200r5.eq_1 @HH ?_
   (intros;try refine du ?_)
   refine eh ⟨⟨z / 128,_,zc',_,⟨po hp hz,hzc⟩,eE,eE,rfl,rfl,.cons _ (List.Sublist.refl _)⟩,?_⟩;refine sI ?_;simp[iv];omega
  ·have hz:z < 128:=by simp at ht;omega
   refine dT ?_;refine sI ?_;intros;refine gr 26 31 ?_;refine sJ2 c200r6.eq_1 @sT ?_;intro bk hbk;refine xO (L1:=[]) (L2:=[]) rfl rfl hcs (by omega) fun A' c' zc' hzc=>?_
   refine sI ?_
   (intros;try refine du ?_)
   rw[rQ hp hz]at hzc ⊢;refine dC (dG _ rfl (.cons _ (List.Sublist.refl _)) (dw dt) ?_);exact⟨zc',hzc,rfl⟩
theorem lx(l:List UInt8)(n:Int)(hn:I64 n)(v:Value)(G:Nat→Option Obj)(hl:SB G v l)(hb:l.length≤100000):
  FnO Tryz.prog 162 #[v,.int .i64 n] G [] (fun _ L' r=>qD (l++pvB n) L' r):=by
 refine F162.fnO (by simp) dt (dF ?_);have hl0:=hl;have hn0:=hn;unfold I64 at hn;obtain⟨A,c,rfl,hc,hm,hA⟩:=hl;unfold c162;intros;refine gr 0 0 ?_;refine sJ c162r0.eq_1 ?_;intros;refine gr 7 10 ?_;refine sJ2 c162r1.eq_1 @ve ?_
 have hrest:∀ (e:Env),e 0=.slice A l.length c→e 5=.int .u64 (zig n:Int)→go none Tryz.prog 36 v162.1 v162.2 (fW o162 fun v h=>qD (l++pvB n) h.L v) [Td.s ((SC.reg false c162r4).seq ((SC.blk 0 (((SC.reg false c162r5).seq (SC.cond (O.t 21) SC.skip (SC.exit 0))).seq (SC.blk 1 ((SC.reg false c162r6).seq (SC.reg false c162r7)))).loop).seq ((SC.reg false c162r8).seq SC.ret)))] e ⟨G,[],[]⟩:=fun e e0 e5=>by
  refine dz [0,5] ?_;refine sJ2 @e0 @e5 ?_;intros;refine gr 18 20 ?_;refine sJ c162r4.eq_1 ?_;refine(Db l _ G hl0 (by omega) _ []).mono ?_;rintro r h' ⟨G1,L',rfl,hg1,ys,hys,rfl⟩;refine sI ?_
  (intros;try refine du ?_)
  refine dW (fun e h=>∃ (z:Nat) (zs:List UInt8) (zc:List Value) (u:Value),(Ck l (zig n) zs z∧Cells UE 1 zs zc∧z < 18446744073709551616)∧e 5=.int .u64 (z:Int)∧e 6=u∧h.G=G1∧h.D=[]∧[Item.row u 5 1 zs.length zc].Sublist h.L) (fun e h=>iv (e 5)) ?_ ?_
  ·exact⟨zig n,l,ys,_,⟨o7 l (py hn0),hys,py hn0⟩,eE,eE,rfl,rfl,List.Sublist.refl _⟩
  ·rintro e ⟨G',L,D⟩ ⟨z,zs,zc,u,⟨hp,hcs,hzb⟩,e5,e6,hG,hD,hL⟩;dsimp only at hG hD hL;subst hG hD;refine dx (dD hL) ?_;refine dz [5,6] ?_;refine sJ2 @e5 @e6 ?_;have hlen:=sM hp;intros;refine gr 20 21 ?_;refine sJ c162r5.eq_1 ?_;intros;refine gc ?_;refine sI ?_;refine gb (fun ht=>?_) (fun ht=>?_)
   ·have hz:¬ z < 128:=by simp at ht;omega
    have hpm:=po hp hz;have hdz:z / 128 < z:=by omega
    have hq:eZ .quo (.int .u64 (z:Int)) (.int .u64 128)=some (.int .u64 ((z / 128:Nat):Int)):=C3 .u64 z 128 (by decide) (by simp[IntKind.max,IntKind.signed,IntKind.bits];omega) rfl;generalize z / 128=q at hq hpm hdz;have hr:eZ .rem (.int .u64 (z:Int)) (.int .u64 128)=some (.int .u64 ((z:Int) % 128)):=AM .u64 z 128 (by decide)
    have hw:IntKind.u8.wrap (IntKind.u64.wrap (128+(z:Int) % 128))=((UInt8.ofNat (128+z % 128)).toNat:Int):=by
     rw[← sT,IntKind.wrap_u64];congr 1;omega
    intros;refine gr 22 29 ?_;refine sJ3 c162r6.eq_1 @hr @vN ?_;intro bk hbk;refine xO (L1:=[]) (L2:=[]) rfl hw hcs (by omega) fun A' c' zc' hzc=>?_
    refine sI ?_;intros;refine gr 29 31 ?_;refine sJ2 c162r7.eq_1 @hq ?_
    (intros;try refine du ?_)
    refine eh ⟨⟨q,_,zc',_,⟨hpm,hzc,by omega⟩,eE,eE,rfl,rfl,.cons _ (List.Sublist.refl _)⟩,?_⟩;refine sI ?_;omega
   ·have hz:z < 128:=by simp at ht;omega
    refine dT ?_;refine sI ?_;intros;refine gr 31 36 ?_;refine sJ2 c162r8.eq_1 @sT ?_;intro bk hbk;refine xO (L1:=[]) (L2:=[]) rfl rfl hcs (by omega) fun A' c' zc' hzc=>?_
    refine sI ?_
    (intros;try refine du ?_)
    rw[rQ hp hz]at hzc ⊢;refine dC (dG _ rfl (.cons _ (List.Sublist.refl _)) (dw dt) ?_);exact⟨zc',hzc,rfl⟩
 intros;refine gr 10 11 ?_;refine sJ c162r2.eq_1 ?_;intros;refine gc ?_;refine sI ?_;refine gb (fun ht=>?_) (fun ht=>?_)
 ·have hz:IntKind.u64.wrap (IntKind.u64.wrap (2 * IntKind.u64.wrap (IntKind.i64.wrap (0 - IntKind.i64.wrap (n+1))))+1)=(zig n:Int):=by
   have h0:n < 0:=by simpa using ht
   have e1:IntKind.i64.wrap (n+1)=n+1:=by rw[dU] <;> omega
   have e2:IntKind.i64.wrap (0 - (n+1))=0 - (n+1):=by rw[dU] <;> omega
   rw[e1,e2];simp only[IntKind.wrap_u64,zig,if_neg (show ¬ 0≤n by omega)];omega
  intros;refine gr 12 18 ?_;refine sJ4 c162r3.eq_1 @ve @vN @hz ?_;intro _
  (repeat first | refine ef ?_ | refine jS ?_)
  refine hrest _ ?_ ?_ <;> (refine sI ?_;try with_reducible exact True.intro)
 ·have hz:IntKind.u64.wrap (2 * IntKind.u64.wrap n)=(zig n:Int):=by
   have h0:¬ n < 0:=by simpa using ht
   simp only[IntKind.wrap_u64,zig,if_pos (show 0≤n by omega)];omega
  (repeat first | refine ef ?_ | refine jS ?_)
  refine hrest _ ?_ ?_ <;> (refine sJ @hz ?_;try with_reducible exact True.intro)
theorem F215:Fun Tryz.prog 215 9 v215 c215 o215:=Fun.mk' Tryz.func215 Tryz.ntmps215 (by kernel_rfl) (by kernel_rfl) s215 q215
theorem F184:Fun Tryz.prog 184 9 v184 c184 o184:=Fun.mk' Tryz.func184 Tryz.ntmps184 (by kernel_rfl) (by kernel_rfl) s184 q184
theorem F216:Fun Tryz.prog 216 11 v216 c216 o216:=Fun.mk' Tryz.func216 Tryz.ntmps216 (by kernel_rfl) (by kernel_rfl) s216 q216
theorem F185:Fun Tryz.prog 185 11 v185 c185 o185:=Fun.mk' Tryz.func185 Tryz.ntmps185 (by kernel_rfl) (by kernel_rfl) s185 q185
theorem F199:Fun Tryz.prog 199 33 v199 c199 o199:=Fun.mk' Tryz.func199 Tryz.ntmps199 (by kernel_rfl) (by kernel_rfl) s199 q199
theorem F161:Fun Tryz.prog 161 39 v161 c161 o161:=Fun.mk' Tryz.func161 Tryz.ntmps161 (by kernel_rfl) (by kernel_rfl) s161 q161
def inO(n:Int):Bool:=decide (0≤n) && decide (n≤1099511627776)
theorem tU(n:Int)(G:Nat→Option Obj):FnS Tryz.prog 215 #[.int .i64 n] G (.bool (inO n)):=by
 refine F215.fnS (by simp) (dF ?_);unfold c215;intros;refine gr 0 0 ?_;refine sJ c215r0.eq_1 ?_;intros;refine gr 3 9 ?_;refine sJ c215r1.eq_1 ?_;refine gd (fun h1=>?_) (fun h1=>?_)
 ·refine sI ?_;intros;refine rV ?_;simp only[push_cast,Nat.reduceBEq];have:0≤n:=by simpa using h1
  simp[inO,this]
 ·refine sI ?_;intros;refine rV ?_;simp only[push_cast,Nat.reduceBEq];have:¬ 0≤n:=by simpa using h1
  simp[inO,this]
theorem ym(n:Int)(G:Nat→Option Obj):FnS Tryz.prog 184 #[.int .i64 n] G (.bool (inO n)):=by
 refine F184.fnS (by simp) (dF ?_);unfold c184;intros;refine gr 0 0 ?_;refine sJ c184r0.eq_1 ?_;intros;refine gr 3 9 ?_;refine sJ c184r1.eq_1 ?_;refine gd (fun h1=>?_) (fun h1=>?_)
 ·refine sI ?_;intros;refine rV ?_;simp only[push_cast,Nat.reduceBEq];have:0≤n:=by simpa using h1
  simp[inO,this]
 ·refine sI ?_;intros;refine rV ?_;simp only[push_cast,Nat.reduceBEq];have:¬ 0≤n:=by simpa using h1
  simp[inO,this]
def ptB(s:ByteArray):List UInt8:=pvB s.size++s.data.toList
theorem oe(s:ByteArray):(ptB s).length≤10+s.size:=by
 have:=gw s.size;simp[ptB];omega
theorem nD(l:List UInt8)(s:ByteArray)(v:Value)(G:Nat→Option Obj)(hl:SB G v l)(hb:l.length≤100000)(hs:s.size≤100000):
  FnO Tryz.prog 216 #[v,.string s] G [] (fun _ L' r=>qD (l++ptB s) L' r):=by
 refine F216.fnO (by simp) dt (dF ?_);unfold c216;intros;refine gr 0 0 ?_;refine sJ c216r0.eq_1 ?_;intros;refine gr 5 11 ?_;refine sJ c216r1.eq_1 ?_;refine(i9 l s.size (by unfold I64;omega) v G hl hb _ []).mono ?_;rintro r h' ⟨G1,L',rfl,hg1,ys,hys,rfl⟩;refine sI ?_;have hpl:=gw s.size;refine DH (L1:=[]) (.inl rfl) hys (by rw[List.length_append];omega) fun A' c' zc' hzc=>?_
 refine sI ?_
 (intros;try refine du ?_)
 refine dC (dG _ rfl (List.Sublist.refl _) (dw dt) ?_);rw[List.append_assoc]at hzc ⊢;exact⟨zc',hzc,rfl⟩
theorem mC(l:List UInt8)(s:ByteArray)(v:Value)(G:Nat→Option Obj)(hl:SB G v l)(hb:l.length≤100000)(hs:s.size≤100000):
  FnO Tryz.prog 185 #[v,.string s] G [] (fun _ L' r=>qD (l++ptB s) L' r):=by
 refine F185.fnO (by simp) dt (dF ?_);unfold c185;intros;refine gr 0 0 ?_;refine sJ c185r0.eq_1 ?_;intros;refine gr 5 11 ?_;refine sJ c185r1.eq_1 ?_;refine(lx l s.size (by unfold I64;omega) v G hl hb _ []).mono ?_;rintro r h' ⟨G1,L',rfl,hg1,ys,hys,rfl⟩;refine sI ?_;have hpl:=gw s.size;refine DH (L1:=[]) (.inl rfl) hys (by rw[List.length_append];omega) fun A' c' zc' hzc=>?_
 refine sI ?_
 (intros;try refine du ?_)
 refine dC (dG _ rfl (List.Sublist.refl _) (dw dt) ?_);rw[List.append_assoc]at hzc ⊢;exact⟨zc',hzc,rfl⟩
structure Rec where
 off:Int
 key:ByteArray
 val:ByteArray
 dead:Bool
 stamp:Int
def gV(x:Rec):List Value:=[.int .i64 x.off,.string x.key,.string x.val,.bool x.dead,.int .i64 x.stamp]
def RR(x:Rec)(cs:List Value):Prop:=cs=gV x∧(I64 x.off∧I64 x.stamp)∧x.key.size≤maxLen∧x.val.size≤maxLen
def isE(s:ByteArray):Bool:=s.toList == ByteArray.toList ⟨#[]⟩
def j9(x:Rec):Int:=if inO x.off=true∧inO x.stamp=true∧x.key.size≤64∧x.val.size≤64∧¬ (x.dead=true∧(isE x.key=true∨isE x.val=false))then 0 else 1
theorem vz(a:ByteArray):eZ .eql (.string a) (.string ⟨#[]⟩)=some (.bool (isE a)):=rfl
theorem xa(a:ByteArray):eZ .neq (.string a) (.string ⟨#[]⟩)=some (.bool (!isE a)):=rfl
theorem jC{x:Rec}(h:inO x.off=false∨inO x.stamp=false∨64 < x.key.size∨64 < x.val.size∨(x.dead=true∧(isE x.key=true∨isE x.val=false))):j9 x=1:=by
 refine if_neg fun⟨h1,h2,h3,h4,h5⟩=>?_
 rcases h with h | h | h | h | h
 ·rw[h1]at h;cases h
 ·rw[h2]at h;cases h
 ·omega
 ·omega
 ·exact h5 h
theorem vD(x:Rec)(G:Nat→Option Obj):FnS Tryz.prog 161 #[.agg (gV x).toArray] G (.int .i64 (j9 x)):=by
 refine F161.fnS (by simp) (dF ?_);unfold c161 gV;intros;refine gr 0 0 ?_;refine sJ c161r0.eq_1 ?_;have hbad:∀ (fr:List Td) (e:Env) (L:List Kx.Item),j9 x=1→go none Tryz.prog 39 v161.1 v161.2 (fW o161 fun v h=>v=.int .i64 (j9 x)) (Td.s ((SC.reg false c161r2).seq .ret) :: fr) e ⟨G,L,[]⟩:=fun fr e L hx=>by
  intros;refine gr 0 0 ?_;refine sJ c161r2.eq_1 ?_;intros;refine rV ?_;simp only[push_cast,Nat.reduceBEq];rw[hx]
 have hgood:∀ (e:Env) (L:List Kx.Item),j9 x=0→go none Tryz.prog 39 v161.1 v161.2 (fW o161 fun v h=>v=.int .i64 (j9 x)) [Td.s ((SC.reg false c161r3).seq .ret)] e ⟨G,L,[]⟩:=fun e L hx=>by
  intros;refine gr 0 0 ?_;refine sJ c161r3.eq_1 ?_;intros;refine rV ?_;simp only[push_cast,Nat.reduceBEq];rw[hx]
 intros;refine gr 4 38 ?_;refine sJ c161r1.eq_1 ?_;refine(ym x.off G _ _).mono ?_;rintro _ _ ⟨rfl,rfl⟩;refine sI ?_;refine gd (fun h1=>?_) (fun h1=>?_)
 ·refine sI ?_;intros;refine gc ?_;refine sI ?_;exact hbad _ _ _ (jC (.inl (by simpa using h1)))
 refine sI ?_;refine(ym x.stamp G _ _).mono ?_;rintro _ _ ⟨rfl,rfl⟩;refine sI ?_;refine gd (fun h2=>?_) (fun h2=>?_)
 ·refine sI ?_;intros;refine gc ?_;refine sI ?_;exact hbad _ _ _ (jC (.inr (.inl (by simpa using h2))))
 refine sI ?_;refine gd (fun h3=>?_) (fun h3=>?_)
 ·refine sI ?_;intros;refine gc ?_;refine sI ?_;exact hbad _ _ _ (jC (.inr (.inr (.inl (by simp at h3;omega)))))
 refine sI ?_;refine gd (fun h4=>?_) (fun h4=>?_)
 ·refine sI ?_;intros;refine gc ?_;refine sI ?_;exact hbad _ _ _ (jC (.inr (.inr (.inr (.inl (by simp at h4;omega))))))
 refine sI ?_;have h1':inO x.off=true:=by simpa using h1
 have h2':inO x.stamp=true:=by simpa using h2
 have h3':x.key.size≤64:=by simp at h3;omega
 have h4':x.val.size≤64:=by simp at h4;omega
 refine gd (fun h5=>?_) (fun h5=>?_)
 ·refine sJ @vz ?_;refine gd (fun h6=>?_) (fun h6=>?_)
  ·refine sI ?_;intros;refine gc ?_;refine sI ?_;exact hbad _ _ _ (jC (.inr (.inr (.inr (.inr ⟨h5,.inl h6⟩)))))
  refine sJ @xa ?_;intros;refine gc ?_;refine sI ?_;refine gb (fun h7=>?_) (fun h7=>?_)
  ·exact hbad _ _ _ (jC (.inr (.inr (.inr (.inr ⟨h5,.inr (by simpa using h7)⟩)))))
  ·(repeat first | refine ef ?_ | refine jS ?_)
   refine hgood _ _ (if_pos ⟨h1',h2',h3',h4',fun h=>?_⟩);rcases h.2 with h | h
   ·rw[h6]at h;cases h
   ·simp[h]at h7
 ·refine sI ?_;intros;refine gc ?_;refine sI ?_
  (repeat first | refine ef ?_ | refine jS ?_)
  exact hgood _ _ (if_pos ⟨h1',h2',h3',h4',fun h=>by rw[h5]at h;cases h.1⟩)
theorem nW(x:Rec)(G:Nat→Option Obj):FnS Tryz.prog 199 #[.agg (gV x).toArray] G (.int .i64 (j9 x)):=by
 refine F199.fnS (by simp) (dF ?_);unfold c199 gV;intros;refine gr 0 0 ?_;refine sJ c199r0.eq_1 ?_;have hbad:∀ (fr:List Td) (e:Env) (L:List Kx.Item),j9 x=1→go none Tryz.prog 33 v199.1 v199.2 (fW o199 fun v h=>v=.int .i64 (j9 x)) (Td.s ((SC.reg false c199r4).seq .ret) :: fr) e ⟨G,L,[]⟩:=fun fr e L hx=>by
  intros;refine gr 0 0 ?_;refine sJ c199r4.eq_1 ?_;intros;refine rV ?_;simp only[push_cast,Nat.reduceBEq];rw[hx]
 intros;refine gr 5 8 ?_;refine sJ c199r1.eq_1 ?_;refine(tU x.off G _ _).mono ?_;rintro _ _ ⟨rfl,rfl⟩;refine sI ?_;intros;refine gc ?_;refine sI ?_;refine gb (fun h1=>?_) (fun h1=>?_)
 ·(repeat first | refine ef ?_ | refine jS ?_)
  intros;refine gc ?_;refine sI ?_;refine gb (fun _=>?_) (fun h=>by rw[h1]at h;cases h);exact hbad _ _ _ (jC (.inl (by simpa using h1)))
 intros;refine gr 9 12 ?_;refine sJ c199r2.eq_1 ?_;refine(tU x.stamp G _ _).mono ?_;rintro _ _ ⟨rfl,rfl⟩;refine sI ?_;intros;refine gc ?_;refine sI ?_;refine gb (fun h2=>?_) (fun h2=>?_)
 ·(repeat first | refine ef ?_ | refine jS ?_)
  intros;refine gc ?_;refine sI ?_;refine gb (fun _=>?_) (fun h=>by rw[h2]at h;cases h);exact hbad _ _ _ (jC (.inr (.inl (by simpa using h2))))
 have h1':inO x.off=true:=by simpa using h1
 have h2':inO x.stamp=true:=by simpa using h2
 intros;refine gr 13 20 ?_;refine sJ c199r3.eq_1 ?_;intros;refine gc ?_;refine sI ?_;refine gb (fun h3=>?_) (fun h3=>?_)
 ·have h3:=of_decide_eq_true h3;by_cases h4:64 < x.key.size
  ·exact hbad _ _ _ (jC (.inr (.inr (.inl h4))))
  ·exact hbad _ _ _ (jC (.inr (.inr (.inr (.inl (by omega))))))
 have h3:=of_decide_eq_false h3;have h3':x.key.size≤64:=by omega
 have h4':x.val.size≤64:=by omega
 have hbad2:∀ (fr:List Td) (e:Env) (L:List Kx.Item),j9 x=1→go none Tryz.prog 33 v199.1 v199.2 (fW o199 fun v h=>v=.int .i64 (j9 x)) (Td.s ((SC.reg false c199r6).seq .ret) :: fr) e ⟨G,L,[]⟩:=fun fr e L hx=>by
  intros;refine gr 0 0 ?_;refine sJ c199r6.eq_1 ?_;intros;refine rV ?_;simp only[push_cast,Nat.reduceBEq];rw[hx]
 have hgood:∀ (e:Env) (L:List Kx.Item),j9 x=0→go none Tryz.prog 33 v199.1 v199.2 (fW o199 fun v h=>v=.int .i64 (j9 x)) [Td.s ((SC.reg false c199r7).seq .ret)] e ⟨G,L,[]⟩:=fun e L hx=>by
  intros;refine gr 0 0 ?_;refine sJ c199r7.eq_1 ?_;intros;refine rV ?_;simp only[push_cast,Nat.reduceBEq];rw[hx]
 intros;refine gr 22 33 ?_;refine sJ c199r5.eq_1 ?_;refine gd (fun h5=>?_) (fun h5=>?_)
 ·refine sJ @vz ?_;refine gd (fun h6=>?_) (fun h6=>?_)
  ·refine sI ?_;intros;refine gc ?_;refine sI ?_;exact hbad2 _ _ _ (jC (.inr (.inr (.inr (.inr ⟨h5,.inl h6⟩)))))
  refine sJ @xa ?_;intros;refine gc ?_;refine sI ?_;refine gb (fun h7=>?_) (fun h7=>?_)
  ·exact hbad2 _ _ _ (jC (.inr (.inr (.inr (.inr ⟨h5,.inr (by simpa using h7)⟩)))))
  ·(repeat first | refine ef ?_ | refine jS ?_)
   refine hgood _ _ (if_pos ⟨h1',h2',h3',h4',fun h=>?_⟩);rcases h.2 with h | h
   ·rw[h6]at h;cases h
   ·simp[h]at h7
 ·refine sI ?_;intros;refine gc ?_;refine sI ?_
  (repeat first | refine ef ?_ | refine jS ?_)
  exact hgood _ _ (if_pos ⟨h1',h2',h3',h4',fun h=>by rw[h5]at h;cases h.1⟩)
theorem F201:Fun Tryz.prog 201 46 v201 c201 o201:=Fun.mk' Tryz.func201 Tryz.ntmps201 (by kernel_rfl) (by kernel_rfl) s201 q201
theorem F163:Fun Tryz.prog 163 50 v163 c163 o163:=Fun.mk' Tryz.func163 Tryz.ntmps163 (by kernel_rfl) (by kernel_rfl) s163 q163
def prB(x:Rec)(base stamp:Int):List UInt8:=pvB (x.off - base)++pvB (x.stamp - stamp)++[if x.dead=true then 1 else 0]++ptB x.key++ptB x.val
def nF(x:Rec)(base stamp:Int):List UInt8 × Int:=if j9 x≠0 then([],j9 x)else if ¬ (inO base=true∧inO stamp=true)then([],1)else(prB x base stamp,0)
def yu(p:List UInt8 × Int)(L':List Kx.Item)(r:Value):Prop:=∃ u,r=.tuple #[u,.int .i64 p.2]∧qD p.1 L' u
theorem fC{x:Rec}(h:j9 x=0):(inO x.off=true∧inO x.stamp=true)∧x.key.size≤64∧x.val.size≤64:=by
 by_cases h0:inO x.off=true∧inO x.stamp=true∧x.key.size≤64∧x.val.size≤64∧¬ (x.dead=true∧(isE x.key=true∨isE x.val=false))
 ·exact⟨⟨h0.1,h0.2.1⟩,h0.2.2.1,h0.2.2.2.1⟩
 ·rw[j9,if_neg h0]at h;cases h
theorem HR(x:Rec)(base stamp:Int)(G:Nat→Option Obj):FnO Tryz.prog 163 #[.agg (gV x).toArray,.int .i64 base,.int .i64 stamp] G [] (fun _ L' r=>yu (nF x base stamp) L' r):=by
 refine F163.fnO (by simp) dt (dF ?_);unfold c163;have hck:=vD x;unfold gV at hck ⊢;intros;refine gr 0 0 ?_;refine sJ c163r0.eq_1 ?_;intros;refine gr 10 12 ?_;refine sJ c163r1.eq_1 ?_;refine(hck G _ _).mono ?_;rintro _ _ ⟨rfl,rfl⟩;refine sI ?_;intros;refine gr 12 13 ?_;refine sJ c163r2.eq_1 ?_;intros;refine gc ?_;refine sI ?_;refine gb (fun h1=>?_) (fun h1=>?_)
 ·intros;refine gr 14 15 ?_;refine sJ c163r3.eq_1 ?_
  (intros;try refine du ?_)
  refine dx (dR none 5 1) ?_;refine dC (dG _ rfl (.cons_cons _ (List.nil_sublist _)) (dw dt) ?_);rw[nF,if_pos (by simpa using h1)];exact⟨_,rfl,[],.nil,rfl⟩
 have h1:j9 x=0:=by simpa using h1
 have hbad:∀ (fr:List Td) (e:Env) (L:List Kx.Item),nF x base stamp=([],1)→go none Tryz.prog 50 v163.1 v163.2 (fW o163 fun v h=>yu (nF x base stamp) h.L v) (Td.s ((SC.reg false c163r5).seq .ret) :: fr) e ⟨G,L,[]⟩:=fun fr e L hx=>by
  intros;refine gr 0 0 ?_;refine sJ c163r5.eq_1 ?_
  (intros;try refine du ?_)
  refine dx (dR none 5 1) ?_;refine dC (dG _ rfl (.cons_cons _ (List.nil_sublist _)) (dw dt) ?_);rw[hx];exact⟨_,rfl,[],.nil,rfl⟩
 have hpb:∀ (h:¬ (inO base=true∧inO stamp=true)),nF x base stamp=([],1):=fun h=>by rw[nF,if_neg (by simp[h1]),if_pos h]
 intros;refine gr 15 22 ?_;refine sJ c163r4.eq_1 ?_;refine(ym base G _ _).mono ?_;rintro _ _ ⟨rfl,rfl⟩;refine sI ?_;refine gd (fun h2=>?_) (fun h2=>?_)
 ·refine sI ?_;intros;refine gc ?_;refine sI ?_;exact hbad _ _ _ (hpb fun h=>by rw[h.1]at h2;cases h2)
 refine sI ?_;refine(ym stamp G _ _).mono ?_;rintro _ _ ⟨rfl,rfl⟩;refine sI ?_;intros;refine gc ?_;refine sI ?_;refine gb (fun h3=>?_) (fun h3=>?_)
 ·exact hbad _ _ _ (hpb fun h=>by rw[h.2]at h3;cases h3)
 have h2:inO base=true:=by simpa using h2
 have h3:inO stamp=true:=by simpa using h3
 obtain⟨⟨ho,hst⟩,hk,hv⟩:=fC h1;have hput:nF x base stamp=(prB x base stamp,0):=by rw[nF,if_neg (by simp[h1]),if_neg (by simp[h2,h3])]
 simp[inO]at h2 h3 ho hst;have w1:IntKind.i64.wrap (x.off - base)=x.off - base:=by rw[dU] <;> omega
 have w2:IntKind.i64.wrap (x.stamp - stamp)=x.stamp - stamp:=by rw[dU] <;> omega
 have i1:I64 (x.off - base):=by unfold I64;omega
 have i2:I64 (x.stamp - stamp):=by unfold I64;omega
 have l1:=gw (x.off - base);have l2:=gw (x.stamp - stamp)
 (repeat first | refine ef ?_ | refine jS ?_)
 intros;refine gr 24 28 ?_;refine sJ2 c163r6.eq_1 @w1 ?_;refine(lx [] (x.off - base) i1 _ G SB.nil (by simp) _ []).mono ?_;rintro r h' ⟨G1,L',rfl,hg1,ys,hys,rfl⟩;simp only[List.nil_append]at hys ⊢;refine sI ?_;intros;refine gr 28 34 ?_;refine sJ2 c163r7.eq_1 @w2 ?_;refine fo F162.enters (dQ [] _ (by decide) hys) ?_;rintro h' ⟨G2,rfl,hg2,hv2⟩
 refine(lx _ (x.stamp - stamp) i2 _ G2 hv2 (by omega) _ []).mono ?_;rintro r h' ⟨G3,L',rfl,hg3,ys3,hys3,rfl⟩;refine sI ?_;have hrest:∀ (e:Env) (L:List Kx.Item) (u:Value) (zc:List Value) (b:UInt8),b=(if x.dead=true then 1 else 0)→Cells UE 1 (pvB (x.off - base)++pvB (x.stamp - stamp)++[b]) zc→e 9=u →
   go none Tryz.prog 50 v163.1 v163.2 (fW o163 fun v h=>yu (nF x base stamp) h.L v) [Td.s ((SC.reg false c163r11).seq ((SC.reg false c163r12).seq .ret))] e ⟨G3,[.row u 5 1 (pvB (x.off - base)++pvB (x.stamp - stamp)++[b]).length zc,.reg 3 [.int .i64 x.off,.string x.key,.string x.val,.bool x.dead,.int .i64 x.stamp]],[]⟩:=fun e L u zc b hb hzc e9=>by
  refine dz [9] ?_;refine sJ @e9 ?_;intros;refine gr 42 46 ?_;refine sJ c163r11.eq_1 ?_;refine fo F185.enters (dQ [] _ (by decide) hzc) ?_;rintro h' ⟨G4,rfl,hg4,hv4⟩;refine(mC _ x.key _ G4 hv4 (by simp;omega) (by omega) _ []).mono ?_;rintro r h' ⟨G5,L',rfl,hg5,ys5,hys5,rfl⟩;refine sI ?_;have l3:=oe x.key;intros;refine gr 46 50 ?_;refine sJ c163r12.eq_1 ?_
  refine fo F185.enters (dQ [] _ (by decide) hys5) ?_;rintro h' ⟨G6,rfl,hg6,hv6⟩;refine(mC _ x.val _ G6 hv6 (by simp;omega) (by omega) _ []).mono ?_;rintro r h' ⟨G7,L',rfl,hg7,ys7,hys7,rfl⟩;refine sI ?_
  (intros;try refine du ?_)
  refine dC (dG _ rfl (.cons_cons _ (List.nil_sublist _)) (dw dt) ?_);rw[hput];subst hb;exact⟨_,rfl,ys7,hys7,rfl⟩
 intros;refine gr 0 0 ?_;refine sJ c163r8.eq_1 ?_;intros;refine gc ?_;refine sI ?_;refine gb (fun h5=>?_) (fun h5=>?_)
 ·intros;refine gr 36 39 ?_;refine sJ c163r9.eq_1 ?_;intro bk hbk;refine xO (L1:=[]) (L2:=[_]) (x:=1) rfl rfl hys3 (by simp;omega) fun A' c' zc' hzc=>?_
  refine sI ?_;intro _;refine dx (dD (.cons _ (List.Sublist.refl _))) ?_
  (repeat first | refine ef ?_ | refine jS ?_)
  refine hrest _ [] _ _ 1 (by rw[if_pos h5]) hzc ?_
  (refine sI ?_;try with_reducible exact True.intro)
 ·intros;refine gr 39 42 ?_;refine sJ c163r10.eq_1 ?_;intro bk hbk;refine xO (L1:=[]) (L2:=[_]) (x:=0) rfl rfl hys3 (by simp;omega) fun A' c' zc' hzc=>?_
  refine sI ?_;intro _;refine dx (dD (.cons _ (List.Sublist.refl _))) ?_
  (repeat first | refine ef ?_ | refine jS ?_)
  refine hrest _ [] _ _ 0 (by rw[if_neg (by rw[h5];simp)]) hzc ?_
  (refine sI ?_;try with_reducible exact True.intro)
theorem El(x:Rec)(base stamp:Int)(G:Nat→Option Obj):FnO Tryz.prog 201 #[.agg (gV x).toArray,.int .i64 base,.int .i64 stamp] G [] (fun _ L' r=>yu (nF x base stamp) L' r):=by
 refine F201.fnO (by simp) dt (dF ?_);unfold c201;have hck:=nW x;unfold gV at hck ⊢;intros;refine gr 0 0 ?_;refine sJ c201r0.eq_1 ?_;intros;refine gr 11 13 ?_;refine sJ c201r1.eq_1 ?_;refine(hck G _ _).mono ?_;rintro _ _ ⟨rfl,rfl⟩;refine sI ?_;intros;refine gr 13 14 ?_;refine sJ c201r2.eq_1 ?_;intros;refine gc ?_;refine sI ?_;refine gb (fun h1=>?_) (fun h1=>?_)
 ·intros;refine gr 15 16 ?_;refine sJ c201r3.eq_1 ?_
  (intros;try refine du ?_)
  refine dx (dR none 5 1) ?_;refine dC (dG _ rfl (.cons_cons _ (List.nil_sublist _)) (dw dt) ?_);rw[nF,if_pos (by simpa using h1)];exact⟨_,rfl,[],.nil,rfl⟩
 have h1:j9 x=0:=by simpa using h1
 have hbad:∀ (fr:List Td) (e:Env) (L:List Kx.Item),nF x base stamp=([],1)→go none Tryz.prog 46 v201.1 v201.2 (fW o201 fun v h=>yu (nF x base stamp) h.L v) (Td.s ((SC.reg false c201r5).seq .ret) :: fr) e ⟨G,L,[]⟩:=fun fr e L hx=>by
  intros;refine gr 0 0 ?_;refine sJ c201r5.eq_1 ?_
  (intros;try refine du ?_)
  refine dx (dR none 5 1) ?_;refine dC (dG _ rfl (.cons_cons _ (List.nil_sublist _)) (dw dt) ?_);rw[hx];exact⟨_,rfl,[],.nil,rfl⟩
 have hpb:∀ (h:¬ (inO base=true∧inO stamp=true)),nF x base stamp=([],1):=fun h=>by rw[nF,if_neg (by simp[h1]),if_pos h]
 (repeat first | refine ef ?_ | refine jS ?_)
 intros;refine gr 16 23 ?_;refine sJ c201r4.eq_1 ?_;refine(tU base G _ _).mono ?_;rintro _ _ ⟨rfl,rfl⟩;refine sI ?_;refine gd (fun h2=>?_) (fun h2=>?_)
 ·refine sI ?_;intros;refine gc ?_;refine sI ?_;exact hbad _ _ _ (hpb fun h=>by rw[h.1]at h2;cases h2)
 refine sI ?_;refine(tU stamp G _ _).mono ?_;rintro _ _ ⟨rfl,rfl⟩;refine sI ?_;intros;refine gc ?_;refine sI ?_;refine gb (fun h3=>?_) (fun h3=>?_)
 ·exact hbad _ _ _ (hpb fun h=>by rw[h.2]at h3;cases h3)
 have h2:inO base=true:=by simpa using h2
 have h3:inO stamp=true:=by simpa using h3
 obtain⟨⟨ho,hst⟩,hk,hv⟩:=fC h1;have hput:nF x base stamp=(prB x base stamp,0):=by rw[nF,if_neg (by simp[h1]),if_neg (by simp[h2,h3])]
 simp[inO]at h2 h3 ho hst;have w1:IntKind.i64.wrap (x.off - base)=x.off - base:=by rw[dU] <;> omega
 have w2:IntKind.i64.wrap (x.stamp - stamp)=x.stamp - stamp:=by rw[dU] <;> omega
 have i1:I64 (x.off - base):=by unfold I64;omega
 have i2:I64 (x.stamp - stamp):=by unfold I64;omega
 have l1:=gw (x.off - base);have l2:=gw (x.stamp - stamp)
 (repeat first | refine ef ?_ | refine jS ?_)
 have hrest:∀ (e:Env) (b:UInt8),b=(if x.dead=true then 1 else 0)→e 1=.int .i64 base→e 2=.int .i64 stamp→e 9=.int .u8 (b.toNat:Int) →
   go none Tryz.prog 46 v201.1 v201.2 (fW o201 fun v h=>yu (nF x base stamp) h.L v) [Td.s ((SC.rgX c201r9).seq ((SC.rgX c201r10).seq .ret))] e ⟨G,[.reg 3 [.int .i64 x.off,.string x.key,.string x.val,.bool x.dead,.int .i64 x.stamp]],[]⟩:=fun e b hb e1 e2 e9=>by
  refine dz [1,2,9] ?_;refine sJ3 @e1 @e2 @e9 ?_
  (intros;try refine du ?_);refine o3 _ (List.Sublist.refl _) (by decide) ?_;refine sJ3 c201r9.eq_1 @w1 @w2 ?_
  refine(i9 [] (x.off - base) i1 _ G SB.nil (by simp) _ []).mono ?_;rintro r h' ⟨G1,L',rfl,hg1,ys,hys,rfl⟩;simp only[List.nil_append]at hys ⊢;refine⟨dK hg1 (.cons _ (List.Sublist.refl _)),?_⟩;refine sI ?_;refine fo F200.enters (dQ [] _ (by decide) hys) ?_;rintro h' ⟨G2,rfl,hg2,hv2⟩;refine(i9 _ (x.stamp - stamp) i2 _ G2 hv2 (by omega) _ []).mono ?_;rintro r h' ⟨G3,L',rfl,hg3,ys3,hys3,rfl⟩
  refine⟨dK (hg1.trans (hg2.trans hg3)) (.cons _ (List.Sublist.refl _)),?_⟩;refine sI ?_
  (intros;try refine du ?_);refine o3 _ (.cons _ (List.Sublist.refl _)) (by decide) ?_;refine sJ c201r10.eq_1 ?_
  intro bk hbk;refine⟨dK (fun _ _ h=>h) (.cons _ (.cons _ (List.Sublist.refl _))),?_⟩;refine sI ?_;refine xO (L1:=[]) (L2:=[_]) (x:=b) rfl rfl hys3 (by simp;omega) fun A' c' zc' hzc=>?_
  refine sI ?_;refine⟨dK (fun _ _ h=>h) (.cons _ (.cons _ (List.Sublist.refl _))),?_⟩;refine sI ?_;refine fo F216.enters (dQ [_] _ (by decide) hzc) ?_;rintro h' ⟨G4,rfl,hg4,hv4⟩;refine(nD _ x.key _ G4 hv4 (by simp;omega) (by omega) _ []).mono ?_;rintro r h' ⟨G5,L',rfl,hg5,ys5,hys5,rfl⟩;refine⟨dK (hg4.trans hg5) (.cons _ (.cons _ (List.Sublist.refl _))),?_⟩;refine sI ?_;have l3:=oe x.key
  refine fo F216.enters (dQ [] _ (by decide) hys5) ?_;rintro h' ⟨G6,rfl,hg6,hv6⟩;refine(nD _ x.val _ G6 hv6 (by simp;omega) (by omega) _ []).mono ?_;rintro r h' ⟨G7,L',rfl,hg7,ys7,hys7,rfl⟩;refine⟨dK (hg4.trans (hg5.trans (hg6.trans hg7))) (.cons _ (.cons _ (List.Sublist.refl _))),?_⟩;refine sI ?_
  (intros;try refine du ?_)
  refine dC (dG _ rfl (.cons_cons _ (List.nil_sublist _)) (dw dt) ?_);rw[hput];subst hb;exact⟨_,rfl,ys7,hys7,rfl⟩
 intros;refine gr 0 0 ?_;refine sJ c201r6.eq_1 ?_;intros;refine gr 0 0 ?_;refine sJ c201r7.eq_1 ?_;intros;refine gc ?_;refine sI ?_;refine gb (fun h5=>?_) (fun h5=>?_)
 ·intros;refine gr 0 0 ?_;refine sJ c201r8.eq_1 ?_
  (repeat first | (with_reducible intro _) | refine ef ?_ | refine jS ?_)
  refine hrest _ 1 (by rw[if_pos h5]) ?_ ?_ ?_ <;> (refine sI ?_;try with_reducible exact True.intro);rfl
 ·(repeat first | refine ef ?_ | refine jS ?_)
  refine hrest _ 0 (by rw[if_neg (by rw[h5];simp)]) ?_ ?_ ?_ <;> (refine sI ?_;try with_reducible exact True.intro);rfl
theorem F117:Fun Tryz.prog 117 14 v117 c117 o117:=Fun.mk' Tryz.func117 Tryz.ntmps117 (by kernel_rfl) (by kernel_rfl) s117 q117
theorem F152:Fun Tryz.prog 152 25 v152 c152 o152:=Fun.mk' Tryz.func152 Tryz.ntmps152 (by kernel_rfl) (by kernel_rfl) s152 q152
theorem F153:Fun Tryz.prog 153 25 v153 c153 o153:=Fun.mk' Tryz.func153 Tryz.ntmps153 (by kernel_rfl) (by kernel_rfl) s153 q153
def IE(x:Int)(cs:List Value):Prop:=cs=[.int .i64 x]∧I64 x
def rng(m n:Int):Bool:=decide (0≤n) && decide (n≤m)
theorem Ea{l:List Int}{k:Nat}{x y:Int}(h0:l[0]?=some y)(hx:l[k]?=some x)(f:Int→Int→Int)(hk:0 < k):((l.drop 1).take k).foldl f y=f (((l.drop 1).take (k - 1)).foldl f y) x:=by
 have hl:=List.getElem?_eq_some_iff.1 hx;obtain⟨k,rfl⟩:∃ j,k=j+1:=⟨k - 1,by omega⟩;have h1:(l.drop 1)[k]?=some x:=by rw[List.getElem?_drop,Nat.add_comm];exact hx
 have h2:=List.getElem?_eq_some_iff.1 h1;rw[List.take_succ_eq_append_getElem h2.1,h2.2];simp
theorem Ev(l:List Int)(y:Int)(h0:l[0]?=some y)(v:Value)(G:Nat→Option Obj)(hl:SlV G IE 1 v l):FnS Tryz.prog 152 #[v] G (.int .i64 ((l.drop 1).foldl min y)):=by
 refine F152.fnS (by simp) (dF ?_);obtain⟨A,c,rfl,hc,hm,hA⟩:=hl;have hpos:=(List.getElem?_eq_some_iff.1 h0).1;unfold c152;intros;refine gr 0 0 ?_;refine sJ c152r0.eq_1 ?_;intros;refine gr 5 7 ?_;refine sJ c152r1.eq_1 ?_;intros;refine gc ?_;refine sI ?_;refine gb (fun h1=>by simp at h1;omega) (fun h1=>?_)
 (repeat first | refine ef ?_ | refine jS ?_)
 intros;refine gr 9 12 ?_;refine sJ c152r2.eq_1 ?_;refine hA.x_l1 h0 rfl rfl ?_;rintro a1 ha1 u1 ⟨hu,-⟩;cases hu;refine sI ?_;intros;refine gr 0 0 ?_;refine sJ c152r3.eq_1 ?_
 (intros;try refine du ?_)
 refine dW (fun e h=>∃ k:Nat,(0 < k∧k≤l.length)∧e 4=.int .i64 k∧e 0=.slice A l.length c∧e 3=.int .i64 (((l.drop 1).take (k - 1)).foldl min y)∧h=⟨G,[],[]⟩) (fun e h=>l.length - iv (e 4)) ?_ ?_
 ·exact⟨1,⟨by omega,by omega⟩,by refine sI ?_;rfl,eE,by refine sI ?_;rfl,rfl⟩
 ·rintro e h ⟨k,⟨hk0,hk⟩,e4,e0,e3,rfl⟩;refine dz [0,3,4] ?_;refine sJ3 @e0 @e3 @e4 ?_;intros;refine gr 12 15 ?_;refine sJ c152r4.eq_1 ?_;intros;refine gc ?_;refine sI ?_;refine gb (fun ht=>?_) (fun ht=>?_)
  ·have hkl:k < l.length:=by simpa using ht
   have hw3:=fz k c (by omega) hm;obtain⟨x,hx⟩:∃ x,l[k]?=some x:=⟨l[k],List.getElem?_eq_getElem (by omega)⟩
   (repeat first | refine ef ?_ | refine jS ?_)
   intros;refine gr 18 24 ?_;refine sJ c152r5.eq_1 ?_;refine hA.x_l1 hx rfl rfl ?_;rintro a1 ha1 u1 ⟨hu,-⟩;cases hu;refine sI ?_;intros;refine gr 16 18 ?_;refine sJ2 c152r6.eq_1 @hw3 ?_
   (intros;try refine du ?_)
   refine eh ⟨⟨k+1,⟨by omega,by omega⟩,eE,eE,by rw[Nat.add_sub_cancel,Ea h0 hx min hk0];(refine sI ?_;try with_reducible exact True.intro),rfl⟩,?_⟩;refine sI ?_;omega
  ·have hkl:k=l.length:=by simp at ht;omega
   subst hkl;refine dT ?_;refine sI ?_;intros;refine gr 24 25 ?_;refine sJ c152r7.eq_1 ?_;intros;refine rV ?_;simp only[push_cast,Nat.reduceBEq];rw[List.take_of_length_le (by simp)]
theorem Fi(l:List Int)(y:Int)(h0:l[0]?=some y)(v:Value)(G:Nat→Option Obj)(hl:SlV G IE 1 v l):FnS Tryz.prog 153 #[v] G (.int .i64 ((l.drop 1).foldl max y)):=by
 refine F153.fnS (by simp) (dF ?_);obtain⟨A,c,rfl,hc,hm,hA⟩:=hl;have hpos:=(List.getElem?_eq_some_iff.1 h0).1;unfold c153;intros;refine gr 0 0 ?_;refine sJ c153r0.eq_1 ?_;intros;refine gr 5 7 ?_;refine sJ c153r1.eq_1 ?_;intros;refine gc ?_;refine sI ?_;refine gb (fun h1=>by simp at h1;omega) (fun h1=>?_)
 (repeat first | refine ef ?_ | refine jS ?_)
 intros;refine gr 9 12 ?_;refine sJ c153r2.eq_1 ?_;refine hA.x_l1 h0 rfl rfl ?_;rintro a1 ha1 u1 ⟨hu,-⟩;cases hu;refine sI ?_;intros;refine gr 0 0 ?_;refine sJ c153r3.eq_1 ?_
 (intros;try refine du ?_)
 refine dW (fun e h=>∃ k:Nat,(0 < k∧k≤l.length)∧e 4=.int .i64 k∧e 0=.slice A l.length c∧e 3=.int .i64 (((l.drop 1).take (k - 1)).foldl max y)∧h=⟨G,[],[]⟩) (fun e h=>l.length - iv (e 4)) ?_ ?_
 ·exact⟨1,⟨by omega,by omega⟩,by refine sI ?_;rfl,eE,by refine sI ?_;rfl,rfl⟩
 ·rintro e h ⟨k,⟨hk0,hk⟩,e4,e0,e3,rfl⟩;refine dz [0,3,4] ?_;refine sJ3 @e0 @e3 @e4 ?_;intros;refine gr 12 15 ?_;refine sJ c153r4.eq_1 ?_;intros;refine gc ?_;refine sI ?_;refine gb (fun ht=>?_) (fun ht=>?_)
  ·have hkl:k < l.length:=by simpa using ht
   have hw3:=fz k c (by omega) hm;obtain⟨x,hx⟩:∃ x,l[k]?=some x:=⟨l[k],List.getElem?_eq_getElem (by omega)⟩
   (repeat first | refine ef ?_ | refine jS ?_)
   intros;refine gr 18 24 ?_;refine sJ c153r5.eq_1 ?_;refine hA.x_l1 hx rfl rfl ?_;rintro a1 ha1 u1 ⟨hu,-⟩;cases hu;refine sI ?_;intros;refine gr 16 18 ?_;refine sJ2 c153r6.eq_1 @hw3 ?_
   (intros;try refine du ?_)
   refine eh ⟨⟨k+1,⟨by omega,by omega⟩,eE,eE,by rw[Nat.add_sub_cancel,Ea h0 hx max hk0];(refine sI ?_;try with_reducible exact True.intro),rfl⟩,?_⟩;refine sI ?_;omega
  ·have hkl:k=l.length:=by simp at ht;omega
   subst hkl;refine dT ?_;refine sI ?_;intros;refine gr 24 25 ?_;refine sJ c153r7.eq_1 ?_;intros;refine rV ?_;simp only[push_cast,Nat.reduceBEq];rw[List.take_of_length_le (by simp)]
theorem vo(m:Int):∀ (l:List Int) (y:Int),m≤l.foldl min y↔m≤y∧∀ x∈l,m≤x
 | [],y=>by simp
 | x :: l,y=>by
  have h1:m≤min y x↔m≤y∧m≤x:=by omega
  rw[List.foldl_cons,vo m l,h1,and_assoc];simp
theorem uA(m:Int):∀ (l:List Int) (y:Int),l.foldl max y≤m↔y≤m∧∀ x∈l,x≤m
 | [],y=>by simp
 | x :: l,y=>by
  have h1:max y x≤m↔y≤m∧x≤m:=by omega
  rw[List.foldl_cons,uA m l,h1,and_assoc];simp
theorem tv(m:Int)(l:List Int)(y:Int):(decide (0≤l.foldl min y) && decide (l.foldl max y≤m))=(y :: l).all (rng m):=by
 rw[Bool.eq_iff_iff];simp only[Bool.and_eq_true,decide_eq_true_eq,vo,uA,List.all_eq_true,rng,List.mem_cons];constructor
 ·rintro⟨⟨h1,h2⟩,h3,h4⟩ x (rfl | hx)
  ·exact⟨h1,h3⟩
  ·exact⟨h2 x hx,h4 x hx⟩
 ·intro h;exact⟨⟨(h y (.inl rfl)).1,fun x hx=>(h x (.inr hx)).1⟩,(h y (.inl rfl)).2,fun x hx=>(h x (.inr hx)).2⟩
theorem wd(m:Int)(y:Int)(l:List Int)(v:Value)(G:Nat→Option Obj)(hl:SlV G IE 1 v (y :: l)):FnS Tryz.prog 117 #[.int .i64 m,v] G (.bool ((y :: l).all (rng m))):=by
 refine F117.fnS (by simp) (dF ?_);rw[← tv];unfold c117;intros;refine gr 0 0 ?_;refine sJ c117r0.eq_1 ?_;intros;refine gr 5 14 ?_;refine sJ c117r1.eq_1 ?_;refine(Ev (y :: l) y rfl v G hl _ _).mono ?_;rintro _ _ ⟨rfl,rfl⟩;refine sI ?_;refine gd (fun h1=>?_) (fun h1=>?_)
 ·refine sI ?_;refine(Fi (y :: l) y rfl v G hl _ _).mono ?_;rintro _ _ ⟨rfl,rfl⟩;refine sI ?_;intros;refine rV ?_;simp only[push_cast,Nat.reduceBEq];have h1:0≤l.foldl min y:=by simpa using h1
  simp[h1]
 ·refine sI ?_;intros;refine rV ?_;simp only[push_cast,Nat.reduceBEq];have h1:¬ 0≤l.foldl min y:=by simpa using h1
  simp[h1]
theorem F179:Fun Tryz.prog 179 131 v179 c179 o179:=Fun.mk' Tryz.func179 Tryz.ntmps179 (by kernel_rfl) (by kernel_rfl) s179 q179
structure Batch where
 base:Int
 last:Int
 src:Int
 epoch:Int
 pid:Int
 gen:Int
 seq:Int
 txn:Bool
 ctl:Int
 recs:List Rec
def eS(x:Batch)(v:Value):List Value:=[.int .i64 x.base,.int .i64 x.last,.int .i64 x.src,.int .i64 x.epoch,.int .i64 x.pid,.int .i64 x.gen,.int .i64 x.seq,.bool x.txn,.int .i64 x.ctl,v]
def BE(G:Nat→Option Obj)(x:Batch)(cs:List Value):Prop :=
 ∃ A c,cs=eS x (.slice A x.recs.length c)∧(x.recs.length≤c∧c≤maxLen∧SlA G RR 5 A x.recs)∧I64 x.base∧I64 x.last∧I64 x.src∧I64 x.epoch∧I64 x.pid∧I64 x.gen∧I64 x.seq∧I64 x.ctl
theorem BE.le{G G':Nat→Option Obj}(hg:Gle G G'){x:Batch}{cs:List Value}(h:BE G x cs):BE G' x cs:=by
 obtain⟨A,c,h1,⟨h2,h3,h4⟩,h5⟩:=h;exact⟨A,c,h1,⟨h2,h3,h4.le hg fun _ _ h=>h⟩,h5⟩
def yN(last:Int):Int→List Rec→Bool
 | _,[]=>true
 | next,r :: rs=>decide (j9 r=0) && decide (next≤r.off) && decide (r.off≤last) && yN last (r.off+1) rs
def kz(b:Batch):Prop :=
 (rng 1099511627776 b.base=true∧rng 1099511627776 b.last=true∧rng 1099511627776 b.src=true)∧(rng 1048576 b.epoch=true∧rng 1048576 b.gen=true∧rng 1048576 b.seq=true) ∧
  (b.base≤b.last∧b.last - b.base < 16∧b.src+(b.last - b.base)≤1099511627776∧b.seq+(b.last - b.base)≤1048576)∧(-1≤b.pid∧b.pid≤1099511627776)∧(b.pid=-1→b.gen=0∧b.seq=0∧b.txn=false∧b.ctl=0) ∧
  ((b.ctl=0∧yN b.last b.base b.recs=true)∨((b.ctl=1∨b.ctl=2)∧b.last - b.base=0∧b.recs=[]∧b.txn=true))
instance decForm (b:Batch):Decidable (kz b):=by
 unfold kz
 infer_instance
theorem lB(m:Int)(y:Int)(l:List Int)(v:Value)(n:Nat)(ys:List Value)(hc:Cells IE 1 (y :: l) ys)(G:Nat→Option Obj)(L:List Kx.Item)(D:List Nat):
  ee Tryz.prog 117 #[.int .i64 m,v] ⟨G,.row v 3 1 n ys :: L,D⟩ fun r h'=>r=.bool ((y :: l).all (rng m))∧h'=⟨G,.row v 3 1 n ys :: L,D⟩ :=
 DV (E:=IE) (xs:=y :: l) (R:=fun r=>r=.bool ((y :: l).all (rng m))) F117.enters (by decide) hc fun G' hg hx=>by
  have:=wd m y l v G' hx L D;simpa using this
theorem Ay{a b c:Int}(ha:I64 a)(hb:I64 b)(hc:I64 c):Cells IE 1 [a,b,c] [.int .i64 a,.int .i64 b,.int .i64 c] :=
 .cons (cs:=[.int .i64 a]) ⟨rfl,ha⟩ rfl (.cons (cs:=[.int .i64 b]) ⟨rfl,hb⟩ rfl (.one (cs:=[.int .i64 c]) ⟨rfl,hc⟩ rfl))
theorem xo(x:Batch)(cs:List Value)(G:Nat→Option Obj)(hx:BE G x cs):FnS Tryz.prog 179 #[.agg cs.toArray] G (.bool (decide (kz x))):=by
 obtain⟨A,c,rfl,⟨hc,hm,hA⟩,i1,i2,i3,i4,i5,i6,i7,i8⟩:=hx;refine F179.fnS (by simp) (dF ?_);unfold c179 eS;intros;refine gr 0 0 ?_;refine sJ c179r0.eq_1 ?_;have hbad:∀ (fr:List Td) (e:Env) (L:List Kx.Item),¬ kz x→go none Tryz.prog 131 v179.1 v179.2 (fW o179 fun v h=>v=.bool (decide (kz x))) (Td.s ((SC.reg false c179r2).seq .ret) :: fr) e ⟨G,L,[]⟩:=fun fr e L hx=>by
  intros;refine gr 0 0 ?_;refine sJ c179r2.eq_1 ?_;intros;refine rV ?_;simp only[push_cast,Nat.reduceBEq];rw[decide_eq_false hx]
 intros;refine gr 8 26 ?_;refine sJ c179r1.eq_1 ?_;intro b1 hb1;refine(lB 1099511627776 _ _ _ _ _ (Ay i1 i2 i3) _ _ _).mono ?_;rintro _ _ ⟨rfl,rfl⟩;refine sI ?_;refine gd (fun h1=>?_) (fun h1=>?_)
 ·refine sI ?_;intros;refine gc ?_;refine sI ?_;refine hbad _ _ _ fun h=>?_
  simp[h.1.1,h.1.2.1,h.1.2.2]at h1
 refine sI ?_;intro b2 hb2;refine(lB 1048576 _ _ _ _ _ (Ay i4 i6 i7) _ _ _).mono ?_;rintro _ _ ⟨rfl,rfl⟩;refine sI ?_;intros;refine gc ?_;refine sI ?_;refine gb (fun h2=>?_) (fun h2=>?_)
 ·refine hbad _ _ _ fun h=>?_
  simp[h.2.1.1,h.2.1.2.1,h.2.1.2.2]at h2
 have h1:rng 1099511627776 x.base=true∧rng 1099511627776 x.last=true∧rng 1099511627776 x.src=true:=by simpa using h1
 have h2:rng 1048576 x.epoch=true∧rng 1048576 x.gen=true∧rng 1048576 x.seq=true:=by simpa using h2
 have h1':=h1;have h2':=h2;simp[rng]at h1' h2';have w1:IntKind.i64.wrap (x.last - x.base)=x.last - x.base:=by rw[dU] <;> omega
 (repeat first | refine ef ?_ | refine jS ?_)
 intros;refine gr 28 32 ?_;refine sJ2 c179r3.eq_1 @w1 ?_;have hb5:∀ (fr:List Td) (e:Env) (L:List Kx.Item),¬ kz x→go none Tryz.prog 131 v179.1 v179.2 (fW o179 fun v h=>v=.bool (decide (kz x))) (Td.s ((SC.reg false c179r5).seq .ret) :: fr) e ⟨G,L,[]⟩:=fun fr e L hx=>by
  intros;refine gr 0 0 ?_;refine sJ c179r5.eq_1 ?_;intros;refine rV ?_;simp only[push_cast,Nat.reduceBEq];rw[decide_eq_false hx]
 have hb7:∀ (fr:List Td) (e:Env) (L:List Kx.Item),¬ kz x→go none Tryz.prog 131 v179.1 v179.2 (fW o179 fun v h=>v=.bool (decide (kz x))) (Td.s ((SC.reg false c179r7).seq .ret) :: fr) e ⟨G,L,[]⟩:=fun fr e L hx=>by
  intros;refine gr 0 0 ?_;refine sJ c179r7.eq_1 ?_;intros;refine rV ?_;simp only[push_cast,Nat.reduceBEq];rw[decide_eq_false hx]
 have hb9:∀ (fr:List Td) (e:Env) (L:List Kx.Item),¬ kz x→go none Tryz.prog 131 v179.1 v179.2 (fW o179 fun v h=>v=.bool (decide (kz x))) (Td.s ((SC.reg false c179r9).seq .ret) :: fr) e ⟨G,L,[]⟩:=fun fr e L hx=>by
  intros;refine gr 0 0 ?_;refine sJ c179r9.eq_1 ?_;intros;refine rV ?_;simp only[push_cast,Nat.reduceBEq];rw[decide_eq_false hx]
 have hb17:∀ (fr:List Td) (e:Env) (L:List Kx.Item),¬ kz x→go none Tryz.prog 131 v179.1 v179.2 (fW o179 fun v h=>v=.bool (decide (kz x))) (Td.s ((SC.reg false c179r17).seq .ret) :: fr) e ⟨G,L,[]⟩:=fun fr e L hx=>by
  intros;refine gr 0 0 ?_;refine sJ c179r17.eq_1 ?_;intros;refine rV ?_;simp only[push_cast,Nat.reduceBEq];rw[decide_eq_false hx]
 have w2:∀ (h:0≤x.last - x.base),IntKind.i64.wrap (x.src+(x.last - x.base))=x.src+(x.last - x.base):=fun h=>by rw[dU] <;> omega
 have w3:∀ (h:0≤x.last - x.base),IntKind.i64.wrap (x.seq+(x.last - x.base))=x.seq+(x.last - x.base):=fun h=>by rw[dU] <;> omega
 have w4:IntKind.i64.wrap (x.gen+x.seq)=x.gen+x.seq:=by rw[dU] <;> omega
 intros;refine gr 33 53 ?_;refine sJ c179r4.eq_1 ?_;refine gd (fun h3=>?_) (fun h3=>?_)
 ·refine sI ?_;intros;refine gc ?_;refine sI ?_;exact hb5 _ _ _ fun h=>by have:=of_decide_eq_true h3;have:=h.2.2.1.1;omega
 have h3:=of_decide_eq_false h3;refine sI ?_;refine gd (fun h4=>?_) (fun h4=>?_)
 ·refine sI ?_;intros;refine gc ?_;refine sI ?_;exact hb5 _ _ _ fun h=>by have:=of_decide_eq_true h4;have:=h.2.2.1.2.1;omega
 have h4:=of_decide_eq_false h4
 (refine sJ (w2 (by omega)) ?_)
 refine gd (fun h5=>?_) (fun h5=>?_)
 ·refine sI ?_;intros;refine gc ?_;refine sI ?_;exact hb5 _ _ _ fun h=>by have:=of_decide_eq_true h5;have:=h.2.2.1.2.2.1;omega
 have h5:=of_decide_eq_false h5
 (refine sJ (w3 (by omega)) ?_)
 intros;refine gc ?_;refine sI ?_;refine gb (fun h6=>?_) (fun h6=>?_)
 ·exact hb5 _ _ _ fun h=>by have:=of_decide_eq_true h6;have:=h.2.2.1.2.2.2;omega
 have h6:=of_decide_eq_false h6;intros;refine gr 55 62 ?_;refine sJ c179r6.eq_1 ?_;refine gd (fun h7=>?_) (fun h7=>?_)
 ·refine sI ?_;intros;refine gc ?_;refine sI ?_;exact hb7 _ _ _ fun h=>by have:=of_decide_eq_true h7;have:=h.2.2.2.1.1;omega
 have h7:=of_decide_eq_false h7;refine sI ?_;intros;refine gc ?_;refine sI ?_;refine gb (fun h8=>?_) (fun h8=>?_)
 ·exact hb7 _ _ _ fun h=>by have:=of_decide_eq_true h8;have:=h.2.2.2.1.2;omega
 have h8:=of_decide_eq_false h8;intros;refine gr 64 83 ?_;refine sJ c179r8.eq_1 ?_;have hrest:∀ (e:Env),(x.pid=-1→x.gen=0∧x.seq=0∧x.txn=false∧x.ctl=0)→e 3=.int .i64 (x.last - x.base) →
   go none Tryz.prog 131 v179.1 v179.2 (fW o179 fun v h=>v=.bool (decide (kz x))) [Td.s (((SC.reg false c179r10).seq (SC.blk 1 ((SC.reg false c179r11).seq (SC.cond (O.t 85) ((SC.reg false c179r12).seq (((SC.reg false c179r13).seq (SC.blk 2 ((SC.reg false c179r14).seq ((SC.cond (O.t 93) SC.skip (SC.exit 2)).seq ((SC.blk 3 ((SC.reg false c179r15).seq (((SC.reg false c179r16).seq (SC.cond (O.t 111) ((SC.reg false c179r17).seq SC.ret) SC.skip)).seq (SC.reg false c179r18)))).seq (SC.reg false c179r19)))).loop)).seq ((SC.reg false c179r20).seq SC.ret))) (((SC.reg false c179r21).seq (SC.cond (O.t 116) SC.skip (SC.reg false c179r22))).seq (SC.cond (O.t 116) ((SC.reg false c179r23).seq SC.ret) SC.skip)))))).seq ((SC.reg false c179r24).seq SC.ret))] e ⟨G,[.reg 1 [.int .i64 x.base,.int .i64 x.last,.int .i64 x.src,.int .i64 x.epoch,.int .i64 x.pid,.int .i64 x.gen,.int .i64 x.seq,.bool x.txn,.int .i64 x.ctl,.slice A x.recs.length c]],[]⟩:=fun e hpid e3=>by
  refine dz [3] ?_;refine sJ @e3 ?_;intros;refine gr 0 0 ?_;refine sJ c179r10.eq_1 ?_;intros;refine gr 86 87 ?_;refine sJ c179r11.eq_1 ?_;intros;refine gc ?_;refine sI ?_;have hmk:((x.ctl=0∧yN x.last x.base x.recs=true)∨((x.ctl=1∨x.ctl=2)∧x.last - x.base=0∧x.recs=[]∧x.txn=true))→kz x:=fun h=>⟨h1,h2,⟨by omega,by omega,by omega,by omega⟩,⟨by omega,by omega⟩,hpid,h⟩
  refine gb (fun k1=>?_) (fun k1=>?_)
  ·have k1:=of_decide_eq_true k1;intros;refine gr 88 89 ?_;refine sJ c179r12.eq_1 ?_;intros;refine gr 0 0 ?_;refine sJ c179r13.eq_1 ?_
   (intros;try refine du ?_)
   refine dW (fun e h=>∃ (k:Nat) (nx:Int),(k≤x.recs.length∧yN x.last x.base x.recs=yN x.last nx (x.recs.drop k))∧e 92=.int .i64 k∧e 91=.int .i64 x.recs.length∧e 90=.slice A x.recs.length c∧e 4=.int .i64 nx∧h.G=G∧h.D=[]∧[.reg 1 [.int .i64 x.base,.int .i64 x.last,.int .i64 x.src,.int .i64 x.epoch,.int .i64 x.pid,.int .i64 x.gen,.int .i64 x.seq,.bool x.txn,.int .i64 x.ctl,.slice A x.recs.length c]].Sublist h.L) (fun e h=>x.recs.length - iv (e 92)) ?_ ?_
   ·exact⟨0,x.base,⟨Nat.zero_le _,rfl⟩,eE,eE,eE,eE,rfl,rfl,List.Sublist.refl _⟩
   ·rintro e ⟨G',L,D⟩ ⟨k,nx,⟨hk,hrow⟩,e92,e91,e90,e4,hG,hD,hL⟩;dsimp only at hG hD hL;subst hG hD;refine dx (dD hL) ?_;refine dz [4,90,91,92] ?_;refine sJ4 @e4 @e90 @e91 @e92 ?_;intros;refine gr 0 0 ?_;refine sJ c179r14.eq_1 ?_;intros;refine gc ?_;refine sI ?_;refine gb (fun ht=>?_) (fun ht=>?_)
    ·have hkl:k < x.recs.length:=by simpa using ht
     have hw3:=fz k c (by omega) hm;obtain⟨r,hr⟩:∃ r,x.recs[k]?=some r:=⟨x.recs[k],List.getElem?_eq_getElem (by omega)⟩;have hdr:x.recs.drop k=r :: x.recs.drop (k+1):=by
      have:=List.getElem?_eq_some_iff.1 hr;rw[List.drop_eq_getElem_cons hkl,this.2]
     rw[hdr]at hrow;simp only[yN]at hrow;have hno:yN x.last x.base x.recs=false→¬ kz x:=fun h h'=>by
      rcases h'.2.2.2.2.2 with h9 | h9
      ·rw[h]at h9;cases h9.2
      ·omega
     intros;refine gr 94 96 ?_;refine sJ c179r15.eq_1 ?_;refine hA.x_ld hr rfl rfl ?_;rintro a1 ha1 cs ⟨rfl,⟨j1,j2⟩,j3,j4⟩;unfold gV;refine sI ?_;have hck:=nW r;unfold gV at hck;intros;refine gr 96 111 ?_;refine sJ c179r16.eq_1 ?_;refine(hck G' _ _).mono ?_;rintro _ _ ⟨rfl,rfl⟩;refine sI ?_;refine gd (fun k2=>?_) (fun k2=>?_)
     ·refine sI ?_;intros;refine gc ?_;refine sI ?_;exact hb17 _ _ _ (hno (by rw[hrow];simp at k2;simp[k2]))
     have k2:j9 r=0:=by simpa using k2
     refine sI ?_;refine gd (fun k3=>?_) (fun k3=>?_)
     ·refine sI ?_;intros;refine gc ?_;refine sI ?_;exact hb17 _ _ _ (hno (by rw[hrow];have:=of_decide_eq_true k3;simp;omega))
     have k3:=of_decide_eq_false k3;refine sI ?_;intros;refine gc ?_;refine sI ?_;refine gb (fun k4=>?_) (fun k4=>?_)
     ·exact hb17 _ _ _ (hno (by rw[hrow];have:=of_decide_eq_true k4;simp;omega))
     have k4:=of_decide_eq_false k4;have hoff:=(fC k2).1.1;simp[inO]at hoff;have w5:IntKind.i64.wrap (r.off+1)=r.off+1:=by rw[dU] <;> omega
     (repeat first | refine ef ?_ | refine jS ?_)
     intros;refine gr 113 115 ?_;refine sJ2 c179r18.eq_1 @w5 ?_;intros;refine gr 115 116 ?_;refine sJ2 c179r19.eq_1 @hw3 ?_
     (intros;try refine du ?_)
     refine eh ⟨⟨k+1,r.off+1,⟨by omega,by rw[hrow];simp[k2];omega⟩,eE,eE,eE,eE,rfl,rfl,.cons _ (List.Sublist.refl _)⟩,?_⟩;refine sI ?_;omega
    ·have hkl:k=x.recs.length:=by simp at ht;omega
     subst hkl;refine dT ?_;refine sI ?_;intros;refine gr 0 0 ?_;refine sJ c179r20.eq_1 ?_;intros;refine rV ?_;simp only[push_cast,Nat.reduceBEq];rw[List.drop_length]at hrow;rw[decide_eq_true (hmk (.inl ⟨k1,hrow⟩))]
  ·have k1:=of_decide_eq_false k1;have hb24:∀ (fr:List Td) (e:Env) (L:List Kx.Item),¬ kz x→go none Tryz.prog 131 v179.1 v179.2 (fW o179 fun v h=>v=.bool (decide (kz x))) (Td.s ((SC.reg false c179r24).seq .ret) :: fr) e ⟨G,L,[]⟩:=fun fr e L hx=>by
    intros;refine gr 0 0 ?_;refine sJ c179r24.eq_1 ?_;intros;refine rV ?_;simp only[push_cast,Nat.reduceBEq];rw[decide_eq_false hx]
   have hfin:∀ (fr:List Td) (e:Env),(x.ctl=1∨x.ctl=2)→e 3=.int .i64 (x.last - x.base)→go none Tryz.prog 131 v179.1 v179.2 (fW o179 fun v h=>v=.bool (decide (kz x))) (Td.s ((SC.reg false c179r23).seq .ret) :: fr) e ⟨G,[.reg 1 [.int .i64 x.base,.int .i64 x.last,.int .i64 x.src,.int .i64 x.epoch,.int .i64 x.pid,.int .i64 x.gen,.int .i64 x.seq,.bool x.txn,.int .i64 x.ctl,.slice A x.recs.length c]],[]⟩:=fun fr e hc12 e3=>by
    refine dz [3] ?_;refine sJ @e3 ?_;have hnf:∀ (_:¬ (x.last - x.base=0∧x.recs=[]∧x.txn=true)),decide (kz x)=false:=fun hn=>decide_eq_false fun h=>by
     rcases h.2.2.2.2.2 with h9 | h9
     ·exact k1 h9.1
     ·exact hn h9.2
    intros;refine gr 119 131 ?_;refine sJ c179r23.eq_1 ?_;refine gd (fun k2=>?_) (fun k2=>?_)
    ·have k2:=of_decide_eq_true k2;refine sI ?_;refine gd (fun k3=>?_) (fun k3=>?_)
     ·have k3:x.recs=[]:=by have:=of_decide_eq_true k3;exact List.eq_nil_of_length_eq_zero (by omega)
      refine sI ?_;intros;refine rV ?_;simp only[push_cast,Nat.reduceBEq];cases ht:x.txn with
      | false=>rw[hnf fun h=>by rw[ht]at h;cases h.2.2]
      | true=>rw[decide_eq_true (hmk (.inr ⟨hc12,k2,k3,ht⟩))]
     ·have k3:=of_decide_eq_false k3;refine sI ?_;intros;refine rV ?_;simp only[push_cast,Nat.reduceBEq];rw[hnf fun h=>k3 (by rw[h.2.1];rfl)]
    ·have k2:=of_decide_eq_false k2;refine sI ?_;intros;refine rV ?_;simp only[push_cast,Nat.reduceBEq];rw[hnf fun h=>k2 h.1]
   intros;refine gr 117 118 ?_;refine sJ c179r21.eq_1 ?_;intros;refine gc ?_;refine sI ?_;refine gb (fun k2=>?_) (fun k2=>?_)
   ·(repeat first | refine ef ?_ | refine jS ?_)
    intros;refine gc ?_;refine sI ?_;refine gb (fun _=>?_) (fun h=>by rw[k2]at h;cases h);refine hfin _ _ (.inl (of_decide_eq_true k2)) ?_
    (refine sI ?_;try with_reducible exact True.intro)
   ·have k2:=of_decide_eq_false k2;intros;refine gr 118 119 ?_;refine sJ c179r22.eq_1 ?_;intros;refine gc ?_;refine sI ?_;refine gb (fun k3=>?_) (fun k3=>?_)
    ·refine hfin _ _ (.inr (of_decide_eq_true k3)) ?_
     (refine sI ?_;try with_reducible exact True.intro)
    ·have k3:=of_decide_eq_false k3
     (repeat first | refine ef ?_ | refine jS ?_)
     refine hb24 _ _ _ fun h=>?_
     rcases h.2.2.2.2.2 with h9 | h9
     ·exact k1 h9.1
     ·rcases h9.1 with h9 | h9
      ·exact k2 h9
      ·exact k3 h9
 refine gd (fun h9=>?_) (fun h9=>?_)
 ·have h9:=of_decide_eq_true h9;refine sJ @w4 ?_;refine gd (fun h10=>?_) (fun h10=>?_)
  ·refine sI ?_;intros;refine gc ?_;refine sI ?_;exact hb9 _ _ _ fun h=>by have:=of_decide_eq_true h10;have:=h.2.2.2.2.1 h9;omega
  have h10:=of_decide_eq_false h10;refine sI ?_;refine gd (fun h11=>?_) (fun h11=>?_)
  ·refine sI ?_;intros;refine gc ?_;refine sI ?_;exact hb9 _ _ _ fun h=>by have:=(h.2.2.2.2.1 h9).2.2.1;rw[h11]at this;cases this
  refine sI ?_;intros;refine gc ?_;refine sI ?_;refine gb (fun h12=>?_) (fun h12=>?_)
  ·exact hb9 _ _ _ fun h=>by have:=of_decide_eq_true h12;have:=(h.2.2.2.2.1 h9).2.2.2;omega
  have h12:=of_decide_eq_false h12
  (repeat first | refine ef ?_ | refine jS ?_)
  refine dx (dD (.cons _ (.cons _ (List.Sublist.refl _)))) ?_;refine hrest _ (fun _=>⟨by omega,by omega,h11,by omega⟩) ?_
  (refine sI ?_;try with_reducible exact True.intro)
 ·have h9:=of_decide_eq_false h9;refine sI ?_;intros;refine gc ?_;refine sI ?_
  (repeat first | refine ef ?_ | refine jS ?_)
  refine dx (dD (.cons _ (.cons _ (List.Sublist.refl _)))) ?_;refine hrest _ (fun h=>absurd h h9) ?_
  (refine sI ?_;try with_reducible exact True.intro)
abbrev W32:=BitVec 32
def vW(v:W32):Value:=.int .u32 (v.toNat:Int)
def uH:W32:=3988292384#32
def stp(v:W32):W32:=(v >>> 1) ^^^ (if v.getLsbD 0=true then uH else 0#32)
def na:Nat→W32→W32
 | 0,v=>v
 | n+1,v=>stp (na n v)
theorem AU(a b:W32):stp (a ^^^ b)=stp a ^^^ stp b:=by
 unfold stp;rw[BitVec.ushiftRight_xor_distrib,BitVec.getLsbD_xor];generalize a >>> 1=x;generalize b >>> 1=y;cases a.getLsbD 0 <;> cases b.getLsbD 0 <;> simp
 ·rw[BitVec.xor_assoc]
 ·rw[BitVec.xor_assoc,BitVec.xor_assoc,BitVec.xor_comm uH y]
 ·rw[BitVec.xor_assoc,BitVec.xor_comm uH (y ^^^ uH),BitVec.xor_assoc,BitVec.xor_self,BitVec.xor_zero]
theorem sR(a b:W32):∀ n,na n (a ^^^ b)=na n a ^^^ na n b
 | 0=>rfl
 | n+1=>by rw[na,sR a b n,AU];rfl
theorem sK{v:W32}(h:v.getLsbD 0=false):stp v=v >>> 1:=by rw[stp,if_neg (by rw[h];simp),BitVec.xor_zero]
theorem sc{v:W32}:∀ n,(∀ i,i < n→v.getLsbD i=false)→na n v=v >>> n
 | 0,_=>by simp[na]
 | n+1,h=>by
  rw[na,sc n fun i hi=>h i (by omega),sK (by rw[BitVec.getLsbD_ushiftRight];exact h _ (by omega))];rw[BitVec.shiftRight_add]
theorem rJ(v:W32):na 4 v=na 4 (v &&& 15#32) ^^^ (v >>> 4):=by
 have h1:v=(v &&& 15#32) ^^^ (v &&& ~~~15#32):=by
  apply BitVec.eq_of_getLsbD_eq;intro i hi;simp only[BitVec.getLsbD_xor,BitVec.getLsbD_and,BitVec.getLsbD_not];cases v.getLsbD i <;> cases (15#32).getLsbD i <;> simp[hi]
 have h2:na 4 (v &&& ~~~15#32)=v >>> 4:=by
  rw[sc 4]
  ·apply BitVec.eq_of_getLsbD_eq;intro i hi;simp only[BitVec.getLsbD_ushiftRight,BitVec.getLsbD_and,BitVec.getLsbD_not];by_cases h:4+i < 32
   ·have:(15#32).getLsbD (4+i)=false:=by
     rw[BitVec.getLsbD_ofNat];have:Nat.testBit 15 (4+i)=false:=Nat.testBit_lt_two_pow (Nat.lt_of_lt_of_le (by decide:15 < 2 ^ 4) (Nat.pow_le_pow_right (by decide) (by omega)));simp[this]
    rw[this];simp only[h,decide_true,Bool.not_false,Bool.and_true]
   ·rw[BitVec.getLsbD_of_ge v (4+i) (by omega)];simp
  ·intro i hi;have:(15#32).getLsbD i=true:=by
    match i,hi with
    | 0,_=>rfl
    | 1,_=>rfl
    | 2,_=>rfl
    | 3,_=>rfl
   rw[BitVec.getLsbD_and,BitVec.getLsbD_not,this];simp
 conv=>lhs;rw[h1,sR,h2]
theorem rN(v:W32):∀ m n,na (m+n) v=na m (na n v)
 | 0,n=>by rw[Nat.zero_add];rfl
 | m+1,n=>by rw[Nat.succ_add,na,rN v m n];rfl
def ofB(b:UInt8):W32:=BitVec.ofNat 32 b.toNat
def upd(v:W32)(c:UInt8):W32:=na 8 (v ^^^ ofB c)
def ta(v:W32):W32:=na 4 (v &&& 15#32) ^^^ (v >>> 4)
theorem Fj(v:W32)(c:UInt8):upd v c=ta (ta (v ^^^ ofB c)):=by
 rw[ta,← rJ,ta,← rJ,← rN];rfl
def Dl(l:List UInt8):W32 := ~~~ (l.foldl upd 4294967295#32)
theorem ofW(a:W32):BitVec.ofInt 32 (a.toNat:Int)=a:=by
 rw[BitVec.ofInt_natCast,BitVec.ofNat_toNat];simp
theorem wY(a:W32):IntKind.u32.wrap (a.toNat:Int)=(a.toNat:Int):=by
 have:=a.isLt;simp only[IntKind.wrap,IntKind.bits,IntKind.signed];simp;omega
theorem mn(a b:W32):eZ .xor (vW a) (vW b)=some (vW (a ^^^ b)):=by
 simp only[eZ,vW];rw[if_pos trivial];have:(BitVec.ofInt IntKind.u32.bits (a.toNat:Int) ^^^ BitVec.ofInt IntKind.u32.bits (b.toNat:Int)).toNat=(a ^^^ b).toNat:=by
  show(BitVec.ofInt 32 (a.toNat:Int) ^^^ BitVec.ofInt 32 (b.toNat:Int)).toNat=_;rw[ofW,ofW]
 rw[this,wY]
theorem ov(a b:W32):eZ .and (vW a) (vW b)=some (vW (a &&& b)):=by
 simp only[eZ,vW];rw[if_pos trivial];have:(BitVec.ofInt IntKind.u32.bits (a.toNat:Int) &&& BitVec.ofInt IntKind.u32.bits (b.toNat:Int)).toNat=(a &&& b).toNat:=by
  show(BitVec.ofInt 32 (a.toNat:Int) &&& BitVec.ofInt 32 (b.toNat:Int)).toNat=_;rw[ofW,ofW]
 rw[this,wY]
theorem rL(a:W32)(k:Nat)(hk:k≤32):eZ .shr (vW a) (.int .u64 (k:Int))=some (vW (a >>> k)):=by
 simp only[eZ,vW];rw[if_pos (by omega)];congr 2;have h1:min ((k:Int)).toNat IntKind.u32.bits=k:=by simp[IntKind.bits];omega
 rw[h1,BitVec.toNat_ushiftRight,Nat.shiftRight_eq_div_pow];rw[Int.fdiv_eq_ediv_of_nonneg _ (by exact_mod_cast Nat.zero_le _)]
 exact_mod_cast rfl
theorem If(c:UInt8):Value.int .u32 (IntKind.u32.wrap (c.toNat:Int))=vW (ofB c):=by
 have h:=c.toNat_lt;have h2:(ofB c).toNat=c.toNat:=by simp[ofB]
 have:=wY (ofB c);rw[h2]at this;rw[vW,h2,this]
theorem F230:Fun Tryz.prog 230 14 v230 c230 o230:=Fun.mk' Tryz.func230 Tryz.ntmps230 (by kernel_rfl) (by kernel_rfl) s230 q230
theorem GI(v:W32):v.getLsbD 0=true↔v.toNat % 2=1:=by
 rw[BitVec.getLsbD,Nat.testBit_zero];simp
theorem F220:Fun Tryz.prog 220 13 v220 c220 o220:=Fun.mk' Tryz.func220 Tryz.ntmps220 (by kernel_rfl) (by kernel_rfl) s220 q220
theorem F231:Fun Tryz.prog 231 24 v231 c231 o231:=Fun.mk' Tryz.func231 Tryz.ntmps231 (by kernel_rfl) (by kernel_rfl) s231 q231
theorem F211:Fun Tryz.prog 211 21 v211 c211 o211:=Fun.mk' Tryz.func211 Tryz.ntmps211 (by kernel_rfl) (by kernel_rfl) s211 q211
theorem yo(v:W32):eZ .and (vW v) (.int .u32 1)=some (vW (v &&& 1#32)):=ov v 1#32
theorem pO(v:W32):eZ .and (vW v) (.int .u32 15)=some (vW (v &&& 15#32)):=ov v 15#32
theorem xV(v:W32):eZ .and (.int .u32 3988292384) (vW v)=some (vW (uH &&& v)):=ov uH v
theorem zH(v:W32):eZ .shr (vW v) (.int .u64 1)=some (vW (v >>> 1)):=rL v 1 (by omega)
theorem sp(v:W32):eZ .shr (vW v) (.int .u64 4)=some (vW (v >>> 4)):=rL v 4 (by omega)
theorem AL(v:W32):unV .neg (vW v)=some (vW (-v)):=by
 have:=v.isLt;simp only[unV,vW];congr 2;rw[BitVec.toNat_neg];simp only[IntKind.wrap,IntKind.bits,IntKind.signed];simp;omega
theorem Bl(v:W32):unV .xor (vW v)=some (vW (~~~v)):=by
 simp only[unV,vW];have:(BitVec.ofInt IntKind.u32.bits (if IntKind.u32.signed=true then -1 else IntKind.u32.max) ^^^ BitVec.ofInt IntKind.u32.bits (v.toNat:Int)).toNat=(~~~v).toNat:=by
  show(BitVec.ofInt 32 4294967295 ^^^ BitVec.ofInt 32 (v.toNat:Int)).toNat=_;have h1:BitVec.ofInt 32 4294967295=BitVec.allOnes 32:=by decide
  rw[ofW,h1,BitVec.allOnes_xor]
 rw[this,wY]
theorem BC(v:W32):(v >>> 1) ^^^ (uH &&& -(v &&& 1#32))=stp v:=by
 have h1:v &&& 1#32=if v.getLsbD 0=true then 1#32 else 0#32:=by
  apply BitVec.eq_of_toNat_eq;rw[BitVec.toNat_and];have:(1#32).toNat=1:=rfl;rw[this,Nat.and_one_is_mod];by_cases h:v.getLsbD 0=true
  ·rw[if_pos h,(GI v).1 h];rfl
  ·rw[if_neg h];have h3:¬ v.toNat % 2=1:=fun h9=>h ((GI v).2 h9)
   have h2:v.toNat % 2=0:=by omega
   rw[h2];rfl
 rw[h1,stp];by_cases h:v.getLsbD 0=true
 ·rw[if_pos h,if_pos h];have:uH &&& -1#32=uH:=by decide
  rw[this]
 ·rw[if_neg h,if_neg h];have:uH &&& -0#32=0#32:=by decide
  rw[this]
theorem CL(v:W32)(G:Nat→Option Obj):FnS Tryz.prog 230 #[vW v] G (vW (na 4 v)):=by
 refine F230.fnS (by simp) (dF ?_);unfold c230;intros;refine gr 0 0 ?_;refine sJ c230r0.eq_1 ?_;intros;refine gr 0 0 ?_;refine sJ c230r1.eq_1 ?_
 (intros;try refine du ?_)
 refine dW (fun e h=>∃ k:Nat,k≤4∧e 3=.int .i64 k∧e 0=vW (na k v)∧h=⟨G,[],[]⟩) (fun e h=>4 - iv (e 3)) ?_ ?_
 ·exact⟨0,Nat.zero_le _,eE,by refine sI ?_;rfl,rfl⟩
 ·rintro e h ⟨k,hk,e3,e0,rfl⟩;refine dz [0,3] ?_;refine sJ2 @e0 @e3 ?_;intros;refine gr 0 0 ?_;refine sJ c230r2.eq_1 ?_;intros;refine gc ?_;refine sI ?_;refine gb (fun h1=>?_) (fun h1=>?_)
  ·have hkn:k < 4:=by simp at h1;omega
   have hw3:=fz k 4 (by omega) (by unfold maxLen;omega);intros;refine gr 5 12 ?_;refine sJ7 c230r3.eq_1 @zH @yo @AL @xV @mn @BC ?_;intros;refine gr 12 13 ?_;refine sJ2 c230r4.eq_1 @hw3 ?_
   (intros;try refine du ?_)
   refine eh ⟨⟨k+1,by omega,eE,by refine sI ?_;rfl,rfl⟩,?_⟩;refine sI ?_;omega
  ·have hkn:k=4:=by simp at h1;omega
   subst hkn;refine dT ?_;refine sI ?_;intros;refine gr 13 14 ?_;refine sJ c230r5.eq_1 ?_;intros;refine rV ?_;simp only[push_cast,Nat.reduceBEq]
def uq(G:Nat→Option Obj)(v:Value):Prop:=∃ b,v=.pointer (some ⟨b,0,none⟩)∧∀ i:Nat,i < 16→eT G ⟨b,i,none⟩=some (vW (na 4 (BitVec.ofNat 32 i)))
theorem uq.le{G G':Nat→Option Obj}{v:Value}(h:uq G v)(hg:Gle G G'):uq G' v:=by
 obtain⟨b,h1,h2⟩:=h;exact⟨b,h1,fun i hi=>dJ hg (h2 i hi)⟩
theorem DC(v:W32):(v &&& 15#32).toNat < 16∧BitVec.ofNat 32 (v &&& 15#32).toNat=v &&& 15#32:=by
 refine⟨?_,by simp⟩;rw[BitVec.toNat_and];exact Nat.lt_of_le_of_lt Nat.and_le_right (by decide)
theorem Iz{b n:Nat}{v:W32}(h:v.toNat < n):ug n 1 (.pointer (some ⟨b,0,none⟩)) (vW v)=some (.pointer (some ⟨b,v.toNat,none⟩)):=by
 simp only[ug,vW];rw[if_pos ⟨by omega,by omega⟩];simp[es]
theorem EW(v:W32)(c:UInt8)(p:Value)(G:Nat→Option Obj)(hp:uq G p):FnS Tryz.prog 231 #[vW v,.int .u8 (c.toNat:Int),p] G (vW (upd v c)):=by
 obtain⟨b,rfl,ht⟩:=hp;refine F231.fnS (by simp) (dF ?_);unfold c231;intros;refine gr 0 0 ?_;refine sJ c231r0.eq_1 ?_;intros;refine gr 6 10 ?_;refine sJ3 c231r1.eq_1 @If @mn ?_;rw[Fj];generalize v ^^^ ofB c=x;obtain⟨g1,g2⟩:=DC x
 intros;refine gr 10 17 ?_;(try simp -implicitDefEqProofs only[oY,oZ,push_cast,Nat.reduceBEq,Nat.reduceAdd,Nat.reduceSub,Nat.reduceMul,Nat.reduceLT,Nat.reduceLeDiff,Nat.reduceEqDiff,reduceIte,Bool.not_true,Bool.not_false,true_and,and_true,Option.map_some,Option.bind_some,Int.toNat_natCast,c231r2,pO,Iz g1]);refine⟨_,⟨_,rfl,.g (ht _ g1)⟩,?_⟩;rw[g2];refine sJ2 @sp @mn ?_;rw[← ta];generalize ta x=y
 obtain⟨k1,k2⟩:=DC y;intros;refine gr 17 24 ?_;(try simp -implicitDefEqProofs only[oY,oZ,push_cast,Nat.reduceBEq,Nat.reduceAdd,Nat.reduceSub,Nat.reduceMul,Nat.reduceLT,Nat.reduceLeDiff,Nat.reduceEqDiff,reduceIte,Bool.not_true,Bool.not_false,true_and,and_true,Option.map_some,Option.bind_some,Int.toNat_natCast,c231r3,pO,Iz k1]);refine⟨_,⟨_,rfl,.g (ht _ k1)⟩,?_⟩;rw[k2];refine sJ2 @sp @mn ?_
 intros;refine rV ?_;simp only[push_cast,Nat.reduceBEq];rfl
theorem wh{cs:List Value}{o:Nat}(x:Value)(h:o < cs.length):splice cs o [x]=cs.set o x:=by
 rw[splice,List.set_eq_take_append_cons_drop,if_pos h];simp
theorem xP(G:Nat→Option Obj):FnD Tryz.prog 220 #[] G (fun G' r=>∃ p,r=.func (.func 231) #[] #[p]∧uq G' p):=by
 refine F220.fnD (by simp) (dF ?_);unfold c220;intros;refine gr 0 0 ?_;refine sJ c220r0.eq_1 ?_;intros;refine gr 0 0 ?_;refine sJ c220r1.eq_1 ?_;intro b hb;refine sI ?_;intros;refine gr 0 0 ?_;refine sJ c220r2.eq_1 ?_
 (intros;try refine du ?_)
 refine dW (fun e h=>∃ (k:Nat) (cs:List Value),(k≤16∧cs.length=16∧∀ i,i < k→cs[i]?=some (vW (na 4 (BitVec.ofNat 32 i))))∧e 3=.int .i64 k∧e 1=.pointer (some ⟨b,0,none⟩)∧h=⟨G,[.blk b cs],[]⟩) (fun e h=>16 - iv (e 3)) ?_ ?_
 ·exact⟨0,_,⟨Nat.zero_le _,rfl,fun i hi=>by omega⟩,eE,eE,rfl⟩
 ·rintro e h ⟨k,cs,⟨hk,hl,ht⟩,e3,e1,rfl⟩;refine dz [1,3] ?_;refine sJ2 @e1 @e3 ?_;intros;refine gr 0 0 ?_;refine sJ c220r3.eq_1 ?_;intros;refine gc ?_;refine sI ?_;refine gb (fun h1=>?_) (fun h1=>?_)
  ·have hkn:k < 16:=by simp at h1;omega
   have hw3:=fz k 16 (by omega) (by unfold maxLen;omega);have hkw:Value.int .u32 (IntKind.u32.wrap (k:Int))=vW (BitVec.ofNat 32 k):=by
    have h2:(BitVec.ofNat 32 k).toNat=k:=by simp;omega
    have:=wY (BitVec.ofNat 32 k);rw[h2]at this;rw[vW,h2,this]
   intros;refine gr 5 6 ?_;refine sJ c220r4.eq_1 ?_;intros;refine gr 6 11 ?_;refine sJ2 c220r5.eq_1 @hkw ?_;refine(CL (BitVec.ofNat 32 k) G _ _).mono ?_;rintro _ _ ⟨rfl,rfl⟩;refine sI ?_;refine⟨by omega,?_⟩;refine dI (xs:=[vW (na 4 (BitVec.ofNat 32 k))]) [] [] rfl (by simp;omega) ⟨rfl,rfl⟩ ?_;rw[wh _ (by omega),show 0+k * 1=k by omega];refine sI ?_
   intros;refine gr 11 12 ?_;refine sJ2 c220r6.eq_1 @hw3 ?_
   (intros;try refine du ?_)
   refine eh ⟨⟨k+1,_,⟨by omega,by simp[hl],fun i hi=>?_⟩,eE,eE,rfl⟩,?_⟩
   ·rw[List.getElem?_set];by_cases hik:k=i
    ·rw[if_pos hik,if_pos (by omega),← hik]
    ·rw[if_neg hik];exact ht i (by omega)
   ·refine sI ?_;omega
  ·have hkn:k=16:=by simp at h1;omega
   subst hkn;refine dT ?_;refine sI ?_;intros;refine gr 12 13 ?_;refine sJ c220r7.eq_1 ?_
   (intros;try refine du ?_)
   refine ed (ec [] []) ?_;rintro h' ⟨G2,rfl,hg2,hc⟩;intros;refine rV ?_;simp only[push_cast,Nat.reduceBEq];exact⟨_,rfl,b,rfl,fun i hi=>by simpa [es]using hc i _ (ht i hi)⟩
theorem wA{l:List UInt8}{k:Nat}{x:UInt8}(hx:l[k]?=some x)(v:W32):(l.take (k+1)).foldl upd v=upd ((l.take k).foldl upd v) x:=by
 have hk:=List.getElem?_eq_some_iff.1 hx;rw[List.take_succ_eq_append_getElem hk.1,hk.2];simp
theorem zX(l:List UInt8)(v:Value)(G:Nat→Option Obj)(hl:SB G v l):FnD Tryz.prog 211 #[v] G (fun _ r=>r=vW (Dl l)):=by
 refine F211.fnD (by simp) (dF ?_);obtain⟨A,c,rfl,hc,hm,hA⟩:=hl;unfold c211;intros;refine gr 0 0 ?_;refine sJ c211r0.eq_1 ?_;intros;refine gr 7 8 ?_;refine sJ c211r1.eq_1 ?_;refine(xP G _ []).mono ?_;rintro r h' ⟨G1,rfl,hg1,p,rfl,hp⟩;refine sI ?_;have hA1:=hA.le hg1 (E':=UE) fun _ _ h=>h
 intros;refine gr 0 0 ?_;refine sJ c211r2.eq_1 ?_;intros;refine gr 0 0 ?_;refine sJ c211r3.eq_1 ?_
 (intros;try refine du ?_)
 refine dW (fun e h=>∃ k:Nat,k≤l.length∧e 10=.int .i64 k∧e 9=.int .i64 l.length∧e 8=.slice A l.length c∧e 3=.func (.func 231) #[] #[p]∧e 4=vW ((l.take k).foldl upd 4294967295#32)∧h=⟨G1,[],[]⟩) (fun e h=>l.length - iv (e 10)) ?_ ?_
 ·exact⟨0,Nat.zero_le _,eE,eE,eE,eE,by refine sI ?_;rfl,rfl⟩
 ·rintro e h ⟨k,hk,e10,e9,e8,e3,e4,rfl⟩;refine dz [3,4,8,9,10] ?_;refine sJ5 @e3 @e4 @e8 @e9 @e10 ?_;intros;refine gr 0 0 ?_;refine sJ c211r4.eq_1 ?_;intros;refine gc ?_;refine sI ?_;refine gb (fun h1=>?_) (fun h1=>?_)
  ·have hkn:k < l.length:=by simpa using h1
   have hw3:=fz k c (by omega) hm;obtain⟨x,hx⟩:∃ x,l[k]?=some x:=⟨l[k],List.getElem?_eq_getElem (by omega)⟩;intros;refine gr 12 14 ?_;refine sJ c211r5.eq_1 ?_;refine hA1.x_l1 hx rfl rfl ?_;rintro a1 ha1 u1 hu;cases hu;refine sI ?_;intros;refine gr 14 18 ?_;refine sJ c211r6.eq_1 ?_;refine .inl ⟨_,_,rfl,(EW _ x p G1 hp _ _).mono ?_⟩;rintro _ _ ⟨rfl,rfl⟩;refine sI ?_
   intros;refine gr 18 19 ?_;refine sJ2 c211r7.eq_1 @hw3 ?_
   (intros;try refine du ?_)
   refine eh ⟨⟨k+1,by omega,eE,eE,eE,eE,by rw[wA hx];(refine sI ?_;try with_reducible exact True.intro),rfl⟩,?_⟩;refine sI ?_;omega
  ·have hkn:k=l.length:=by simp at h1;omega
   subst hkn;refine dT ?_;refine sI ?_;intros;refine gr 19 21 ?_;refine sJ2 c211r8.eq_1 @Bl ?_;intros;refine rV ?_;simp only[push_cast,Nat.reduceBEq];rw[List.take_length];rfl
theorem F203:Fun Tryz.prog 203 33 v203 c203 o203:=Fun.mk' Tryz.func203 Tryz.ntmps203 (by kernel_rfl) (by kernel_rfl) s203 q203
theorem F202:Fun Tryz.prog 202 9 v202 c202 o202:=Fun.mk' Tryz.func202 Tryz.ntmps202 (by kernel_rfl) (by kernel_rfl) s202 q202
def lW(n k:Nat):List UInt8:=(List.range k).map fun i=>UInt8.ofNat (n / 256 ^ (k - 1 - i))
theorem gy(n k:Nat):(lW n k).length=k:=by simp[lW]
theorem wP{n k i:Nat}(h:i < k):(lW n k).take (i+1)=(lW n k).take i++[UInt8.ofNat (n / 256 ^ (k - 1 - i))]:=by
 have hl:i < (lW n k).length:=by rw[gy];exact h
 rw[List.take_succ_eq_append_getElem hl];congr 2;simp[lW]
def gO(l:List UInt8):List UInt8:=l++lW (Dl l).toNat 4
theorem xT(n s:Nat)(hs:s≤64):eZ .shr (.int .u64 (n:Int)) (.int .i64 (s:Int))=some (.int .u64 ((n / 2 ^ s:Nat):Int)):=by
 simp only[eZ];rw[if_pos (by omega)];congr 2;have h1:min ((s:Int)).toNat IntKind.u64.bits=s:=by simp[IntKind.bits];omega
 rw[h1,Int.fdiv_eq_ediv_of_nonneg _ (by exact_mod_cast Nat.zero_le _)]
 exact_mod_cast rfl
theorem vy(l:List UInt8)(n k:Nat)(hn:n < 18446744073709551616)(hk:1≤k∧k≤8)(v:Value)(G:Nat→Option Obj)(hl:SB G v l)(hb:l.length≤100000):
  FnO Tryz.prog 203 #[v,.int .u64 (n:Int),.int .i64 (k:Int)] G [] (fun _ L' r=>qD (l++lW n k) L' r):=by
 refine F203.fnO (by simp) dt (dF ?_);have hl0:=hl;obtain⟨A,c,rfl,hc,hm,hA⟩:=hl;unfold c203;intros;refine gr 0 0 ?_;refine sJ c203r0.eq_1 ?_;intros;refine gr 9 11 ?_;refine sJ c203r1.eq_1 ?_;refine(oL l _ G hl0 (by omega) _ []).mono ?_;rintro r h' ⟨G1,L',rfl,hg1,ys,hys,rfl⟩;refine sI ?_;intros;refine gr 11 16 ?_;refine sJ c203r2.eq_1 ?_;refine gd (fun h1=>by simp at h1;omega) (fun h1=>?_)
 refine sI ?_;intros;refine gc ?_;refine sI ?_;refine gb (fun h2=>by simp at h2;omega) (fun h2=>?_);have w1:IntKind.i64.wrap ((k:Int) - 1)=(k:Int) - 1:=by rw[dU] <;> omega
 have w2:IntKind.i64.wrap (8 * ((k:Int) - 1))=8 * (k:Int) - 8:=by rw[dU] <;> omega
 (repeat first | refine ef ?_ | refine jS ?_)
 intros;refine gr 18 21 ?_;refine sJ3 c203r4.eq_1 @w1 @w2 ?_
 (intros;try refine du ?_)
 refine dW (fun e h=>∃ (i:Nat) (zc:List Value) (u:Value),(i≤k∧Cells UE 1 (l++(lW n k).take i) zc)∧e 8=.int .i64 (8 * (k:Int) - 8 - 8 * i)∧e 1=.int .u64 (n:Int)∧e 7=u∧h.G=G1∧h.D=[]∧[Item.row u 5 1 (l++(lW n k).take i).length zc].Sublist h.L) (fun e h=>iv1 (e 8)) ?_ ?_
 ·exact⟨0,ys,r,⟨Nat.zero_le _,by simpa using hys⟩,by refine sI ?_;simp,eE,eE,rfl,rfl,by simp⟩
 ·rintro e ⟨G',L,D⟩ ⟨i,zc,u,⟨hi,hcs⟩,e8,e1,e7,hG,hD,hL⟩;dsimp only at hG hD hL;subst hG hD;refine dx (dD hL) ?_;refine dz [1,7,8] ?_;refine sJ3 @e1 @e7 @e8 ?_;intros;refine gr 21 22 ?_;refine sJ c203r5.eq_1 ?_;intros;refine gc ?_;refine sI ?_;refine gb (fun ht=>?_) (fun ht=>?_)
  ·have hik:i < k:=by have:=of_decide_eq_true ht;omega
   have htk:=wP (n:=n) hik;have hsh:eZ .shr (.int .u64 (n:Int)) (.int .i64 (8 * (k:Int) - 8 - 8 * i))=some (.int .u64 ((n / 256 ^ (k - 1 - i):Nat):Int)):=by
    have e1:8 * (k:Int) - 8 - 8 * i=((8 * (k - 1 - i):Nat):Int):=by omega
    rw[e1,xT n _ (by omega),Nat.pow_mul]
   generalize n / 256 ^ (k - 1 - i)=q at htk hsh;have w3:IntKind.i64.wrap (8 * (k:Int) - 8 - 8 * i - 8)=8 * (k:Int) - 8 - 8 * ((i+1:Nat):Int):=by rw[dU] <;> omega
   have hll:(l++(lW n k).take i).length≤200000:=by simp[gy];omega
   intros;refine gr 25 32 ?_;refine sJ3 c203r6.eq_1 @hsh @sT ?_;intro bk hbk;refine xO (L1:=[]) (L2:=[]) rfl rfl hcs (by omega) fun A' c' zc' hzc=>?_
   rw[List.append_assoc,← htk]at hzc ⊢;refine sI ?_;intros;refine gr 23 25 ?_;refine sJ2 c203r7.eq_1 @w3 ?_
   (intros;try refine du ?_)
   refine eh ⟨⟨i+1,zc',_,⟨by omega,hzc⟩,eE,eE,eE,rfl,rfl,.cons _ (List.Sublist.refl _)⟩,?_⟩;refine sJ @FA ?_;omega
  ·have hik:i=k:=by have:=of_decide_eq_false ht;omega
   subst hik;refine dT ?_;refine sI ?_;intros;refine gr 32 33 ?_;refine sJ c203r8.eq_1 ?_
   (intros;try refine du ?_)
   rw[List.take_of_length_le (by rw[gy];exact Nat.le_refl _)]at hcs ⊢;refine dC (dG _ rfl (List.Sublist.refl _) (dw dt) ?_);exact⟨zc,hcs,rfl⟩
theorem jR(l:List UInt8):(gO l).length=l.length+4:=by simp[gO,gy]
theorem Fb(v:W32):IntKind.u64.wrap (v.toNat:Int)=(v.toNat:Int):=by
 have:=v.isLt;simp only[IntKind.wrap,IntKind.bits,IntKind.signed];simp;omega
theorem Cq(l:List UInt8)(v:Value)(G:Nat→Option Obj)(hl:SB G v l)(hb:l.length≤100000):FnO Tryz.prog 202 #[v] G [] (fun _ L' r=>qD (gO l) L' r):=by
 refine F202.fnO (by simp) dt (dF ?_);unfold c202;have hsum:=zX l v G hl;unfold gO;generalize Dl l=w at hsum ⊢;intros;refine gr 0 0 ?_;refine sJ c202r0.eq_1 ?_;intros;refine gr 3 9 ?_;refine sJ c202r1.eq_1 ?_;refine l5 (.inr ⟨⟨none,rfl⟩,rfl,rfl,rfl,rfl⟩) hl rfl UE1 (by unfold maxLen;omega) fun ys A c hc=>?_
 simp only[Nat.zero_add,List.nil_append];refine sI ?_;refine(hsum _ []).mono ?_;rintro r h' ⟨G1,rfl,hg1,rfl⟩;unfold vW;refine sJ @Fb ?_;refine fo F203.enters (dQ [] _ (by decide) hc) ?_;rintro h' ⟨G2,rfl,hg2,hv2⟩;refine(vy l w.toNat 4 (by have:=w.isLt;omega) (by omega) _ G2 hv2 hb _ []).mono ?_;rintro r h' ⟨G3,L',rfl,hg3,ys3,hys3,rfl⟩;refine sI ?_
 (intros;try refine du ?_)
 refine dC (dG _ rfl (List.Sublist.refl _) (dw dt) ?_);exact⟨ys3,hys3,rfl⟩
def fk(b:Batch):List Int:=[b.base,b.last - b.base,b.src,b.epoch,b.pid,b.gen,b.seq]
def eK(l:List Int):List UInt8:=l.flatMap pvB
def jJ(b:Batch):UInt8:=UInt8.ofNat (b.ctl.toNat+if b.txn=true then 4 else 0)
def fw(base stamp:Int)(l:List Rec):List UInt8:=l.flatMap fun r=>prB r base stamp
def iV(b:Batch):List UInt8:=match b.recs with
 | []=>[]
 | r :: rs=>pvB r.stamp++fw b.base r.stamp (r :: rs)
def fA(b:Batch):List UInt8:=eK (fk b)++[jJ b]++pvB b.recs.length++iV b
def dH(b:Batch):List UInt8:=lW (gO (fA b)).length 4++gO (fA b)
theorem mz:∀ (l:List Int),(eK l).length≤10 * l.length
 | []=>by simp[eK]
 | n :: l=>by
  have:=mz l;have h2:=gw n;simp[eK]at this ⊢;omega
theorem s8{l:List Int}{k:Nat}{n:Int}(h:l[k]?=some n):eK (l.take (k+1))=eK (l.take k)++pvB n:=by
 have hk:=List.getElem?_eq_some_iff.1 h;rw[List.take_succ_eq_append_getElem hk.1,hk.2];simp[eK]
theorem tl{base stamp:Int}{l:List Rec}{k:Nat}{r:Rec}(h:l[k]?=some r):fw base stamp (l.take (k+1))=fw base stamp (l.take k)++prB r base stamp:=by
 have hk:=List.getElem?_eq_some_iff.1 h;rw[List.take_succ_eq_append_getElem hk.1,hk.2];simp[fw]
theorem u5{r:Rec}{base stamp:Int}(hk:r.key.size≤64)(hv:r.val.size≤64):(prB r base stamp).length≤169:=by
 have h1:=gw (r.off - base);have h2:=gw (r.stamp - stamp);have h3:=oe r.key;have h4:=oe r.val;simp[prB];omega
theorem sy:∀ (l:List Rec) (last nx:Int),yN last nx l=true→(∀ r∈l,j9 r=0)∧nx+l.length≤max nx (last+1)
 | [],last,nx,_=>⟨by simp,by simp;omega⟩
 | r :: l,last,nx,h=>by
  simp only[yN,Bool.and_eq_true,decide_eq_true_eq]at h;obtain⟨⟨⟨h1,h2⟩,h3⟩,h4⟩:=h;obtain⟨h5,h6⟩:=sy l last (r.off+1) h4;refine⟨fun x hx=>?_,?_⟩
  ·rcases List.mem_cons.1 hx with rfl | hx
   ·exact h1
   ·exact h5 x hx
  ·simp;omega
theorem kH{b:Batch}(h:kz b):(∀ r∈b.recs,j9 r=0)∧b.recs.length≤16:=by
 rcases h.2.2.2.2.2 with h9 | h9
 ·obtain⟨h1,h2⟩:=sy _ _ _ h9.2;have:=h.2.2.1;exact⟨h1,by omega⟩
 ·rw[h9.2.2.1];exact⟨by simp,by simp⟩
theorem F180:Fun Tryz.prog 180 91 v180 c180 o180:=Fun.mk' Tryz.func180 Tryz.ntmps180 (by kernel_rfl) (by kernel_rfl) s180 q180
theorem BT{b:Batch}{k:Nat}{n:Int}(h:(fk b)[k]?=some n):uW 7 1 none (.agg #[.int .i64 b.base,.int .i64 (b.last - b.base),.int .i64 b.src,.int .i64 b.epoch,.int .i64 b.pid,.int .i64 b.gen,.int .i64 b.seq]) (.int .i64 (k:Int))=some (.int .i64 n):=by
 have hk:=(List.getElem?_eq_some_iff.1 h).1;simp[fk]at hk
 match k,h with
 | 0,h=>cases h;rfl
 | 1,h=>cases h;rfl
 | 2,h=>cases h;rfl
 | 3,h=>cases h;rfl
 | 4,h=>cases h;rfl
 | 5,h=>cases h;rfl
 | 6,h=>cases h;rfl
theorem IL{n:Int}(h:n=0∨n=1∨n=2):eZ .or (.int .u8 (IntKind.u8.wrap n)) (.int .u8 4)=some (.int .u8 ((UInt8.ofNat (n.toNat+4)).toNat:Int)):=by
 rcases h with rfl | rfl | rfl <;> rfl
theorem Du{n:Int}(h:n=0∨n=1∨n=2):IntKind.u8.wrap n=((UInt8.ofNat n.toNat).toNat:Int):=by
 rcases h with rfl | rfl | rfl <;> rfl
theorem x7(x:Batch)(cs:List Value)(G:Nat→Option Obj)(hx:BE G x cs)(hf:kz x):FnO Tryz.prog 180 #[.agg cs.toArray] G [] (fun _ L' r=>qD (dH x) L' r):=by
 obtain⟨A,c,rfl,⟨hc,hm,hA⟩,i1,i2,i3,i4,i5,i6,i7,i8⟩:=hx;have hf0:=hf;obtain⟨⟨f1,f2,f3⟩,⟨f4,f5,f6⟩,⟨f7,f8,f9,f10⟩,f11,f12,f13⟩:=hf;simp[rng]at f1 f2 f3 f4 f5 f6;refine F180.fnO (by simp) dt (dF ?_);unfold c180 eS;have w1:IntKind.i64.wrap (x.last - x.base)=x.last - x.base:=by rw[dU] <;> omega
 intros;refine gr 0 0 ?_;refine sJ c180r0.eq_1 ?_;intros;refine gr 0 0 ?_;refine sJ c180r1.eq_1 ?_;intros;refine gr 13 29 ?_;refine sJ2 c180r2.eq_1 @w1 ?_
 (intros;try refine du ?_)
 refine dx (dR none 5 1) ?_
 refine dW (fun e h=>∃ (k:Nat) (G':Nat→Option Obj) (u:Value) (zc:List Value),(k≤7∧Gle G G'∧Cells UE 1 (eK ((fk x).take k)) zc)∧e 30=.int .i64 k∧e 29=.agg #[.int .i64 x.base,.int .i64 (x.last - x.base),.int .i64 x.src,.int .i64 x.epoch,.int .i64 x.pid,.int .i64 x.gen,.int .i64 x.seq]∧e 3=u∧h.G=G'∧h.D=[]∧[.row u 5 1 (eK ((fk x).take k)).length zc,.reg 1 [.int .i64 x.base,.int .i64 x.last,.int .i64 x.src,.int .i64 x.epoch,.int .i64 x.pid,.int .i64 x.gen,.int .i64 x.seq,.bool x.txn,.int .i64 x.ctl,.slice A x.recs.length c]].Sublist h.L) (fun e h=>7 - iv (e 30)) ?_ ?_
 ·exact⟨0,G,_,[],⟨Nat.zero_le _,.refl _,.nil⟩,eE,eE,eE,rfl,rfl,List.Sublist.refl _⟩
 ·rintro e ⟨G',L,D⟩ ⟨k,G2,u,zc,⟨hk,hgg,hcs⟩,e30,e29,e3,hG,hD,hL⟩;dsimp only at hG hD hL;subst hG hD;refine dx (dD hL) ?_;refine dz [3,29,30] ?_;refine sJ3 @e3 @e29 @e30 ?_;have hhl:=mz ((fk x).take k);have hh7:((fk x).take k).length≤7:=by simp[fk];omega
  intros;refine gr 0 0 ?_;refine sJ c180r3.eq_1 ?_;intros;refine gc ?_;refine sI ?_;refine gb (fun ht=>?_) (fun ht=>?_)
  ·have hkl:k < 7:=by simp at ht;omega
   have hw3:=fz k 7 (by omega) (by unfold maxLen;omega);obtain⟨n,hn⟩:∃ n,(fk x)[k]?=some n:=⟨(fk x)[k]'(by simp[fk];omega),List.getElem?_eq_getElem _⟩;have hin:I64 n:=by
    have:=List.mem_of_getElem? hn;simp[fk]at this;unfold I64 at *;omega
   have hix:=BT hn;have hsucc:=s8 hn
   (repeat first | refine ef ?_ | refine jS ?_)
   intros;refine gr 32 33 ?_;refine sJ2 c180r4.eq_1 @hix ?_;intros;refine gr 33 36 ?_;refine sJ c180r5.eq_1 ?_;refine fo F200.enters (dQ [] _ (by decide) hcs) ?_;rintro h' ⟨G3,rfl,hg3,hv3⟩;refine(i9 _ n hin _ G3 hv3 (by omega) _ []).mono ?_;rintro r h' ⟨G4,L',rfl,hg4,ys,hys,rfl⟩;rw[← hsucc]at hys ⊢;refine sI ?_;intros;refine gr 36 37 ?_;refine sJ2 c180r6.eq_1 @hw3 ?_
   (intros;try refine du ?_)
   refine eh ⟨⟨k+1,G4,_,ys,⟨by omega,hgg.trans (hg3.trans hg4),hys⟩,eE,eE,eE,rfl,rfl,List.Sublist.refl _⟩,?_⟩;refine sI ?_;omega
  ·have hkl:k=7:=by simp at ht;omega
   subst hkl;rw[show(fk x).take 7=fk x from rfl]at hcs hhl ⊢;have hmx:=kH hf0;have hh8:(fk x).length=7:=rfl;refine dT ?_;refine sI ?_;intros;refine gr 38 40 ?_;refine sJ c180r7.eq_1 ?_;have hend:∀ (e:Env) (G6:Nat→Option Obj) (u:Value) (zc:List Value),Cells UE 1 (fA x) zc→(fA x).length≤5000→e 3=u →
     go none Tryz.prog 91 v180.1 v180.2 (fW o180 fun v h=>qD (dH x) h.L v) [Td.s ((SC.reg false c180r20).seq ((SC.reg false c180r21).seq SC.ret))] e ⟨G6,[.row u 5 1 (fA x).length zc,.reg 1 [.int .i64 x.base,.int .i64 x.last,.int .i64 x.src,.int .i64 x.epoch,.int .i64 x.pid,.int .i64 x.gen,.int .i64 x.seq,.bool x.txn,.int .i64 x.ctl,.slice A x.recs.length c]],[]⟩:=fun e G6 u zc hzc hbl e3=>by
    refine dz [3] ?_;refine sJ @e3 ?_;intros;refine gr 83 85 ?_;refine sJ c180r20.eq_1 ?_;refine fo F202.enters (dQ [] _ (by decide) hzc) ?_;rintro h' ⟨G7,rfl,hg7,hv7⟩;refine(Cq _ _ G7 hv7 (by omega) _ []).mono ?_;rintro r h' ⟨G8,L',rfl,hg8,ys,hys,rfl⟩;refine sI ?_;intro _;have hsl:=jR (fA x);refine ed (dQ [] _ (by decide) hys) ?_;rintro h' ⟨G9,rfl,hg9,hv9⟩;obtain⟨As,cs',rfl,-,-,-⟩:=id hv9
    have hwl:IntKind.u64.wrap ((gO (fA x)).length:Int)=((gO (fA x)).length:Int):=by rw[IntKind.wrap_u64];omega
    intros;refine gr 85 91 ?_;refine sJ2 c180r21.eq_1 @hwl ?_;refine(vy [] (gO (fA x)).length 4 (by omega) (by omega) _ G9 SB.nil (by simp) _ []).mono ?_;rintro r h' ⟨G10,L',rfl,hg10,ys2,hys2,rfl⟩;simp only[List.nil_append]at hys2 ⊢;refine sI ?_;refine l5 (L1:=[]) (.inl rfl) (SB.le hv9 hg10) rfl UE1 (by rw[gy];unfold maxLen;omega) fun ys' A' c' hc'=>?_
    have hh:=hys2.app hc';refine sI ?_
    (intros;try refine du ?_)
    refine dC (dG _ rfl (.cons_cons _ (List.nil_sublist _)) (dw dt) ?_);rw[← List.length_append];exact⟨_,hh,rfl⟩
   have hrest:∀ (e:Env),e 3=u→e 6=.int .u8 ((jJ x).toNat:Int) →
     go none Tryz.prog 91 v180.1 v180.2 (fW o180 fun v h=>qD (dH x) h.L v) [Td.s ((SC.rgX c180r10).seq (((SC.reg false c180r11).seq (SC.cond (O.t 55) ((SC.reg false c180r12).seq ((SC.reg false c180r13).seq ((SC.reg false c180r14).seq (SC.blk 2 ((SC.reg false c180r15).seq ((SC.cond (O.t 68) SC.skip (SC.exit 2)).seq ((SC.blk 3 ((SC.reg false c180r16).seq ((SC.reg false c180r17).seq (SC.reg false c180r18)))).seq (SC.reg false c180r19)))).loop)))) SC.skip)).seq ((SC.reg false c180r20).seq ((SC.reg false c180r21).seq SC.ret))))] e ⟨G',[.row u 5 1 (eK (fk x)).length zc,.reg 1 [.int .i64 x.base,.int .i64 x.last,.int .i64 x.src,.int .i64 x.epoch,.int .i64 x.pid,.int .i64 x.gen,.int .i64 x.seq,.bool x.txn,.int .i64 x.ctl,.slice A x.recs.length c]],[]⟩:=fun e e3 e6=>by
    refine dz [3,6] ?_;refine sJ2 @e3 @e6 ?_
    (intros;try refine du ?_);refine o3 _ (.cons _ (List.Sublist.refl _)) (by decide) ?_;refine sJ c180r10.eq_1 ?_
    intro bk hbk;refine⟨dK (fun _ _ h=>h) (.cons _ (.cons _ (List.Sublist.refl _))),?_⟩;refine sI ?_;refine xO (L1:=[]) (L2:=[_]) (x:=jJ x) rfl rfl hcs (by omega) fun A' c' zc' hzc=>?_
    refine sI ?_;refine⟨dK (fun _ _ h=>h) (.cons _ (.cons _ (List.Sublist.refl _))),?_⟩;refine sI ?_;refine fo F200.enters (dQ [_] _ (by decide) hzc) ?_;rintro h' ⟨G4,rfl,hg4,hv4⟩;refine(i9 _ x.recs.length (by unfold I64;omega) _ G4 hv4 (by simp;omega) _ []).mono ?_;rintro r h' ⟨G5,L',rfl,hg5,ys5,hys5,rfl⟩;refine⟨dK (hg4.trans hg5) (.cons _ (.cons _ (List.Sublist.refl _))),?_⟩;refine sI ?_
    have hpl:=gw x.recs.length
    (repeat first | (with_reducible intro _) | refine dv ?_)
    refine dx (dD (L':=[.row r 5 1 (eK (fk x)++[jJ x]++pvB x.recs.length).length ys5,.reg 1 [.int .i64 x.base,.int .i64 x.last,.int .i64 x.src,.int .i64 x.epoch,.int .i64 x.pid,.int .i64 x.gen,.int .i64 x.seq,.bool x.txn,.int .i64 x.ctl,.slice A x.recs.length c]]) ?hsub) ?_
    case hsub=>exact .cons_cons _ (.cons _ (List.Sublist.refl _))
    intros;refine gr 53 55 ?_;refine sJ c180r11.eq_1 ?_;intros;refine gc ?_;refine sI ?_;refine gb (fun k1=>?_) (fun k1=>?_)
    ·have hpos:0 < x.recs.length:=by simpa using k1
     obtain⟨r0,h0⟩:∃ r0,x.recs[0]?=some r0:=⟨x.recs[0],List.getElem?_eq_getElem hpos⟩;have hg5:=hgg.trans (hg4.trans hg5);have hA5:=hA.le hg5 (E':=RR) fun _ _ h=>h
     intros;refine gr 57 61 ?_;refine sJ c180r12.eq_1 ?_;refine hA5.x_lf h0 rfl rfl (fun cs h=>by rw[h.1];rfl) fun a ha=>?_
     refine sI ?_;have hck0:=hmx.1 r0 (List.mem_of_getElem? h0);obtain⟨⟨-,q0⟩,-,-⟩:=fC hck0;have q0':=q0;simp[inO]at q0';have hst:I64 r0.stamp:=by unfold I64;omega
     intros;refine gr 61 64 ?_;refine sJ c180r13.eq_1 ?_;refine fo F200.enters (dQ [] _ (by decide) hys5) ?_;rintro h' ⟨G6,rfl,hg6,hv6⟩;refine(i9 _ r0.stamp hst _ G6 hv6 (by simp;omega) _ []).mono ?_;rintro r h' ⟨G7,L',rfl,hg7,ys7,hys7,rfl⟩;have hp7:=gw r0.stamp;refine sI ?_;have hA7:=hA5.le (hg6.trans hg7) (E':=RR) fun _ _ h=>h
     have hst0:iV x=pvB r0.stamp++fw x.base r0.stamp x.recs:=by
      match hr:x.recs,h0 with
      | r :: rs,h0=>simp[hr]at h0;subst h0;rw[iV,hr]
     generalize hP:eK (fk x)++[jJ x]++pvB x.recs.length++pvB r0.stamp=P at hys7 ⊢;have hPl:P.length≤100:=by rw[← hP];simp;omega
     intros;refine gr 0 0 ?_;refine sJ c180r14.eq_1 ?_
     (intros;try refine du ?_)
     refine dW (fun e h=>∃ (k:Nat) (G':Nat→Option Obj) (u:Value) (zc:List Value),(k≤x.recs.length∧Gle G7 G'∧Cells UE 1 (P++fw x.base r0.stamp (x.recs.take k)) zc∧(fw x.base r0.stamp (x.recs.take k)).length≤169 * k)∧e 67=.int .i64 k∧e 66=.int .i64 x.recs.length∧e 65=.slice A x.recs.length c∧e 7=.int .i64 r0.stamp∧e 3=u∧h.G=G'∧h.D=[]∧[.row u 5 1 (P++fw x.base r0.stamp (x.recs.take k)).length zc,.reg 1 [.int .i64 x.base,.int .i64 x.last,.int .i64 x.src,.int .i64 x.epoch,.int .i64 x.pid,.int .i64 x.gen,.int .i64 x.seq,.bool x.txn,.int .i64 x.ctl,.slice A x.recs.length c]].Sublist h.L) (fun e h=>x.recs.length - iv (e 67)) ?_ ?_
     ·exact⟨0,G7,r,ys7,⟨Nat.zero_le _,.refl _,by simpa [fw]using hys7,by simp[fw]⟩,eE,eE,eE,eE,eE,rfl,rfl,by simp[fw]⟩
     ·rintro e ⟨G',L,D⟩ ⟨k,G2,u,zc,⟨hk,hgg,hcs,hrl⟩,e67,e66,e65,e7,e3,hG,hD,hL⟩;dsimp only at hG hD hL;subst hG hD;refine dx (dD hL) ?_;refine dz [3,7,65,66,67] ?_;refine sJ5 @e3 @e7 @e65 @e66 @e67 ?_;intros;refine gr 0 0 ?_;refine sJ c180r15.eq_1 ?_;intros;refine gc ?_;refine sI ?_;refine gb (fun ht=>?_) (fun ht=>?_)
      ·have hkl:k < x.recs.length:=by simpa using ht
       have hw3:=fz k c (by omega) hm;obtain⟨r,hr⟩:∃ r,x.recs[k]?=some r:=⟨x.recs[k],List.getElem?_eq_getElem (by omega)⟩;have hsucc:=tl (base:=x.base) (stamp:=r0.stamp) hr;have hckr:=hmx.1 r (List.mem_of_getElem? hr);have hcs':=fC hckr;have hpl:=u5 (base:=x.base) (stamp:=r0.stamp) hcs'.2.1 hcs'.2.2;have hput:nF r x.base r0.stamp=(prB r x.base r0.stamp,0):=by
        rw[nF,if_neg (by simp[hckr]),if_neg (by simp[inO,f1,q0'])]
       have hAk:=hA7.le hgg (E':=RR) fun _ _ h=>h
       intros;refine gN ?_;intros;refine gr 69 71 ?_;refine sJ c180r16.eq_1 ?_;refine hAk.x_ld hr rfl rfl ?_;rintro a1 ha1 cs ⟨rfl,-⟩;have hPut:=El r x.base r0.stamp;unfold gV at hPut ⊢;refine sI ?_;intros;refine gr 71 79 ?_;refine sJ c180r17.eq_1 ?_;refine(hPut G' _ []).mono ?_;rintro v h' ⟨G8,L',rfl,hg8,w,rfl,ys8,hys8,rfl⟩;rw[hput]at hys8 ⊢;refine sI ?_;intro _
       refine ed (dQ [] _ (by decide) hys8) ?_;rintro h' ⟨G9,rfl,hg9,hv9⟩;intros;refine gr 79 82 ?_;refine sJ c180r18.eq_1 ?_;refine l5 (L1:=[_]) (.inl rfl) hv9 rfl UE1 (by simp;unfold maxLen;omega) fun ys' A' c' hc'=>?_
       have hh:=hcs.app hc';rw[List.append_assoc,← hsucc]at hh;rw[← List.length_append,List.append_assoc,← hsucc];refine sI ?_;intros;refine gr 82 83 ?_;refine sJ2 c180r19.eq_1 @hw3 ?_
       (intros;try refine du ?_)
       refine eh ⟨⟨k+1,G9,_,_,⟨by omega,hgg.trans (hg8.trans hg9),hh,by rw[hsucc,List.length_append];omega⟩,eE,eE,eE,eE,eE,rfl,rfl,.cons _ (List.Sublist.refl _)⟩,?_⟩;refine sI ?_;omega
      ·have hkl:k=x.recs.length:=by simp at ht;omega
       subst hkl;rw[List.take_length]at hcs hrl;have hbody:fA x=P++fw x.base r0.stamp x.recs:=by rw[fA,hst0,← hP];simp
       refine dT ?_;refine sI ?_;rw[List.take_length,← hbody];rw[← hbody]at hcs;refine hend _ G' _ zc hcs (by rw[hbody];simp;omega) ?_
       (refine sI ?_;try with_reducible exact True.intro)
    ·have hnil:x.recs=[]:=by have:=of_decide_eq_false k1;exact List.eq_nil_of_length_eq_zero (by omega)
     have htl:iV x=[]:=by rw[iV,hnil]
     have hbody:fA x=eK (fk x)++[jJ x]++pvB x.recs.length:=by rw[fA,htl,List.append_nil]
     rw[← hbody]at hys5 ⊢
     (repeat first | refine ef ?_ | refine jS ?_)
     refine hend _ G5 _ ys5 hys5 (by rw[hbody];simp;omega) ?_
     (refine sI ?_;try with_reducible exact True.intro)
   have hctl:x.ctl=0∨x.ctl=1∨x.ctl=2:=by
    rcases f13 with h | h
    ·exact .inl h.1
    ·exact .inr h.1
   intros;refine gr 0 0 ?_;refine sJ c180r8.eq_1 ?_;intros;refine gc ?_;refine sI ?_;refine gb (fun k1=>?_) (fun k1=>?_)
   ·have hm4:=IL hctl;intros;refine gr 42 44 ?_;refine sJ2 c180r9.eq_1 @hm4 ?_;intro _
    (repeat first | refine ef ?_ | refine jS ?_)
    refine hrest _ ?_ ?_ <;> (refine sI ?_;try with_reducible exact True.intro);rw[jJ,if_pos k1]
   ·(repeat first | refine ef ?_ | refine jS ?_)
    refine hrest _ ?_ ?_ <;> (refine sI ?_;try with_reducible exact True.intro);rw[jJ,if_neg (by rw[k1];simp),Du hctl];rfl
theorem rC:∀ (l:List Int),(∀ x∈l,I64 x)→Cells IE 1 l (l.map fun n=>.int .i64 n)
 | [],_=>.nil
 | n :: l,h=>.cons (cs:=[.int .i64 n]) ⟨rfl,h n (.head _)⟩ rfl (rC l fun x hx=>h x (.tail _ hx))
theorem F154:Fun Tryz.prog 154 14 v154 c154 o154:=Fun.mkA Tryz.func154 Tryz.ntmps154
theorem F118:Fun Tryz.prog 118 11 v118 c118 o118:=Fun.mkA Tryz.func118 Tryz.ntmps118
theorem F120:Fun Tryz.prog 120 12 v120 c120 o120:=Fun.mkA Tryz.func120 Tryz.ntmps120
def fp(b:Batch):Int:=if kz b then(if (dH b).length≤2048 then 0 else 2)else 1
def Df(b:Batch):List UInt8 × Int:=if fp b=0 then(dH b,0)else([],fp b)
def BA(b:Batch):Nat:=(Df b).1.length
theorem Eb{b:Batch}(h:¬ kz b):fp b=1:=if_neg h
theorem Fv{b:Batch}(h:kz b)(h2:¬ (dH b).length≤2048):fp b=2:=by rw[fp,if_pos h,if_neg h2]
theorem Fx{b:Batch}(h:kz b)(h2:(dH b).length≤2048):fp b=0:=by rw[fp,if_pos h,if_pos h2]
theorem we{b:Batch}(h:fp b=0):Df b=(dH b,0):=if_pos h
theorem wN{b:Batch}(h:¬ fp b=0):Df b=([],fp b):=if_neg h
theorem iP{b:Batch}(h:fp b=0):kz b∧(dH b).length≤2048:=by
 unfold fp at h;split at h
 ·rename_i h1;split at h
  ·rename_i h2;exact⟨h1,h2⟩
  ·cases h
 ·cases h
theorem wT{b:Batch}(hf:kz b):(fA b).length≤4900:=by
 obtain⟨h1,h2⟩:=kH hf;have a1:=mz (fk b);have a2:(fk b).length=7:=rfl;have a3:=gw b.recs.length;have a4:(iV b).length≤10+169 * b.recs.length:=by
  cases hr:b.recs with
  | nil=>simp[iV,hr]
  | cons r rs =>
   have a5:=gw r.stamp;have a6:∀ (l:List Rec) (st:Int),(∀ r∈l,j9 r=0)→(fw b.base st l).length≤169 * l.length:=fun l=>by
    induction l with
    | nil=>simp[fw]
    | cons q l ih =>
     intro st h;have e1:=ih st fun r hr=>h r (.tail _ hr)
     have e2:=fC (h q (.head _));have e3:=u5 (base:=b.base) (stamp:=st) e2.2.1 e2.2.2;simp[fw]at e1 ⊢;omega
   have a7:=a6 (r :: rs) r.stamp (by rw[← hr];exact h1);simp only[iV,hr,List.length_append];omega
 simp only[fA,List.length_append,List.length_cons,List.length_nil];omega
theorem kf(b:Batch):(dH b).length=(fA b).length+8:=by
 simp only[dH,List.length_append,gy,jR];omega
theorem oS(x:Batch)(cs:List Value)(G:Nat→Option Obj)(hx:BE G x cs):FnO Tryz.prog 154 #[.agg cs.toArray] G [] (fun _ L' r=>yu (Df x) L' r):=by
 have h1:=xo x cs G hx;have h2:=x7 x cs G hx;obtain⟨A,c,rfl,-⟩:=hx;refine F154.fnO (by simp) dt (dF ?_);unfold c154;unfold eS at h1 h2 ⊢;intros;refine gr 0 0 ?_;refine sJ c154r0.eq_1 ?_;intros;refine gr 5 7 ?_;refine sJ c154r1.eq_1 ?_;refine(h1 _ _).mono ?_;rintro _ _ ⟨rfl,rfl⟩;refine sI ?_;intros;refine gc ?_;refine sI ?_;refine gb (fun k1=>?_) (fun k1=>?_)
 ·have k1:¬ kz x:=by simpa using k1
  intros;refine gr 0 0 ?_;refine sJ c154r2.eq_1 ?_
  (intros;try refine du ?_)
  refine dx (dR none 5 1) ?_;refine dC (dG _ rfl (.cons_cons _ (List.nil_sublist _)) (dw dt) ?_);have he:=Eb k1;rw[wN (by rw[he];decide),he];exact⟨_,rfl,[],.nil,rfl⟩
 have k1:kz x:=by simpa using k1
 have hbl:=wT k1;have hwl:=kf x;intros;refine gN ?_;intros;refine gr 8 10 ?_;refine sJ c154r3.eq_1 ?_;refine(h2 k1 _ []).mono ?_;rintro r h' ⟨G1,L',rfl,hg1,ys,hys,rfl⟩;refine sI ?_;intro _;intros;try refine dv ?_
 refine ed (gK (.head _)) ?_;rintro h' ⟨rfl,A2,c2,rfl,hc2,hm2⟩;intros;refine gr 10 12 ?_;refine sJ c154r4.eq_1 ?_;intros;refine gc ?_;refine sI ?_;refine gb (fun k2=>?_) (fun k2=>?_)
 ·have k2:¬ (dH x).length≤2048:=by have:=of_decide_eq_true k2;omega
  intros;refine gr 0 0 ?_;refine sJ c154r5.eq_1 ?_
  (intros;try refine du ?_)
  refine dx (dR none 5 1) ?_;refine dC (dG _ rfl (.cons_cons _ (List.nil_sublist _)) (dw dt) ?_);have he:=Fv k1 k2;rw[wN (by rw[he];decide),he];exact⟨_,rfl,[],.nil,rfl⟩
 ·have k2:(dH x).length≤2048:=by have:=of_decide_eq_false k2;omega
  intros;refine gN ?_;intros;refine gr 13 14 ?_;refine sJ c154r6.eq_1 ?_
  (intros;try refine du ?_)
  refine dC (dG _ rfl (.cons_cons _ (List.nil_sublist _)) (dw dt) ?_);rw[we (Fx k1 k2)];exact⟨_,rfl,ys,hys,rfl⟩
theorem EP(x:Batch):(Df x).2=fp x:=by
 unfold Df;split
 ·rename_i h;exact h.symm
 ·rfl
theorem kF(x:Batch)(cs:List Value)(G:Nat→Option Obj)(hx:BE G x cs):FnS Tryz.prog 118 #[.agg cs.toArray] G (.int .i64 (fp x)):=by
 have h1:=oS x cs G hx;obtain⟨A,c,rfl,-⟩:=hx;refine F118.fnS (by simp) (dF ?_);unfold c118;unfold eS at h1 ⊢;intros;refine gr 0 0 ?_;refine sJ c118r0.eq_1 ?_;intros;refine gr 5 10 ?_;refine sJ c118r1.eq_1 ?_;refine(h1 _ []).mono ?_;rintro r h' ⟨G1,L',rfl,hg1,u,rfl,ys,hys,rfl⟩;refine sI ?_;intros;refine gr 10 11 ?_;refine sJ c118r2.eq_1 ?_;intros;refine rV ?_;simp only[push_cast,Nat.reduceBEq]
 rw[EP]
theorem Bw(x:Batch)(cs:List Value)(G:Nat→Option Obj)(hx:BE G x cs):FnS Tryz.prog 120 #[.agg cs.toArray] G (.int .i64 (BA x)):=by
 have h1:=oS x cs G hx;obtain⟨A,c,rfl,-⟩:=hx;refine F120.fnS (by simp) (dF ?_);unfold c120;unfold eS at h1 ⊢;intros;refine gr 0 0 ?_;refine sJ c120r0.eq_1 ?_;intros;refine gr 4 10 ?_;refine sJ c120r1.eq_1 ?_;refine(h1 _ []).mono ?_;rintro r h' ⟨G1,L',rfl,hg1,u,rfl,ys,hys,rfl⟩;refine sI ?_;intro _;intros;try refine dv ?_
 refine ed (gK (.head _)) ?_;rintro h' ⟨rfl,A2,c2,rfl,hc2,hm2⟩;intros;refine gr 10 12 ?_;refine sJ c120r2.eq_1 ?_;intros;refine rV ?_;simp only[push_cast,Nat.reduceBEq];rfl
theorem F191:Fun Tryz.prog 191 26 v191 c191 o191:=Fun.mkA Tryz.func191 Tryz.ntmps191
theorem F192:Fun Tryz.prog 192 33 v192 c192 o192:=Fun.mkA Tryz.func192 Tryz.ntmps192
theorem F169:Fun Tryz.prog 169 19 v169 c169 o169:=Fun.mkA Tryz.func169 Tryz.ntmps169
theorem rj{α:Type}[BEq α][LawfulBEq α][DecidableEq α](a b:α):(a == b)=decide (a=b):=by by_cases h:a=b <;> simp[h]
theorem C6{G:Nat→Option Obj}{v:Value}{l:List UInt8}(hl:SB G v l){h:H}(hG:h.G=G):tH h v ⟨l.toArray⟩:=by
 obtain⟨G',L,D⟩:=h;dsimp only at hG;subst hG;obtain⟨A,c,rfl,hc,hm,hA⟩:=hl;cases A with
 | none =>
  match l,hA with
  | [],_=>exact .inl ⟨c,rfl,rfl⟩
  | x :: xs,hA=>obtain⟨a,_,ha,_⟩:=hA 0 x rfl;cases ha
 | some a =>
  refine .inr ⟨a,c,rfl,fun j u hu=>?_⟩;rw[mW]at hu;simp[qC]at hu;obtain⟨x,hx,rfl⟩:=hu;obtain⟨a',cs,ha,h1,h2,h3⟩:=hA j x hx;cases ha;have:=h3 0 (.int .u8 (x.toNat:Int)) (by rw[h2];rfl);simp at this;exact .g this
instance decRec (a b:Rec):Decidable (a=b):=decidable_of_iff (a.off=b.off∧a.key=b.key∧a.val=b.val∧a.dead=b.dead∧a.stamp=b.stamp) (by cases a;cases b;simp)
instance decBatch (a b:Batch):Decidable (a=b):=decidable_of_iff (a.base=b.base∧a.last=b.last∧a.src=b.src∧a.epoch=b.epoch∧a.pid=b.pid∧a.gen=b.gen∧a.seq=b.seq∧a.txn=b.txn∧a.ctl=b.ctl∧a.recs=b.recs) (by cases a;cases b;simp)
theorem DF(a b:ByteArray):(a.toList == b.toList)=decide (a=b):=by
 rw[rj,ByteArray.toList_eq,ByteArray.toList_eq];congr 1;apply propext;constructor
 ·intro h;cases a;cases b;simp at h;rw[h]
 ·intro h;rw[h]
theorem Jc(a b:Rec):eqC [0,2,2,1,0] (gV a) (gV b)=some (decide (a=b)):=by
 have h:(a=b)↔(a.off=b.off∧a.key=b.key∧a.val=b.val∧a.dead=b.dead∧a.stamp=b.stamp):=by cases a;cases b;simp
 simp only[gV,eqC,if_true,Option.map_some,DF,h];rw[rj a.dead b.dead];simp only[Bool.and_true,Bool.decide_and]
theorem xh{α:Type}[DecidableEq α]{a b:List α}{k:Nat}(hk:k=a.length)(hl:a.length=b.length)(h:a.take k=b.take k):a=b:=by
 subst hk;rw[List.take_length,hl,List.take_length]at h;exact h
theorem pc{α:Type}{a b:List α}{k:Nat}{x y:α}(h:a.take k=b.take k)(hx:a[k]?=some x)(hy:b[k]?=some y)(hxy:x=y):a.take (k+1)=b.take (k+1):=by
 have h1:=List.getElem?_eq_some_iff.1 hx;have h2:=List.getElem?_eq_some_iff.1 hy;rw[List.take_succ_eq_append_getElem h1.1,List.take_succ_eq_append_getElem h2.1,h,h1.2,h2.2,hxy]
theorem yn(a b:List Rec)(v u:Value)(G:Nat→Option Obj)(ha:SlV G RR 5 v a)(hb:SlV G RR 5 u b):FnS Tryz.prog 191 #[v,u] G (.bool (decide (a=b))):=by
 obtain⟨A,c,rfl,hc,hm,hA⟩:=ha;obtain⟨B,d,rfl,hd,hn,hB⟩:=hb;refine F191.fnS (by simp) (dF ?_);unfold c191;intros;refine gr 0 0 ?_;refine sJ c191r0.eq_1 ?_;intros;refine gr 6 10 ?_;refine sJ c191r1.eq_1 ?_;intros;refine gc ?_;refine sI ?_;refine gb (fun h1=>?_) (fun h1=>?_)
 ·have h1:=of_decide_eq_true h1;intros;refine gr 0 0 ?_;refine sJ c191r2.eq_1 ?_;intros;refine rV ?_;simp only[push_cast,Nat.reduceBEq];rw[decide_eq_false fun h=>h1 (by rw[h])]
 ·have h1:a.length=b.length:=by have:=of_decide_eq_false h1;omega
  intros;refine gN ?_;intros;refine gr 11 12 ?_;refine sJ c191r3.eq_1 ?_
  (intros;try refine du ?_)
  refine dW (fun e h=>∃ k:Nat,(k≤a.length∧a.take k=b.take k)∧e 13=.int .i64 k∧e 12=.int .i64 a.length∧e 0=.slice A a.length c∧e 1=.slice B b.length d∧h=⟨G,[],[]⟩) (fun e h=>a.length - iv (e 13)) ?_ ?_
  ·exact⟨0,⟨Nat.zero_le _,rfl⟩,eE,eE,eE,eE,rfl⟩
  ·rintro e h ⟨k,⟨hk,htk⟩,e13,e12,e0,e1,rfl⟩;refine dz [0,1,12,13] ?_;refine sJ4 @e0 @e1 @e12 @e13 ?_;intros;refine gr 0 0 ?_;refine sJ c191r4.eq_1 ?_;intros;refine gc ?_;refine sI ?_;refine gb (fun h2=>?_) (fun h2=>?_)
   ·have hkl:k < a.length:=by simpa using h2
    have hw3:=fz k c (by omega) hm;obtain⟨x,hx⟩:∃ x,a[k]?=some x:=⟨a[k],List.getElem?_eq_getElem (by omega)⟩;obtain⟨y,hy⟩:∃ y,b[k]?=some y:=⟨b[k],List.getElem?_eq_getElem (by omega)⟩;intros;refine gN ?_;intros;refine gr 15 16 ?_;refine sJ c191r5.eq_1 ?_
    (intros;try refine du ?_);refine xM 16 24 (by decide) ?_;refine sJ c191r6.eq_1 ?_
    refine hA.y_ld hx rfl rfl ?_;rintro a1 ha1 cs ⟨rfl,-⟩;refine sI ?_;refine hB.y_ld hy rfl rfl ?_;rintro a2 ha2 cs ⟨rfl,-⟩;refine sJ @Jc ?_;intros;refine gc ?_;refine sI ?_;refine gb (fun h3=>?_) (fun h3=>?_)
    ·have h3:¬ x=y:=by simpa using h3
     intros;refine gr 0 0 ?_;refine sJ c191r7.eq_1 ?_;intros;refine rV ?_;simp only[push_cast,Nat.reduceBEq];rw[decide_eq_false fun h=>h3 (by subst h;rw[hx]at hy;cases hy;rfl)]
    ·have h3:x=y:=by simpa using h3
     intros;refine gN ?_;intros;refine gr 25 26 ?_;refine sJ2 c191r8.eq_1 @hw3 ?_
     (intros;try refine du ?_)
     refine eh ⟨⟨k+1,⟨by omega,pc htk hx hy h3⟩,eE,eE,eE,eE,rfl⟩,?_⟩;refine sI ?_;omega
   ·have hkl:k=a.length:=by simp at h2;omega
    refine dT ?_;refine sI ?_;intros;refine gr 0 0 ?_;refine sJ c191r9.eq_1 ?_;intros;refine rV ?_;simp only[push_cast,Nat.reduceBEq];rw[decide_eq_true (xh hkl h1 htk)]
theorem BE.recs{G:Nat→Option Obj}{x:Batch}{cs:List Value}(h:BE G x cs):∃ A c,cs=eS x (.slice A x.recs.length c)∧SlV G RR 5 (.slice A x.recs.length c) x.recs:=by
 obtain⟨A,c,h1,⟨h2,h3,h4⟩,-⟩:=h;exact⟨A,c,h1,A,c,rfl,h2,h3,h4⟩
theorem GT(x y:Batch):decide (x=y)=(decide (x.base=y.base) && decide (x.last=y.last) && decide (x.src=y.src) && decide (x.epoch=y.epoch) && decide (x.pid=y.pid) && decide (x.gen=y.gen) && decide (x.seq=y.seq) && (x.txn == y.txn) && decide (x.ctl=y.ctl) && decide (x.recs=y.recs)):=by
 have h:(x=y)↔(x.base=y.base∧x.last=y.last∧x.src=y.src∧x.epoch=y.epoch∧x.pid=y.pid∧x.gen=y.gen∧x.seq=y.seq∧x.txn=y.txn∧x.ctl=y.ctl∧x.recs=y.recs):=by cases x;cases y;simp
 simp only[h,Bool.decide_and,rj,Bool.and_assoc]
theorem wa(x:Batch)(cs:List Value)(G:Nat→Option Obj)(hx:BE G x cs):
  FnS Tryz.prog 192 #[.agg cs.toArray] G (.agg #[.int .i64 x.base,.int .i64 x.last,.int .i64 x.src,.int .i64 x.epoch,.int .i64 x.pid,.int .i64 x.gen,.int .i64 x.seq,.int .i64 x.ctl,.int .i64 (if x.txn=true then 1 else 0)]):=by
 obtain⟨A,c,rfl,hA⟩:=hx.recs;refine F192.fnS (by simp) (dF ?_);unfold c192 eS;intros;refine gr 0 0 ?_;refine sJ c192r0.eq_1 ?_;intros;refine gr 5 7 ?_;refine sJ c192r1.eq_1 ?_;intros;try refine dv ?_
 refine eA (fun e h=>e 3=.int .i64 (if x.txn=true then IntKind.i64.wrap (IntKind.i64.wrap (x.ctl * 2)+1)else IntKind.i64.wrap (x.ctl * 2))∧h=⟨G,[.reg 2 [.int .i64 0,.int .i64 0,.int .i64 0,.int .i64 0,.int .i64 0,.int .i64 0,.int .i64 0,.int .i64 0,.int .i64 0],.reg 1 [.int .i64 x.base,.int .i64 x.last,.int .i64 x.src,.int .i64 x.epoch,.int .i64 x.pid,.int .i64 x.gen,.int .i64 x.seq,.bool x.txn,.int .i64 x.ctl,.slice A x.recs.length c]],[]⟩) ?_ ?_
 ·intros;refine gr 0 0 ?_;refine sJ c192r2.eq_1 ?_;intros;refine gc ?_;refine sI ?_;refine gb (fun k1=>?_) (fun k1=>?_)
  ·intros;refine gr 9 11 ?_;refine sJ c192r3.eq_1 ?_
   (intros;try refine du ?_)
   refine eh ⟨?_,rfl⟩;rw[if_pos k1]
   (refine sI ?_;try with_reducible exact True.intro)
  ·(intros;try refine du ?_)
   refine eh ⟨?_,rfl⟩;rw[if_neg (by rw[k1];simp)]
   (refine sI ?_;try with_reducible exact True.intro)
 rintro e h ⟨e3,rfl⟩;refine dz [3] ?_;refine sJ @e3 ?_;have hw:IntKind.i64.wrap ((if x.txn=true then IntKind.i64.wrap (IntKind.i64.wrap (x.ctl * 2)+1)else IntKind.i64.wrap (x.ctl * 2)) - IntKind.i64.wrap (x.ctl * 2))=(if x.txn=true then 1 else 0):=by
  simp only[IntKind.wrap_i64];split <;> omega
 intros;refine gr 12 33 ?_;(try simp -implicitDefEqProofs only[oY,oZ,push_cast,Nat.reduceBEq,Nat.reduceAdd,Nat.reduceSub,Nat.reduceMul,Nat.reduceLT,Nat.reduceLeDiff,Nat.reduceEqDiff,reduceIte,Bool.not_true,Bool.not_false,true_and,and_true,Option.map_some,Option.bind_some,Int.toNat_natCast,c192r4,hw]);intros;refine rV ?_;simp only[push_cast,Nat.reduceBEq]
theorem BZ(x y:Batch)(cs ds:List Value)(G:Nat→Option Obj)(hx:BE G x cs)(hy:BE G y ds):FnS Tryz.prog 169 #[.agg cs.toArray,.agg ds.toArray] G (.bool (decide (x=y))):=by
 have hhx:=wa x cs G hx;have hhy:=wa y ds G hy;obtain⟨A,c,rfl,hA⟩:=hx.recs;obtain⟨B,d,rfl,hB⟩:=hy.recs;refine F169.fnS (by simp) (dF ?_);unfold c169;unfold eS at hhx hhy ⊢;intros;refine gr 0 0 ?_;refine sJ c169r0.eq_1 ?_;intros;refine gr 7 11 ?_;refine sJ c169r1.eq_1 ?_;refine(yn _ _ _ _ _ hA hB _ _).mono ?_;rintro _ _ ⟨rfl,rfl⟩;refine sI ?_;intros;refine gc ?_;refine sI ?_
 refine gb (fun k1=>?_) (fun k1=>?_)
 ·have k1:¬ x.recs=y.recs:=by simpa using k1
  intros;refine gr 0 0 ?_;refine sJ c169r2.eq_1 ?_;intros;refine rV ?_;simp only[push_cast,Nat.reduceBEq];rw[decide_eq_false fun h=>k1 (by rw[h])]
 have k1:x.recs=y.recs:=by simpa using k1
 intros;refine gN ?_;intros;refine gr 0 0 ?_;refine sJ c169r3.eq_1 ?_
 (intros;try refine du ?_);refine o3 _ (List.Sublist.refl _) (by decide) ?_;refine sJ c169r4.eq_1 ?_
 refine .inl ⟨_,_,rfl,?_⟩;refine(hhx _ _).mono ?_;rintro _ _ ⟨rfl,rfl⟩;refine sI ?_;refine .inl ⟨_,_,rfl,?_⟩;refine(hhy _ _).mono ?_;rintro _ _ ⟨rfl,rfl⟩;refine sI ?_;intros;refine rV ?_;simp only[push_cast,Nat.reduceBEq];rw[GT,k1];cases x.txn <;> cases y.txn <;> simp[Bool.and_assoc]
theorem F64:Fun Tryz.prog 64 29 v64 c64 o64:=Fun.mkA Tryz.func64 Tryz.ntmps64
theorem Dr(x:Batch)(cs:List Value)(G:Nat→Option Obj)(hx:BE G x cs):FnE Tryz.prog 64 #[.agg cs.toArray] G (fun r=>∃ b,r=.bool b∧(b=true→x.recs.length≤100)):=by
 obtain⟨A,c,rfl,⟨hc,hm,hA⟩,-⟩:=hx;refine F64.fnE (by simp) (dF ?_);unfold c64 eS;intros;refine gr 0 0 ?_;refine sJ c64r0.eq_1 ?_;intros;refine gr 0 0 ?_;refine sJ c64r1.eq_1 ?_;intros;refine gr 0 0 ?_;refine sJ c64r2.eq_1 ?_
 (intros;try refine du ?_)
 refine dW (fun e h=>∃ (k:Nat) (n:Int),(k≤x.recs.length)∧e 9=.int .i64 k∧e 8=.int .i64 x.recs.length∧e 7=.slice A x.recs.length c∧e 3=.int .i64 n∧h.G=G∧h.D=[]∧[.reg 1 [.int .i64 x.base,.int .i64 x.last,.int .i64 x.src,.int .i64 x.epoch,.int .i64 x.pid,.int .i64 x.gen,.int .i64 x.seq,.bool x.txn,.int .i64 x.ctl,.slice A x.recs.length c]].Sublist h.L) (fun e h=>x.recs.length - iv (e 9)) ?_ ?_
 ·exact⟨0,0,Nat.zero_le _,eE,eE,eE,eE,rfl,rfl,List.Sublist.refl _⟩
 ·rintro e ⟨G',L,D⟩ ⟨k,n,hk,e9,e8,e7,e3,hG,hD,hL⟩;dsimp only at hG hD hL;subst hG hD;refine dx (dD hL) ?_;refine dz [3,7,8,9] ?_;refine sJ4 @e3 @e7 @e8 @e9 ?_;intros;refine gr 0 0 ?_;refine sJ c64r3.eq_1 ?_;intros;refine gc ?_;refine sI ?_;refine gb (fun ht=>?_) (fun ht=>?_)
  ·have hkl:k < x.recs.length:=by simpa using ht
   have hw3:=fz k c (by omega) hm;obtain⟨r,hr⟩:∃ r,x.recs[k]?=some r:=⟨x.recs[k],List.getElem?_eq_getElem (by omega)⟩;intros;refine gN ?_;intros;refine gr 11 13 ?_;refine sJ c64r4.eq_1 ?_;refine hA.x_ld hr rfl rfl ?_;rintro a1 ha1 cs ⟨rfl,⟨j1,j2⟩,j3,j4⟩;unfold gV;refine sI ?_;intros;refine gr 13 22 ?_;refine sJ c64r5.eq_1 ?_;generalize IntKind.i64.wrap _=m2
   intros;refine gr 22 23 ?_;refine sJ c64r6.eq_1 ?_;intros;refine gc ?_;refine sI ?_;refine gb (fun h1=>?_) (fun h1=>?_)
   ·intros;refine gr 0 0 ?_;refine sJ c64r7.eq_1 ?_;intros;refine rV ?_;simp only[push_cast,Nat.reduceBEq];exact⟨false,rfl,fun h=>by cases h⟩
   ·have h1:=of_decide_eq_false h1;intros;refine gN ?_;intros;refine gr 24 25 ?_;refine sJ2 c64r8.eq_1 @hw3 ?_
    (intros;try refine du ?_)
    refine eh ⟨⟨k+1,m2,by omega,eE,eE,eE,eE,rfl,rfl,.cons _ (List.Sublist.refl _)⟩,?_⟩;refine sI ?_;omega
  ·refine dT ?_;refine sI ?_;intros;refine gr 26 29 ?_;refine sJ c64r9.eq_1 ?_;intros;refine rV ?_;simp only[push_cast,Nat.reduceBEq];exact⟨_,rfl,fun h=>by have:=of_decide_eq_true h;omega⟩
instance decI64 (n:Int):Decidable (I64 n):=by
 unfold I64
 infer_instance
end Go.Proofs.YtpmofpekcbghnaaGreat

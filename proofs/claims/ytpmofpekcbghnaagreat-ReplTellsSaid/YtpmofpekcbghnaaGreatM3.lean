/- Parts of a proof, 16 texts in one file. No condition. -/
import Derived.Test.YtpmofpekcbghnaaGreatRows
import Derived.Test.YtpmofpekcbghnaaGreatM1
import Derived.Test.YtpmofpekcbghnaaGreatM2
set_option linter.unusedSimpArgs false
set_option linter.unusedVariables false
namespace Go.Proofs.YtpmofpekcbghnaaGreat
open Go Go.Kx
open List (getElem?_eq_getElem mem_of_getElem? length_append take_length append_nil)
abbrev ac(a b:Nat):SI:=⟨none,.mv a (.t b),none,0⟩
abbrev af(a:Nat)(b:Int):SI:=⟨none,.mv a (.i b),none,0⟩
abbrev ah(a:Nat):SI:=⟨none,.nop,(some a),0⟩
abbrev ai(a b c:Nat):SI:=⟨none,.ldR a b c none,none,0⟩
abbrev aj(a b:Nat):SI:=⟨none,.ld a (.t b) none,none,0⟩
abbrev ak(a b c:Nat):SI:=⟨none,.ext a (.t b) c,none,0⟩
abbrev am(a b c d:Nat):SI:=⟨none,.stR a b c (.t d),none,0⟩
abbrev ao(a b c:Nat):SI:=⟨none,.flA a (.t b) c,none,0⟩
abbrev aq(a b c:Nat):SI:=⟨none,.pick a (.t b) (.b true) (.t c),none,0⟩
abbrev ar(a b c d:Nat):SI:=⟨none,.ldR a b c (some d),none,0⟩
abbrev au(a b c:Nat):SI:=⟨none,.call a b [(.t c)],none,0⟩
abbrev av(a b c:Nat):SI:=⟨some (a,false),.mv b (.t c),none,b⟩
abbrev aw(a b:Nat):SI:=⟨none,.len a false (.t b),none,0⟩
abbrev ay(a b:Nat):SI:=⟨none,.nck a (.t b),none,0⟩
abbrev az(a b:Nat):SI:=⟨some (a,false),.nop,(some b),99999⟩
abbrev aA(a b c d:Nat):SI:=⟨some (a,false),.ldR b c d none,none,b⟩
abbrev aB(a b c d:Nat):SI:=⟨none,.call a b [(.t c),(.t d)],none,0⟩
abbrev aC(a:Nat):SI:=⟨none,.mv a (.b false),none,0⟩
abbrev aD(a b c:Nat):SI:=⟨some (a,true),.mv b (.t c),none,b⟩
abbrev aE(a b c d:Nat):SI:=⟨none,.ixA a (.t b) (.t c) d,none,0⟩
abbrev aF(a b:Nat)(c:Int):SI:=⟨none,.bin a .add (.t b) (.i c),none,0⟩
abbrev aG(a b:Nat):SI:=⟨none,.bxR a (.t b),none,0⟩
abbrev aH(a b c:Nat):SI:=⟨none,.st (.t a) b (.t c),none,0⟩
abbrev aI(a b c:Nat):SI:=⟨none,.pick a (.t b) (.t c) (.b false),none,0⟩
abbrev aJ(a b c:Nat):SI:=⟨none,.bin a .lss (.t b) (.t c),none,0⟩
abbrev aK(a b c:Nat):SI:=⟨none,.ld a (.t b) (some c),none,0⟩
abbrev aL(a:Nat):SI:=⟨none,.mv a (.v (.slice none 0 0)),none,0⟩
abbrev aM(a b:Nat)(c:Int):SI:=⟨none,.bin a .neq (.t b) (.i c),none,0⟩
abbrev aN(a b:Nat):SI:=⟨none,.un a .not (.t b),none,0⟩
abbrev aO(a b:Nat):SI:=⟨some (a,true),.nop,(some b),99999⟩
abbrev aP(a b c d:Nat):SI:=⟨some (a,true),.ldR b c d none,none,b⟩
abbrev aQ(a b c d e f:Nat):SI:=⟨none,.app a (.t b) (.t c) d e f,none,0⟩
abbrev aR(a b c:Nat)(d:Int):SI:=⟨some (a,false),.bin b .gtr (.t c) (.i d),none,b⟩
abbrev aS(a b:Nat)(c:Int):SI:=⟨none,.bin a .lss (.t b) (.i c),none,0⟩
abbrev aT(a b c:Nat):SI:=⟨some (a,false),.un b .not (.t c),none,b⟩
abbrev aU(a b:Nat):SI:=⟨none,.bx a (.t b),none,0⟩
abbrev aV(a b c:Nat):SI:=⟨some (a,false),.len b false (.t c),none,b⟩
abbrev aW(a b c:Nat):SI:=⟨some (a,false),.ld b (.t c) none,none,b⟩
abbrev aX(a b c:Nat):SI:=⟨none,.bin a .add (.t b) (.t c),none,0⟩
abbrev aY(a b c d:Nat):SI:=⟨some (a,false),.call b c [(.t d)],none,b⟩
abbrev aZ(a b:Nat)(c:Int):SI:=⟨none,.bin a .eql (.t b) (.i c),none,0⟩
abbrev a0(a b c d:Nat):SI:=⟨some (a,true),.call b c [(.t d)],none,b⟩
abbrev a8(a b c d e:Nat):SI:=⟨some (a,true),.ldR b c d (some e),none,b⟩
abbrev a9(a:Nat):SI:=⟨none,.alR a [(.int .i64 0),(.int .i64 0),(.int .i64 0),(.slice none 0 0),(.slice none 0 0)],none,0⟩
abbrev ba(a:Nat):SI:=⟨none,.alR a [(.int .i64 0),(.int .i64 0),(.slice none 0 0)],none,0⟩
abbrev bc(a b c:Nat)(d:Int):SI:=⟨some (a,true),.bin b .eql (.t c) (.i d),none,b⟩
abbrev bd(a b c:Nat):SI:=⟨none,.bin a .sub (.t b) (.t c),none,0⟩
abbrev bf(a b:Nat)(c:Int):SI:=⟨none,.bin a .geq (.t b) (.i c),none,0⟩
abbrev bg(a:Nat):SI:=⟨none,.alR a [(.int .i64 0),(.int .i64 0),(.int .i64 0),(.int .i64 0),(.int .i64 0),(.int .i64 0),(.int .i64 0),(.bool false),(.int .i64 0),(.slice none 0 0)],none,0⟩
abbrev bh(a b c d e:Nat):SI:=⟨none,.call a b [(.t c),(.t d),(.t e)],none,0⟩
abbrev bi(a b c:Nat)(d:Int):SI:=⟨some (a,false),.bin b .lss (.t c) (.i d),none,b⟩
abbrev bj(a b c d e:Nat):SI:=⟨some (a,true),.ixA b (.t c) (.t d) e,none,b⟩
abbrev bl(a b c:Nat)(d:Int):SI:=⟨some (a,false),.bin b .neq (.t c) (.i d),none,b⟩
abbrev bm(a b c:Nat):SI:=⟨some (a,true),.ld b (.t c) none,none,b⟩
abbrev bn(a b c:Nat):SI:=⟨none,.bin a .eql (.t b) (.t c),none,0⟩
abbrev bo(a b:Nat)(c:Int)(d e:Nat):SI:=⟨none,.ixP a (.t b) (.i c) d e,none,0⟩
abbrev bp(a b c d:Nat):SI:=⟨some (a,false),.pick b (.t c) (.t d) (.b false),none,b⟩
abbrev bq(a:Nat):SI:=⟨none,.bld a [(.int .i64 0),(.int .i64 0),(.slice none 0 0)] [],none,0⟩
abbrev bt(a:Nat):SI:=⟨none,.bld a [(.int .i64 0),(.int .i64 0),(.int .i64 0),(.int .i64 0),(.int .i64 0),(.int .i64 0),(.int .i64 0),(.bool false),(.int .i64 0),(.slice none 0 0)] [],none,0⟩
abbrev bu(a b:Nat):SI:=⟨none,.cvI a .u64 (.t b),none,0⟩
abbrev bw(a b:Nat)(c:Int):SI:=⟨none,.bin a .gtr (.t b) (.i c),none,0⟩
abbrev bz(a:Nat):SI:=⟨none,.alR a [(.int .i64 0),(.slice none 0 0)],none,0⟩
abbrev bA(a b:Nat)(c:Int):SI:=⟨none,.bin a .sub (.t b) (.i c),none,0⟩
abbrev bB(a b c d:Nat):SI:=⟨none,.sl a (.t b) none (some (.t c)) none d,none,0⟩
abbrev bC(a b c d:Nat):SI:=⟨some (a,true),.pick b (.t c) (.b true) (.t d),none,b⟩
abbrev bD(a:Nat):SI:=⟨none,.mv a (.v (.string ⟨#[]⟩)),none,0⟩
abbrev bE(a b c:Nat)(d:Int):SI:=⟨some (a,true),.bin b .leq (.t c) (.i d),none,b⟩
abbrev bF(a b:Nat):SI:=⟨none,.cvI a .u8 (.t b),none,0⟩
abbrev bG(a b c d:Nat):SI:=⟨some (a,true),.bin b .eql (.t c) (.t d),none,b⟩
abbrev bH(a b c:Nat)(d:Int):SI:=⟨none,.call a b [(.t c),(.i d)],none,0⟩
abbrev bI(a b c d e:Nat):SI:=⟨some (a,false),.ixA b (.t c) (.t d) e,none,b⟩
abbrev bJ(a b c d:Nat):SI:=⟨some (a,false),.flA b (.t c) d,none,b⟩
abbrev bK(a b c d:Nat):SI:=⟨some (a,false),.bin b .gtr (.t c) (.t d),none,b⟩
abbrev bL(a b c:Nat)(d:Int):SI:=⟨some (a,true),.bin b .sub (.t c) (.i d),none,b⟩
abbrev bM(a:Nat):SI:=⟨none,.mv a (.b true),none,0⟩
abbrev bN(a b c:Nat):SI:=⟨none,.bin a .gtr (.t b) (.t c),none,0⟩
abbrev bO(a:Nat)(b:Int):SI:=⟨none,.mv a (.v (.int .u64 b)),none,0⟩
abbrev bP(a b c:Nat):SI:=⟨none,.bin a .neq (.t b) (.t c),none,0⟩
abbrev bQ(a b c d e f g:Nat):SI:=⟨none,.bls a b c d [(.int .i64 0),(.slice none 0 0)] [(e,f,(.t g))],none,0⟩
abbrev bR(a b:Nat):SI:=⟨none,.cvI a .i64 (.t b),none,0⟩
abbrev bS(a b c:Nat):SI:=⟨some (a,true),.len b false (.t c),none,b⟩
abbrev bT(a b c:Nat):SI:=⟨none,.mm a false (.t b) (.t c),none,0⟩
abbrev bU(a b:Nat)(c:Int):SI:=⟨none,.bin a .shr (.t b) (.v (.int .u64 c)),none,0⟩
abbrev bV(a:Nat):SI:=⟨none,.alR a [(.int .i64 0),(.string ⟨#[]⟩),(.string ⟨#[]⟩),(.bool false),(.int .i64 0)],none,0⟩
abbrev bW(a b c d e f g:Nat):SI:=⟨none,.bls a b c d [(.int .u8 0)] [(e,f,(.t g))],none,0⟩
abbrev bX(a:Nat):SI:=⟨none,.al a [(.int .i64 0),(.int .i64 0),(.int .i64 0),(.slice none 0 0),(.slice none 0 0)],none,0⟩
abbrev bY(a:Nat):SI:=⟨none,.al a [(.int .i64 0)],none,0⟩
abbrev bZ(a b c:Nat):SI:=⟨none,.mm a true (.t b) (.t c),none,0⟩
abbrev cd(a b c:Nat):SI:=⟨none,.mkf a (.func b) [(.t c)],none,0⟩
abbrev cf(a:Nat):SI:=⟨none,.bl0 a,none,0⟩
abbrev ci(a b c:Nat):SI:=⟨none,.cav a (.t b) [(.t c)],none,0⟩
abbrev cj(a b c d:Nat)(e:Int):SI:=⟨some (a,false),.call b c [(.t d),(.i e)],none,b⟩
abbrev ck(a b c d:Nat):SI:=⟨none,.cav a (.t b) [(.t c),(.t d)],none,0⟩
abbrev cm(a b c d:Nat)(e:Int):SI:=⟨none,.call a b [(.t c),(.t d),(.i e)],none,0⟩
abbrev cn(a:Nat)(b:Int):SI:=⟨none,.mv a (.v (.int .u32 b)),none,0⟩
abbrev cp(a b c:Nat)(d:Int)(e f:Nat):SI:=⟨some (a,false),.ixP b (.t c) (.i d) e f,none,b⟩
abbrev cr(a b c d:Nat):SI:=⟨some (a,true),.bin b .geq (.t c) (.t d),none,b⟩
abbrev cv(a b c d:Nat):SI:=⟨some (a,false),.bin b .neq (.t c) (.t d),none,b⟩
abbrev cw(a b c d:Nat):SI:=⟨none,.mkf a (.func b) [(.t c),(.t d)],none,0⟩
abbrev cz(a:Nat):SI:=⟨none,.mv a (.i (-1)),none,0⟩
abbrev cA(a b c d:Nat):SI:=⟨some (a,true),.bin b .leq (.t c) (.t d),none,b⟩
abbrev cB(a b c:Nat):SI:=⟨some (a,true),.un b .not (.t c),none,b⟩
abbrev cC(a b c:Nat):SI:=⟨none,.bin a .geq (.t b) (.t c),none,0⟩
abbrev cD(a:Nat):SI:=⟨none,.bld a [(.int .i64 0),(.slice none 0 0)] [],none,0⟩
abbrev cE(a b c:Nat):SI:=⟨none,.bin a .xor (.t b) (.t c),none,0⟩
abbrev cF(a b:Nat):SI:=⟨none,.call a b [],none,0⟩
abbrev cG(a b c d e:Nat):SI:=⟨some (a,true),.call b c [(.t d),(.t e)],none,b⟩
abbrev cH(a b c d:Nat):SI:=⟨some (a,true),.ld b (.t c) (some d),none,b⟩
abbrev cI(a:Nat):SI:=⟨none,.bld a [(.int .i64 0),(.int .i64 0),(.int .i64 0),(.slice none 0 0),(.slice none 0 0)] [],none,0⟩
abbrev cJ(a b:Nat)(c:Int)(d:Nat):SI:=⟨none,.ixA a (.t b) (.i c) d,none,0⟩
abbrev cK(a b c d e:Nat):SI:=⟨some (a,false),.call b c [(.t d),(.t e)],none,b⟩
abbrev cL(a b c:Nat)(d:Int):SI:=⟨some (a,false),.bin b .eql (.t c) (.i d),none,b⟩
abbrev cM(a b c d:Nat):SI:=⟨some (a,true),.flA b (.t c) d,none,b⟩
abbrev cN(a b c d e:Nat):SI:=⟨some (a,false),.ldR b c d (some e),none,b⟩
abbrev cO(a b:Nat)(c:Int):SI:=⟨none,.st (.t a) b (.i c),none,0⟩
abbrev cP(a b:Nat):SI:=⟨none,.isn a false (.t b),none,0⟩
abbrev cQ(a b:Nat):SI:=⟨none,.bin a .eql (.t b) (.i (-1)),none,0⟩
abbrev cR(a:Nat):SI:=⟨none,.mv a (.v .nilFunc),none,0⟩
abbrev cS(a b c d:Nat):SI:=⟨some (a,false),.bin b .lss (.t c) (.t d),none,b⟩
abbrev cT(a b:Nat)(c:Int):SI:=⟨none,.bin a .quo (.t b) (.v (.int .u32 c)),none,0⟩
abbrev cU(a b c d e:Nat):SI:=⟨none,.ixP a (.t b) (.t c) d e,none,0⟩
abbrev cV(a b c d e f g:Nat):SI:=⟨none,.bls a b c d [(.int .i64 0)] [(e,f,(.t g))],none,0⟩
abbrev cW(a b c d:Nat):SI:=⟨none,.bld a [(.int .i64 0),(.slice none 0 0)] [(b,c,(.t d))],none,0⟩
abbrev cX(a b c d e f g:Nat):SI:=⟨none,.bls a b c d [(.int .i64 0),(.int .i64 0),(.int .i64 0),(.int .i64 0),(.int .i64 0),(.int .i64 0),(.int .i64 0),(.bool false),(.int .i64 0),(.slice none 0 0)] [(e,f,(.t g))],none,0⟩
abbrev cY(a:Nat):SI:=⟨none,.alR a [(.int .i64 0),(.int .i64 0)],none,0⟩
abbrev cZ(a b c d e f:Nat):SI:=⟨none,.call a b [(.t c),(.t d),(.t e),(.t f)],none,0⟩
abbrev da(a b c:Nat):SI:=⟨none,.call a b [(.v (.slice none 0 0)),(.t c)],none,0⟩
abbrev dh(a b:Nat):SI:=⟨none,.st (.t a) b (.b false),none,0⟩
abbrev di(a b c d:Nat):SI:=⟨some (a,false),.bin b .add (.t c) (.t d),none,b⟩
abbrev dj(a b c d:Nat):SI:=⟨none,.sl a (.t b) (some (.t c)) none none d,none,0⟩
abbrev dk(a b:Nat):SI:=⟨none,.un a .neg (.t b),none,0⟩
abbrev dl(a b:Nat)(c:Int):SI:=⟨none,.bin a .rem (.t b) (.v (.int .u64 c)),none,0⟩
abbrev dm(a b:Nat):SI:=⟨none,.cvS a (.t b),none,0⟩
abbrev dp(a b:Nat):SI:=⟨none,.len a true (.t b),none,0⟩
abbrev dq(a b:Nat):SI:=⟨none,.cav a (.t b) [],none,0⟩
abbrev dr(a b c d:Nat):SI:=⟨none,.bld a [(.int .i64 0),(.int .i64 0),(.int .i64 0),(.slice none 0 0),(.slice none 0 0)] [(b,c,(.t d))],none,0⟩
abbrev dt(a b c d e f g h i j:Nat):SI:=⟨none,.bld a [(.int .i64 0),(.int .i64 0),(.slice none 0 0)] [(b,c,(.t d)),(e,f,(.t g)),(h,i,(.t j))],none,0⟩
abbrev du(a:Nat):SI:=⟨none,.al a [(.int .i64 0),(.int .i64 0),(.int .i64 0),(.int .i64 0),(.int .i64 0),(.int .i64 0),(.int .i64 0),(.bool false),(.int .i64 0),(.slice none 0 0)],none,0⟩
abbrev dv(a:Nat):SI:=⟨none,.al a [(.int .i64 0),(.slice none 0 0)],none,0⟩
abbrev dw(a b c:Nat)(d:Int)(e:Nat):SI:=⟨some (a,false),.ixA b (.t c) (.i d) e,none,b⟩
abbrev dx(a b c:Nat)(d:Int):SI:=⟨some (a,false),.bin b .sub (.t c) (.i d),none,b⟩
abbrev dy(a b c d:Nat):SI:=⟨some (a,false),.ld b (.t c) (some d),none,b⟩
abbrev dz(a b c d e f g:Nat):SI:=⟨none,.bld a [(.int .i64 0),(.slice none 0 0)] [(b,c,(.t d)),(e,f,(.t g))],none,0⟩
abbrev dA(a b c d:Nat):SI:=⟨some (a,false),.bin b .sub (.t c) (.t d),none,b⟩
abbrev dC(a b c:Nat)(d:Int):SI:=⟨some (a,false),.bin b .geq (.t c) (.i d),none,b⟩
abbrev dD(a b:Nat)(c:Int):SI:=⟨none,.bin a .geq (.t b) (.v (.int .u64 c)),none,0⟩
abbrev dE(a b:Nat)(c:Int):SI:=⟨none,.bin a .quo (.t b) (.v (.int .u64 c)),none,0⟩
abbrev dF(a b c d e:Nat):SI:=⟨none,.app a (.v (.slice none 0 0)) (.t b) c d e,none,0⟩
abbrev dG(a b c:Nat)(d:Int):SI:=⟨some (a,false),.bin b .gtr (.t c) (.v (.int .u64 d)),none,b⟩
abbrev dH(a b c d e:Nat):SI:=⟨none,.sl a (.t b) (some (.t c)) (some (.t d)) none e,none,0⟩
abbrev dI(a:Nat):SI:=⟨none,.bld a [(.int .i64 0),(.string ⟨#[]⟩),(.string ⟨#[]⟩),(.bool false),(.int .i64 0)] [],none,0⟩
abbrev dJ(a b c d:Nat):SI:=⟨none,.call a b [(.t c),(.v (.func (.func d) #[] #[]))],none,0⟩
abbrev dK(a b c d e f g h i j k l m n o p:Nat):SI:=⟨none,.bld a [(.int .i64 0),(.string ⟨#[]⟩),(.string ⟨#[]⟩),(.bool false),(.int .i64 0)] [(b,c,(.t d)),(e,f,(.t g)),(h,i,(.t j)),(k,l,(.t m)),(n,o,(.t p))],none,0⟩
abbrev dL(a:Nat):SI:=⟨none,.al a [(.int .i64 0),(.string ⟨#[]⟩),(.string ⟨#[]⟩),(.bool false),(.int .i64 0)],none,0⟩
abbrev dM(a b:Nat)(c:Int):SI:=⟨none,.bin a .and (.t b) (.v (.int .u32 c)),none,0⟩
abbrev dN(a b c:Nat)(d:Int)(e f g h i j k l m:Nat):SI:=⟨none,.bld a [(.int .i64 0),(.int .i64 0),(.int .i64 0),(.slice none 0 0),(.slice none 0 0)] [(b,c,(.i d)),(e,f,(.t g)),(h,i,(.t j)),(k,l,(.t m))],none,0⟩
abbrev dO(a b c d e f g h i:Nat):SI:=⟨none,.bld a [(.int .i64 0),(.bool false),(.int .i64 0),(.int .i64 0),(.slice none 0 0),(.slice none 0 0),(.int .i64 0)] [(b,c,(.t d)),(e,f,(.b true)),(g,h,(.t i))],none,0⟩
abbrev dP(a b c d e f g:Nat):SI:=⟨none,.bls a b c d [(.int .i64 0),(.bool false),(.int .i64 0),(.int .i64 0),(.slice none 0 0),(.slice none 0 0),(.int .i64 0)] [(e,f,(.t g))],none,0⟩
abbrev dQ(a:Nat):SI:=⟨none,.al a [(.int .i64 0),(.int .i64 0),(.int .i64 0),(.int .i64 0),(.int .i64 0),(.int .i64 0),(.int .i64 0)],none,0⟩
abbrev dR(a b c d e f g:Nat):SI:=⟨none,.bls a b c d [(.int .i64 0),(.string ⟨#[]⟩),(.string ⟨#[]⟩),(.bool false),(.int .i64 0)] [(e,f,(.t g))],none,0⟩
abbrev aa(l:JV):SC:=.reg false l
abbrev ab(a:JV)(n:Nat)(b:JV):SC:=.seq (.reg false a) (.cond (.t n) (.seq (.reg false b) .ret) .skip)
def c3r0:JV:=[aG 4 0,aC 8]
def c3r1:JV:=[cF 18 11,ac 9 18]
def c3r2:JV:=[ar 19 4 0 5,au 20 12 19,aN 21 20,ac 22 21,av 22 23 1,aV 22 24 23,aR 22 25 24 50,aq 26 22 25]
def c3r3:JV:=[ac 27 9,ac 8 27]
def c3r4:JV:=[ac 29 1,ac 30 2,ac 31 3,bh 32 13 29 30 31,ac 28 32,ak 33 28 0,ak 34 28 1,a9 10,am 10 0 5 33,ac 11 34]
def c3r5:JV:=[ac 36 1,ac 37 2,ac 38 3,bh 39 14 36 37 38,ac 35 39,ak 40 35 0,ak 41 35 1,a9 12,am 12 0 5 40,ac 13 41]
def c3r6:JV:=[ar 43 4 0 5,au 44 15 43,ac 42 44,ak 45 42 0,ak 46 42 1,ba 14,am 14 0 3 45,ac 15 46]
def c3r7:JV:=[ar 48 4 0 5,au 49 16 48,ac 47 49,ak 50 47 0,ak 51 47 1,ba 16,am 16 0 3 50,ac 17 51]
def c3r8:List (Bool × SI):=[(true,ac 52 9),(true,ac 53 52),(true,a8 53 54 10 0 5),(true,a8 53 55 12 0 5),(false,cG 53 56 17 54 55),(true,aI 57 53 56),(true,ac 58 57),(true,aD 58 59 11),(true,aD 58 60 13),(true,bG 58 61 59 60),(true,aI 62 58 61),(true,ac 63 62),(true,a8 63 64 4 0 5),(true,a8 63 66 4 0 5),(false,a0 63 65 18 64),(false,a0 63 67 19 66),(true,bG 63 68 65 67),(true,aI 69 63 68),(true,ac 70 69),(true,a8 70 71 4 0 5),(true,a8 70 73 4 0 5),(false,a0 70 72 20 71),(false,a0 70 74 21 73),(true,bG 70 75 72 74),(true,aI 76 70 75),(true,ac 77 76),(true,a8 77 78 14 0 3),(true,a8 77 80 16 0 3),(false,a0 77 79 22 78),(false,a0 77 81 22 80),(true,bG 77 82 79 81),(true,aI 83 77 82),(true,ac 84 83),(true,aO 84 14),(true,aP 84 86 14 2),(true,bS 84 87 86),(true,aO 84 16),(true,aP 84 89 16 2),(true,bS 84 90 89),(true,bG 84 91 87 90),(true,aI 92 84 91),(true,ac 93 92),(true,aD 93 94 15),(true,aD 93 95 17),(true,bG 93 96 94 95),(true,aI 97 93 96),(true,ac 8 97)]
def c3:SC:=(.seq (aa c3r0) (.seq (aa c3r1) (.seq (ab c3r2 26 c3r3) (.seq (aa c3r4) (.seq (aa c3r5) (.seq (aa c3r6) (.seq (aa c3r7) (.seq (.rgX c3r8) .ret))))))))
def v3:JZ:=([4,10,12,14,16],[4,10,12,14,16,85,88])
def o3:J1:=[.t 8]
def Hx : List (Bool × Nat) := [(true, 0), (true, 1), (true, 2), (true, 3), (false, 4), (true, 5), (true, 6), (true, 7), (true, 8), (true, 9), (true, 10), (true, 11), (true, 12), (true, 14), (false, 13), (false, 15), (true, 16), (true, 17), (true, 18), (true, 19), (true, 21), (false, 20), (false, 22), (true, 23), (true, 24), (true, 25), (true, 26), (true, 28), (false, 27), (false, 29), (true, 30), (true, 31), (true, 32), (true, 33), (true, 34), (true, 35), (true, 36), (true, 37), (true, 38), (true, 39), (true, 40), (true, 41), (true, 42), (true, 43), (true, 44), (true, 45), (true, 46)]
theorem Gt : (Region.noSelect (Dc 8 ((Tryz.f3.body).getD .skip)) && (Dc 8 ((Tryz.f3.body).getD .skip)).all (gS v3.1)) = true := by kernel_rfl
theorem GX : ir .any (Dc 8 ((Tryz.f3.body).getD .skip)) Hx (Array.replicate (Dc 8 ((Tryz.f3.body).getD .skip)).size false) = true := by kernel_rfl
theorem Iw : xl Tryz.prog Tryz.f3.ntmps v3.1 v3.2 (Dc 8 ((Tryz.f3.body).getD .skip)) Hx = some c3r8 := by kernel_rfl
theorem Jf : XOk Tryz.prog Tryz.f3.ntmps v3.1 v3.2 (Dc 8 ((Tryz.f3.body).getD .skip)) c3r8 := XOk.mk Hx Gt GX (by kernel_rfl) Iw
theorem s3 : iW Tryz.prog Tryz.f3.ntmps v3.1 v3.2 ((Tryz.f3.body).getD .skip) c3 := iW.mk [(8, .x c3r8)] (⟨⟨_, by kernel_rfl, Jf⟩, trivial⟩) (by kernel_rfl)
theorem q3 : fA Tryz.prog Tryz.f3.ntmps v3.1 v3.2 Tryz.f3.results.toList = some o3 := by kernel_rfl
def c11r0:JV:=[aC 0]
def c11r1:JV:=[⟨none,.bls 26 3 3 1 [(.int .i64 0),(.int .i64 0),(.int .i64 0)] [(0,1,(.i 0)),(1,1,(.i 1)),(2,1,(.i 2))],none,0⟩,⟨none,.call 27 13 [(.t 26),(.i 4096),(.i 1)],none,0⟩,ac 25 27,ak 28 25 0,ak 29 25 1,a9 1,am 1 0 5 28,ac 2 29]
def c11r2:RX:=.br [(true,ar 31 1 0 5)] (cF 32 43) (.br [] (aB 33 25 31 32) (.leaf [(true,ac 30 33),(true,ak 34 30 0),(true,ak 35 30 1),(true,ak 36 30 2),(false,bX 3),(false,aH 3 5 34),(true,ac 4 35),(true,ac 5 36)]) (bX 3) (.leaf [(false,aB 33 25 31 32),(true,ac 30 33),(true,ak 34 30 0),(true,ak 35 30 1),(true,ak 36 30 2),(false,aH 3 5 34),(true,ac 4 35),(true,ac 5 36)])) (bX 3) (.leaf [(false,cF 32 43),(false,aB 33 25 31 32),(true,ac 30 33),(true,ak 34 30 0),(true,ak 35 30 1),(true,ak 36 30 2),(false,aH 3 5 34),(true,ac 4 35),(true,ac 5 36)])
def c11r3:JV:=[aK 38 3 5,bH 39 33 38 1,ac 37 39,ak 40 37 0,ak 41 37 1,a9 6,am 6 0 5 40,ac 7 41]
def c11r4:JV:=[ar 43 6 0 5,bH 44 44 43 2,ac 42 44,ak 45 42 0,ak 46 42 1,a9 8,am 8 0 5 45,ac 9 46]
def c11r5:JV:=[ar 48 8 0 5,⟨none,.call 49 35 [(.t 48),(.i 0),(.i 0)],none,0⟩,ac 47 49,ak 50 47 0,ak 51 47 1,a9 10,am 10 0 5 50,ac 11 51]
def c11r6:RX:=.br [(true,ar 53 10 0 5)] (cF 54 43) (.br [] (aB 55 25 53 54) (.leaf [(true,ac 52 55),(true,ak 56 52 0),(true,ak 57 52 1),(true,ak 58 52 2),(false,bX 12),(false,aH 12 5 56),(true,ac 13 57),(true,ac 14 58)]) (bX 12) (.leaf [(false,aB 55 25 53 54),(true,ac 52 55),(true,ak 56 52 0),(true,ak 57 52 1),(true,ak 58 52 2),(false,aH 12 5 56),(true,ac 13 57),(true,ac 14 58)])) (bX 12) (.leaf [(false,cF 54 43),(false,aB 55 25 53 54),(true,ac 52 55),(true,ak 56 52 0),(true,ak 57 52 1),(true,ak 58 52 2),(false,aH 12 5 56),(true,ac 13 57),(true,ac 14 58)])
def c11r7:JV:=[ar 60 10 0 5,bH 61 37 60 2,ac 59 61,ak 62 59 0,ak 63 59 1,a9 15,am 15 0 5 62,ac 16 63]
def c11r8:JV:=[ar 65 10 0 5,bH 66 37 65 1,ac 64 66,ak 67 64 0,ak 68 64 1,a9 17,am 17 0 5 67,ac 18 68]
def c11r9:JV:=[ar 70 17 0 5,au 71 15 70,ac 69 71,ak 72 69 0,ak 73 69 1,ba 19,am 19 0 3 72,ac 20 73]
def c11r10:JV:=[ar 75 17 0 5,bH 76 36 75 0,ac 74 76,ak 77 74 0,ak 78 74 1,a9 21,am 21 0 5 77,ac 22 78]
def c11r11:JV:=[ar 80 21 0 5,bH 81 36 80 0,ac 79 81,ak 82 79 0,ak 83 79 1,a9 23,am 23 0 5 82,ac 24 83]
def c11r12:JV:=[ac 84 2,aM 85 84 0,ac 86 85,av 86 87 5,bl 86 88 87 0,aq 89 86 88,ac 90 89,av 90 91 7,bl 90 92 91 0,aq 93 90 92,ac 94 93,av 94 95 9,bl 94 96 95 0,aq 97 94 96,ac 98 97,av 98 99 11,bl 98 100 99 0,aq 101 98 100,ac 102 101,av 102 103 18,bl 102 104 103 0,aq 105 102 104,ac 106 105,av 106 107 20,bl 106 108 107 0,aq 109 106 108,ac 110 109,av 110 111 22,bl 110 112 111 0,aq 113 110 112,ac 114 113,az 114 17,aA 114 116 17 3,aV 114 117 116,bl 114 118 117 1,aq 119 114 118]
def c11r13:JV:=[aC 0]
def c11r14:JV:=[ac 120 4,aZ 121 120 0,ac 122 121,cH 122 123 3 5,a0 122 124 20 123,bc 122 125 124 0,aI 126 122 125,ac 127 126,a8 127 128 6 0 5,a0 127 129 20 128,bc 127 130 129 0,aI 131 127 130,ac 132 131,a8 132 133 8 0 5,a0 132 134 20 133,bc 132 135 134 2,aI 136 132 135,ac 137 136,aO 137 10,aP 137 139 10 1,⟨some (137,true),.bin 140 .eql (.t 139) (.i (-1)),none,140⟩,aI 141 137 140,ac 142 141,aD 142 143 14,bc 142 144 143 180,aI 145 142 144,ac 146 145,aD 146 147 16,bc 146 148 147 181,aI 149 146 148,ac 150 149,aO 150 17,aP 150 152 17 0,bc 150 153 152 2,aI 154 150 153,ac 155 154,aO 155 17,aP 155 157 17 1,bc 155 158 157 1,aI 159 155 158,ac 160 159,aO 160 17,aP 160 162 17 3,⟨some (160,true),.ixA 163 (.t 162) (.i 0) 1,none,163⟩,bm 160 164 163,bc 160 165 164 1,aI 166 160 165,ac 167 166,a8 167 168 17 0 5,a0 167 169 20 168,bc 167 170 169 2,aI 171 167 170,ac 172 171,a8 172 173 19 0 3,a0 172 174 22 173,bc 172 175 174 2,aI 176 172 175,ac 177 176,aD 177 178 24,bc 177 179 178 150,aI 180 177 179,ac 181 180,a8 181 182 21 0 5,a0 181 183 18 182,bc 181 184 183 0,aI 185 181 184,ac 186 185,⟨some (186,true),.bld 187 [(.int .i64 0),(.int .i64 0),(.int .i64 0),(.slice none 0 0),(.slice none 0 0)] [],none,187⟩,a0 186 188 18 187,bc 186 189 188 1,aI 190 186 189,ac 0 190]
def c11:SC:=(.seq (aa c11r0) (.seq (aa c11r1) (.seq (.rgZ c11r2) (.seq (aa c11r3) (.seq (aa c11r4) (.seq (aa c11r5) (.seq (.rgZ c11r6) (.seq (aa c11r7) (.seq (aa c11r8) (.seq (aa c11r9) (.seq (aa c11r10) (.seq (aa c11r11) (.seq (ab c11r12 119 c11r13) (.seq (aa c11r14) .ret))))))))))))))
def v11:JZ:=([1,6,8,10,15,17,19,21,23],[1,6,8,10,15,17,19,21,23,115,138,151,156,161])
def o11:J1:=[.t 0]
def c12r0:JV:=[aG 1 0,aC 2]
def c12r1:JV:=[af 3 0]
def c12r2:JV:=[ac 4 3,ah 1,ai 6 1 4,aw 7 6,aJ 8 4 7,ac 9 8,aD 9 10 3,⟨some (9,true),.bin 11 .lss (.t 10) (.i 10),none,11⟩,aI 12 9 11]
def c12r3:JV:=[ah 1,ai 16 1 4,ac 17 3,aE 18 16 17 7,ao 19 18 2,aK 20 19 3,au 21 45 20,aN 22 21,ac 23 22,az 23 1,aA 23 25 1 4,av 23 26 3,bI 23 27 25 26 7,bJ 23 28 27 5,aW 23 29 28,aV 23 30 29,aR 23 31 30 60,aq 32 23 31]
def c12r4:JV:=[aC 2]
def c12r5:JV:=[ac 13 3,aF 14 13 1,ac 3 14]
def c12r6:JV:=[ah 1,ai 34 1 4,aw 35 34,⟨none,.bin 36 .leq (.t 35) (.i 8),none,0⟩,ac 37 36,aO 37 1,aP 37 39 1 3,bS 37 40 39,bE 37 41 40 30,aI 42 37 41,ac 2 42]
def c12:SC:=(.seq (aa c12r0) (.seq (.seq (aa c12r1) (.blk 0 (.loop (.seq (.seq (aa c12r2) (.cond (.t 12) .skip (.exit 0))) (.seq (.blk 1 (ab c12r3 32 c12r4)) (aa c12r5)))))) (.seq (aa c12r6) .ret)))
def v12:JZ:=([1],[1,5,15,24,33,38])
def o12:J1:=[.t 2]
def c13r0:JV:=[a9 6,af 7 0]
def c13r1:JV:=[ac 14 1,bH 15 46 14 0,ac 13 15,ak 16 13 0,ak 17 13 1,ba 8,am 8 0 3 16,ac 9 17]
def c13r2:JV:=[ac 18 9,aM 19 18 0,ac 20 19,av 20 21 0,aY 20 22 47 21,aT 20 23 22,aq 24 20 23,ac 25 24,av 25 26 0,aV 25 27 26,aR 25 28 27 5,aq 29 25 28,ac 30 29,av 30 31 2,bi 30 32 31 1,aq 33 30 32,ac 34 33,av 34 35 2,av 34 36 0,aV 34 37 36,bK 34 38 35 37,aq 39 34 38]
def c13r3:JV:=[cI 40,am 6 0 5 40,af 7 1]
def c13r4:RX:=.br [(true,ac 41 0),(true,cJ 42 41 0 1),(true,aj 43 42),(true,ac 44 2),(true,ac 45 0)] (au 46 48 45) (.leaf [(true,dN 47 0 1 1 1 1 43 2 1 44 3 1 46),(false,bX 10),(false,aH 10 5 47)]) (bX 10) (.leaf [(false,au 46 48 45),(true,dN 47 0 1 1 1 1 43 2 1 44 3 1 46),(false,aH 10 5 47)])
def c13r5:JV:=[ac 48 0,aw 49 48,af 50 0]
def c13r6:JV:=[aJ 51 50 49]
def c13r7:JV:=[aE 52 48 50 1,aj 53 52,ac 12 53]
def c13r8:JV:=[ao 54 10 4,aj 55 54,ac 56 12,ar 57 8 0 3,dO 58 0 1 56 1 1 2 3 57,dP 59 50 1 7 0 7 58,aQ 60 55 59 50 7 88,ao 61 10 4,aH 61 1 60]
def c13r9:JV:=[aF 62 50 1,ac 50 62]
def c13r10:JV:=[aK 63 10 5,am 6 0 5 63,af 7 0]
def c13:SC:=(.seq (aa c13r0) (.seq (aa c13r1) (.seq (ab c13r2 39 c13r3) (.seq (.rgZ c13r4) (.seq (.seq (aa c13r5) (.blk 0 (.loop (.seq (aa c13r6) (.seq (.cond (.t 51) .skip (.exit 0)) (.seq (.blk 1 (.seq (aa c13r7) (aa c13r8))) (aa c13r9))))))) (.seq (aa c13r10) .ret))))))
def v13:JZ:=([6,8],[6,8])
def o13:J1:=[.r 6 (some 5),.t 7]
def c14r0:JV:=[a9 6,af 7 0]
def c14r1:JV:=[ac 12 0,aw 13 12,aS 14 13 1,ac 15 14,av 15 16 0,aV 15 17 16,aR 15 18 17 5,aq 19 15 18,ac 20 19,av 20 21 2,bi 20 22 21 1,aq 23 20 22,ac 24 23,av 24 25 2,av 24 26 0,aV 24 27 26,bK 24 28 25 27,aq 29 24 28]
def c14r2:JV:=[cI 30,am 6 0 5 30,af 7 1]
def c14r3:JV:=[ac 31 0,cJ 32 31 0 1,aj 33 32,ac 34 2,⟨none,.bld 35 [(.int .i64 0),(.int .i64 0),(.int .i64 0),(.slice none 0 0),(.slice none 0 0)] [(0,1,(.i 1)),(1,1,(.t 33)),(2,1,(.t 34))],none,0⟩,a9 8,am 8 0 5 35]
def c14r4:JV:=[af 9 0]
def c14r5:JV:=[ac 36 9,ac 37 0,aw 38 37,aJ 39 36 38]
def c14r6:JV:=[ac 43 1,bH 44 49 43 0,ac 42 44,ak 45 42 0,ak 46 42 1,ba 10,am 10 0 3 45,ac 11 46]
def c14r7:List (Bool × SI):=[(true,ac 47 11),(true,aM 48 47 0),(true,ac 49 48),(true,av 49 50 0),(true,av 49 51 9),(true,bI 49 52 50 51 1),(true,aW 49 53 52),(false,aY 49 54 50 53),(true,aT 49 55 54),(true,aq 56 49 55),(true,ac 57 56),(true,av 57 58 9),(true,aR 57 59 58 0),(true,av 57 60 59),(true,aD 60 61 0),(true,aD 60 62 9),(true,bL 60 63 62 1),(true,bj 60 64 61 63 1),(true,bm 60 65 64),(true,aD 60 66 0),(true,aD 60 67 9),(true,bj 60 68 66 67 1),(true,bm 60 69 68),(true,cr 60 70 65 69),(true,bp 57 71 60 70),(true,aq 72 57 71)]
def c14r8:JV:=[cI 73,am 6 0 5 73,af 7 1]
def c14r9:List (Bool × SI):=[(true,ah 8),(true,ai 75 8 3),(true,ac 76 0),(true,ac 77 9),(true,aE 78 76 77 1),(true,aj 79 78),(false,cV 80 3 1 1 0 1 79),(false,aQ 81 75 80 3 1 8),(true,ah 8)]
def c14r10:JV:=[am 8 3 1 81]
def c14r11:List (Bool × SI):=[(true,ah 8),(true,ai 84 8 4),(true,ac 85 0),(true,ac 86 9),(true,aE 87 85 86 1),(true,aj 88 87),(true,ar 89 10 0 3),(true,dO 90 0 1 88 1 1 2 3 89),(false,dP 91 50 1 7 0 7 90),(false,aQ 92 84 91 50 7 88),(true,ah 8)]
def c14r12:JV:=[am 8 4 1 92]
def c14r13:JV:=[ac 40 9,aF 41 40 1,ac 9 41]
def c14r14:JV:=[ar 94 8 0 5,am 6 0 5 94,af 7 0]
def c14:SC:=(.seq (aa c14r0) (.seq (ab c14r1 29 c14r2) (.seq (aa c14r3) (.seq (.seq (aa c14r4) (.blk 0 (.loop (.seq (.seq (aa c14r5) (.cond (.t 39) .skip (.exit 0))) (.seq (.blk 1 (.seq (aa c14r6) (.seq (.seq (.rgX c14r7) (.cond (.t 72) (.seq (aa c14r8) .ret) .skip)) (.seq (.rgY c14r9 c14r10) (.rgY c14r11 c14r12))))) (aa c14r13)))))) (.seq (aa c14r14) .ret)))))
def v14:JZ:=([6,8,10],[6,8,10,74,82,83,93])
def o14:J1:=[.r 6 (some 5),.t 7]
def c15r0:JV:=[aG 1 0,ba 2,af 3 0]
def c15r1:JV:=[ar 6 1 0 5,au 7 18 6,ac 4 7]
def c15r2:JV:=[ac 8 4,aM 9 8 0]
def c15r3:JV:=[bq 10,ac 11 4,am 2 0 3 10,ac 3 11]
def c15r4:JV:=[ah 1,ai 13 1 1,aS 14 13 0]
def c15r5:JV:=[bq 15,am 2 0 3 15,af 3 180]
def c15r6:JV:=[ar 16 1 0 5,dr 17 0 5 16,aU 18 17,ac 5 18]
def c15r7:JV:=[ac 19 5,ah 1,ai 21 1 1,aB 22 51 19 21,ay 23 22,ao 24 23 2,aK 25 24 3,am 2 0 3 25,af 3 0]
def c15:SC:=(.seq (aa c15r0) (.seq (.seq (aa c15r1) (ab c15r2 9 c15r3)) (.seq (ab c15r4 14 c15r5) (.seq (aa c15r6) (.seq (aa c15r7) .ret)))))
def v15:JZ:=([1,2],[1,2,12,20])
def o15:J1:=[.r 2 (some 3),.t 3]
def c16r0:JV:=[aG 1 0,ba 2,af 3 0]
def c16r1:JV:=[ar 5 1 0 5,au 6 19 5,ac 4 6]
def c16r2:JV:=[ac 7 4,aM 8 7 0]
def c16r3:JV:=[bq 9,ac 10 4,am 2 0 3 9,ac 3 10]
def c16r4:JV:=[ah 1,ai 12 1 1,aS 13 12 0]
def c16r5:JV:=[bq 14,am 2 0 3 14,af 3 180]
def c16r6:List (Bool × SI):=[(true,ah 1),(true,ai 16 1 4),(true,ar 17 1 0 5),(true,ah 1),(true,ai 19 1 1),(false,aB 20 52 17 19),(true,aE 21 16 20 7),(true,ao 22 21 2),(true,aK 23 22 3)]
def c16r7:JV:=[am 2 0 3 23,af 3 0]
def c16:SC:=(.seq (aa c16r0) (.seq (aa c16r1) (.seq (ab c16r2 8 c16r3) (.seq (ab c16r4 13 c16r5) (.seq (.rgY c16r6 c16r7) .ret)))))
def v16:JZ:=([1,2],[1,2,11,15,18])
def o16:J1:=[.r 2 (some 3),.t 3]
def c17r0:JV:=[aG 2 0,aG 3 1,aC 4]
def c17r1:JV:=[ah 2,ai 8 2 0,ah 3,ai 10 3 0,bP 11 8 10,ac 12 11,az 12 2,aA 12 14 2 1,az 12 3,aA 12 16 3 1,cv 12 17 14 16,aq 18 12 17,ac 19 18,az 19 2,aA 19 21 2 2,az 19 3,aA 19 23 3 2,cv 19 24 21 23,aq 25 19 24,ac 26 25,az 26 2,aA 26 28 2 3,aV 26 29 28,az 26 3,aA 26 31 3 3,aV 26 32 31,cv 26 33 29 32,aq 34 26 33,ac 35 34,az 35 2,aA 35 37 2 4,aV 35 38 37,az 35 3,aA 35 40 3 4,aV 35 41 40,cv 35 42 38 41,aq 43 35 42]
def c17r2:JV:=[aC 4]
def c17r3:JV:=[af 5 0]
def c17r4:JV:=[ac 44 5,ah 2,ai 46 2 3,aw 47 46,aJ 48 44 47]
def c17r5:JV:=[ah 2,ai 52 2 3,ac 53 5,aE 54 52 53 1,aj 55 54,ah 3,ai 57 3 3,ac 58 5,aE 59 57 58 1,aj 60 59,bP 61 55 60]
def c17r6:JV:=[aC 4]
def c17r7:JV:=[ac 49 5,aF 50 49 1,ac 5 50]
def c17r8:JV:=[af 6 0]
def c17r9:JV:=[ac 62 6,ah 2,ai 64 2 4,aw 65 64,aJ 66 62 65]
def c17r10:List (Bool × SI):=[(true,ah 2),(true,ai 70 2 4),(true,ac 71 6),(true,aE 72 70 71 7),(true,aK 73 72 7),(true,ah 3),(true,ai 75 3 4),(true,ac 76 6),(true,aE 77 75 76 7),(true,aK 78 77 7),(false,aB 79 28 73 78),(true,aN 80 79)]
def c17r11:JV:=[aC 4]
def c17r12:JV:=[ac 67 6,aF 68 67 1,ac 6 68]
def c17r13:JV:=[bM 4]
def c17:SC:=(.seq (aa c17r0) (.seq (ab c17r1 43 c17r2) (.seq (.seq (aa c17r3) (.blk 0 (.loop (.seq (.seq (aa c17r4) (.cond (.t 48) .skip (.exit 0))) (.seq (.blk 1 (.seq (.reg true c17r5) (.cond (.t 61) (.seq (aa c17r6) .ret) .skip))) (aa c17r7)))))) (.seq (.seq (aa c17r8) (.blk 2 (.loop (.seq (.seq (aa c17r9) (.cond (.t 66) .skip (.exit 2))) (.seq (.blk 3 (.seq (.rgX c17r10) (.cond (.t 80) (.seq (aa c17r11) .ret) .skip))) (aa c17r12)))))) (.seq (aa c17r13) .ret)))))
def v17:JZ:=([2,3],[2,3,7,9,13,15,20,22,27,30,36,39,45,51,56,63,69,74])
def o17:J1:=[.t 4]
def c18r0:JV:=[aG 1 0,af 2 0]
def c18r1:JV:=[⟨none,.al 3 [(.slice none 0 0)],none,0⟩]
def c18r2:JV:=[ah 1,ai 8 1 4,aw 9 8,af 10 0]
def c18r3:JV:=[aJ 11 10 9]
def c18r4:JV:=[aE 12 8 10 7,aK 13 12 7,⟨none,.alR 5 [(.int .i64 0),(.bool false),(.int .i64 0),(.int .i64 0),(.slice none 0 0),(.slice none 0 0),(.int .i64 0)],none,0⟩,am 5 0 7 13]
def c18r5:JV:=[aj 14 3,ah 5,ai 16 5 0,cV 17 3 1 1 0 1 16,aQ 18 14 17 3 1 8,aH 3 1 18]
def c18r6:JV:=[aF 19 10 1,ac 10 19]
def c18r7:JV:=[ah 1,ai 21 1 0,au 22 53 21,aN 23 22,ac 24 23,aW 24 25 3,aY 24 26 47 25,aT 24 27 26,aq 28 24 27,ac 29 28,aW 29 30 3,aV 29 31 30,aR 29 32 31 5,aq 33 29 32,ac 34 33,az 34 1,aA 34 36 1 2,bi 34 37 36 1,aq 38 34 37,ac 39 38,az 39 1,aA 39 41 1 2,aW 39 42 3,aV 39 43 42,bK 39 44 41 43,aq 45 39 44,ac 46 45,az 46 1,aA 46 48 1 4,⟨some (46,false),.call 49 54 [(.t 48),(.v (.func (.func 55) #[] #[]))],none,49⟩,aq 50 46 49]
def c18r8:JV:=[af 2 1]
def c18r9:JV:=[ah 1,ai 52 1 3,au 53 47 52,aN 54 53,ac 55 54,az 55 1,aA 55 57 1 3,⟨some (55,false),.mkf 58 (.func 57) [(.t 3)],none,58⟩,cK 55 59 56 57 58,aq 60 55 59]
def c18r10:JV:=[af 2 1]
def c18r11:JV:=[ah 1,ai 62 1 1,cQ 63 62]
def c18r12:JV:=[af 2 0]
def c18r13:JV:=[aj 64 3,ah 1,ai 66 1 1,aB 67 59 64 66,ac 6 67]
def c18r14:JV:=[ac 68 6,aS 69 68 0,ac 70 69,az 70 1,aA 70 72 1 4,av 70 73 6,bI 70 74 72 73 7,bJ 70 75 74 1,aW 70 76 75,aT 70 77 76,aq 78 70 77,ac 79 78,az 79 1,aA 79 81 1 3,az 79 1,aA 79 83 1 1,cK 79 84 58 81 83,aT 79 85 84,aq 86 79 85]
def c18r15:JV:=[af 2 1]
def c18r16:JV:=[af 2 0]
def c18:SC:=(.seq (aa c18r0) (.seq (aa c18r1) (.seq (.seq (aa c18r2) (.blk 0 (.loop (.seq (aa c18r3) (.seq (.cond (.t 11) .skip (.exit 0)) (.seq (.blk 1 (.seq (aa c18r4) (aa c18r5))) (aa c18r6))))))) (.seq (ab c18r7 50 c18r8) (.seq (ab c18r9 60 c18r10) (.seq (ab c18r11 63 c18r12) (.seq (aa c18r13) (.seq (ab c18r14 86 c18r15) (.seq (aa c18r16) .ret)))))))))
def v18:JZ:=([1,5],[1,5,7,15,20,35,40,47,51,56,61,65,71,80,82])
def o18:J1:=[.t 2]
def c19r0:JV:=[aG 1 0,af 2 0]
def c19r1:JV:=[ah 1,ai 7 1 0,au 8 50 7,aN 9 8,ac 10 9,az 10 1,aA 10 12 1 4,aV 10 13 12,bi 10 14 13 1,aq 15 10 14,ac 16 15,az 16 1,aA 16 18 1 4,aV 16 19 18,aR 16 20 19 5,aq 21 16 20,ac 22 21,az 22 1,aA 22 24 1 2,bi 22 25 24 1,aq 26 22 25,ac 27 26,az 27 1,aA 27 29 1 2,az 27 1,aA 27 31 1 4,aV 27 32 31,bK 27 33 29 32,aq 34 27 33,ac 35 34,az 35 1,aA 35 37 1 3,aV 35 38 37,cL 35 39 38 0,aq 40 35 39]
def c19r2:JV:=[af 2 1]
def c19r3:JV:=[af 3 0]
def c19r4:JV:=[ac 41 3,ah 1,ai 43 1 4,aw 44 43,aJ 45 41 44]
def c19r5:List (Bool × SI):=[(true,ah 1),(true,ai 49 1 4),(true,ac 50 3),(true,aE 51 49 50 7),(true,aK 52 51 7),(false,au 53 60 52),(true,aN 54 53),(true,ac 55 54),(true,av 55 56 3),(true,aR 55 57 56 0),(true,av 55 58 57),(true,aO 58 1),(true,aP 58 60 1 4),(true,aD 58 61 3),(true,bL 58 62 61 1),(true,bj 58 63 60 62 7),(true,cM 58 64 63 0),(true,bm 58 65 64),(true,aO 58 1),(true,aP 58 67 1 4),(true,aD 58 68 3),(true,bj 58 69 67 68 7),(true,cM 58 70 69 0),(true,bm 58 71 70),(true,cr 58 72 65 71),(true,bp 55 73 58 72),(true,aq 74 55 73)]
def c19r6:JV:=[af 2 1]
def c19r7:JV:=[ac 46 3,aF 47 46 1,ac 3 47]
def c19r8:JV:=[af 4 0]
def c19r9:JV:=[ac 75 4,ah 1,ai 77 1 3,aw 78 77,aJ 79 75 78]
def c19r10:List (Bool × SI):=[(true,ar 82 1 0 5),(true,ah 1),(true,ai 84 1 3),(true,ac 85 4),(true,aE 86 84 85 1),(true,aj 87 86),(false,aB 88 52 82 87),(true,aS 89 88 0),(true,ac 90 89),(true,av 90 91 4),(true,aR 90 92 91 0),(true,av 90 93 92),(true,aO 93 1),(true,aP 93 95 1 3),(true,aD 93 96 4),(true,bL 93 97 96 1),(true,bj 93 98 95 97 1),(true,bm 93 99 98),(true,aO 93 1),(true,aP 93 101 1 3),(true,aD 93 102 4),(true,bj 93 103 101 102 1),(true,bm 93 104 103),(true,cr 93 105 99 104),(true,bp 90 106 93 105),(true,aq 107 90 106)]
def c19r11:JV:=[af 2 1]
def c19r12:JV:=[ac 80 4,aF 81 80 1,ac 4 81]
def c19r13:JV:=[ah 1,ai 109 1 1,cQ 110 109]
def c19r14:JV:=[af 2 0]
def c19r15:JV:=[ar 111 1 0 5,ah 1,ai 113 1 1,aB 114 52 111 113,ac 5 114]
def c19r16:JV:=[ac 115 5,aS 116 115 0,ac 117 116,az 117 1,aA 117 119 1 4,av 117 120 5,bI 117 121 119 120 7,bJ 117 122 121 1,aW 117 123 122,aT 117 124 123,aq 125 117 124,ac 126 125,cN 126 127 1 0 5,az 126 1,aA 126 129 1 1,cK 126 130 34 127 129,aT 126 131 130,aq 132 126 131]
def c19r17:JV:=[af 2 1]
def c19r18:JV:=[af 2 0]
def c19:SC:=(.seq (aa c19r0) (.seq (ab c19r1 40 c19r2) (.seq (.seq (aa c19r3) (.blk 0 (.loop (.seq (.seq (aa c19r4) (.cond (.t 45) .skip (.exit 0))) (.seq (.blk 1 (.seq (.rgX c19r5) (.cond (.t 74) (.seq (aa c19r6) .ret) .skip))) (aa c19r7)))))) (.seq (.seq (aa c19r8) (.blk 2 (.loop (.seq (.seq (aa c19r9) (.cond (.t 79) .skip (.exit 2))) (.seq (.blk 3 (.seq (.rgX c19r10) (.cond (.t 107) (.seq (aa c19r11) .ret) .skip))) (aa c19r12)))))) (.seq (ab c19r13 110 c19r14) (.seq (aa c19r15) (.seq (ab c19r16 132 c19r17) (.seq (aa c19r18) .ret))))))))
def v19:JZ:=([1],[1,6,11,17,23,28,30,36,42,48,59,66,76,83,94,100,108,112,118,128])
def o19:J1:=[.t 2]
def c20r0:JV:=[aU 1 0,af 2 0]
def c20r1:JV:=[aK 6 1 5,au 7 18 6,aM 8 7 0]
def c20r2:JV:=[af 2 0]
def c20r3:JV:=[aK 9 1 5,dr 10 0 5 9,aU 11 10,ac 3 11]
def c20r4:JV:=[ao 12 1 1,aj 13 12,bf 14 13 0]
def c20r5:JV:=[ac 15 3,ao 16 1 1,aj 17 16,aB 18 51 15 17,ay 19 18,ao 20 19 6,aj 21 20,ac 2 21]
def c20r6:JV:=[bY 4,cO 4 1 0]
def c20r7:JV:=[ac 22 3,au 23 61 22]
def c20r8:JV:=[ac 5 24]
def c20r9:JV:=[aj 25 4,ac 26 5,ay 27 26,ao 28 27 6,aj 29 28,bZ 30 25 29]
def c20r10:JV:=[aH 4 1 30]
def c20r11:JV:=[aj 31 4,ac 2 31]
def c20:SC:=(.seq (aa c20r0) (.seq (ab c20r1 8 c20r2) (.seq (aa c20r3) (.seq (ab c20r4 14 c20r5) (.seq (aa c20r6) (.seq (.seq (aa c20r7) (.blk 0 (.rf (.t 23) [24] (aa c20r8) (.blk 1 (.rgT c20r9 c20r10))))) (.seq (aa c20r11) .ret)))))))
def v20:JZ:=([],[])
def o20:J1:=[.t 2]
def c21r0:JV:=[aG 1 0,af 2 0]
def c21r1:JV:=[ar 5 1 0 5,au 6 19 5,aM 7 6 0]
def c21r2:JV:=[af 2 0]
def c21r3:JV:=[af 3 0]
def c21r4:JV:=[af 4 0]
def c21r5:JV:=[ac 8 4,ah 1,ai 10 1 4,aw 11 10,aJ 12 8 11]
def c21r6:JV:=[ah 1,ai 16 1 4,ac 17 4,aE 18 16 17 7,ao 19 18 0,aj 20 19,ah 1,ai 22 1 1,bn 23 20 22]
def c21r7:JV:=[ah 1,ai 25 1 4,ac 26 4,aE 27 25 26 7,ao 28 27 6,aj 29 28,ac 2 29]
def c21r8:JV:=[ar 30 1 0 5,ah 1,ai 32 1 4,ac 33 4,aE 34 32 33 7,ao 35 34 0,aj 36 35]
def c21r9:JV:=[aB 37 34 30 36]
def c21r10:JV:=[ac 38 3,ah 1,ai 40 1 4,ac 41 4,aE 42 40 41 7,ao 43 42 6,aj 44 43,bZ 45 38 44,ac 3 45]
def c21r11:JV:=[ac 13 4,aF 14 13 1,ac 4 14]
def c21r12:JV:=[ac 46 3,ac 2 46]
def c21:SC:=(.seq (aa c21r0) (.seq (ab c21r1 7 c21r2) (.seq (aa c21r3) (.seq (.seq (aa c21r4) (.blk 0 (.loop (.seq (.seq (aa c21r5) (.cond (.t 12) .skip (.exit 0))) (.seq (.blk 1 (.seq (.seq (.reg true c21r6) (.cond (.t 23) (.seq (aa c21r7) .ret) .skip)) (.seq (.rgT c21r8 c21r9) (.cond (.t 37) (aa c21r10) .skip)))) (aa c21r11)))))) (.seq (aa c21r12) .ret)))))
def v21:JZ:=([1],[1,9,15,21,24,31,39])
def o21:J1:=[.t 2]
def c22r0:JV:=[aG 1 0,af 2 0]
def c22r1:JV:=[ar 3 1 0 3,au 4 62 3,aM 5 4 0]
def c22r2:JV:=[af 2 0]
def c22r3:JV:=[ar 6 1 0 3,au 7 63 6,ac 2 7]
def c22:SC:=(.seq (aa c22r0) (.seq (ab c22r1 5 c22r2) (.seq (aa c22r3) .ret)))
def v22:JZ:=([1],[1])
def o22:J1:=[.t 2]
def c25r0:JV:=[aG 2 0,aU 3 1,a9 4,bY 5,af 6 0]
def c25r1:JV:=[ar 8 2 0 5,cw 9 66 3 5,aB 10 65 8 9,ac 7 10,ak 11 7 0,ak 12 7 1,am 4 0 5 11,ac 6 12]
def c25r2:JV:=[ac 13 6,aM 14 13 0]
def c25r3:JV:=[cI 15,ac 16 6,am 4 0 5 15,cO 5 1 0,ac 6 16]
def c25r4:List WI:=[(true,false,ar 17 4 0 5),(true,false,aj 18 5),(false,false,am 4 0 5 17),(false,true,aH 5 1 18),(true,false,af 6 0)]
def c25:SC:=(.seq (aa c25r0) (.seq (aa c25r1) (.seq (ab c25r2 14 c25r3) (.seq (.rgW c25r4) .ret))))
def v25:JZ:=([2,4],[2,4])
def o25:J1:=[.r 4 (some 5),.c 5 none,.t 6]
def c27r0:JV:=[aG 1 0,aL 2]
def c27r1:JV:=[ar 3 1 0 3,au 4 62 3,aM 5 4 0]
def c27r2:JV:=[aL 2]
def c27r3:JV:=[ar 6 1 0 3,ah 1,ai 8 1 1,aB 9 76 6 8,au 10 75 9,ac 2 10]
def c27:SC:=(.seq (aa c27r0) (.seq (ab c27r1 5 c27r2) (.seq (aa c27r3) .ret)))
def v27:JZ:=([1],[1,7])
def o27:J1:=[.t 2]
def c28r0:JV:=[aG 2 0,aG 3 1,aC 4]
def c28r1:JV:=[ah 2,ai 6 2 0,ah 3,ai 8 3 0,bn 9 6 8,ac 10 9,aO 10 2,aP 10 12 2 1,aO 10 3,aP 10 14 3 1,⟨some (10,true),.eqb 15 false (.t 12) (.t 14),none,15⟩,aI 16 10 15,ac 17 16,aO 17 2,aP 17 19 2 6,aO 17 3,aP 17 21 3 6,bG 17 22 19 21,aI 23 17 22,ac 24 23,aO 24 2,a8 24 26 2 2 3,aO 24 3,a8 24 28 3 2 3,cG 24 29 77 26 28,aI 30 24 29,ac 31 30,aO 31 2,aP 31 33 2 5,aO 31 3,aP 31 35 3 5,cG 31 36 78 33 35,aI 37 31 36,ac 4 37]
def c28:SC:=(.seq (aa c28r0) (.seq (aa c28r1) .ret))
def v28:JZ:=([2,3],[2,3,5,7,11,13,18,20,25,27,32,34])
def o28:J1:=[.t 4]
def c33r0:JV:=[aG 2 0,aU 3 1,a9 4,af 5 0]
def c33r1:JV:=[ar 6 2 0 5,aj 7 3,cd 8 81 3,bh 9 80 6 7 8,ak 10 9 0,ak 11 9 1,am 4 0 5 10,ac 5 11]
def c33:SC:=(.seq (aa c33r0) (.seq (aa c33r1) .ret))
def v33:JZ:=([2,4],[2,4])
def o33:J1:=[.r 4 (some 5),.t 5]
def c34r0:JV:=[aG 2 0,aC 4]
def c34r1:JV:=[af 5 0]
def c34r2:JV:=[ac 6 5,ah 2,ai 8 2 3,aw 9 8,aJ 10 6 9]
def c34r3:JV:=[ah 2,ai 14 2 3,ac 15 5,aE 16 14 15 1,aj 17 16,ac 18 1,bn 19 17 18]
def c34r4:JV:=[bM 4]
def c34r5:JV:=[ac 11 5,aF 12 11 1,ac 5 12]
def c34r6:JV:=[aC 4]
def c34:SC:=(.seq (aa c34r0) (.seq (.seq (aa c34r1) (.blk 0 (.loop (.seq (.seq (aa c34r2) (.cond (.t 10) .skip (.exit 0))) (.seq (.blk 1 (ab c34r3 19 c34r4)) (aa c34r5)))))) (.seq (aa c34r6) .ret)))
def v34:JZ:=([2],[2,7,13])
def o34:J1:=[.t 4]
def c35r0:JV:=[aG 3 0,aU 4 1,aU 5 2,a9 6,af 7 0]
def c35r1:JV:=[ar 8 3 0 5,aj 9 4,cw 10 85 5 4,bh 11 80 8 9 10,ak 12 11 0,ak 13 11 1,am 6 0 5 12,ac 7 13]
def c35:SC:=(.seq (aa c35r0) (.seq (aa c35r1) .ret))
def v35:JZ:=([3,6],[3,6])
def o35:J1:=[.r 6 (some 5),.t 7]
def c36r0:JV:=[aG 2 0,a9 4,af 5 0]
def c36r1:JV:=[ar 6 2 0 5,ac 7 1,⟨none,.call 8 80 [(.t 6),(.t 7),(.v (.func (.func 88) #[] #[]))],none,0⟩,ak 9 8 0,ak 10 8 1,am 4 0 5 9,ac 5 10]
def c36:SC:=(.seq (aa c36r0) (.seq (aa c36r1) .ret))
def v36:JZ:=([2,4],[2,4])
def o36:J1:=[.r 4 (some 5),.t 5]
def c37r0:JV:=[aG 2 0,aU 3 1,a9 4,af 5 0]
def c37r1:JV:=[ar 6 2 0 5,aj 7 3,cd 8 91 3,bh 9 80 6 7 8,ak 10 9 0,ak 11 9 1,am 4 0 5 10,ac 5 11]
def c37:SC:=(.seq (aa c37r0) (.seq (aa c37r1) .ret))
def v37:JZ:=([2,4],[2,4])
def o37:J1:=[.r 4 (some 5),.t 5]
def c43r0:JV:=[bg 0]
def c43r1:JV:=[⟨none,.bld 1 [(.int .i64 0),(.string ⟨#[]⟩),(.string ⟨#[]⟩),(.bool false),(.int .i64 0)] [(2,1,(.v (.string ⟨#[118]⟩)))],none,0⟩,⟨none,.bld 2 [(.int .i64 0),(.string ⟨#[]⟩),(.string ⟨#[]⟩),(.bool false),(.int .i64 0)] [(0,1,(.i 1)),(2,1,(.v (.string ⟨#[119]⟩)))],none,0⟩,⟨none,.bls 3 103 2 5 [(.int .i64 0),(.string ⟨#[]⟩),(.string ⟨#[]⟩),(.bool false),(.int .i64 0),(.int .i64 0),(.string ⟨#[]⟩),(.string ⟨#[]⟩),(.bool false),(.int .i64 0)] [(0,5,(.t 1)),(5,5,(.t 2))],none,0⟩,⟨none,.bld 4 [(.int .i64 0),(.int .i64 0),(.int .i64 0),(.int .i64 0),(.int .i64 0),(.int .i64 0),(.int .i64 0),(.bool false),(.int .i64 0),(.slice none 0 0)] [(1,1,(.i 1)),(4,1,(.i (-1))),(9,1,(.t 3))],none,0⟩,am 0 0 10 4]
def c43:SC:=(.seq (aa c43r0) (.seq (aa c43r1) .ret))
def v43:JZ:=([0],[0])
def o43:J1:=[.r 0 (some 10)]
def c44r0:JV:=[aG 2 0,aU 3 1,a9 4,af 5 0]
def c44r1:JV:=[ar 6 2 0 5,aj 7 3,cd 8 102 3,bh 9 80 6 7 8,ak 10 9 0,ak 11 9 1,am 4 0 5 10,ac 5 11]
def c44:SC:=(.seq (aa c44r0) (.seq (aa c44r1) .ret))
def v44:JZ:=([2,4],[2,4])
def o44:J1:=[.r 4 (some 5),.t 5]
def c45r0:JV:=[aG 1 0,aC 2]
def c45r1:JV:=[af 3 0]
def c45r2:JV:=[ac 4 3,ah 1,ai 6 1 2,aw 7 6,aJ 8 4 7,ac 9 8,aD 9 10 3,⟨some (9,true),.bin 11 .lss (.t 10) (.i 300),none,11⟩,aI 12 9 11]
def c45r3:JV:=[ah 1,ai 16 1 2,ac 17 3,aE 18 16 17 2,ao 19 18 1,aj 20 19,aw 21 20,bw 22 21 5000]
def c45r4:JV:=[aC 2]
def c45r5:JV:=[ac 13 3,aF 14 13 1,ac 3 14]
def c45r6:JV:=[ah 1,ai 24 1 2,aw 25 24,⟨none,.bin 26 .leq (.t 25) (.i 12),none,0⟩,ac 2 26]
def c45:SC:=(.seq (aa c45r0) (.seq (.seq (aa c45r1) (.blk 0 (.loop (.seq (.seq (aa c45r2) (.cond (.t 12) .skip (.exit 0))) (.seq (.blk 1 (ab c45r3 22 c45r4)) (aa c45r5)))))) (.seq (aa c45r6) .ret)))
def v45:JZ:=([1],[1,5,15,23])
def o45:J1:=[.t 2]
def c46r0:JV:=[ba 4,af 5 0]
def c46r1:JV:=[ac 6 0,ac 7 1,aB 8 103 6 7,aN 9 8]
def c46r2:JV:=[bq 10,am 4 0 3 10,af 5 1]
def c46r3:JV:=[ac 11 0,ac 12 1,ac 13 1,cW 14 0 1 13,bQ 15 120 1 2 0 2 14,dt 16 0 1 11 1 1 12 2 1 15,am 4 0 3 16,af 5 0]
def c46:SC:=(.seq (aa c46r0) (.seq (ab c46r1 9 c46r2) (.seq (aa c46r3) .ret)))
def v46:JZ:=([4],[4])
def o46:J1:=[.r 4 (some 3),.t 5]
def c47r0:JV:=[aC 2]
def c47r1:JV:=[ac 5 0,aw 6 5,af 7 0]
def c47r2:JV:=[aJ 8 7 6]
def c47r3:JV:=[ac 9 7,aE 10 5 7 1,aj 11 10,ac 3 9,ac 4 11]
def c47r4:JV:=[ac 12 4,au 13 53 12,aN 14 13,ac 15 14,av 15 16 3,aR 15 17 16 0,av 15 18 17,aD 18 19 0,aD 18 20 3,bL 18 21 20 1,bj 18 22 19 21 1,bm 18 23 22,aD 18 24 4,cr 18 25 23 24,bp 15 26 18 25,aq 27 15 26]
def c47r5:JV:=[aC 2]
def c47r6:JV:=[aF 28 7 1,ac 7 28]
def c47r7:JV:=[ac 29 0,aw 30 29,bw 31 30 0,ac 2 31]
def c47:SC:=(.seq (aa c47r0) (.seq (.seq (aa c47r1) (.blk 0 (.loop (.seq (aa c47r2) (.seq (.cond (.t 8) .skip (.exit 0)) (.seq (.blk 1 (.seq (aa c47r3) (ab c47r4 27 c47r5))) (aa c47r6))))))) (.seq (aa c47r7) .ret)))
def v47:JZ:=([],[])
def o47:J1:=[.t 2]
def c48r0:JV:=[aL 2]
def c48r1:JV:=[ac 3 0,cP 4 3]
def c48r2:JV:=[aL 2]
def c48r3:JV:=[cf 5,ac 6 0,aQ 7 5 6 3 1 8,ac 2 7]
def c48:SC:=(.seq (aa c48r0) (.seq (ab c48r1 4 c48r2) (.seq (aa c48r3) .ret)))
def v48:JZ:=([],[])
def o48:J1:=[.t 2]
def c49r0:JV:=[ba 4,af 5 0]
def c49r1:JV:=[ac 6 0,aS 7 6 256,ac 8 7,av 8 9 0,aR 8 10 9 4096,aq 11 8 10,ac 12 11,av 12 13 1,aY 12 14 104 13,aT 12 15 14,aq 16 12 15]
def c49r2:JV:=[bq 17,am 4 0 3 17,af 5 1]
def c49r3:JV:=[ac 18 0,ac 19 1,ac 20 1,cW 21 0 1 20,bQ 22 120 1 2 0 2 21,dt 23 0 1 18 1 1 19 2 1 22,am 4 0 3 23,af 5 0]
def c49:SC:=(.seq (aa c49r0) (.seq (ab c49r1 16 c49r2) (.seq (aa c49r3) .ret)))
def v49:JZ:=([4],[4])
def o49:J1:=[.r 4 (some 3),.t 5]
def c50r0:JV:=[aC 2]
def c50r1:JV:=[ac 3 0,bf 4 3 0,ac 5 4,aD 5 6 0,bE 5 7 6 1048576,aI 8 5 7,ac 2 8]
def c50:SC:=(.seq (aa c50r0) (.seq (aa c50r1) .ret))
def v50:JZ:=([],[])
def o50:J1:=[.t 2]
def c51r0:JV:=[⟨none,.mv 4 (.v (.pointer none)),none,0⟩]
def c51r1:JV:=[ac 8 0,ay 9 8,ao 10 9 0,ao 11 10 4,aj 12 11,ac 13 1,⟨none,.call 14 105 [(.t 12),(.t 13),(.v (.func (.func 106) #[] #[]))],none,0⟩,ac 7 14,ak 15 7 0,ak 16 7 1,ac 5 15,ac 6 16]
def c51r2:JV:=[ac 17 6,aN 18 17]
def c51r3:JV:=[⟨none,.mv 4 (.v (.pointer none)),none,0⟩]
def c51r4:JV:=[ac 19 0,ay 20 19,ao 21 20 0,ao 22 21 4,aj 23 22,ac 24 5,aE 25 23 24 7,ac 4 25]
def c51:SC:=(.seq (aa c51r0) (.seq (aa c51r1) (.seq (ab c51r2 18 c51r3) (.seq (aa c51r4) .ret))))
def v51:JZ:=([],[])
def o51:J1:=[.t 4]
def c52r0:JV:=[aG 2 0,af 4 0]
def c52r1:JV:=[af 5 0]
def c52r2:JV:=[ac 6 5,ah 2,ai 8 2 4,aw 9 8,aJ 10 6 9]
def c52r3:JV:=[ah 2,ai 14 2 4,ac 15 5,aE 16 14 15 7,ao 17 16 0,aj 18 17,ac 19 1,bn 20 18 19]
def c52r4:JV:=[ac 21 5,ac 4 21]
def c52r5:JV:=[ac 11 5,aF 12 11 1,ac 5 12]
def c52r6:JV:=[cz 4]
def c52:SC:=(.seq (aa c52r0) (.seq (.seq (aa c52r1) (.blk 0 (.loop (.seq (.seq (aa c52r2) (.cond (.t 10) .skip (.exit 0))) (.seq (.blk 1 (ab c52r3 20 c52r4)) (aa c52r5)))))) (.seq (aa c52r6) .ret)))
def v52:JZ:=([2],[2,7,13])
def o52:J1:=[.t 4]
def c53r0:JV:=[aC 2]
def c53r1:JV:=[ac 3 0,bf 4 3 0,ac 5 4,aD 5 6 0,bE 5 7 6 1048576,aI 8 5 7,ac 2 8]
def c53:SC:=(.seq (aa c53r0) (.seq (aa c53r1) .ret))
def v53:JZ:=([],[])
def o53:J1:=[.t 2]
def c54r0:JV:=[aC 4]
def c54r1:JV:=[ac 5 0,ac 6 1,aB 7 107 5 6,bf 8 7 0,ac 4 8]
def c54:SC:=(.seq (aa c54r0) (.seq (aa c54r1) .ret))
def v54:JZ:=([],[])
def o54:J1:=[.t 4]
def c55r0:JV:=[aG 1 0,aC 2]
def c55r1:JV:=[ah 1,ai 5 1 0,au 6 53 5,aN 7 6,ac 8 7,az 8 1,aA 8 10 1 5,aY 8 11 108 10,bl 8 12 11 0,aq 13 8 12,ac 14 13,az 14 1,aA 14 16 1 6,bi 14 17 16 0,aq 18 14 17,ac 19 18,az 19 1,aA 19 21 1 6,aR 19 22 21 1099511627777,aq 23 19 22]
def c55r2:JV:=[bM 2]
def c55r3:JV:=[ah 1,ar 25 1 2 3,ba 3,am 3 0 3 25]
def c55r4:JV:=[ah 1,ai 27 1 1,aN 28 27]
def c55r5:JV:=[ar 30 3 0 3,au 31 89 30,ac 29 31,ak 32 29 0,ak 33 29 1,am 3 0 3 32]
def c55r6:List (Bool × SI):=[(true,ar 34 3 0 3),(false,au 35 62 34),(true,aM 36 35 0),(true,ac 37 36),(true,az 37 1),(true,aA 37 39 1 1),(true,av 37 40 39),(true,aO 40 1),(true,aP 40 42 1 6),(true,a8 40 43 1 0 7),(false,a0 40 44 68 43),(true,⟨some (40,true),.bin 45 .gtr (.t 42) (.t 44),none,45⟩),(true,bp 37 46 40 45),(true,aq 47 37 46),(true,ac 2 47)]
def c55:SC:=(.seq (aa c55r0) (.seq (ab c55r1 23 c55r2) (.seq (aa c55r3) (.seq (.seq (aa c55r4) (.cond (.t 28) (aa c55r5) .skip)) (.seq (.rgX c55r6) .ret)))))
def v55:JZ:=([1,3],[1,3,4,9,15,20,24,26,38,41])
def o55:J1:=[.t 2]
def c56r0:JV:=[aC 4]
def c56r1:JV:=[ac 5 0,ac 6 1,aB 7 109 5 6,bf 8 7 0,ac 4 8]
def c56:SC:=(.seq (aa c56r0) (.seq (aa c56r1) .ret))
def v56:JZ:=([],[])
def o56:J1:=[.t 4]
def c57r0:JV:=[aC 3]
def c57r1:JV:=[aj 4 1,ac 5 0,aB 6 58 4 5,aN 7 6,ac 3 7]
def c57:SC:=(.seq (aa c57r0) (.seq (aa c57r1) .ret))
def v57:JZ:=([],[])
def o57:J1:=[.t 3]
def c58r0:JV:=[aC 4]
def c58r1:JV:=[ac 5 0,ac 6 1,aB 7 59 5 6,bf 8 7 0,ac 4 8]
def c58:SC:=(.seq (aa c58r0) (.seq (aa c58r1) .ret))
def v58:JZ:=([],[])
def o58:J1:=[.t 4]
def c59r0:JV:=[af 4 0]
def c59r1:JV:=[ac 6 0,aw 7 6,af 8 0]
def c59r2:JV:=[aJ 9 8 7]
def c59r3:JV:=[ac 10 8,ac 5 10]
def c59r4:JV:=[ac 11 1,ac 12 0,ac 13 5,aE 14 12 13 1,aj 15 14,bn 16 11 15]
def c59r5:JV:=[ac 17 5,ac 4 17]
def c59r6:JV:=[aF 18 8 1,ac 8 18]
def c59r7:JV:=[cz 4]
def c59:SC:=(.seq (aa c59r0) (.seq (.seq (aa c59r1) (.blk 0 (.loop (.seq (aa c59r2) (.seq (.cond (.t 9) .skip (.exit 0)) (.seq (.blk 1 (.seq (aa c59r3) (ab c59r4 16 c59r5))) (aa c59r6))))))) (.seq (aa c59r7) .ret)))
def v59:JZ:=([],[])
def o59:J1:=[.t 4]
def c60r0:JV:=[aG 1 0,aC 2]
def c60r1:JV:=[ah 1,ai 6 1 0,au 7 50 6,aN 8 7,ac 9 8,az 9 1,aA 9 11 1 5,aY 9 12 110 11,bl 9 13 12 0,aq 14 9 13,ac 15 14,az 15 1,aA 15 17 1 6,bi 15 18 17 0,aq 19 15 18,ac 20 19,az 20 1,aA 20 22 1 6,aR 20 23 22 1099511627777,aq 24 20 23]
def c60r2:JV:=[aC 2]
def c60r3:JV:=[ah 1,ai 26 1 1,aN 27 26]
def c60r4:JV:=[ah 1,ar 30 1 2 3,au 31 97 30,ac 28 31,ak 32 28 0,ak 33 28 1,ba 3,am 3 0 3 32,ac 4 33]
def c60r5:JV:=[ar 34 3 0 3,au 35 101 34,aZ 36 35 0,ac 2 36]
def c60r6:List (Bool × SI):=[(true,ah 1),(true,ar 38 1 2 3),(false,au 39 101 38),(true,aZ 40 39 0),(true,ac 41 40),(true,aO 41 1),(true,aP 41 43 1 6),(true,aO 41 1),(true,a8 41 45 1 2 3),(false,a0 41 46 98 45),(true,cA 41 47 43 46),(true,aI 48 41 47),(true,ac 2 48)]
def c60:SC:=(.seq (aa c60r0) (.seq (ab c60r1 24 c60r2) (.seq (.seq (aa c60r3) (.cond (.t 27) (.seq (aa c60r4) (.seq (aa c60r5) .ret)) .skip)) (.seq (.rgX c60r6) .ret))))
def v60:JZ:=([1,3],[1,3,5,10,16,21,25,29,37,42,44])
def o60:J1:=[.t 2]
def c61r0:JV:=[aU 1 0,cR 2]
def c61r1:JV:=[cd 3 111 1,ac 2 3]
def c61:SC:=(.seq (aa c61r0) (.seq (aa c61r1) .ret))
def v61:JZ:=([],[])
def o61:J1:=[.t 2]
def c62r0:JV:=[aG 1 0,af 2 0]
def c62r1:JV:=[ah 1,ai 6 1 0,ah 1,ai 8 1 1,aB 9 103 6 8,aN 10 9,ac 11 10,az 11 1,aA 11 13 1 2,aV 11 14 13,cL 11 15 14 0,aq 16 11 15]
def c62r2:JV:=[af 2 1]
def c62r3:JV:=[ah 1,ai 18 1 2,aw 19 18,af 20 0]
def c62r4:JV:=[aJ 21 20 19]
def c62r5:JV:=[ac 22 20,aE 23 18 20 2,aK 24 23 2,bz 4,ac 3 22,am 4 0 2 24]
def c62r6:List (Bool × SI):=[(true,ah 4),(true,ai 26 4 1),(true,aw 27 26),(true,ah 1),(true,ai 29 1 0),(true,bN 30 27 29),(true,ac 31 30),(true,cN 31 32 4 0 2),(false,aY 31 33 112 32),(true,aT 31 34 33),(true,aq 35 31 34),(true,ac 36 35),(true,av 36 37 3),(true,aR 36 38 37 0),(true,av 36 39 38),(true,aO 39 1),(true,aP 39 41 1 2),(true,aD 39 42 3),(true,bL 39 43 42 1),(true,bj 39 44 41 43 2),(true,cH 39 45 44 2),(true,a8 39 46 4 0 2),(false,cG 39 47 113 45 46),(true,cB 39 48 47),(true,bp 36 49 39 48),(true,aq 50 36 49)]
def c62r7:JV:=[af 2 1]
def c62r8:JV:=[aF 51 20 1,ac 20 51]
def c62r9:JV:=[ah 1,ai 53 1 2,aw 54 53,bw 55 54 256]
def c62r10:JV:=[af 2 2]
def c62r11:JV:=[af 2 0]
def c62:SC:=(.seq (aa c62r0) (.seq (ab c62r1 16 c62r2) (.seq (.seq (aa c62r3) (.blk 0 (.loop (.seq (aa c62r4) (.seq (.cond (.t 21) .skip (.exit 0)) (.seq (.blk 1 (.seq (aa c62r5) (.seq (.rgX c62r6) (.cond (.t 50) (.seq (aa c62r7) .ret) .skip)))) (aa c62r8))))))) (.seq (ab c62r9 55 c62r10) (.seq (aa c62r11) .ret)))))
def v62:JZ:=([1,4],[1,4,5,7,12,17,25,28,40,52])
def o62:J1:=[.t 2]
def c63r0:JV:=[aG 1 0,af 2 0]
def c63r1:List (Bool × SI):=[(true,ah 1),(true,ai 4 1 1),(true,ah 1),(true,ai 6 1 2),(true,ar 7 1 0 3),(false,au 8 115 7),(true,aE 9 6 8 2),(true,aK 10 9 2),(false,au 11 114 10),(true,bZ 12 4 11),(true,ac 2 12)]
def c63:SC:=(.seq (aa c63r0) (.seq (.rgX c63r1) .ret))
def v63:JZ:=([1],[1,3,5])
def o63:J1:=[.t 2]
def c65r0:JV:=[aG 2 0,a9 4,af 5 0]
def c65r1:JV:=[ar 9 2 0 5,au 10 18 9,ac 6 10]
def c65r2:JV:=[ac 11 6,aM 12 11 0]
def c65r3:JV:=[cI 13,ac 14 6,am 4 0 5 13,ac 5 14]
def c65r4:List (Bool × SI):=[(true,ah 2),(true,ai 16 2 4),(true,ah 2),(true,ai 19 2 3),(false,au 17 116 16),(true,ah 2),(false,au 20 48 19)]
def c65r5:JV:=[am 2 4 1 17,ah 2,am 2 3 1 20]
def c65r6:JV:=[ar 23 2 0 5,dr 24 0 5 23,aU 25 24,ac 7 25]
def c65r7:JV:=[ac 26 1,ac 27 7,ci 28 26 27,ac 8 28]
def c65r8:JV:=[ac 29 8,aM 30 29 0]
def c65r9:JV:=[cI 31,ac 32 8,am 4 0 5 31,ac 5 32]
def c65r10:JV:=[ac 33 7,ay 34 33,ao 35 34 0,aK 36 35 5,am 4 0 5 36,af 5 0]
def c65:SC:=(.seq (aa c65r0) (.seq (.seq (aa c65r1) (ab c65r2 12 c65r3)) (.seq (.rgY c65r4 c65r5) (.seq (aa c65r6) (.seq (.seq (aa c65r7) (ab c65r8 30 c65r9)) (.seq (aa c65r10) .ret))))))
def v65:JZ:=([2,4],[2,4,15,18,21,22])
def o65:J1:=[.r 4 (some 5),.t 5]
def c66r0:JV:=[af 4 0]
def c66r1:JV:=[ac 8 0,ay 9 8,ao 10 9 0,ao 11 10 1,aj 12 11,aS 13 12 0]
def c66r2:JV:=[af 4 180]
def c66r3:JV:=[ac 14 0,ay 15 14,ao 16 15 0,ao 17 16 3,aj 18 17,aw 19 18,ac 20 0,ay 21 20,ao 22 21 0,ao 23 22 2,aj 24 23,aJ 25 19 24]
def c66r4:JV:=[af 4 181]
def c66r5:JV:=[ac 26 0,ac 27 0,ay 28 27,ao 29 28 0,ao 30 29 1,aj 31 30,aB 32 51 26 31,ac 5 32]
def c66r6:RX:=.br [(true,aK 34 1 10),(true,ac 35 5),(true,ay 36 35),(true,aK 37 36 7)] (au 38 68 37) (.br [] (aB 39 67 34 38) (.leaf [(true,ac 33 39),(true,ak 40 33 0),(true,ak 41 33 1),(false,du 6),(false,aH 6 10 40),(true,ac 7 41)]) (du 6) (.leaf [(false,aB 39 67 34 38),(true,ac 33 39),(true,ak 40 33 0),(true,ak 41 33 1),(false,aH 6 10 40),(true,ac 7 41)])) (du 6) (.leaf [(false,au 38 68 37),(false,aB 39 67 34 38),(true,ac 33 39),(true,ak 40 33 0),(true,ak 41 33 1),(false,aH 6 10 40),(true,ac 7 41)])
def c66r7:JV:=[ac 42 7,aM 43 42 0]
def c66r8:JV:=[ac 44 7,ac 4 44]
def c66r9:List (Bool × SI):=[(true,ac 45 0),(true,ay 46 45),(true,ao 47 46 0),(true,ao 48 47 0),(true,aj 49 48),(true,ao 50 6 0),(true,aj 51 50),(true,ao 52 6 3)]
def c66r10:JV:=[aH 52 1 49,aH 2 1 51]
def c66r11:List WI:=[(true,false,ac 54 5),(true,false,ac 55 5),(true,false,ay 56 55),(true,false,ao 57 56 2),(true,false,aK 58 57 3),(true,false,aK 59 6 10),(false,true,aB 60 69 58 59),(true,false,ac 53 60),(true,false,ak 61 53 0),(true,false,ak 62 53 1),(true,false,ay 63 54),(true,false,ao 64 63 2),(false,true,aH 64 3 61),(true,false,ac 7 62)]
def c66r12:JV:=[ac 65 7,aM 66 65 0]
def c66r13:JV:=[ac 67 7,ac 4 67]
def c66r14:List WI:=[(true,false,ac 69 5),(true,false,ac 70 5),(true,false,ay 71 70),(true,false,ao 72 71 5),(true,false,aj 73 72),(true,false,ac 74 0),(true,false,ay 75 74),(true,false,ao 76 75 0),(true,false,ao 77 76 0),(true,false,aj 78 77),(true,false,aj 79 2),(false,true,bh 80 70 73 78 79),(true,false,ac 68 80),(true,false,ak 81 68 0),(true,false,ak 82 68 1),(true,false,ay 83 69),(true,false,ao 84 83 5),(false,true,aH 84 1 81),(true,false,ac 7 82)]
def c66r15:JV:=[ac 85 7,aM 86 85 0]
def c66r16:JV:=[ac 87 7,ac 4 87]
def c66r17:JV:=[ac 88 0,au 89 71 88]
def c66r18:JV:=[af 4 0]
def c66:SC:=(.seq (aa c66r0) (.seq (ab c66r1 13 c66r2) (.seq (.seq (.reg true c66r3) (.cond (.t 25) (.seq (aa c66r4) .ret) .skip)) (.seq (aa c66r5) (.seq (.rgZ c66r6) (.seq (ab c66r7 43 c66r8) (.seq (.rgY c66r9 c66r10) (.seq (.seq (.rgW c66r11) (ab c66r12 66 c66r13)) (.seq (.seq (.rgW c66r14) (ab c66r15 86 c66r16)) (.seq (aa c66r17) (.seq (aa c66r18) .ret)))))))))))
def v66:JZ:=([],[])
def o66:J1:=[.t 4]
def c67r0:JV:=[aG 2 0,bg 4,af 5 0]
def c67r1:JV:=[ac 10 1,cV 11 3 1 1 0 1 10,⟨none,.call 12 117 [(.i 1099511627776),(.t 11)],none,0⟩,aN 13 12]
def c67r2:JV:=[bt 14,am 4 0 10 14,af 5 1]
def c67r3:JV:=[ar 15 2 0 10,au 16 118 15,ac 6 16]
def c67r4:JV:=[ac 17 6,aM 18 17 0]
def c67r5:JV:=[bt 19,ac 20 6,am 4 0 10 19,ac 5 20]
def c67r6:JV:=[ac 21 1,ah 2,ai 23 2 0,bd 24 21 23,ac 7 24]
def c67r7:List WI:=[(true,false,ac 25 1),(true,false,ah 2),(true,false,ai 27 2 1),(true,false,ac 28 7),(true,false,aX 29 27 28),(true,false,ah 2),(true,false,ai 31 2 9),(true,false,ah 2),(false,false,au 32 119 31),(false,true,am 2 0 1 25),(true,false,ah 2),(false,true,am 2 1 1 29),(true,false,ah 2),(false,true,am 2 9 1 32)]
def c67r8:JV:=[ah 2,ai 37 2 9,aw 38 37,af 39 0]
def c67r9:JV:=[aJ 40 39 38]
def c67r10:JV:=[ac 41 39,ac 8 41]
def c67r11:JV:=[ah 2,ai 43 2 9,ac 44 8,aE 45 43 44 5,ao 46 45 0,aj 47 46,ac 48 7,aX 49 47 48,aE 50 43 44 5,ao 51 50 0,aH 51 1 49]
def c67r12:JV:=[aF 52 39 1,ac 39 52]
def c67r13:JV:=[ar 53 2 0 10,au 54 118 53,ac 9 54]
def c67r14:JV:=[ac 55 9,aM 56 55 0]
def c67r15:JV:=[bt 57,ac 58 9,am 4 0 10 57,ac 5 58]
def c67r16:JV:=[ar 59 2 0 10,am 4 0 10 59,af 5 0]
def c67:SC:=(.seq (aa c67r0) (.seq (ab c67r1 13 c67r2) (.seq (.seq (aa c67r3) (ab c67r4 18 c67r5)) (.seq (aa c67r6) (.seq (.rgW c67r7) (.seq (.seq (aa c67r8) (.blk 0 (.loop (.seq (aa c67r9) (.seq (.cond (.t 40) .skip (.exit 0)) (.seq (.blk 1 (.seq (aa c67r10) (aa c67r11))) (aa c67r12))))))) (.seq (.seq (aa c67r13) (ab c67r14 56 c67r15)) (.seq (aa c67r16) .ret))))))))
def v67:JZ:=([2,4],[2,4,22,26,30,33,34,35,36,42])
def o67:J1:=[.r 4 (some 10),.t 5]
def c68r0:JV:=[aG 1 0,af 2 0]
def c68r1:JV:=[ah 1,ar 4 1 2 3,au 5 22 4,ac 2 5]
def c68:SC:=(.seq (aa c68r0) (.seq (aa c68r1) .ret))
def v68:JZ:=([1],[1,3])
def o68:J1:=[.t 2]
def c69r0:JV:=[aG 2 0,aG 3 1,ba 4,af 5 0]
def c69r1:JV:=[ar 11 2 0 3,au 12 62 11,ac 6 12]
def c69r2:JV:=[ac 13 6,aZ 14 13 0]
def c69r3:JV:=[ar 15 3 0 10,au 16 118 15,ac 6 16]
def c69r4:JV:=[ac 18 6,aM 19 18 0,ac 17 19]
def c69r5:JV:=[bq 20,ac 21 6,am 4 0 3 20,ac 5 21]
def c69r6:List (Bool × SI):=[(true,ah 3),(true,ai 24 3 0),(true,ar 25 2 0 3),(false,au 26 63 25),(true,aJ 27 24 26),(true,ac 22 27)]
def c69r7:JV:=[bq 28,am 4 0 3 28,af 5 71]
def c69r8:List (Bool × SI):=[(true,ar 30 3 0 10),(true,ah 2),(true,ai 33 2 0),(false,au 31 120 30),(true,bN 34 31 33),(true,ac 29 34)]
def c69r9:JV:=[bq 35,am 4 0 3 35,af 5 70]
def c69r10:JV:=[ar 36 2 0 3,au 37 115 36,ac 7 37]
def c69r11:RX:=.br [(true,ah 2),(true,ai 40 2 2),(true,ac 41 7),(true,aE 42 40 41 2),(true,aK 43 42 2),(true,ar 44 3 0 10),(true,ah 2),(true,ai 46 2 0)] (bh 47 121 43 44 46) (.leaf [(true,ac 38 47),(true,ak 48 38 0),(true,ak 49 38 1),(false,dv 8),(false,aH 8 2 48),(true,ac 9 49)]) (dv 8) (.leaf [(false,bh 47 121 43 44 46),(true,ac 38 47),(true,ak 48 38 0),(true,ak 49 38 1),(false,aH 8 2 48),(true,ac 9 49)])
def c69r12:JV:=[ac 50 9,aZ 51 50 0]
def c69r13:RX:=.br [(true,ar 52 2 0 3),(true,ah 2),(true,ai 54 2 2),(true,ac 55 7),(true,bB 56 54 55 2),(true,aK 58 8 2)] (au 57 86 56) (.leaf [(false,bQ 59 120 1 2 0 2 58),(false,aQ 60 57 59 120 2 32),(false,aB 61 122 52 60),(false,am 4 0 3 61),(true,af 5 0)]) (bQ 59 120 1 2 0 2 58) (.leaf [(false,au 57 86 56),(false,aQ 60 57 59 120 2 32),(false,aB 61 122 52 60),(false,am 4 0 3 61),(true,af 5 0)])
def c69r14:JV:=[ah 2,ai 63 2 2,aw 64 63,aZ 65 64 256]
def c69r15:JV:=[bq 66,am 4 0 3 66,af 5 2]
def c69r16:JV:=[ah 3,ai 69 3 0,ar 70 3 0 10,cX 71 43 1 10 0 10 70,ah 2,ai 73 2 0,bh 74 123 69 71 73,ac 67 74,ak 75 67 0,ak 76 67 1,bz 10,am 10 0 2 75,ac 6 76]
def c69r17:JV:=[ac 77 6,aM 78 77 0]
def c69r18:JV:=[bq 79,ac 80 6,am 4 0 3 79,ac 5 80]
def c69r19:RX:=.br [(true,ar 81 2 0 3),(true,ah 2),(true,ai 83 2 2),(true,ar 85 10 0 2)] (au 84 86 83) (.leaf [(false,bQ 86 120 1 2 0 2 85),(false,aQ 87 84 86 120 2 32),(false,aB 88 122 81 87),(false,am 4 0 3 88),(true,af 5 0)]) (bQ 86 120 1 2 0 2 85) (.leaf [(false,au 84 86 83),(false,aQ 87 84 86 120 2 32),(false,aB 88 122 81 87),(false,am 4 0 3 88),(true,af 5 0)])
def c69:SC:=(.seq (aa c69r0) (.seq (aa c69r1) (.seq (.seq (aa c69r2) (.cond (.t 14) (aa c69r3) .skip)) (.seq (.blk 0 (.seq (aa c69r4) (.cond (.t 17) (.seq (aa c69r5) .ret) (.seq (.rgX c69r6) (.cond (.t 22) (.seq (aa c69r7) .ret) (.seq (.rgX c69r8) (.cond (.t 29) (.seq (aa c69r9) .ret) .skip))))))) (.seq (aa c69r10) (.seq (.seq (.rgZ c69r11) (.seq (aa c69r12) (.cond (.t 51) (.seq (.rgZ c69r13) .ret) .skip))) (.seq (ab c69r14 65 c69r15) (.seq (aa c69r16) (.seq (ab c69r17 78 c69r18) (.seq (.rgZ c69r19) .ret))))))))))
def v69:JZ:=([2,3,4,10],[2,3,4,10,23,32,39,45,53,62,68,72,82])
def o69:J1:=[.r 4 (some 3),.t 5]
def c70r0:JV:=[aL 6,af 7 0]
def c70r1:JV:=[ac 11 0,au 12 108 11,aM 13 12 0,ac 14 13,av 14 15 1,cj 14 16 124 15 1048576,aT 14 17 16,aq 18 14 17,ac 19 18,av 19 20 2,cj 19 21 124 20 1099511627776,aT 19 22 21,aq 23 19 22]
def c70r2:JV:=[aL 6,af 7 1]
def c70r3:JV:=[ac 24 0,au 25 125 24,ac 26 1,ac 27 2,⟨none,.bld 28 [(.int .i64 0),(.int .i64 0)] [(0,1,(.t 26)),(1,1,(.t 27))],none,0⟩,cY 9,ac 8 25,am 9 0 2 28]
def c70r4:JV:=[ac 29 0,aw 30 29,aZ 31 30 0]
def c70r5:JV:=[ac 32 8,ar 33 9 0 2,⟨none,.bls 34 151 1 2 [(.int .i64 0),(.int .i64 0)] [(0,2,(.t 33))],none,0⟩,aQ 35 32 34 151 2 16,ac 6 35,af 7 0]
def c70r6:JV:=[ac 36 8,ac 37 8,aw 38 37,bA 39 38 1,aE 40 36 39 2,ac 10 40]
def c70r7:JV:=[ac 46 1,ac 47 10,ay 48 47,ao 49 48 0,aj 50 49,aJ 51 46 50,ac 45 51]
def c70r8:JV:=[aL 6,af 7 100]
def c70r9:JV:=[ac 53 1,ac 54 10,ay 55 54,ao 56 55 0,aj 57 56,bn 58 53 57,ac 52 58]
def c70r10:JV:=[ac 60 2,ac 61 10,ay 62 61,ao 63 62 1,aj 64 63,aJ 65 60 64,ac 59 65]
def c70r11:JV:=[aL 6,af 7 71]
def c70r12:JV:=[ac 67 2,ac 68 10,ay 69 68,ao 70 69 1,aj 71 70,bn 72 67 71,ac 66 72]
def c70r13:JV:=[ac 73 10,ar 74 9 0 2,ay 75 73,aH 75 2 74]
def c70r14:JV:=[ac 41 8,ar 42 9 0 2,⟨none,.bls 43 151 1 2 [(.int .i64 0),(.int .i64 0)] [(0,2,(.t 42))],none,0⟩,aQ 44 41 43 151 2 16,ac 8 44]
def c70r15:JV:=[ac 76 8,ac 6 76,af 7 0]
def c70:SC:=(.seq (aa c70r0) (.seq (ab c70r1 23 c70r2) (.seq (aa c70r3) (.seq (ab c70r4 31 c70r5) (.seq (.seq (aa c70r6) (.blk 0 (.seq (aa c70r7) (.cond (.t 45) (.seq (aa c70r8) .ret) (.seq (aa c70r9) (.cond (.t 52) .skip (.seq (aa c70r10) (.cond (.t 59) (.seq (aa c70r11) .ret) (.seq (aa c70r12) (.cond (.t 66) (aa c70r13) (aa c70r14))))))))))) (.seq (aa c70r15) .ret))))))
def v70:JZ:=([9],[9])
def o70:J1:=[.t 6,.t 7]
def c71r0:JV:=[ac 5 0,ac 6 0,ay 7 6,ao 8 7 0,ao 9 8 1,aj 10 9,aB 11 51 5 10,⟨none,.al 2 [(.pointer none)],none,0⟩,aH 2 1 11]
def c71r1:JV:=[ac 12 0,ay 13 12,ao 14 13 0,ao 15 14 1,aj 16 15,aS 17 16 0,ac 18 17,aW 18 19 2,⟨some (18,false),.eqf 20 false [3] (.t 19) (.v (.pointer none)),none,20⟩,aq 21 18 20]
def c71r2:JV:=[aj 22 2,ay 23 22,aK 24 23 7,au 25 68 24,bY 3,aH 3 1 25]
def c71r3:JV:=[ac 26 0,au 27 61 26]
def c71r4:JV:=[ac 4 28]
def c71r5:JV:=[ac 29 4,aj 30 2,⟨none,.eqf 31 true [3] (.t 29) (.t 30),none,0⟩]
def c71r6:List (Bool × SI):=[(true,aj 32 3),(true,ac 33 4),(true,ay 34 33),(true,ao 35 34 5),(true,aj 36 35),(true,ac 37 4),(true,ay 38 37),(true,aK 39 38 7),(true,aj 41 2),(true,ay 42 41),(true,ao 43 42 5),(true,aj 44 43),(true,aj 45 2),(true,ay 46 45),(true,aK 47 46 7),(false,au 40 68 39),(false,au 48 68 47),(false,cZ 49 126 36 40 44 48),(true,bT 50 32 49)]
def c71r7:JV:=[aH 3 1 50]
def c71r8:JV:=[aj 51 2,aj 52 2,ay 53 52,ao 54 53 6,aj 55 54,aj 56 3,bZ 57 55 56,ay 58 51,ao 59 58 6]
def c71r9:JV:=[aH 59 1 57]
def c71:SC:=(.seq (aa c71r0) (.seq (.seq (aa c71r1) (.cond (.t 21) .ret .skip)) (.seq (aa c71r2) (.seq (.seq (aa c71r3) (.blk 0 (.rf (.t 27) [28] (aa c71r4) (.blk 1 (.seq (aa c71r5) (.cond (.t 31) (.rgY c71r6 c71r7) .skip)))))) (.rgT c71r8 c71r9)))))
def v71:JZ:=([],[])
def o71:J1:=[]
def c72r0:JV:=[aC 4]
def c72r1:JV:=[ac 5 0,bf 6 5 0,ac 7 6,aD 7 8 0,aD 7 9 1,cA 7 10 8 9,aI 11 7 10,ac 4 11]
def c72:SC:=(.seq (aa c72r0) (.seq (aa c72r1) .ret))
def v72:JZ:=([],[])
def o72:J1:=[.t 4]
theorem s72 : gu Tryz.prog Tryz.f72.ntmps v72.1 v72.2 ((Tryz.f72.body).getD .skip) = some c72 := by kernel_rfl
theorem q72 : fA Tryz.prog Tryz.f72.ntmps v72.1 v72.2 Tryz.f72.results.toList = some o72 := by kernel_rfl
def c73r0:JV:=[aG 1 0,af 2 0]
def c73r1:JV:=[ar 3 1 0 10,au 4 127 3,aN 5 4]
def c73r2:JV:=[af 2 1]
def c73r3:JV:=[ar 6 1 0 10,au 7 128 6,aw 8 7,bw 9 8 2048]
def c73r4:JV:=[af 2 2]
def c73r5:JV:=[af 2 0]
def c73:SC:=(.seq (aa c73r0) (.seq (ab c73r1 5 c73r2) (.seq (ab c73r3 9 c73r4) (.seq (aa c73r5) .ret))))
def v73:JZ:=([1],[1])
def o73:J1:=[.t 2]
def c75r0:JV:=[aL 2]
def c75r1:JV:=[ac 3 0,da 4 129 3,ac 2 4]
def c75:SC:=(.seq (aa c75r0) (.seq (aa c75r1) .ret))
def v75:JZ:=([],[])
def o75:J1:=[.t 2]
def c76r0:JV:=[aU 2 0,aU 3 1,cR 4]
def c76r1:JV:=[cw 5 130 2 3,ac 4 5]
def c76:SC:=(.seq (aa c76r0) (.seq (aa c76r1) .ret))
def v76:JZ:=([],[])
def o76:J1:=[.t 4]
def c77r0:JV:=[aG 2 0,aG 3 1,aC 4]
def c77r1:JV:=[ah 2,ai 7 2 0,ah 3,ai 9 3 0,bP 10 7 9,ac 11 10,az 11 2,aA 11 13 2 1,az 11 3,aA 11 15 3 1,cv 11 16 13 15,aq 17 11 16,ac 18 17,az 18 2,aA 18 20 2 2,aV 18 21 20,az 18 3,aA 18 23 3 2,aV 18 24 23,cv 18 25 21 24,aq 26 18 25]
def c77r2:JV:=[aC 4]
def c77r3:JV:=[af 5 0]
def c77r4:JV:=[ac 27 5,ah 2,ai 29 2 2,aw 30 29,aJ 31 27 30]
def c77r5:List (Bool × SI):=[(true,ah 2),(true,ai 35 2 2),(true,ac 36 5),(true,aE 37 35 36 2),(true,aK 38 37 2),(true,ah 3),(true,ai 40 3 2),(true,ac 41 5),(true,aE 42 40 41 2),(true,aK 43 42 2),(false,aB 44 132 38 43),(true,aN 45 44)]
def c77r6:JV:=[aC 4]
def c77r7:JV:=[ac 32 5,aF 33 32 1,ac 5 33]
def c77r8:JV:=[bM 4]
def c77:SC:=(.seq (aa c77r0) (.seq (ab c77r1 26 c77r2) (.seq (.seq (aa c77r3) (.blk 0 (.loop (.seq (.seq (aa c77r4) (.cond (.t 31) .skip (.exit 0))) (.seq (.blk 1 (.seq (.rgX c77r5) (.cond (.t 45) (.seq (aa c77r6) .ret) .skip))) (aa c77r7)))))) (.seq (aa c77r8) .ret))))
def v77:JZ:=([2,3],[2,3,6,8,12,14,19,22,28,34,39])
def o77:J1:=[.t 4]
def c78r0:JV:=[aC 4]
def c78r1:JV:=[ac 6 0,aw 7 6,ac 8 1,aw 9 8,bP 10 7 9]
def c78r2:JV:=[aC 4]
def c78r3:JV:=[ac 11 0,aw 12 11,af 13 0]
def c78r4:JV:=[aJ 14 13 12]
def c78r5:JV:=[ac 15 13,ac 5 15]
def c78r6:JV:=[ac 16 0,ac 17 5,aE 18 16 17 2,aK 19 18 2,ac 20 1,ac 21 5,aE 22 20 21 2,aK 23 22 2,⟨none,.eqf 24 true [0,0] (.t 19) (.t 23),none,0⟩]
def c78r7:JV:=[aC 4]
def c78r8:JV:=[aF 25 13 1,ac 13 25]
def c78r9:JV:=[bM 4]
def c78:SC:=(.seq (aa c78r0) (.seq (ab c78r1 10 c78r2) (.seq (.seq (aa c78r3) (.blk 0 (.loop (.seq (aa c78r4) (.seq (.cond (.t 14) .skip (.exit 0)) (.seq (.blk 1 (.seq (aa c78r5) (.seq (.reg true c78r6) (.cond (.t 24) (.seq (aa c78r7) .ret) .skip)))) (aa c78r8))))))) (.seq (aa c78r9) .ret))))
def v78:JZ:=([],[])
def o78:J1:=[.t 4]
def c80r0:JV:=[aG 3 0,aU 4 1,aU 5 2,a9 6,af 7 0]
def c80r1:JV:=[ar 8 3 0 5,cw 9 134 4 5,aB 10 65 8 9,ak 11 10 0,ak 12 10 1,am 6 0 5 11,ac 7 12]
def c80:SC:=(.seq (aa c80r0) (.seq (aa c80r1) .ret))
def v80:JZ:=([3,6],[3,6])
def o80:J1:=[.r 6 (some 5),.t 7]
def c81r0:JV:=[af 5 0]
def c81r1:JV:=[ac 10 0,ay 11 10,ao 12 11 0,ao 13 12 1,aj 14 13,aS 15 14 0,ac 16 15,av 16 17 1,⟨some (16,false),.nck 18 (.t 17),none,18⟩,bJ 16 19 18 1,aW 16 20 19,aT 16 21 20,aq 22 16 21]
def c81r2:JV:=[af 5 180]
def c81r3:JV:=[aj 23 2,ac 24 0,ay 25 24,ao 26 25 0,ao 27 26 1,aj 28 27,bn 29 23 28]
def c81r4:JV:=[af 5 0]
def c81r5:JV:=[ac 30 0,ac 31 0,ay 32 31,ao 33 32 0,ao 34 33 1,aj 35 34,aB 36 51 30 35,ac 6 36]
def c81r6:JV:=[ac 37 1,ac 38 6,ay 39 38,aK 40 39 7,aB 41 82 37 40]
def c81r7:JV:=[ac 42 1,ay 43 42,aK 44 43 7,au 45 68 44,ac 7 45]
def c81r8:JV:=[ac 46 1,ac 47 1,ay 48 47,ao 49 48 6,aj 50 49,ac 51 7,bT 52 50 51,ay 53 46,ao 54 53 6,aH 54 1 52]
def c81r9:List (Bool × SI):=[(true,ac 56 0),(true,ay 57 56),(true,ao 58 57 0),(true,ao 59 58 3),(true,aj 60 59),(true,aj 61 2),(false,aB 62 83 60 61),(true,ac 55 62),(true,ak 63 55 0),(true,ak 64 55 1),(true,ac 8 63),(true,ac 9 64)]
def c81r10:JV:=[ac 65 7,ac 66 6,ay 67 66,ao 68 67 6,aj 69 68,cC 70 65 69,ac 71 70,aD 71 72 9,cB 71 73 72,aI 74 71 73]
def c81r11:List (Bool × SI):=[(true,ac 75 0),(true,ac 76 0),(true,ay 77 76),(true,ao 78 77 0),(true,ao 79 78 3),(true,aj 80 79),(true,ac 81 8),(true,aj 82 2),(false,cV 83 3 1 1 0 1 82),(false,bh 84 84 80 81 83),(true,ay 85 75),(true,ao 86 85 0),(true,ao 87 86 3)]
def c81r12:JV:=[aH 87 1 84]
def c81r13:JV:=[ac 88 0,au 89 71 88]
def c81r14:JV:=[ac 90 1,ac 91 1,ay 92 91,ao 93 92 6,aj 94 93,ac 95 6,ay 96 95,ao 97 96 6,aj 98 97,bZ 99 94 98,ac 100 7,bT 101 99 100,ay 102 90,ao 103 102 6]
def c81r15:JV:=[aH 103 1 101]
def c81r16:JV:=[af 5 0]
def c81:SC:=(.seq (aa c81r0) (.seq (ab c81r1 22 c81r2) (.seq (.seq (.reg true c81r3) (.cond (.t 29) (.seq (aa c81r4) .ret) .skip)) (.seq (aa c81r5) (.seq (aa c81r6) (.seq (aa c81r7) (.seq (aa c81r8) (.seq (.seq (.rgX c81r9) (.seq (aa c81r10) (.cond (.t 74) (.rgY c81r11 c81r12) .skip))) (.seq (aa c81r13) (.seq (.rgT c81r14 c81r15) (.seq (aa c81r16) .ret)))))))))))
def v81:JZ:=([],[])
def o81:J1:=[.t 5]
def c82r0:JV:=[aG 3 1]
def c82r1:List (Bool × SI):=[(true,ac 8 0),(true,ay 9 8),(true,ao 10 9 5),(true,aj 11 10),(true,ac 12 0),(true,ay 13 12),(true,aK 14 13 7),(true,ah 3),(true,ai 17 3 5),(true,ar 18 3 0 7),(false,au 15 68 14),(false,au 19 68 18),(false,cZ 20 126 11 15 17 19),(true,ac 4 20)]
def c82r2:JV:=[ah 3,ar 22 3 2 3,ba 5,am 5 0 3 22,aC 6]
def c82r3:JV:=[ac 23 0,ay 24 23,ao 25 24 2,ao 26 25 1,aj 27 26,ac 7 27]
def c82r4:JV:=[ac 28 7,ah 3,⟨none,.nop,none,0⟩,ai 31 3 3,bn 32 28 31,ac 33 32,aD 33 34 4,aD 33 35 7,cr 33 36 34 35,aI 37 33 36]
def c82r5:List WI:=[(true,false,ac 39 0),(true,false,ay 40 39),(true,false,ao 41 40 2),(true,false,aK 42 41 3),(true,false,ah 3),(true,false,ar 44 3 2 3),(true,false,ac 45 4),(true,false,ac 46 0),(true,false,ay 47 46),(true,false,aK 48 47 7),(false,false,au 49 68 48),(true,false,bT 50 45 49),(false,true,bh 51 135 42 44 50),(true,false,ac 38 51),(true,false,ak 52 38 0),(true,false,ak 53 38 1),(false,true,am 5 0 3 52),(true,false,ac 6 53)]
def c82r6:JV:=[ac 54 6,aN 55 54]
def c82r7:JV:=[ah 3,ar 57 3 2 3,am 5 0 3 57]
def c82r8:List WI:=[(true,false,ac 58 0),(true,false,ac 59 0),(true,false,ar 60 5 0 3),(true,false,ah 3),(true,false,ai 62 3 5),(true,false,ay 63 58),(true,false,ao 64 63 2),(false,false,aH 64 3 60),(true,false,ay 65 59),(true,false,ao 66 65 5),(false,true,aH 66 1 62)]
def c82:SC:=(.seq (aa c82r0) (.seq (.rgX c82r1) (.seq (aa c82r2) (.seq (.seq (aa c82r3) (.seq (aa c82r4) (.cond (.t 37) (.rgW c82r5) .skip))) (.seq (.seq (aa c82r6) (.cond (.t 55) (aa c82r7) .skip)) (.rgW c82r8))))))
def v82:JZ:=([3,5],[3,5,16,21,29,30,43,56,61])
def o82:J1:=[]
def c83r0:JV:=[af 4 0,aC 5]
def c83r1:JV:=[ac 10 0,aw 11 10,ac 6 11]
def c83r2:JV:=[ac 12 6,af 7 0,ac 8 12]
def c83r3:JV:=[ac 13 7,ac 14 8,aJ 15 13 14]
def c83r4:JV:=[ac 16 7,ac 17 8,aX 18 16 17,bu 19 18,bU 20 19 1,bR 21 20,ac 9 21]
def c83r5:JV:=[ac 22 0,ac 23 9,aE 24 22 23 1,aj 25 24,ac 26 1,aB 27 136 25 26]
def c83r6:JV:=[ac 28 9,aF 29 28 1,ac 7 29]
def c83r7:JV:=[ac 30 9,ac 8 30]
def c83r8:JV:=[ac 31 7,ac 32 7,ac 33 6,aJ 34 32 33,ac 35 34,aD 35 36 0,aD 35 37 7,bj 35 38 36 37 1,bm 35 39 38,aD 35 40 1,bG 35 41 39 40,aD 35 42 41,av 42 43 0,av 42 44 7,bI 42 45 43 44 1,aW 42 46 45,aY 42 47 137 46,av 42 48 47,aD 48 49 1,a0 48 50 137 49,bp 42 51 48 50,bC 35 52 42 51,aI 53 35 52,ac 4 31,ac 5 53]
def c83:SC:=(.seq (aa c83r0) (.seq (aa c83r1) (.seq (aa c83r2) (.seq (.blk 0 (.loop (.seq (.seq (aa c83r3) (.cond (.t 15) .skip (.exit 0))) (.blk 1 (.seq (aa c83r4) (.seq (aa c83r5) (.cond (.t 27) (aa c83r6) (aa c83r7)))))))) (.seq (aa c83r8) .ret)))))
def v83:JZ:=([],[])
def o83:J1:=[.t 4,.t 5]
def c85r0:JV:=[af 6 0]
def c85r1:JV:=[aj 10 2,aS 11 10 0,ac 9 11]
def c85r2:JV:=[af 6 1]
def c85r3:JV:=[ac 13 1,ay 14 13,ao 15 14 1,aj 16 15,aN 17 16,ac 12 17]
def c85r4:JV:=[af 6 180]
def c85r5:JV:=[ac 18 1,ay 19 18,ao 20 19 2,ao 21 20 2,aj 22 21,au 23 86 22,ac 7 23]
def c85r6:JV:=[ac 24 7,ac 25 7,aw 26 25,bA 27 26 1,aE 28 24 27 2,ac 8 28]
def c85r7:JV:=[ac 29 8,ac 30 8,ay 31 30,ao 32 31 1,aj 33 32,ac 34 8,ay 35 34,ao 36 35 1,aj 37 36,aw 38 37,aj 39 2,ac 40 8,ay 41 40,ao 42 41 1,aj 43 42,aw 44 43,bT 45 39 44,bd 46 38 45,bB 47 33 46 1,ay 48 29,ao 49 48 1]
def c85r8:JV:=[aH 49 1 47]
def c85r9:JV:=[ac 50 1,ac 51 1,ac 52 7,ay 53 50,ao 54 53 1,dh 54 1,ay 55 51,ao 56 55 2,ao 57 56 2,aH 57 1 52]
def c85r10:JV:=[ac 58 0,ay 59 58,ao 60 59 0,ao 61 60 1,aj 62 61,aj 63 3,bn 64 62 63]
def c85r11:JV:=[ac 65 0,ay 66 65,ao 67 66 0,ao 68 67 1,⟨none,.st (.t 68) 1 (.i (-1)),none,0⟩]
def c85r12:JV:=[ac 69 0,ay 70 69,ao 71 70 0,ao 72 71 3,aj 73 72,aw 74 73,bw 75 74 1]
def c85r13:JV:=[ac 76 0,aj 77 3,aB 78 87 76 77]
def c85r14:JV:=[ac 79 0,au 80 71 79]
def c85r15:JV:=[af 6 0]
def c85:SC:=(.seq (aa c85r0) (.seq (.blk 0 (.seq (aa c85r1) (.cond (.t 9) (.seq (aa c85r2) .ret) (ab c85r3 12 c85r4)))) (.seq (aa c85r5) (.seq (aa c85r6) (.seq (.rgT c85r7 c85r8) (.seq (aa c85r9) (.seq (.seq (.reg true c85r10) (.cond (.t 64) (aa c85r11) .skip)) (.seq (.seq (aa c85r12) (.cond (.t 75) (aa c85r13) .skip)) (.seq (aa c85r14) (.seq (aa c85r15) .ret))))))))))
def v85:JZ:=([],[])
def o85:J1:=[.t 6]
def c86r0:JV:=[aL 2]
def c86r1:JV:=[ac 3 0,cP 4 3]
def c86r2:JV:=[aL 2]
def c86r3:JV:=[cf 5,ac 6 0,aQ 7 5 6 120 2 32,ac 2 7]
def c86:SC:=(.seq (aa c86r0) (.seq (ab c86r1 4 c86r2) (.seq (aa c86r3) .ret)))
def v86:JZ:=([],[])
def o86:J1:=[.t 2]
def c87r0:JV:=[aU 3 1]
def c87r1:JV:=[ac 4 0,ac 5 0,ay 6 5,ao 7 6 0,ao 8 7 3,aj 9 8,cd 10 141 3,aB 11 140 9 10,ay 12 4,ao 13 12 0,ao 14 13 3,aH 14 1 11]
def c87:SC:=(.seq (aa c87r0) (aa c87r1))
def v87:JZ:=([],[])
def o87:J1:=[]
def c88r0:JV:=[af 4 0]
def c88r1:JV:=[ac 6 1,ay 7 6,ao 8 7 1,aj 9 8]
def c88r2:JV:=[af 4 150]
def c88r3:JV:=[ac 10 1,ay 11 10,ao 12 11 1,⟨none,.st (.t 12) 1 (.b true),none,0⟩]
def c88r4:JV:=[ac 14 1,ac 15 1,ay 16 15,ao 17 16 2,aK 18 17 3,au 19 89 18,ac 13 19,ak 20 13 0,ak 21 13 1,ay 22 14,ao 23 22 2,aH 23 3 20]
def c88r5:JV:=[ac 24 1,ay 25 24,aK 26 25 7,au 27 68 26,ac 5 27]
def c88r6:List WI:=[(true,false,ac 28 1),(true,false,ac 29 1),(true,false,ac 30 1),(true,false,ay 31 30),(true,false,ao 32 31 5),(true,false,aj 33 32),(true,false,ac 34 5),(true,false,ac 36 1),(true,false,ay 37 36),(true,false,ao 38 37 6),(true,false,aj 39 38),(true,false,ac 40 5),(true,false,bT 41 39 40),(false,false,aB 35 90 33 34),(true,false,ay 42 28),(true,false,ao 43 42 5),(false,true,aH 43 1 35),(true,false,ay 44 29),(true,false,ao 45 44 6),(false,true,aH 45 1 41)]
def c88r7:JV:=[af 4 0]
def c88:SC:=(.seq (aa c88r0) (.seq (ab c88r1 9 c88r2) (.seq (aa c88r3) (.seq (aa c88r4) (.seq (aa c88r5) (.seq (.rgW c88r6) (.seq (aa c88r7) .ret)))))))
def v88:JZ:=([],[])
def o88:J1:=[.t 4]
def c89r0:JV:=[aG 1 0,ba 2,af 3 0]
def c89r1:JV:=[ah 1,ai 9 1 0,ah 1,ai 11 1 1,aB 12 103 9 11,aN 13 12,ac 14 13,az 14 1,aA 14 16 1 2,aV 14 17 16,cL 14 18 17 0,aq 19 14 18,ac 20 19,az 20 1,aA 20 22 1 2,dw 20 23 22 0 2,bJ 20 24 23 0,aW 20 25 24,aY 20 26 142 25,aT 20 27 26,aq 28 20 27]
def c89r2:JV:=[bq 29,am 2 0 3 29,af 3 0]
def c89r3:JV:=[ar 30 1 0 3,⟨none,.call 31 122 [(.t 30),(.v (.slice none 0 0))],none,0⟩,am 2 0 3 31]
def c89r4:JV:=[ah 1,ai 33 1 2,aw 34 33,af 35 0]
def c89r5:JV:=[aJ 36 35 34]
def c89r6:JV:=[ac 37 35,aE 38 33 35 2,aK 39 38 2,bz 5,ac 4 37,am 5 0 2 39]
def c89r7:JV:=[ac 40 3,ah 5,ai 42 5 1,aw 43 42,aX 44 40 43,ac 3 44]
def c89r8:List (Bool × SI):=[(true,ah 2),(true,ai 46 2 2),(true,aw 47 46),(true,ac 48 4),(true,aJ 49 47 48),(true,ac 50 49),(true,av 50 51 4),(true,aR 50 52 51 0),(true,av 50 53 52),(true,aO 53 1),(true,aP 53 55 1 2),(true,aD 53 56 4),(true,bL 53 57 56 1),(true,bj 53 58 55 57 2),(true,cH 53 59 58 2),(false,a0 53 60 112 59),(true,cB 53 61 60),(true,aD 53 62 61),(true,az 62 1),(true,aA 62 64 1 2),(true,av 62 65 4),(true,dx 62 66 65 1),(true,bI 62 67 64 66 2),(true,dy 62 68 67 2),(true,cN 62 69 5 0 2),(false,cK 62 70 113 68 69),(true,aT 62 71 70),(true,bC 53 72 62 71),(true,bp 50 73 53 72),(true,aq 74 50 73)]
def c89r9:JV:=[ar 76 5 0 2,au 77 143 76,ac 75 77,ak 78 75 0,ak 79 75 1,bz 6,am 6 0 2 78,ac 7 79]
def c89r10:JV:=[ac 80 3,ah 6,ai 82 6 1,aw 83 82,bd 84 80 83,ac 3 84]
def c89r11:JV:=[ah 2,ai 86 2 2,ar 87 6 0 2,bQ 88 120 1 2 0 2 87,aQ 89 86 88 120 2 32,ah 2,am 2 2 1 89]
def c89r12:JV:=[aF 91 35 1,ac 35 91]
def c89r13:JV:=[ar 92 2 0 3,ac 93 3,am 2 0 3 92,ac 3 93]
def c89:SC:=(.seq (aa c89r0) (.seq (ab c89r1 28 c89r2) (.seq (aa c89r3) (.seq (.seq (aa c89r4) (.blk 0 (.loop (.seq (aa c89r5) (.seq (.cond (.t 36) .skip (.exit 0)) (.seq (.blk 1 (.seq (aa c89r6) (.seq (aa c89r7) (.seq (.seq (.rgX c89r8) (.cond (.t 74) (.exit 1) .skip)) (.seq (aa c89r9) (.seq (aa c89r10) (aa c89r11))))))) (aa c89r12))))))) (.seq (aa c89r13) .ret)))))
def v89:JZ:=([1,2,5,6],[1,2,5,6,8,10,15,21,32,41,45,54,63,81,85,90])
def o89:J1:=[.r 2 (some 3),.t 3]
def c90r0:JV:=[aU 2 0,aU 3 1,aL 4]
def c90r1:JV:=[aj 6 2,au 7 108 6,aM 8 7 0]
def c90r2:JV:=[aL 4]
def c90r3:JV:=[aj 9 2,aw 10 9,cw 11 145 2 3,aB 12 144 10 11,ac 5 12]
def c90r4:JV:=[aj 13 2,ac 14 5,bB 15 13 14 2,au 16 125 15,ac 4 16]
def c90:SC:=(.seq (aa c90r0) (.seq (ab c90r1 8 c90r2) (.seq (aa c90r3) (.seq (aa c90r4) .ret))))
def v90:JZ:=([],[])
def o90:J1:=[.t 4]
def c91r0:JV:=[af 5 0]
def c91r1:JV:=[ac 7 1,ay 8 7,ao 9 8 1,aj 10 9,aN 11 10,ac 6 11]
def c91r2:JV:=[af 5 180]
def c91r3:List (Bool × SI):=[(true,ac 13 0),(true,ay 14 13),(true,ao 15 14 0),(true,ao 16 15 3),(true,aj 17 16),(true,aj 18 2),(false,aB 19 58 17 18),(true,aN 20 19),(true,ac 12 20)]
def c91r4:JV:=[af 5 181]
def c91r5:JV:=[ac 22 0,ay 23 22,ao 24 23 0,ao 25 24 0,aj 26 25,aZ 27 26 1048576,ac 21 27]
def c91r6:JV:=[af 5 2]
def c91r7:RX:=.br [(true,ac 28 0),(true,ac 29 0),(true,ac 30 0),(true,ay 31 30),(true,ao 32 31 0),(true,ao 33 32 0)] (aj 34 33) (.br [(true,aF 35 34 1),(true,ay 37 28),(true,ao 38 37 0),(true,ao 39 38 0)] (aj 36 2) (.leaf [(false,aH 39 1 35),(true,ay 40 29),(true,ao 41 40 0),(true,ao 42 41 1),(false,aH 42 1 36)]) (aH 39 1 35) (.leaf [(false,aj 36 2),(true,ay 40 29),(true,ao 41 40 0),(true,ao 42 41 1),(false,aH 42 1 36)])) (aj 36 2) (.leaf [(false,aj 34 33),(true,aF 35 34 1),(true,ay 37 28),(true,ao 38 37 0),(true,ao 39 38 0),(false,aH 39 1 35),(true,ay 40 29),(true,ao 41 40 0),(true,ao 42 41 1),(false,aH 42 1 36)])
def c91r8:JV:=[ac 43 0,au 44 71 43]
def c91r9:JV:=[af 5 0]
def c91:SC:=(.seq (aa c91r0) (.seq (.blk 0 (.seq (aa c91r1) (.cond (.t 6) (.seq (aa c91r2) .ret) (.seq (.rgX c91r3) (.cond (.t 12) (.seq (aa c91r4) .ret) (ab c91r5 21 c91r6)))))) (.seq (.rgZ c91r7) (.seq (aa c91r8) (.seq (aa c91r9) .ret)))))
def v91:JZ:=([],[])
def o91:J1:=[.t 5]
def Fz : Sch := .br [(true, 0), (true, 1), (true, 2), (true, 3), (true, 4), (true, 5)] 6 (.br [(true, 7), (true, 9), (true, 10), (true, 11)] 8 (.leaf [(false, 12), (true, 13), (true, 14), (true, 15), (false, 16)]) 12 (.leaf [(false, 8), (true, 13), (true, 14), (true, 15), (false, 16)])) 8 (.leaf [(false, 6), (true, 7), (true, 9), (true, 10), (true, 11), (false, 12), (true, 13), (true, 14), (true, 15), (false, 16)])
theorem F5 : ZOk Tryz.prog Tryz.f91.ntmps v91.1 v91.2 (Dc 7 ((Tryz.f91.body).getD .skip)) c91r7 := ZOk.mk Fz (by kernel_rfl) (by kernel_rfl) (by kernel_rfl) (by kernel_rfl)
theorem s91 : iW Tryz.prog Tryz.f91.ntmps v91.1 v91.2 ((Tryz.f91.body).getD .skip) c91 := iW.mk [(7, .z c91r7)] (⟨⟨_, by kernel_rfl, F5⟩, trivial⟩) (by kernel_rfl)
theorem q91 : fA Tryz.prog Tryz.f91.ntmps v91.1 v91.2 Tryz.f91.results.toList = some o91 := by kernel_rfl
def c97r0:JV:=[aG 1 0,ba 2,af 3 0]
def c97r1:JV:=[ah 1,ai 11 1 0,aS 12 11 256,ac 13 12,az 13 1,aA 13 15 1 0,aR 13 16 15 4096,aq 17 13 16,ac 18 17,az 18 1,aA 18 20 1 1,aY 18 21 104 20,aT 18 22 21,aq 23 18 22,ac 24 23,az 24 1,aA 24 26 1 2,aV 24 27 26,cL 24 28 27 0,aq 29 24 28,ac 30 29,az 30 1,aA 30 32 1 2,dw 30 33 32 0 2,bJ 30 34 33 0,aW 30 35 34,aY 30 36 104 35,aT 30 37 36,aq 38 30 37]
def c97r2:JV:=[bq 39,am 2 0 3 39,af 3 0]
def c97r3:JV:=[ah 1,ai 41 1 0,ah 1,ai 43 1 1,⟨none,.bld 44 [(.int .i64 0),(.int .i64 0),(.slice none 0 0)] [(0,1,(.t 41)),(1,1,(.t 43))],none,0⟩,ba 4,am 4 0 3 44]
def c97r4:JV:=[af 5 0]
def c97r5:JV:=[bM 6]
def c97r6:JV:=[af 7 0]
def c97r7:JV:=[ac 45 7,ah 1,ai 47 1 2,aw 48 47,aJ 49 45 48]
def c97r8:List (Bool × SI):=[(true,ac 52 6),(true,ac 53 52),(true,aD 53 54 7),(true,bc 53 55 54 0),(true,aD 53 56 55),(true,az 56 1),(true,aA 56 58 1 2),(true,av 56 59 7),(true,dx 56 60 59 1),(true,bI 56 61 58 60 2),(true,dy 56 62 61 2),(true,az 56 1),(true,aA 56 64 1 2),(true,av 56 65 7),(true,bI 56 66 64 65 2),(true,dy 56 67 66 2),(false,cK 56 68 147 62 67),(true,bC 53 69 56 68),(true,aI 70 53 69),(true,ac 6 70)]
def c97r9:JV:=[ac 71 6,aN 72 71]
def c97r10:JV:=[ac 73 5,ah 1,ai 75 1 2,ac 76 7,aE 77 75 76 2,ao 78 77 1,aj 79 78,aw 80 79,aX 81 73 80,ac 5 81]
def c97r11:JV:=[ah 1,ai 84 1 2,ac 85 7,aE 86 84 85 2,aK 87 86 2,au 88 148 87,ac 82 88,ak 89 82 0,ak 90 82 1,bz 8,am 8 0 2 89,ac 9 90]
def c97r12:JV:=[ah 4,ai 92 4 2,ar 93 8 0 2,bQ 94 120 1 2 0 2 93,aQ 95 92 94 120 2 32,ah 4,am 4 2 1 95]
def c97r13:JV:=[ac 97 5,ac 98 9,aX 99 97 98,ac 5 99]
def c97r14:JV:=[ah 1,ai 101 1 2,ac 102 7,aE 103 101 102 2,aK 104 103 2,au 105 149 104,ac 6 105]
def c97r15:JV:=[ac 50 7,aF 51 50 1,ac 7 51]
def c97r16:JV:=[ar 106 4 0 3,ac 107 5,am 2 0 3 106,ac 3 107]
def c97:SC:=(.seq (aa c97r0) (.seq (ab c97r1 38 c97r2) (.seq (aa c97r3) (.seq (aa c97r4) (.seq (aa c97r5) (.seq (.seq (aa c97r6) (.blk 0 (.loop (.seq (.seq (aa c97r7) (.cond (.t 49) .skip (.exit 0))) (.seq (.blk 1 (.seq (.rgX c97r8) (.seq (.seq (aa c97r9) (.cond (.t 72) (.seq (aa c97r10) (.exit 1)) .skip)) (.seq (aa c97r11) (.seq (aa c97r12) (.seq (aa c97r13) (aa c97r14))))))) (aa c97r15)))))) (.seq (aa c97r16) .ret)))))))
def v97:JZ:=([1,2,4,8],[1,2,4,8,10,14,19,25,31,40,42,46,57,63,74,83,91,96,100])
def o97:J1:=[.r 2 (some 3),.t 3]
def c98r0:JV:=[aG 1 0,af 2 0]
def c98r1:JV:=[ar 3 1 0 3,au 4 101 3,aM 5 4 0]
def c98r2:JV:=[af 2 0]
def c98r3:JV:=[ar 6 1 0 3,au 7 150 6,ac 2 7]
def c98:SC:=(.seq (aa c98r0) (.seq (ab c98r1 5 c98r2) (.seq (aa c98r3) .ret)))
def v98:JZ:=([1],[1])
def o98:J1:=[.t 2]
def c101r0:JV:=[aG 1 0,af 2 0]
def c101r1:JV:=[ah 1,ai 5 1 0,aS 6 5 256,ac 7 6,az 7 1,aA 7 9 1 0,aR 7 10 9 4096,aq 11 7 10,ac 12 11,az 12 1,aA 12 14 1 1,aY 12 15 104 14,aT 12 16 15,aq 17 12 16,ac 18 17,az 18 1,aA 18 20 1 2,aV 18 21 20,cL 18 22 21 0,aq 23 18 22]
def c101r2:JV:=[af 2 1]
def c101r3:JV:=[af 3 0]
def c101r4:JV:=[ac 24 3,ah 1,ai 26 1 2,aw 27 26,aJ 28 24 27]
def c101r5:List (Bool × SI):=[(true,ah 1),(true,ai 32 1 2),(true,ac 33 3),(true,aE 34 32 33 2),(true,aK 35 34 2),(false,au 36 149 35),(true,aN 37 36),(true,ac 38 37),(true,az 38 1),(true,aA 38 40 1 2),(true,av 38 41 3),(true,bI 38 42 40 41 2),(true,bJ 38 43 42 1),(true,aW 38 44 43),(true,aV 38 45 44),(true,az 38 1),(true,aA 38 47 1 0),(true,bK 38 48 45 47),(true,aq 49 38 48),(true,ac 50 49),(true,av 50 51 3),(true,aR 50 52 51 0),(true,av 50 53 52),(true,aO 53 1),(true,aP 53 55 1 2),(true,aD 53 56 3),(true,bL 53 57 56 1),(true,bj 53 58 55 57 2),(true,cH 53 59 58 2),(true,aO 53 1),(true,aP 53 61 1 2),(true,aD 53 62 3),(true,bj 53 63 61 62 2),(true,cH 53 64 63 2),(false,cG 53 65 147 59 64),(true,cB 53 66 65),(true,bp 50 67 53 66),(true,aq 68 50 67)]
def c101r6:JV:=[af 2 1]
def c101r7:JV:=[ac 29 3,aF 30 29 1,ac 3 30]
def c101r8:JV:=[ah 1,ai 70 1 2,aw 71 70,bw 72 71 256]
def c101r9:JV:=[af 2 2]
def c101r10:JV:=[af 2 0]
def c101:SC:=(.seq (aa c101r0) (.seq (ab c101r1 23 c101r2) (.seq (.seq (aa c101r3) (.blk 0 (.loop (.seq (.seq (aa c101r4) (.cond (.t 28) .skip (.exit 0))) (.seq (.blk 1 (.seq (.rgX c101r5) (.cond (.t 68) (.seq (aa c101r6) .ret) .skip))) (aa c101r7)))))) (.seq (ab c101r8 72 c101r9) (.seq (aa c101r10) .ret)))))
def v101:JZ:=([1],[1,4,8,13,19,25,31,39,46,54,60,69])
def o101:J1:=[.t 2]
def c102r0:JV:=[af 5 0]
def c102r1:JV:=[ac 7 0,ay 8 7,ao 9 8 0,ao 10 9 1,aj 11 10,aS 12 11 0,ac 6 12]
def c102r2:JV:=[af 5 180]
def c102r3:List (Bool × SI):=[(true,aj 14 2),(true,ac 15 0),(true,ay 16 15),(true,ao 17 16 0),(true,ao 18 17 1),(true,aj 19 18),(true,bn 20 14 19),(true,ac 21 20),(true,av 21 22 0),(true,⟨some (21,false),.nck 23 (.t 22),none,23⟩),(true,bJ 21 24 23 0),(true,bJ 21 25 24 3),(true,aW 21 26 25),(true,aW 21 27 2),(false,cK 21 28 58 26 27),(true,aT 21 29 28),(true,aq 30 21 29),(true,ac 13 30)]
def c102r4:JV:=[af 5 181]
def c102r5:JV:=[ac 31 0,aj 32 2,aB 33 87 31 32]
def c102r6:JV:=[ac 34 0,au 35 71 34]
def c102r7:JV:=[af 5 0]
def c102:SC:=(.seq (aa c102r0) (.seq (.blk 0 (.seq (aa c102r1) (.cond (.t 6) (.seq (aa c102r2) .ret) (.seq (.rgX c102r3) (.cond (.t 13) (.seq (aa c102r4) .ret) .skip))))) (.seq (aa c102r5) (.seq (aa c102r6) (.seq (aa c102r7) .ret)))))
def v102:JZ:=([],[])
def o102:J1:=[.t 5]
def c103r0:JV:=[aC 4]
def c103r1:JV:=[ac 5 0,bf 6 5 256,ac 7 6,aD 7 8 0,bE 7 9 8 4096,aI 10 7 9,ac 11 10,aD 11 12 1,a0 11 13 142 12,aI 14 11 13,ac 4 14]
def c103:SC:=(.seq (aa c103r0) (.seq (aa c103r1) .ret))
def v103:JZ:=([],[])
def o103:J1:=[.t 4]
def c104r0:JV:=[aC 2]
def c104r1:JV:=[ac 3 0,bf 4 3 0,ac 5 4,aD 5 6 0,bE 5 7 6 1099511627776,aI 8 5 7,ac 2 8]
def c104:SC:=(.seq (aa c104r0) (.seq (aa c104r1) .ret))
def v104:JZ:=([],[])
def o104:J1:=[.t 2]
def c105r0:JV:=[af 6 0,aC 7]
def c105r1:JV:=[ac 12 0,aw 13 12,ac 8 13]
def c105r2:JV:=[ac 14 8,af 9 0,ac 10 14]
def c105r3:JV:=[ac 15 9,ac 16 10,aJ 17 15 16]
def c105r4:JV:=[ac 18 9,ac 19 10,aX 20 18 19,bu 21 20,bU 22 21 1,bR 23 22,ac 11 23]
def c105r5:JV:=[ac 24 2,ac 25 0,ac 26 11,aE 27 25 26 7,aK 28 27 7,ac 29 1,ck 30 24 28 29,aS 31 30 0]
def c105r6:JV:=[ac 32 11,aF 33 32 1,ac 9 33]
def c105r7:JV:=[ac 34 11,ac 10 34]
def c105r8:JV:=[ac 35 9,ac 36 9,ac 37 8,aJ 38 36 37,ac 39 38,aD 39 40 2,aD 39 41 0,aD 39 42 9,bj 39 43 41 42 7,cH 39 44 43 7,aD 39 45 1,⟨some (39,true),.cav 46 (.t 40) [(.t 44),(.t 45)],none,46⟩,bc 39 47 46 0,aI 48 39 47,ac 6 35,ac 7 48]
def c105:SC:=(.seq (aa c105r0) (.seq (aa c105r1) (.seq (aa c105r2) (.seq (.blk 0 (.loop (.seq (.seq (aa c105r3) (.cond (.t 17) .skip (.exit 0))) (.blk 1 (.seq (aa c105r4) (.seq (aa c105r5) (.cond (.t 31) (aa c105r6) (aa c105r7)))))))) (.seq (aa c105r8) .ret)))))
def v105:JZ:=([],[])
def o105:J1:=[.t 6,.t 7]
def c106r0:JV:=[aG 2 0,af 4 0]
def c106r1:JV:=[ah 2,ai 6 2 0,ac 7 1,bd 8 6 7,ac 4 8]
def c106:SC:=(.seq (aa c106r0) (.seq (aa c106r1) .ret))
def v106:JZ:=([2],[2,5])
def o106:J1:=[.t 4]
def c107r0:JV:=[af 4 0]
def c107r1:JV:=[ac 6 0,aw 7 6,af 8 0]
def c107r2:JV:=[aJ 9 8 7]
def c107r3:JV:=[ac 10 8,ac 5 10]
def c107r4:JV:=[ac 11 1,ac 12 0,ac 13 5,aE 14 12 13 7,aK 15 14 7,ci 16 11 15]
def c107r5:JV:=[ac 17 5,ac 4 17]
def c107r6:JV:=[aF 18 8 1,ac 8 18]
def c107r7:JV:=[cz 4]
def c107:SC:=(.seq (aa c107r0) (.seq (.seq (aa c107r1) (.blk 0 (.loop (.seq (aa c107r2) (.seq (.cond (.t 9) .skip (.exit 0)) (.seq (.blk 1 (.seq (aa c107r3) (ab c107r4 16 c107r5))) (aa c107r6))))))) (.seq (aa c107r7) .ret)))
def v107:JZ:=([],[])
def o107:J1:=[.t 4]
def c108r0:JV:=[af 2 0]
def c108r1:JV:=[ac 5 0,aw 6 5,af 7 0]
def c108r2:JV:=[aJ 8 7 6]
def c108r3:JV:=[ac 9 7,aE 10 5 7 2,aK 11 10 2,cY 4,ac 3 9,am 4 0 2 11]
def c108r4:JV:=[ah 4,ai 13 4 0,bH 14 124 13 1048576,aN 15 14,ac 16 15,az 16 4,aA 16 18 4 1,cj 16 19 124 18 1099511627776,aT 16 20 19,aq 21 16 20]
def c108r5:JV:=[af 2 1]
def c108r6:JV:=[ac 22 3,bw 23 22 0,ac 24 23,aO 24 4,aP 24 26 4 0,aD 24 27 0,aD 24 28 3,bL 24 29 28 1,bj 24 30 27 29 2,cM 24 31 30 0,bm 24 32 31,⟨some (24,true),.bin 33 .sub (.t 26) (.t 32),none,33⟩,aO 24 4,aP 24 35 4 1,aD 24 36 0,aD 24 37 3,bL 24 38 37 1,bj 24 39 36 38 2,cM 24 40 39 1,bm 24 41 40,⟨some (24,true),.bin 42 .sub (.t 35) (.t 41),none,42⟩,⟨some (24,true),.mm 43 false (.t 33) (.t 42),none,43⟩,bE 24 44 43 0,aI 45 24 44]
def c108r7:JV:=[af 2 1]
def c108r8:JV:=[aF 46 7 1,ac 7 46]
def c108r9:JV:=[af 2 0]
def c108:SC:=(.seq (aa c108r0) (.seq (.seq (aa c108r1) (.blk 0 (.loop (.seq (aa c108r2) (.seq (.cond (.t 8) .skip (.exit 0)) (.seq (.blk 1 (.seq (aa c108r3) (.seq (ab c108r4 21 c108r5) (.seq (.reg true c108r6) (.cond (.t 45) (.seq (aa c108r7) .ret) .skip))))) (aa c108r8))))))) (.seq (aa c108r9) .ret)))
def v108:JZ:=([4],[4,12,17,25,34])
def o108:J1:=[.t 2]
def c109r0:JV:=[af 4 0]
def c109r1:JV:=[ac 6 0,aw 7 6,af 8 0]
def c109r2:JV:=[aJ 9 8 7]
def c109r3:JV:=[ac 10 8,ac 5 10]
def c109r4:JV:=[ac 11 1,ac 12 0,ac 13 5,aE 14 12 13 1,aj 15 14,ci 16 11 15]
def c109r5:JV:=[ac 17 5,ac 4 17]
def c109r6:JV:=[aF 18 8 1,ac 8 18]
def c109r7:JV:=[cz 4]
def c109:SC:=(.seq (aa c109r0) (.seq (.seq (aa c109r1) (.blk 0 (.loop (.seq (aa c109r2) (.seq (.cond (.t 9) .skip (.exit 0)) (.seq (.blk 1 (.seq (aa c109r3) (ab c109r4 16 c109r5))) (aa c109r6))))))) (.seq (aa c109r7) .ret)))
def v109:JZ:=([],[])
def o109:J1:=[.t 4]
def c110r0:JV:=[af 2 0]
def c110r1:JV:=[ac 5 0,aw 6 5,af 7 0]
def c110r2:JV:=[aJ 8 7 6]
def c110r3:JV:=[ac 9 7,aE 10 5 7 2,aK 11 10 2,cY 4,ac 3 9,am 4 0 2 11]
def c110r4:JV:=[ah 4,ai 13 4 0,aS 14 13 0,ac 15 14,az 15 4,aA 15 17 4 0,aR 15 18 17 1048576,aq 19 15 18,ac 20 19,az 20 4,aA 20 22 4 1,bi 20 23 22 0,aq 24 20 23,ac 25 24,az 25 4,aA 25 27 4 1,aR 25 28 27 1099511627776,aq 29 25 28,ac 30 29,av 30 31 3,aR 30 32 31 0,av 30 33 32,aO 33 4,aP 33 35 4 0,aD 33 36 0,aD 33 37 3,bL 33 38 37 1,bj 33 39 36 38 2,cM 33 40 39 0,bm 33 41 40,cA 33 42 35 41,aD 33 43 42,az 43 4,aA 43 45 4 1,av 43 46 0,av 43 47 3,dx 43 48 47 1,bI 43 49 46 48 2,bJ 43 50 49 1,aW 43 51 50,⟨some (43,false),.bin 52 .leq (.t 45) (.t 51),none,52⟩,bC 33 53 43 52,bp 30 54 33 53,aq 55 30 54]
def c110r5:JV:=[af 2 1]
def c110r6:JV:=[aF 56 7 1,ac 7 56]
def c110r7:JV:=[af 2 0]
def c110:SC:=(.seq (aa c110r0) (.seq (.seq (aa c110r1) (.blk 0 (.loop (.seq (aa c110r2) (.seq (.cond (.t 8) .skip (.exit 0)) (.seq (.blk 1 (.seq (aa c110r3) (.seq (.reg true c110r4) (.cond (.t 55) (.seq (aa c110r5) .ret) .skip)))) (aa c110r6))))))) (.seq (aa c110r7) .ret)))
def v110:JZ:=([4],[4,12,16,21,26,34,44])
def o110:J1:=[.t 2]
def c111r0:JV:=[aj 5 1,ay 6 5,ao 7 6 0,ao 8 7 3,aj 9 8,aw 10 9,af 11 0]
def c111r1:JV:=[aJ 12 11 10]
def c111r2:JV:=[aE 13 9 11 1,aj 14 13,ac 4 14]
def c111r3:JV:=[ac 15 0,aj 16 1,ac 17 4,aB 18 51 16 17,ci 19 15 18,aN 20 19]
def c111r4:JV:=[aF 21 11 1,ac 11 21]
def c111:SC:=(.seq (aa c111r0) (.blk 0 (.loop (.seq (aa c111r1) (.seq (.cond (.t 12) .skip (.exit 0)) (.seq (.blk 1 (.seq (aa c111r2) (.seq (aa c111r3) (.cond (.t 20) .ret .skip)))) (aa c111r4)))))))
def v111:JZ:=([],[])
def o111:J1:=[]
def c112r0:JV:=[aG 1 0,aC 2]
def c112r1:JV:=[ar 6 1 0 2,au 7 131 6,ac 5 7,ak 8 5 0,ak 9 5 1,ac 3 8,ac 4 9]
def c112r2:JV:=[ah 1,ai 11 1 0,au 12 142 11,ac 13 12,aD 13 14 4,aO 13 1,aP 13 16 1 1,bS 13 17 16,bG 13 18 14 17,aI 19 13 18,ac 2 19]
def c112:SC:=(.seq (aa c112r0) (.seq (aa c112r1) (.seq (aa c112r2) .ret)))
def v112:JZ:=([1],[1,10,15])
def o112:J1:=[.t 2]
def c113r0:JV:=[aG 2 0,aG 3 1,aC 4]
def c113r1:List (Bool × SI):=[(true,ah 3),(true,ai 6 3 0),(true,ah 2),(true,ai 8 2 0),(true,bN 9 6 8),(true,ac 10 9),(true,aO 10 3),(true,aP 10 12 3 0),(true,a8 10 13 2 0 2),(false,a0 10 14 114 13),(true,cr 10 15 12 14),(true,aI 16 10 15),(true,ac 4 16)]
def c113:SC:=(.seq (aa c113r0) (.seq (.rgX c113r1) .ret))
def v113:JZ:=([2,3],[2,3,5,7,11])
def o113:J1:=[.t 4]
def c114r0:JV:=[aU 1 0,af 2 0]
def c114r1:JV:=[ao 5 1 0,aj 6 5,bY 3,aH 3 1 6]
def c114r2:JV:=[aK 7 1 2,au 8 151 7]
def c114r3:JV:=[bg 4,am 4 0 10 9]
def c114r4:JV:=[ah 4,ai 12 4 1,aF 13 12 1,aH 3 1 13]
def c114r5:JV:=[aj 14 3,ac 2 14]
def c114:SC:=(.seq (aa c114r0) (.seq (aa c114r1) (.seq (.seq (aa c114r2) (.blk 0 (.rf (.t 8) [9,10] (aa c114r3) (.blk 1 (aa c114r4))))) (.seq (aa c114r5) .ret))))
def v114:JZ:=([4],[4,11])
def o114:J1:=[.t 2]
def c115r0:JV:=[aG 1 0,af 2 0]
def c115r1:JV:=[ah 1,ai 4 1 2,aw 5 4,bA 6 5 1,ac 2 6]
def c115:SC:=(.seq (aa c115r0) (.seq (aa c115r1) .ret))
def v115:JZ:=([1],[1,3])
def o115:J1:=[.t 2]
def c116r0:JV:=[aL 2]
def c116r1:JV:=[ac 3 0,cP 4 3]
def c116r2:JV:=[aL 2]
def c116r3:JV:=[cf 5,ac 6 0,aQ 7 5 6 50 7 88,ac 2 7]
def c116:SC:=(.seq (aa c116r0) (.seq (ab c116r1 4 c116r2) (.seq (aa c116r3) .ret)))
def v116:JZ:=([],[])
def o116:J1:=[.t 2]
def c117r0:JV:=[aC 4]
def c117r1:JV:=[ac 5 1,au 6 152 5,bf 7 6 0,ac 8 7,aD 8 9 1,a0 8 10 153 9,aD 8 11 0,cA 8 12 10 11,aI 13 8 12,ac 4 13]
def c117:SC:=(.seq (aa c117r0) (.seq (aa c117r1) .ret))
def v117:JZ:=([],[])
def o117:J1:=[.t 4]
theorem s117 : gu Tryz.prog Tryz.f117.ntmps v117.1 v117.2 ((Tryz.f117.body).getD .skip) = some c117 := by kernel_rfl
theorem q117 : fA Tryz.prog Tryz.f117.ntmps v117.1 v117.2 Tryz.f117.results.toList = some o117 := by kernel_rfl
def c118r0:JV:=[aG 1 0,af 2 0]
def c118r1:JV:=[ar 6 1 0 10,au 7 154 6,ac 5 7,ak 8 5 0,ak 9 5 1,ac 3 8,ac 4 9]
def c118r2:JV:=[ac 10 4,ac 2 10]
def c118:SC:=(.seq (aa c118r0) (.seq (aa c118r1) (.seq (aa c118r2) .ret)))
def v118:JZ:=([1],[1])
def o118:J1:=[.t 2]
def c119r0:JV:=[aL 2]
def c119r1:JV:=[ac 3 0,cP 4 3]
def c119r2:JV:=[aL 2]
def c119r3:JV:=[cf 5,ac 6 0,aQ 7 5 6 103 5 56,ac 2 7]
def c119:SC:=(.seq (aa c119r0) (.seq (ab c119r1 4 c119r2) (.seq (aa c119r3) .ret)))
def v119:JZ:=([],[])
def o119:J1:=[.t 2]
def c120r0:JV:=[aG 1 0,af 2 0]
def c120r1:JV:=[ar 6 1 0 10,au 7 154 6,ac 5 7,ak 8 5 0,ak 9 5 1,ac 3 8,ac 4 9]
def c120r2:JV:=[ac 10 3,aw 11 10,ac 2 11]
def c120:SC:=(.seq (aa c120r0) (.seq (aa c120r1) (.seq (aa c120r2) .ret)))
def v120:JZ:=([1],[1])
def o120:J1:=[.t 2]
def c121r0:JV:=[aG 3 0,aG 4 1,bz 6,af 7 0]
def c121r1:JV:=[ar 13 3 0 2,au 14 131 13,ac 12 14,ak 15 12 0,ak 16 12 1,ac 8 15,ac 9 16]
def c121r2:JV:=[ac 17 9,ah 3,ai 19 3 1,aw 20 19,bP 21 17 20,ac 22 21,az 22 3,aA 22 24 3 0,aY 22 25 155 24,aT 22 26 25,aq 27 22 26,ac 28 27,av 28 29 2,aY 28 30 156 29,aT 28 31 30,aq 32 28 31]
def c121r3:JV:=[cD 33,am 6 0 2 33,af 7 1]
def c121r4:JV:=[ar 35 4 0 10,au 36 154 35,ac 34 36,ak 37 34 0,ak 38 34 1,ac 10 37,ac 11 38]
def c121r5:JV:=[ac 40 11,aM 41 40 0,ac 39 41]
def c121r6:JV:=[cD 42,ac 43 11,am 6 0 2 42,ac 7 43]
def c121r7:List (Bool × SI):=[(true,ah 4),(true,ai 46 4 0),(true,ar 47 3 0 2),(false,au 48 114 47),(true,aJ 49 46 48),(true,ac 44 49)]
def c121r8:JV:=[cD 50,am 6 0 2 50,af 7 71]
def c121r9:JV:=[ah 3,ai 53 3 1,aw 54 53,ac 55 10,aw 56 55,aX 57 54 56,ac 58 2,bN 59 57 58,ac 51 59]
def c121r10:JV:=[cD 60,am 6 0 2 60,af 7 70]
def c121r11:List (Bool × SI):=[(true,ah 3),(true,ai 62 3 0),(true,ah 3),(true,ai 64 3 1),(true,ac 65 10),(false,⟨none,.bls 66 118 2 1 [(.slice none 0 0),(.slice none 0 0)] [(0,1,(.t 64)),(1,1,(.t 65))],none,0⟩),(false,au 67 157 66),(true,dz 68 0 1 62 1 1 67)]
def c121r12:JV:=[am 6 0 2 68,af 7 0]
def c121:SC:=(.seq (aa c121r0) (.seq (.seq (aa c121r1) (ab c121r2 32 c121r3)) (.seq (aa c121r4) (.seq (.blk 0 (.seq (aa c121r5) (.cond (.t 39) (.seq (aa c121r6) .ret) (.seq (.rgX c121r7) (.cond (.t 44) (.seq (aa c121r8) .ret) (ab c121r9 51 c121r10)))))) (.seq (.rgY c121r11 c121r12) .ret)))))
def v121:JZ:=([3,4,6],[3,4,6,18,23,45,52,61,63])
def o121:J1:=[.r 6 (some 2),.t 7]
def c122r0:JV:=[aG 2 0,ba 4]
def c122r1:JV:=[ah 2,ai 6 2 0,ah 2,ai 8 2 1,ac 9 1,dt 10 0 1 6 1 1 8 2 1 9,am 4 0 3 10]
def c122:SC:=(.seq (aa c122r0) (.seq (aa c122r1) .ret))
def v122:JZ:=([2,4],[2,4,5,7])
def o122:J1:=[.r 4 (some 3)]
def c123r0:JV:=[bz 6,af 7 0]
def c123r1:JV:=[ac 13 0,au 14 158 13,ac 12 14,ak 15 12 0,ak 16 12 1,bz 8,am 8 0 2 15,ac 9 16]
def c123r2:JV:=[ac 17 9,aM 18 17 0,ac 19 18,av 19 20 2,aY 19 21 156 20,aT 19 22 21,aq 23 19 22]
def c123r3:JV:=[cD 24,am 6 0 2 24,af 7 1]
def c123r4:JV:=[ac 25 1,aw 26 25,af 27 0]
def c123r5:JV:=[aJ 28 27 26]
def c123r6:JV:=[aE 29 25 27 10,aK 30 29 10,bg 11,am 11 0 10 30]
def c123r7:JV:=[ar 32 8 0 2,ar 33 11 0 10,ac 34 2,bh 35 121 32 33 34,ac 31 35,ak 36 31 0,ak 37 31 1,am 8 0 2 36,ac 9 37]
def c123r8:JV:=[ac 38 9,aM 39 38 0]
def c123r9:JV:=[cD 40,ac 41 9,am 6 0 2 40,ac 7 41]
def c123r10:JV:=[aF 42 27 1,ac 27 42]
def c123r11:JV:=[ar 43 8 0 2,am 6 0 2 43,af 7 0]
def c123:SC:=(.seq (aa c123r0) (.seq (aa c123r1) (.seq (ab c123r2 23 c123r3) (.seq (.seq (aa c123r4) (.blk 0 (.loop (.seq (aa c123r5) (.seq (.cond (.t 28) .skip (.exit 0)) (.seq (.blk 1 (.seq (aa c123r6) (.seq (aa c123r7) (ab c123r8 39 c123r9)))) (aa c123r10))))))) (.seq (aa c123r11) .ret)))))
def v123:JZ:=([6,8,11],[6,8,11])
def o123:J1:=[.r 6 (some 2),.t 7]
def c124r0:JV:=[aC 4]
def c124r1:JV:=[ac 5 0,bf 6 5 0,ac 7 6,aD 7 8 0,aD 7 9 1,cA 7 10 8 9,aI 11 7 10,ac 4 11]
def c124:SC:=(.seq (aa c124r0) (.seq (aa c124r1) .ret))
def v124:JZ:=([],[])
def o124:J1:=[.t 4]
def c125r0:JV:=[aL 2]
def c125r1:JV:=[ac 3 0,cP 4 3]
def c125r2:JV:=[aL 2]
def c125r3:JV:=[cf 5,ac 6 0,aQ 7 5 6 151 2 16,ac 2 7]
def c125:SC:=(.seq (aa c125r0) (.seq (ab c125r1 4 c125r2) (.seq (aa c125r3) .ret)))
def v125:JZ:=([],[])
def o125:J1:=[.t 2]
def c126r0:JV:=[aU 4 0,aU 5 1,aU 6 2,aU 7 3,bY 8]
def c126r1:JV:=[aj 15 4,au 16 108 15,aM 17 16 0,ac 18 17,aW 18 19 6,aY 18 20 108 19,bl 18 21 20 0,aq 22 18 21]
def c126r2:JV:=[cO 8 1 0]
def c126r3:JV:=[aj 23 4,au 24 159 23]
def c126r4:JV:=[cY 10,am 10 0 2 26]
def c126r5:JV:=[aj 28 6,ah 10,ai 30 10 0,aj 31 7,bh 32 160 28 30 31,ac 27 32,ak 33 27 0,ak 34 27 1,ac 11 33,ac 12 34]
def c126r6:JV:=[ac 35 11,ah 10,ai 37 10 0,bn 38 35 37]
def c126r7:JV:=[aj 40 4,ah 10,ai 42 10 0,aj 43 5,bh 44 160 40 42 43,ac 39 44,ak 45 39 0,ak 46 39 1,ac 13 45,ac 14 46]
def c126r8:JV:=[ac 47 14,ac 48 12,bT 49 47 48,aH 8 1 49]
def c126r9:JV:=[cO 8 1 0]
def c126:SC:=(.seq (aa c126r0) (.seq (ab c126r1 22 c126r2) (.seq (.seq (aa c126r3) (.blk 0 (.rf (.t 24) [25,26] (aa c126r4) (.blk 1 (.seq (aa c126r5) (.seq (aa c126r6) (.cond (.t 38) (.seq (aa c126r7) (.seq (aa c126r8) .ret)) .skip))))))) (.seq (aa c126r9) .ret))))
def v126:JZ:=([10],[10,29,36,41])
def o126:J1:=[.c 8 none]
def c127r0:JV:=[aG 1 0,aC 2]
def c127r1:JV:=[ah 1,ai 8 1 0,bH 9 72 8 1099511627776,aN 10 9,ac 11 10,az 11 1,aA 11 13 1 1,cj 11 14 72 13 1099511627776,aT 11 15 14,aq 16 11 15,ac 17 16,az 17 1,aA 17 19 1 2,cj 17 20 72 19 1099511627776,aT 17 21 20,aq 22 17 21,ac 23 22,az 23 1,aA 23 25 1 0,az 23 1,aA 23 27 1 1,bK 23 28 25 27,aq 29 23 28,ac 30 29,az 30 1,aA 30 32 1 1,az 30 1,aA 30 34 1 0,dA 30 35 32 34,dC 30 36 35 16,aq 37 30 36]
def c127r2:JV:=[aC 2]
def c127r3:JV:=[ah 1,ai 39 1 1,ah 1,ai 41 1 0,bd 42 39 41,ac 3 42]
def c127r4:JV:=[ah 1,ai 44 1 2,ac 45 3,aX 46 44 45,bw 47 46 1099511627776,ac 48 47,az 48 1,aA 48 50 1 3,cj 48 51 72 50 1048576,aT 48 52 51,aq 53 48 52,ac 54 53,az 54 1,aA 54 56 1 5,cj 54 57 72 56 1048576,aT 54 58 57,aq 59 54 58,ac 60 59,az 60 1,aA 60 62 1 6,cj 60 63 72 62 1048576,aT 60 64 63,aq 65 60 64,ac 66 65,az 66 1,aA 66 68 1 6,av 66 69 3,di 66 70 68 69,aR 66 71 70 1048576,aq 72 66 71]
def c127r5:JV:=[aC 2]
def c127r6:JV:=[ah 1,ai 74 1 4,cQ 75 74,ac 76 75,aO 76 1,aP 76 78 1 5,⟨some (76,true),.bin 79 .neq (.t 78) (.i 0),none,79⟩,aD 76 80 79,az 80 1,aA 80 82 1 6,bl 80 83 82 0,bC 76 84 80 83,aD 76 85 84,az 85 1,aA 85 87 1 7,bC 76 88 85 87,aD 76 89 88,az 89 1,aA 89 91 1 8,bl 89 92 91 0,bC 76 93 89 92,aI 94 76 93,ac 95 94,az 95 1,aA 95 97 1 4,⟨some (95,false),.bin 98 .neq (.t 97) (.i (-1)),none,98⟩,av 95 99 98,aO 99 1,aP 99 101 1 4,⟨some (99,true),.call 102 72 [(.t 101),(.i 1099511627776)],none,102⟩,cB 99 103 102,bp 95 104 99 103,aq 105 95 104]
def c127r7:JV:=[aC 2]
def c127r8:JV:=[ah 1,ai 107 1 8,aM 108 107 0]
def c127r9:JV:=[ah 1,ai 110 1 8,aZ 111 110 1,ac 112 111,az 112 1,aA 112 114 1 8,cL 112 115 114 2,aq 116 112 115,ac 117 116,aD 117 118 3,bc 117 119 118 0,aI 120 117 119,ac 121 120,aO 121 1,aP 121 123 1 9,bS 121 124 123,bc 121 125 124 0,aI 126 121 125,ac 127 126,aO 127 1,aP 127 129 1 7,aI 130 127 129,ac 131 130,aO 131 1,aP 131 133 1 4,⟨some (131,true),.bin 134 .geq (.t 133) (.i 0),none,134⟩,aI 135 131 134,ac 2 135]
def c127r10:JV:=[ah 1,ai 137 1 0,bA 138 137 1,ac 4 138]
def c127r11:JV:=[ah 1,ai 140 1 9,aw 141 140,af 142 0]
def c127r12:JV:=[aJ 143 142 141]
def c127r13:JV:=[aE 144 140 142 5,aK 145 144 5,bV 6,am 6 0 5 145]
def c127r14:JV:=[ar 146 6 0 5,au 147 161 146,aM 148 147 0,ac 149 148,az 149 6,aA 149 151 6 0,av 149 152 4,⟨some (149,false),.bin 153 .leq (.t 151) (.t 152),none,153⟩,aq 154 149 153,ac 155 154,az 155 6,aA 155 157 6 0,az 155 1,aA 155 159 1 1,bK 155 160 157 159,aq 161 155 160]
def c127r15:JV:=[aC 2]
def c127r16:JV:=[ah 6,ai 163 6 0,ac 4 163]
def c127r17:JV:=[aF 164 142 1,ac 142 164]
def c127r18:JV:=[bM 2]
def c127:SC:=(.seq (aa c127r0) (.seq (ab c127r1 37 c127r2) (.seq (aa c127r3) (.seq (ab c127r4 72 c127r5) (.seq (ab c127r6 105 c127r7) (.seq (ab c127r8 108 c127r9) (.seq (aa c127r10) (.seq (.seq (aa c127r11) (.blk 0 (.loop (.seq (aa c127r12) (.seq (.cond (.t 143) .skip (.exit 0)) (.seq (.blk 1 (.seq (aa c127r13) (.seq (ab c127r14 161 c127r15) (aa c127r16)))) (aa c127r17))))))) (.seq (aa c127r18) .ret)))))))))
def v127:JZ:=([1,6],[1,6,7,12,18,24,26,31,33,38,40,43,49,55,61,67,73,77,81,86,90,96,100,106,109,113,122,128,132,136,139,150,156,158,162])
def o127:J1:=[.t 2]
theorem s127 : gu Tryz.prog Tryz.f127.ntmps v127.1 v127.2 ((Tryz.f127.body).getD .skip) = some c127 := by kernel_rfl
theorem q127 : fA Tryz.prog Tryz.f127.ntmps v127.1 v127.2 Tryz.f127.results.toList = some o127 := by kernel_rfl
def c128r0:JV:=[aG 1 0,aL 2]
def c128r1:JV:=[aL 3]
def c128r2:JV:=[ah 1,ai 12 1 0,ah 1,ai 14 1 1,ah 1,ai 16 1 0,bd 17 14 16,ah 1,ai 19 1 2,ah 1,ai 21 1 3,ah 1,ai 23 1 4,ah 1,ai 25 1 5,ah 1,ai 27 1 6,⟨none,.bls 28 3 7 1 [(.int .i64 0),(.int .i64 0),(.int .i64 0),(.int .i64 0),(.int .i64 0),(.int .i64 0),(.int .i64 0)] [(0,1,(.t 12)),(1,1,(.t 17)),(2,1,(.t 19)),(3,1,(.t 21)),(4,1,(.t 23)),(5,1,(.t 25)),(6,1,(.t 27))],none,0⟩,aw 29 28,af 30 0]
def c128r3:JV:=[aJ 31 30 29]
def c128r4:JV:=[aE 32 28 30 1,aj 33 32,ac 5 33]
def c128r5:JV:=[ac 34 3,ac 35 5,aB 36 162 34 35,ac 3 36]
def c128r6:JV:=[aF 37 30 1,ac 30 37]
def c128r7:JV:=[ah 1,ai 39 1 8,ac 6 39]
def c128r8:JV:=[ah 1,ai 41 1 7]
def c128r9:JV:=[ac 42 6,aF 43 42 4,ac 6 43]
def c128r10:List (Bool × SI):=[(true,ac 44 3),(true,ac 45 6),(true,bF 46 45),(true,ah 1),(true,ai 50 1 9),(true,aw 51 50),(false,bW 47 5 1 1 0 1 46),(false,aQ 48 44 47 5 1 1),(false,aB 52 162 48 51),(true,ac 3 52)]
def c128r11:JV:=[ah 1,ai 54 1 9,aw 55 54,af 56 0]
def c128r12:JV:=[aJ 57 56 55]
def c128r13:JV:=[ac 58 56,aE 59 54 56 5,aK 60 59 5,bV 8,ac 7 58,am 8 0 5 60]
def c128r14:JV:=[ac 61 7,aZ 62 61 0]
def c128r15:JV:=[ac 63 3,ah 8,ai 65 8 4,aB 66 162 63 65,ac 3 66]
def c128r16:List (Bool × SI):=[(true,ar 68 8 0 5),(true,ah 1),(true,ai 70 1 0),(true,ah 1),(true,ai 72 1 9),(true,cJ 73 72 0 5),(true,ao 74 73 4),(true,aj 75 74),(false,bh 76 163 68 70 75),(true,ac 67 76),(true,ak 77 67 0),(true,ak 78 67 1),(true,ac 9 77),(true,ac 10 78)]
def c128r17:JV:=[ac 79 3,ac 80 9,aQ 81 79 80 5 1 1,ac 3 81]
def c128r18:JV:=[aF 82 56 1,ac 56 82]
def c128r19:JV:=[ac 83 3,au 84 164 83,ac 3 84]
def c128r20:JV:=[ac 85 3,aw 86 85,bu 87 86,⟨none,.call 88 165 [(.v (.slice none 0 0)),(.t 87),(.i 4)],none,0⟩,ac 89 3,aQ 90 88 89 5 1 1,ac 2 90]
def c128:SC:=(.seq (aa c128r0) (.seq (aa c128r1) (.seq (.seq (aa c128r2) (.blk 0 (.loop (.seq (aa c128r3) (.seq (.cond (.t 31) .skip (.exit 0)) (.seq (.blk 1 (.seq (aa c128r4) (aa c128r5))) (aa c128r6))))))) (.seq (aa c128r7) (.seq (.seq (aa c128r8) (.cond (.t 41) (aa c128r9) .skip)) (.seq (.rgX c128r10) (.seq (.seq (aa c128r11) (.blk 2 (.loop (.seq (aa c128r12) (.seq (.cond (.t 57) .skip (.exit 2)) (.seq (.blk 3 (.seq (aa c128r13) (.seq (.seq (aa c128r14) (.cond (.t 62) (aa c128r15) .skip)) (.seq (.rgX c128r16) (aa c128r17))))) (aa c128r18))))))) (.seq (aa c128r19) (.seq (aa c128r20) .ret)))))))))
def v128:JZ:=([1,8],[1,8,11,13,15,18,20,22,24,26,38,40,49,53,64,69,71])
def o128:J1:=[.t 2]
def c129r0:JV:=[aU 2 0,aL 4]
def c129r1:JV:=[ac 6 1]
def c129r2:JV:=[bg 5,am 5 0 10 7]
def c129r3:JV:=[aj 8 2,ar 9 5 0 10,cX 10 43 1 10 0 10 9,aQ 11 8 10 43 10 96,aH 2 1 11]
def c129r4:JV:=[aj 12 2,ac 4 12]
def c129:SC:=(.seq (aa c129r0) (.seq (.seq (aa c129r1) (.blk 0 (.rf (.t 6) [7] (aa c129r2) (.blk 1 (aa c129r3))))) (.seq (aa c129r4) .ret)))
def v129:JZ:=([5],[5])
def o129:J1:=[.t 4]
def c130r0:JV:=[ao 10 1 2,aj 11 10,aw 12 11,af 13 0]
def c130r1:JV:=[aJ 14 13 12]
def c130r2:JV:=[aE 15 11 13 2,aK 16 15 2,bz 5,am 5 0 2 16]
def c130r3:JV:=[ar 18 5 0 2,au 19 131 18,ac 17 19,ak 20 17 0,ak 21 17 1,ac 6 20,ac 7 21]
def c130r4:JV:=[ac 22 6,aw 23 22,af 24 0]
def c130r5:JV:=[aJ 25 24 23]
def c130r6:JV:=[aE 26 22 24 10,aK 27 26 10,bg 9,am 9 0 10 27]
def c130r7:JV:=[ah 9,ai 29 9 1,aj 30 2,cC 31 29 30,ac 32 31,aD 32 33 0,a8 32 34 9 0 10,⟨some (32,true),.cav 35 (.t 33) [(.t 34)],none,35⟩,cB 32 36 35,aI 37 32 36]
def c130r8:JV:=[aF 38 24 1,ac 24 38]
def c130r9:JV:=[aF 39 13 1,ac 13 39]
def c130:SC:=(.seq (aa c130r0) (.blk 0 (.loop (.seq (aa c130r1) (.seq (.cond (.t 14) .skip (.exit 0)) (.seq (.blk 1 (.seq (aa c130r2) (.seq (aa c130r3) (.seq (aa c130r4) (.blk 2 (.loop (.seq (aa c130r5) (.seq (.cond (.t 25) .skip (.exit 2)) (.seq (.blk 3 (.seq (aa c130r6) (.seq (aa c130r7) (.cond (.t 37) .ret .skip)))) (aa c130r8)))))))))) (aa c130r9)))))))
def v130:JZ:=([5,9],[5,9,28])
def o130:J1:=[]
def c131r0:JV:=[aU 1 0,⟨none,.al 2 [(.slice none 0 0)],none,0⟩,bY 3]
def c131r1:JV:=[aK 6 1 2,au 7 151 6]
def c131r2:JV:=[bg 4,am 4 0 10 8]
def c131r3:JV:=[ac 5 9]
def c131r4:JV:=[aj 10 2,ar 11 4 0 10,cX 12 43 1 10 0 10 11,aQ 13 10 12 43 10 96,ac 14 5,aH 2 1 13,aH 3 1 14]
def c131r5:List WI:=[(true,false,aj 15 2),(true,false,aj 16 3),(false,false,aH 2 1 15),(false,true,aH 3 1 16)]
def c131:SC:=(.seq (aa c131r0) (.seq (.seq (aa c131r1) (.blk 0 (.rf (.t 7) [8,9] (.seq (aa c131r2) (aa c131r3)) (.blk 1 (aa c131r4))))) (.seq (.rgW c131r5) .ret)))
def v131:JZ:=([4],[4])
def o131:J1:=[.c 2 none,.c 3 none]
def c132r0:JV:=[aG 2 0,aG 3 1,aC 4]
def c132r1:JV:=[ah 2,ai 6 2 0,ah 3,ai 8 3 0,bn 9 6 8,ac 10 9,aO 10 2,aP 10 12 2 1,aO 10 3,aP 10 14 3 1,cG 10 15 166 12 14,aI 16 10 15,ac 4 16]
def c132:SC:=(.seq (aa c132r0) (.seq (aa c132r1) .ret))
def v132:JZ:=([2,3],[2,3,5,7,11,13])
def o132:J1:=[.t 4]
def c134r0:JV:=[af 4 0]
def c134r1:JV:=[ac 6 0,aj 7 1,aB 8 51 6 7,ac 5 8]
def c134r2:JV:=[ac 9 5,⟨none,.eqf 10 false [3] (.t 9) (.v (.pointer none)),none,0⟩]
def c134r3:JV:=[af 4 1]
def c134r4:JV:=[aj 11 2,ac 12 0,ac 13 5,ck 14 11 12 13,ac 4 14]
def c134:SC:=(.seq (aa c134r0) (.seq (aa c134r1) (.seq (ab c134r2 10 c134r3) (.seq (aa c134r4) .ret))))
def v134:JZ:=([],[])
def o134:J1:=[.t 4]
def c135r0:JV:=[aG 3 0,aG 4 1,ba 6,aC 7]
def c135r1:JV:=[ar 14 3 0 3,ac 15 2,aB 16 167 14 15,ac 13 16,ak 17 13 0,ak 18 13 1,am 3 0 3 17,ac 8 18]
def c135r2:List (Bool × SI):=[(true,ar 19 3 0 3),(true,ar 21 4 0 3),(false,au 20 27 19),(false,au 22 27 21),(true,ac 9 20),(true,ac 10 22)]
def c135r3:JV:=[ac 23 8,aM 24 23 0,ac 25 24,av 25 26 9,aV 25 27 26,av 25 28 10,aV 25 29 28,bK 25 30 27 29,aq 31 25 30,ac 32 31,av 32 33 9,av 32 34 10,av 32 35 9,aV 32 36 35,⟨some (32,false),.sl 37 (.t 34) none (some (.t 36)) none 10,none,37⟩,⟨some (32,false),.call 38 168 [(.t 33),(.t 37),(.v (.func (.func 169) #[] #[]))],none,38⟩,aT 32 39 38,aq 40 32 39]
def c135r4:JV:=[ar 41 3 0 3,am 6 0 3 41,aC 7]
def c135r5:JV:=[ac 42 10,ac 43 9,aw 44 43,dj 45 42 44 10,aw 46 45,af 47 0]
def c135r6:JV:=[aJ 48 47 46]
def c135r7:JV:=[aE 49 45 47 10,aK 50 49 10,bg 12,am 12 0 10 50]
def c135r8:JV:=[ar 52 3 0 3,ar 53 12 0 10,aB 54 69 52 53,ac 51 54,ak 55 51 0,ak 56 51 1,am 3 0 3 55,ac 8 56]
def c135r9:JV:=[ac 57 8,aM 58 57 0]
def c135r10:JV:=[ar 59 3 0 3,am 6 0 3 59,aC 7]
def c135r11:JV:=[aF 60 47 1,ac 47 60]
def c135r12:JV:=[ar 61 3 0 3,am 6 0 3 61,bM 7]
def c135:SC:=(.seq (aa c135r0) (.seq (aa c135r1) (.seq (.rgX c135r2) (.seq (ab c135r3 40 c135r4) (.seq (.seq (aa c135r5) (.blk 0 (.loop (.seq (aa c135r6) (.seq (.cond (.t 48) .skip (.exit 0)) (.seq (.blk 1 (.seq (aa c135r7) (.seq (aa c135r8) (ab c135r9 58 c135r10)))) (aa c135r11))))))) (.seq (aa c135r12) .ret))))))
def v135:JZ:=([3,4,6,12],[3,4,6,12])
def o135:J1:=[.r 6 (some 3),.t 7]
def c136r0:JV:=[aC 4]
def c136r1:JV:=[ac 5 0,au 6 170 5,ac 7 6,aD 7 8 1,a0 7 9 170 8,cB 7 10 9,aI 11 7 10,ac 12 11,av 12 13 0,av 12 14 1,cS 12 15 13 14,aq 16 12 15,ac 4 16]
def c136:SC:=(.seq (aa c136r0) (.seq (aa c136r1) .ret))
def v136:JZ:=([],[])
def o136:J1:=[.t 4]
def c137r0:JV:=[aC 2]
def c137r1:JV:=[ac 3 0,ac 4 0,bP 5 3 4,ac 2 5]
def c137:SC:=(.seq (aa c137r0) (.seq (aa c137r1) .ret))
def v137:JZ:=([],[])
def o137:J1:=[.t 2]
def c140r0:JV:=[aL 4]
def c140r1:JV:=[ac 8 0,ac 9 1,aB 10 109 8 9,ac 5 10]
def c140r2:JV:=[ac 11 5,cQ 12 11]
def c140r3:JV:=[ac 13 0,ac 4 13]
def c140r4:JV:=[ac 14 5,aF 15 14 1,ac 6 15]
def c140r5:JV:=[ac 16 6,ac 17 0,aw 18 17,aJ 19 16 18]
def c140r6:JV:=[ac 22 0,ac 23 6,aE 24 22 23 1,aj 25 24,ac 7 25]
def c140r7:JV:=[ac 26 1,ac 27 7,ci 28 26 27,aN 29 28]
def c140r8:JV:=[ac 30 0,ac 31 5,ac 32 7,aE 33 30 31 1,aH 33 1 32]
def c140r9:JV:=[ac 34 5,aF 35 34 1,ac 5 35]
def c140r10:JV:=[ac 20 6,aF 21 20 1,ac 6 21]
def c140r11:JV:=[ac 36 0,ac 37 5,dj 38 36 37 1,⟨none,.clr 99999 (.t 38) ([(.int .i64 0)]).toArray,none,0⟩]
def c140r12:JV:=[ac 39 0,ac 40 5,bB 41 39 40 1,ac 4 41]
def c140:SC:=(.seq (aa c140r0) (.seq (aa c140r1) (.seq (ab c140r2 12 c140r3) (.seq (.seq (aa c140r4) (.blk 0 (.loop (.seq (.seq (aa c140r5) (.cond (.t 19) .skip (.exit 0))) (.seq (.blk 1 (.seq (aa c140r6) (.seq (aa c140r7) (.cond (.t 29) (.seq (aa c140r8) (aa c140r9)) .skip)))) (aa c140r10)))))) (.seq (aa c140r11) (.seq (aa c140r12) .ret))))))
def v140:JZ:=([],[])
def o140:J1:=[.t 4]
def c141r0:JV:=[aC 3]
def c141r1:JV:=[ac 4 0,aj 5 1,bn 6 4 5,ac 3 6]
def c141:SC:=(.seq (aa c141r0) (.seq (aa c141r1) .ret))
def v141:JZ:=([],[])
def o141:J1:=[.t 3]
def c142r0:JV:=[aC 2]
def c142r1:JV:=[ac 3 0,bf 4 3 0,ac 5 4,aD 5 6 0,bE 5 7 6 1099511627776,aI 8 5 7,ac 2 8]
def c142:SC:=(.seq (aa c142r0) (.seq (aa c142r1) .ret))
def v142:JZ:=([],[])
def o142:J1:=[.t 2]
def c143r0:JV:=[aG 1 0,bz 2,af 3 0]
def c143r1:JV:=[ar 7 1 0 2,au 8 131 7,ac 6 8,ak 9 6 0,ak 10 6 1,ac 4 9,ac 5 10]
def c143r2:List WI:=[(true,false,ar 11 1 0 2),(true,false,ac 12 5),(true,false,ah 1),(true,false,ai 15 1 1),(true,false,aw 16 15),(true,false,ac 17 5),(true,false,bd 18 16 17),(false,false,aB 13 172 11 12),(false,false,am 2 0 2 13),(true,false,ac 3 18)]
def c143:SC:=(.seq (aa c143r0) (.seq (aa c143r1) (.seq (.rgW c143r2) .ret)))
def v143:JZ:=([1,2],[1,2,14])
def o143:J1:=[.r 2 (some 2),.t 3]
def c144r0:JV:=[af 4 0]
def c144r1:JV:=[ac 8 0,af 5 0,ac 6 8]
def c144r2:JV:=[ac 9 5,ac 10 6,aJ 11 9 10]
def c144r3:JV:=[ac 12 5,ac 13 6,aX 14 12 13,bu 15 14,bU 16 15 1,bR 17 16,ac 7 17]
def c144r4:JV:=[ac 18 1,ac 19 7,ci 20 18 19,aN 21 20]
def c144r5:JV:=[ac 22 7,aF 23 22 1,ac 5 23]
def c144r6:JV:=[ac 24 7,ac 6 24]
def c144r7:JV:=[ac 25 5,ac 4 25]
def c144:SC:=(.seq (aa c144r0) (.seq (aa c144r1) (.seq (.blk 0 (.loop (.seq (.seq (aa c144r2) (.cond (.t 11) .skip (.exit 0))) (.blk 1 (.seq (aa c144r3) (.seq (aa c144r4) (.cond (.t 21) (aa c144r5) (aa c144r6)))))))) (.seq (aa c144r7) .ret))))
def v144:JZ:=([],[])
def o144:J1:=[.t 4]
def c145r0:JV:=[aC 4]
def c145r1:JV:=[aj 5 1,ac 6 0,aE 7 5 6 2,ao 8 7 1,aj 9 8,aj 10 2,cC 11 9 10,ac 4 11]
def c145:SC:=(.seq (aa c145r0) (.seq (.reg true c145r1) .ret))
def v145:JZ:=([],[])
def o145:J1:=[.t 4]
def c147r0:JV:=[aG 2 0,aG 3 1,aC 4]
def c147r1:List (Bool × SI):=[(true,ah 3),(true,ai 6 3 0),(true,ah 2),(true,ai 8 2 0),(true,bN 9 6 8),(true,ac 10 9),(true,aO 10 3),(true,aP 10 12 3 0),(true,a8 10 13 2 0 2),(false,a0 10 14 174 13),(true,cr 10 15 12 14),(true,aI 16 10 15),(true,ac 4 16)]
def c147:SC:=(.seq (aa c147r0) (.seq (.rgX c147r1) .ret))
def v147:JZ:=([2,3],[2,3,5,7,11])
def o147:J1:=[.t 4]
def c148r0:JV:=[aG 1 0,bz 2,af 3 0]
def c148r1:JV:=[ar 7 1 0 2,au 8 175 7,ac 6 8,ak 9 6 0,ak 10 6 1,ac 4 9,ac 5 10]
def c148r2:List WI:=[(true,false,ah 1),(true,false,ai 12 1 0),(true,false,ah 1),(true,false,ai 14 1 1),(true,false,ac 15 5),(true,false,bB 16 14 15 1),(true,false,ah 1),(true,false,ai 20 1 1),(true,false,aw 21 20),(true,false,ac 22 5),(true,false,bd 23 21 22),(false,false,au 17 176 16),(true,false,dz 18 0 1 12 1 1 17),(false,false,am 2 0 2 18),(true,false,ac 3 23)]
def c148:SC:=(.seq (aa c148r0) (.seq (aa c148r1) (.seq (.rgW c148r2) .ret)))
def v148:JZ:=([1,2],[1,2,11,13,19])
def o148:J1:=[.r 2 (some 2),.t 3]
def c149r0:JV:=[aG 1 0,aC 2]
def c149r1:JV:=[ar 6 1 0 2,au 7 175 6,ac 5 7,ak 8 5 0,ak 9 5 1,ac 3 8,ac 4 9]
def c149r2:JV:=[ah 1,ai 11 1 0,bf 12 11 0,ac 13 12,aO 13 1,aP 13 15 1 0,bE 13 16 15 1099511627776,aI 17 13 16,ac 18 17,aD 18 19 4,aO 18 1,aP 18 21 1 1,bS 18 22 21,bG 18 23 19 22,aI 24 18 23,ac 2 24]
def c149:SC:=(.seq (aa c149r0) (.seq (aa c149r1) (.seq (aa c149r2) .ret)))
def v149:JZ:=([1],[1,10,14,20])
def o149:J1:=[.t 2]
def c150r0:JV:=[aG 1 0,af 2 0]
def c150r1:JV:=[ah 1,ai 6 1 1,ac 3 6]
def c150r2:JV:=[af 4 0]
def c150r3:JV:=[ac 7 4,ah 1,ai 9 1 2,aw 10 9,aJ 11 7 10]
def c150r4:JV:=[ac 14 3,ah 1,ai 16 1 2,ac 17 4,aE 18 16 17 2,aK 19 18 2,au 20 174 19,bZ 21 14 20,ac 3 21]
def c150r5:JV:=[ac 12 4,aF 13 12 1,ac 4 13]
def c150r6:JV:=[ac 22 3,ac 2 22]
def c150:SC:=(.seq (aa c150r0) (.seq (aa c150r1) (.seq (.seq (aa c150r2) (.blk 0 (.loop (.seq (.seq (aa c150r3) (.cond (.t 11) .skip (.exit 0))) (.seq (.blk 1 (aa c150r4)) (aa c150r5)))))) (.seq (aa c150r6) .ret))))
def v150:JZ:=([1],[1,5,8,15])
def o150:J1:=[.t 2]
def c151r0:JV:=[aU 1 0,cR 2]
def c151r1:JV:=[cd 3 177 1,ac 2 3]
def c151:SC:=(.seq (aa c151r0) (.seq (aa c151r1) .ret))
def v151:JZ:=([],[])
def o151:J1:=[.t 2]
def c152r0:JV:=[af 2 0]
def c152r1:JV:=[ac 5 0,aw 6 5,aS 7 6 1]
def c152r2:JV:=[ac 9 0,cJ 10 9 0 1,aj 11 10,ac 3 11]
def c152r3:JV:=[af 4 1]
def c152r4:JV:=[ac 12 4,ac 13 0,aw 14 13,aJ 15 12 14]
def c152r5:JV:=[ac 18 3,ac 19 0,ac 20 4,aE 21 19 20 1,aj 22 21,bT 23 18 22,ac 3 23]
def c152r6:JV:=[ac 16 4,aF 17 16 1,ac 4 17]
def c152r7:JV:=[ac 24 3,ac 2 24]
def c152:SC:=(.seq (aa c152r0) (.seq (.seq (aa c152r1) (.cond (.t 7) .dead .skip)) (.seq (aa c152r2) (.seq (.seq (aa c152r3) (.blk 0 (.loop (.seq (.seq (aa c152r4) (.cond (.t 15) .skip (.exit 0))) (.seq (.blk 1 (aa c152r5)) (aa c152r6)))))) (.seq (aa c152r7) .ret)))))
def v152:JZ:=([],[])
def o152:J1:=[.t 2]
theorem s152 : gu Tryz.prog Tryz.f152.ntmps v152.1 v152.2 ((Tryz.f152.body).getD .skip) = some c152 := by kernel_rfl
theorem q152 : fA Tryz.prog Tryz.f152.ntmps v152.1 v152.2 Tryz.f152.results.toList = some o152 := by kernel_rfl
def c153r0:JV:=[af 2 0]
def c153r1:JV:=[ac 5 0,aw 6 5,aS 7 6 1]
def c153r2:JV:=[ac 9 0,cJ 10 9 0 1,aj 11 10,ac 3 11]
def c153r3:JV:=[af 4 1]
def c153r4:JV:=[ac 12 4,ac 13 0,aw 14 13,aJ 15 12 14]
def c153r5:JV:=[ac 18 3,ac 19 0,ac 20 4,aE 21 19 20 1,aj 22 21,bZ 23 18 22,ac 3 23]
def c153r6:JV:=[ac 16 4,aF 17 16 1,ac 4 17]
def c153r7:JV:=[ac 24 3,ac 2 24]
def c153:SC:=(.seq (aa c153r0) (.seq (.seq (aa c153r1) (.cond (.t 7) .dead .skip)) (.seq (aa c153r2) (.seq (.seq (aa c153r3) (.blk 0 (.loop (.seq (.seq (aa c153r4) (.cond (.t 15) .skip (.exit 0))) (.seq (.blk 1 (aa c153r5)) (aa c153r6)))))) (.seq (aa c153r7) .ret)))))
def v153:JZ:=([],[])
def o153:J1:=[.t 2]
theorem s153 : gu Tryz.prog Tryz.f153.ntmps v153.1 v153.2 ((Tryz.f153.body).getD .skip) = some c153 := by kernel_rfl
theorem q153 : fA Tryz.prog Tryz.f153.ntmps v153.1 v153.2 Tryz.f153.results.toList = some o153 := by kernel_rfl
def c154r0:JV:=[aG 1 0,aL 2,af 3 0]
def c154r1:JV:=[ar 5 1 0 10,au 6 179 5,aN 7 6]
def c154r2:JV:=[aL 2,af 3 1]
def c154r3:JV:=[ar 8 1 0 10,au 9 180 8,ac 4 9]
def c154r4:JV:=[ac 10 4,aw 11 10,bw 12 11 2048]
def c154r5:JV:=[aL 2,af 3 2]
def c154r6:JV:=[ac 13 4,ac 2 13,af 3 0]
def c154:SC:=(.seq (aa c154r0) (.seq (ab c154r1 7 c154r2) (.seq (aa c154r3) (.seq (ab c154r4 12 c154r5) (.seq (aa c154r6) .ret)))))
def v154:JZ:=([1],[1])
def o154:J1:=[.t 2,.t 3]
def c155r0:JV:=[aC 2]
def c155r1:JV:=[ac 3 0,bf 4 3 0,ac 5 4,aD 5 6 0,bE 5 7 6 1099511627776,aI 8 5 7,ac 2 8]
def c155:SC:=(.seq (aa c155r0) (.seq (aa c155r1) .ret))
def v155:JZ:=([],[])
def o155:J1:=[.t 2]
def c156r0:JV:=[aC 2]
def c156r1:JV:=[ac 3 0,bf 4 3 1,ac 5 4,aD 5 6 0,bE 5 7 6 4096,aI 8 5 7,ac 2 8]
def c156:SC:=(.seq (aa c156r0) (.seq (aa c156r1) .ret))
def v156:JZ:=([],[])
def o156:J1:=[.t 2]
def c157r0:JV:=[aL 2]
def c157r1:JV:=[af 3 0]
def c157r2:JV:=[ac 9 0,aw 10 9,af 11 0]
def c157r3:JV:=[aJ 12 11 10]
def c157r4:JV:=[aE 13 9 11 1,aj 14 13,ac 5 14]
def c157r5:JV:=[ac 15 3,ac 16 5,aw 17 16,aX 18 15 17,ac 3 18]
def c157r6:JV:=[ac 19 3,aS 20 19 0]
def c157r7:JV:=[aF 22 11 1,ac 11 22]
def c157r8:JV:=[ac 23 3,da 24 181 23,ac 6 24]
def c157r9:JV:=[ac 25 0,aw 26 25,af 27 0]
def c157r10:JV:=[aJ 28 27 26]
def c157r11:JV:=[aE 29 25 27 1,aj 30 29,ac 8 30]
def c157r12:JV:=[ac 31 6,ac 32 8,aQ 33 31 32 5 1 1,ac 6 33]
def c157r13:JV:=[aF 34 27 1,ac 27 34]
def c157r14:JV:=[ac 35 6,ac 2 35]
def c157:SC:=(.seq (aa c157r0) (.seq (aa c157r1) (.seq (.seq (aa c157r2) (.blk 0 (.loop (.seq (aa c157r3) (.seq (.cond (.t 12) .skip (.exit 0)) (.seq (.blk 1 (.seq (aa c157r4) (.seq (aa c157r5) (.seq (aa c157r6) (.cond (.t 20) .dead .skip))))) (aa c157r7))))))) (.seq (aa c157r8) (.seq (.seq (aa c157r9) (.blk 2 (.loop (.seq (aa c157r10) (.seq (.cond (.t 28) .skip (.exit 2)) (.seq (.blk 3 (.seq (aa c157r11) (aa c157r12))) (aa c157r13))))))) (.seq (aa c157r14) .ret))))))
def v157:JZ:=([],[])
def o157:J1:=[.t 2]
def c158r0:JV:=[bz 2,af 3 0]
def c158r1:JV:=[ac 4 0,au 5 155 4,aN 6 5]
def c158r2:JV:=[cD 7,am 2 0 2 7,af 3 1]
def c158r3:JV:=[ac 8 0,cW 9 0 1 8,am 2 0 2 9,af 3 0]
def c158:SC:=(.seq (aa c158r0) (.seq (ab c158r1 6 c158r2) (.seq (aa c158r3) .ret)))
def v158:JZ:=([2],[2])
def o158:J1:=[.r 2 (some 2),.t 3]
def c159r0:JV:=[aU 1 0,cR 2]
def c159r1:JV:=[cd 3 182 1,ac 2 3]
def c159:SC:=(.seq (aa c159r0) (.seq (aa c159r1) .ret))
def v159:JZ:=([],[])
def o159:J1:=[.t 2]
def c160r0:JV:=[af 6 0,af 7 0]
def c160r1:JV:=[af 8 0]
def c160r2:JV:=[ac 9 0,au 10 108 9,aZ 11 10 0]
def c160r3:JV:=[ac 12 0,ac 13 1,aB 14 183 12 13,ac 8 14]
def c160r4:JV:=[ac 15 8,aZ 16 15 0]
def c160r5:JV:=[cz 6,af 7 0]
def c160r6:JV:=[ac 17 8,ac 18 0,aw 19 18,aJ 20 17 19]
def c160r7:JV:=[ac 21 0,ac 22 8,aE 23 21 22 2,ao 24 23 1,aj 25 24,ac 2 25]
def c160r8:JV:=[ac 26 0,ac 27 8,bA 28 27 1,aE 29 26 28 2,ao 30 29 0,aj 31 30,ac 32 2,ac 6 31,ac 7 32]
def c160:SC:=(.seq (aa c160r0) (.seq (aa c160r1) (.seq (.seq (aa c160r2) (.cond (.t 11) (aa c160r3) .skip)) (.seq (ab c160r4 16 c160r5) (.seq (.seq (aa c160r6) (.cond (.t 20) (aa c160r7) .skip)) (.seq (aa c160r8) .ret))))))
def v160:JZ:=([],[])
def o160:J1:=[.t 6,.t 7]
def c161r0:JV:=[aG 1 0,af 2 0]
def c161r1:JV:=[ah 1,ai 4 1 0,au 5 184 4,aN 6 5,ac 7 6,az 7 1,aA 7 9 1 4,aY 7 10 184 9,aT 7 11 10,aq 12 7 11,ac 13 12,az 13 1,aA 13 15 1 1,⟨some (13,false),.len 16 true (.t 15),none,16⟩,aR 13 17 16 64,aq 18 13 17,ac 19 18,az 19 1,aA 19 21 1 2,⟨some (19,false),.len 22 true (.t 21),none,22⟩,aR 19 23 22 64,aq 24 19 23,ac 25 24,az 25 1,aA 25 27 1 3,av 25 28 27,aO 28 1,aP 28 30 1 1,⟨some (28,true),.bin 31 .eql (.t 30) (.v (.string ⟨#[]⟩)),none,31⟩,aD 28 32 31,az 32 1,aA 32 34 1 2,⟨some (32,false),.bin 35 .neq (.t 34) (.v (.string ⟨#[]⟩)),none,35⟩,bC 28 36 32 35,bp 25 37 28 36,aq 38 25 37]
def c161r2:JV:=[af 2 1]
def c161r3:JV:=[af 2 0]
def c161:SC:=(.seq (aa c161r0) (.seq (ab c161r1 38 c161r2) (.seq (aa c161r3) .ret)))
def v161:JZ:=([1],[1,3,8,14,20,26,29,33])
def o161:J1:=[.t 2]
theorem s161 : gu Tryz.prog Tryz.f161.ntmps v161.1 v161.2 ((Tryz.f161.body).getD .skip) = some c161 := by kernel_rfl
theorem q161 : fA Tryz.prog Tryz.f161.ntmps v161.1 v161.2 Tryz.f161.results.toList = some o161 := by kernel_rfl
def c162r0:JV:=[aL 4]
def c162r1:JV:=[ac 7 1,bu 8 7,⟨none,.bin 9 .mul (.v (.int .u64 2)) (.t 8),none,0⟩,ac 5 9]
def c162r2:JV:=[ac 10 1,aS 11 10 0]
def c162r3:JV:=[ac 12 1,aF 13 12 1,dk 14 13,bu 15 14,⟨none,.bin 16 .mul (.v (.int .u64 2)) (.t 15),none,0⟩,⟨none,.bin 17 .add (.t 16) (.v (.int .u64 1)),none,0⟩,ac 5 17]
def c162r4:JV:=[ac 18 0,au 19 176 18,ac 6 19]
def c162r5:JV:=[ac 20 5,dD 21 20 128]
def c162r6:JV:=[ac 22 6,ac 23 5,dl 24 23 128,⟨none,.bin 25 .add (.v (.int .u64 128)) (.t 24),none,0⟩,bF 26 25,bW 27 5 1 1 0 1 26,aQ 28 22 27 5 1 1,ac 6 28]
def c162r7:JV:=[ac 29 5,dE 30 29 128,ac 5 30]
def c162r8:JV:=[ac 31 6,ac 32 5,bF 33 32,bW 34 5 1 1 0 1 33,aQ 35 31 34 5 1 1,ac 4 35]
def c162:SC:=(.seq (aa c162r0) (.seq (aa c162r1) (.seq (.seq (aa c162r2) (.cond (.t 11) (aa c162r3) .skip)) (.seq (aa c162r4) (.seq (.blk 0 (.loop (.seq (.seq (aa c162r5) (.cond (.t 21) .skip (.exit 0))) (.blk 1 (.seq (aa c162r6) (aa c162r7)))))) (.seq (aa c162r8) .ret))))))
def v162:JZ:=([],[])
def o162:J1:=[.t 4]
theorem s162 : gu Tryz.prog Tryz.f162.ntmps v162.1 v162.2 ((Tryz.f162.body).getD .skip) = some c162 := by kernel_rfl
theorem q162 : fA Tryz.prog Tryz.f162.ntmps v162.1 v162.2 Tryz.f162.results.toList = some o162 := by kernel_rfl
def c163r0:JV:=[aG 3 0,aL 6,af 7 0]
def c163r1:JV:=[ar 10 3 0 5,au 11 161 10,ac 8 11]
def c163r2:JV:=[ac 12 8,aM 13 12 0]
def c163r3:JV:=[ac 14 8,aL 6,ac 7 14]
def c163r4:JV:=[ac 15 1,au 16 184 15,aN 17 16,ac 18 17,av 18 19 2,aY 18 20 184 19,aT 18 21 20,aq 22 18 21]
def c163r5:JV:=[aL 6,af 7 1]
def c163r6:JV:=[ah 3,ai 24 3 0,ac 25 1,bd 26 24 25,da 27 162 26,ac 9 27]
def c163r7:JV:=[ac 28 9,ah 3,ai 30 3 4,ac 31 2,bd 32 30 31,aB 33 162 28 32,ac 9 33]
def c163r8:JV:=[ah 3,ai 35 3 3]
def c163r9:JV:=[ac 36 9,⟨none,.bls 37 5 1 1 [(.int .u8 0)] [(0,1,(.v (.int .u8 1)))],none,0⟩,aQ 38 36 37 5 1 1,ac 9 38]
def c163r10:JV:=[ac 39 9,⟨none,.bls 40 5 1 1 [(.int .u8 0)] [(0,1,(.v (.int .u8 0)))],none,0⟩,aQ 41 39 40 5 1 1,ac 9 41]
def c163r11:JV:=[ac 42 9,ah 3,ai 44 3 1,aB 45 185 42 44,ac 9 45]
def c163r12:JV:=[ac 46 9,ah 3,ai 48 3 2,aB 49 185 46 48,ac 6 49,af 7 0]
def c163:SC:=(.seq (aa c163r0) (.seq (aa c163r1) (.seq (ab c163r2 13 c163r3) (.seq (ab c163r4 22 c163r5) (.seq (aa c163r6) (.seq (aa c163r7) (.seq (.seq (aa c163r8) (.cond (.t 35) (aa c163r9) (aa c163r10))) (.seq (aa c163r11) (.seq (aa c163r12) .ret)))))))))
def v163:JZ:=([3],[3,23,29,34,43,47])
def o163:J1:=[.t 6,.t 7]
theorem s163 : gu Tryz.prog Tryz.f163.ntmps v163.1 v163.2 ((Tryz.f163.body).getD .skip) = some c163 := by kernel_rfl
theorem q163 : fA Tryz.prog Tryz.f163.ntmps v163.1 v163.2 Tryz.f163.results.toList = some o163 := by kernel_rfl
def c164r0:JV:=[aL 2]
def c164r1:JV:=[cf 3,ac 4 0,aQ 5 3 4 5 1 1,ac 6 0,au 7 187 6,au 8 186 7,aQ 9 5 8 5 1 1,ac 2 9]
def c164:SC:=(.seq (aa c164r0) (.seq (aa c164r1) .ret))
def v164:JZ:=([],[])
def o164:J1:=[.t 2]
theorem s164 : gu Tryz.prog Tryz.f164.ntmps v164.1 v164.2 ((Tryz.f164.body).getD .skip) = some c164 := by kernel_rfl
theorem q164 : fA Tryz.prog Tryz.f164.ntmps v164.1 v164.2 Tryz.f164.results.toList = some o164 := by kernel_rfl
def c165r0:JV:=[aL 6]
def c165r1:JV:=[ac 10 0,au 11 176 10,ac 7 11]
def c165r2:JV:=[ac 12 2,aS 13 12 1,ac 14 13,av 14 15 2,aR 14 16 15 8,aq 17 14 16]
def c165r3:JV:=[ac 18 7,ac 6 18]
def c165r4:JV:=[ac 19 2,af 20 0]
def c165r5:JV:=[aJ 21 20 19]
def c165r6:JV:=[ac 22 20,ac 8 22]
def c165r7:JV:=[ac 23 1,ac 9 23]
def c165r8:JV:=[ac 24 2,bA 25 24 1,ac 26 8,bd 27 25 26,af 28 0]
def c165r9:JV:=[aJ 29 28 27]
def c165r10:JV:=[ac 30 9,dE 31 30 256,ac 9 31]
def c165r11:JV:=[aF 32 28 1,ac 28 32]
def c165r12:JV:=[ac 33 7,ac 34 9,dl 35 34 256,bF 36 35,bW 37 5 1 1 0 1 36,aQ 38 33 37 5 1 1,ac 7 38]
def c165r13:JV:=[aF 39 20 1,ac 20 39]
def c165r14:JV:=[ac 40 7,ac 6 40]
def c165:SC:=(.seq (aa c165r0) (.seq (aa c165r1) (.seq (ab c165r2 17 c165r3) (.seq (.seq (aa c165r4) (.blk 0 (.loop (.seq (aa c165r5) (.seq (.cond (.t 21) .skip (.exit 0)) (.seq (.blk 1 (.seq (aa c165r6) (.seq (aa c165r7) (.seq (.seq (aa c165r8) (.blk 2 (.loop (.seq (aa c165r9) (.seq (.cond (.t 29) .skip (.exit 2)) (.seq (.blk 3 (aa c165r10)) (aa c165r11))))))) (aa c165r12))))) (aa c165r13))))))) (.seq (aa c165r14) .ret)))))
def v165:JZ:=([],[])
def o165:J1:=[.t 6]
theorem s165 : gu Tryz.prog Tryz.f165.ntmps v165.1 v165.2 ((Tryz.f165.body).getD .skip) = some c165 := by kernel_rfl
theorem q165 : fA Tryz.prog Tryz.f165.ntmps v165.1 v165.2 Tryz.f165.results.toList = some o165 := by kernel_rfl
def c166r0:JV:=[aC 4]
def c166r1:JV:=[ac 5 0,dm 6 5,ac 7 1,dm 8 7,bn 9 6 8,ac 4 9]
def c166:SC:=(.seq (aa c166r0) (.seq (aa c166r1) .ret))
def v166:JZ:=([],[])
def o166:J1:=[.t 4]
def c167r0:JV:=[aU 2 0,aU 3 1,ba 4,af 5 0]
def c167r1:JV:=[aK 6 2 3,aj 7 3,cw 8 189 2 3,bh 9 188 6 7 8,ak 10 9 0,ak 11 9 1,am 4 0 3 10,ac 5 11]
def c167:SC:=(.seq (aa c167r0) (.seq (aa c167r1) .ret))
def v167:JZ:=([4],[4])
def o167:J1:=[.r 4 (some 3),.t 5]
def c168r0:JV:=[aC 6]
def c168r1:JV:=[ac 10 0,aw 11 10,ac 12 1,aw 13 12,bP 14 11 13]
def c168r2:JV:=[aC 6]
def c168r3:JV:=[ac 15 0,aw 16 15,af 17 0]
def c168r4:JV:=[aJ 18 17 16]
def c168r5:JV:=[ac 19 17,aE 20 15 17 10,aK 21 20 10,bg 8,ac 7 19,am 8 0 10 21]
def c168r6:JV:=[ac 22 1,ac 23 7,aE 24 22 23 10,aK 25 24 10,bg 9,am 9 0 10 25]
def c168r7:JV:=[ac 26 2,ar 27 8 0 10,ar 28 9 0 10,ck 29 26 27 28,aN 30 29]
def c168r8:JV:=[aC 6]
def c168r9:JV:=[aF 31 17 1,ac 17 31]
def c168r10:JV:=[bM 6]
def c168:SC:=(.seq (aa c168r0) (.seq (ab c168r1 14 c168r2) (.seq (.seq (aa c168r3) (.blk 0 (.loop (.seq (aa c168r4) (.seq (.cond (.t 18) .skip (.exit 0)) (.seq (.blk 1 (.seq (aa c168r5) (.seq (aa c168r6) (ab c168r7 30 c168r8)))) (aa c168r9))))))) (.seq (aa c168r10) .ret))))
def v168:JZ:=([8,9],[8,9])
def o168:J1:=[.t 6]
def c169r0:JV:=[aG 2 0,aG 3 1,aC 4]
def c169r1:JV:=[ah 2,ai 7 2 9,ah 3,ai 9 3 9,aB 10 191 7 9,aN 11 10]
def c169r2:JV:=[aC 4]
def c169r3:JV:=[⟨none,.mv 5 (.v (.func (.func 192) #[] #[])),none,0⟩]
def c169r4:List (Bool × SI):=[(true,ac 12 5),(true,ar 13 2 0 10),(true,ac 15 5),(true,ar 16 3 0 10),(false,ci 14 12 13),(false,ci 17 15 16),(true,⟨none,.eqf 18 false [0,0,0,0,0,0,0,0,0] (.t 14) (.t 17),none,0⟩),(true,ac 4 18)]
def c169:SC:=(.seq (aa c169r0) (.seq (ab c169r1 11 c169r2) (.seq (aa c169r3) (.seq (.rgX c169r4) .ret))))
def v169:JZ:=([2,3],[2,3,6,8])
def o169:J1:=[.t 4]
def c170r0:JV:=[aC 2]
def c170r1:JV:=[ac 3 0,ac 4 0,bP 5 3 4,ac 2 5]
def c170:SC:=(.seq (aa c170r0) (.seq (aa c170r1) .ret))
def v170:JZ:=([],[])
def o170:J1:=[.t 2]
def c172r0:JV:=[aG 2 0,bz 4]
def c172r1:List (Bool × SI):=[(true,ah 2),(true,ai 6 2 0),(true,ah 2),(true,ai 8 2 1),(true,ac 9 1),(true,bB 10 8 9 1),(false,au 11 194 10),(true,dz 12 0 1 6 1 1 11)]
def c172r2:JV:=[am 4 0 2 12]
def c172:SC:=(.seq (aa c172r0) (.seq (.rgY c172r1 c172r2) .ret))
def v172:JZ:=([2,4],[2,4,5,7])
def o172:J1:=[.r 4 (some 2)]
def c174r0:JV:=[aG 1 0,af 2 0]
def c174r1:JV:=[ar 6 1 0 2,au 7 175 6,ac 5 7,ak 8 5 0,ak 9 5 1,ac 3 8,ac 4 9]
def c174r2:JV:=[ac 10 3,aw 11 10,aZ 12 11 0]
def c174r3:JV:=[ah 1,ai 14 1 0,ac 2 14]
def c174r4:JV:=[ac 15 3,ac 16 3,aw 17 16,bA 18 17 1,aE 19 15 18 10,ao 20 19 1,aj 21 20,aF 22 21 1,ac 2 22]
def c174:SC:=(.seq (aa c174r0) (.seq (aa c174r1) (.seq (ab c174r2 12 c174r3) (.seq (aa c174r4) .ret))))
def v174:JZ:=([1],[1,13])
def o174:J1:=[.t 2]
def c175r0:JV:=[aG 1 0,aL 2,af 3 0]
def c175r1:JV:=[aL 4]
def c175r2:JV:=[af 5 0]
def c175r3:JV:=[ah 1,ai 11 1 1,ac 12 5,aB 13 195 11 12,ac 9 13,ak 14 9 0,ak 15 9 1,ak 16 9 2,bg 6,am 6 0 10 14,ac 7 15,ac 8 16]
def c175r4:JV:=[ac 17 8,aM 18 17 0,ac 19 18,az 19 6,aA 19 21 6 0,az 19 1,aA 19 23 1 0,cS 19 24 21 23,aq 25 19 24,ac 26 25,av 26 27 4,aV 26 28 27,aR 26 29 28 0,av 26 30 29,aO 30 6,aP 30 32 6 0,aD 30 33 4,aD 30 34 4,bS 30 35 34,bL 30 36 35 1,bj 30 37 33 36 10,cM 30 38 37 1,bm 30 39 38,cA 30 40 32 39,bp 26 41 30 40,aq 42 26 41]
def c175r5:JV:=[ac 43 4,ac 44 5,ac 2 43,ac 3 44]
def c175r6:JV:=[ac 45 4,ar 46 6 0 10,cX 47 43 1 10 0 10 46,aQ 48 45 47 43 10 96,ac 4 48]
def c175r7:JV:=[ac 49 7,ac 5 49]
def c175:SC:=(.seq (aa c175r0) (.seq (aa c175r1) (.seq (aa c175r2) (.blk 0 (.loop (.blk 1 (.seq (aa c175r3) (.seq (.seq (.reg true c175r4) (.cond (.t 42) (.seq (aa c175r5) .ret) .skip)) (.seq (aa c175r6) (aa c175r7))))))))))
def v175:JZ:=([1,6],[1,6,10,20,22,31])
def o175:J1:=[.t 2,.t 3]
def c176r0:JV:=[aL 2]
def c176r1:JV:=[ac 3 0,dF 4 3 5 1 1,ac 2 4]
def c176:SC:=(.seq (aa c176r0) (.seq (aa c176r1) .ret))
def v176:JZ:=([],[])
def o176:J1:=[.t 2]
theorem s176 : gu Tryz.prog Tryz.f176.ntmps v176.1 v176.2 ((Tryz.f176.body).getD .skip) = some c176 := by kernel_rfl
theorem q176 : fA Tryz.prog Tryz.f176.ntmps v176.1 v176.2 Tryz.f176.results.toList = some o176 := by kernel_rfl
def c177r0:JV:=[ao 8 1 0,aj 9 8,af 3 0,ac 4 9]
def c177r1:JV:=[ao 11 1 1,aj 12 11,ac 13 3,aB 14 178 12 13,ac 10 14,ak 15 10 0,ak 16 10 1,ak 17 10 2,bg 5,am 5 0 10 15,ac 6 16,ac 7 17]
def c177r2:JV:=[ac 18 7,aM 19 18 0,ac 20 19,az 20 5,aA 20 22 5 0,av 20 23 4,cS 20 24 22 23,aq 25 20 24,ac 26 25,av 26 27 0,cN 26 28 5 0 10,av 26 29 6,⟨some (26,false),.cav 30 (.t 27) [(.t 28),(.t 29)],none,30⟩,aT 26 31 30,aq 32 26 31]
def c177r3:JV:=[ac 33 6,ah 5,ai 35 5 1,aF 36 35 1,ac 3 33,ac 4 36]
def c177:SC:=(.seq (.reg true c177r0) (.blk 0 (.loop (.blk 1 (.seq (aa c177r1) (.seq (.seq (aa c177r2) (.cond (.t 32) .ret .skip)) (.reg true c177r3)))))))
def v177:JZ:=([5],[5,21,34])
def o177:J1:=[]
def c178r0:JV:=[bg 4,af 5 0,af 6 0]
def c178r1:JV:=[ac 12 0,ac 13 1,cm 14 196 12 13 4,ac 11 14,ak 15 11 0,ak 16 11 1,ac 7 15,ac 6 16]
def c178r2:JV:=[ac 17 6,aM 18 17 0]
def c178r3:JV:=[bt 19,ac 20 6,am 4 0 10 19,af 5 0,ac 6 20]
def c178r4:JV:=[ac 21 7,⟨none,.bin 22 .lss (.t 21) (.v (.int .u64 5)),none,0⟩,ac 23 22,av 23 24 7,dG 23 25 24 2044,aq 26 23 25]
def c178r5:JV:=[bt 27,am 4 0 10 27,af 5 0,af 6 11]
def c178r6:JV:=[ac 28 0,ac 29 1,aF 30 29 4,dj 31 28 30 1,ac 8 31]
def c178r7:JV:=[ac 32 8,aw 33 32,bu 34 33,ac 35 7,aJ 36 34 35]
def c178r8:JV:=[bt 37,am 4 0 10 37,af 5 0,af 6 10]
def c178r9:JV:=[ac 39 8,ac 40 7,bB 41 39 40 1,au 42 197 41,ac 38 42,ak 43 38 0,ak 44 38 1,ac 9 43,ac 6 44]
def c178r10:JV:=[ac 45 6,aM 46 45 0]
def c178r11:JV:=[bt 47,ac 48 6,am 4 0 10 47,af 5 0,ac 6 48]
def c178r12:JV:=[ac 50 9,au 51 198 50,ac 49 51,ak 52 49 0,ak 53 49 1,am 4 0 10 52,ac 10 53]
def c178r13:JV:=[ac 54 10,aN 55 54,ac 56 55,cN 56 57 4 0 10,aY 56 58 118 57,bl 56 59 58 0,aq 60 56 59]
def c178r14:JV:=[bt 61,am 4 0 10 61,af 5 0,af 6 11]
def c178r15:JV:=[ar 62 4 0 10,ac 63 1,aF 64 63 4,ac 65 7,bR 66 65,aX 67 64 66,am 4 0 10 62,ac 5 67,af 6 0]
def c178:SC:=(.seq (aa c178r0) (.seq (aa c178r1) (.seq (ab c178r2 18 c178r3) (.seq (ab c178r4 26 c178r5) (.seq (aa c178r6) (.seq (ab c178r7 36 c178r8) (.seq (aa c178r9) (.seq (ab c178r10 46 c178r11) (.seq (aa c178r12) (.seq (ab c178r13 60 c178r14) (.seq (aa c178r15) .ret)))))))))))
def v178:JZ:=([4],[4])
def o178:J1:=[.r 4 (some 10),.t 5,.t 6]
def c179r0:JV:=[aG 1 0,aC 2]
def c179r1:JV:=[ah 1,ai 8 1 0,ah 1,ai 10 1 1,ah 1,ai 12 1 2,⟨none,.bls 13 3 3 1 [(.int .i64 0),(.int .i64 0),(.int .i64 0)] [(0,1,(.t 8)),(1,1,(.t 10)),(2,1,(.t 12))],none,0⟩,⟨none,.call 14 117 [(.i 1099511627776),(.t 13)],none,0⟩,aN 15 14,ac 16 15,az 16 1,aA 16 18 1 3,az 16 1,aA 16 20 1 5,az 16 1,aA 16 22 1 6,⟨some (16,false),.bls 23 3 3 1 [(.int .i64 0),(.int .i64 0),(.int .i64 0)] [(0,1,(.t 18)),(1,1,(.t 20)),(2,1,(.t 22))],none,23⟩,⟨some (16,false),.call 24 117 [(.i 1048576),(.t 23)],none,24⟩,aT 16 25 24,aq 26 16 25]
def c179r2:JV:=[aC 2]
def c179r3:JV:=[ah 1,ai 28 1 1,ah 1,ai 30 1 0,bd 31 28 30,ac 3 31]
def c179r4:JV:=[ac 33 3,aS 34 33 0,ac 35 34,av 35 36 3,dC 35 37 36 16,aq 38 35 37,ac 39 38,az 39 1,aA 39 41 1 2,av 39 42 3,di 39 43 41 42,aR 39 44 43 1099511627776,aq 45 39 44,ac 46 45,az 46 1,aA 46 48 1 6,av 46 49 3,di 46 50 48 49,aR 46 51 50 1048576,aq 52 46 51,ac 32 52]
def c179r5:JV:=[aC 2]
def c179r6:JV:=[ah 1,ai 55 1 4,⟨none,.bin 56 .lss (.t 55) (.i (-1)),none,0⟩,ac 57 56,az 57 1,aA 57 59 1 4,aR 57 60 59 1099511627776,aq 61 57 60,ac 53 61]
def c179r7:JV:=[aC 2]
def c179r8:JV:=[ah 1,ai 64 1 4,cQ 65 64,ac 66 65,aO 66 1,aP 66 68 1 5,aO 66 1,aP 66 70 1 6,⟨some (66,true),.bin 71 .add (.t 68) (.t 70),none,71⟩,⟨some (66,true),.bin 72 .neq (.t 71) (.i 0),none,72⟩,aD 66 73 72,az 73 1,aA 73 75 1 7,bC 66 76 73 75,aD 66 77 76,az 77 1,aA 77 79 1 8,bl 77 80 79 0,bC 66 81 77 80,aI 82 66 81,ac 62 82]
def c179r9:JV:=[aC 2]
def c179r10:JV:=[ah 1,ai 84 1 8]
def c179r11:JV:=[aZ 86 84 0,ac 85 86]
def c179r12:JV:=[ah 1,ai 88 1 0,ac 4 88]
def c179r13:JV:=[ah 1,ai 90 1 9,aw 91 90,af 92 0]
def c179r14:JV:=[aJ 93 92 91]
def c179r15:JV:=[aE 94 90 92 5,aK 95 94 5,bV 6,am 6 0 5 95]
def c179r16:JV:=[ar 96 6 0 5,au 97 199 96,aM 98 97 0,ac 99 98,az 99 6,aA 99 101 6 0,av 99 102 4,cS 99 103 101 102,aq 104 99 103,ac 105 104,az 105 6,aA 105 107 6 0,az 105 1,aA 105 109 1 1,bK 105 110 107 109,aq 111 105 110]
def c179r17:JV:=[aC 2]
def c179r18:JV:=[ah 6,ai 113 6 0,aF 114 113 1,ac 4 114]
def c179r19:JV:=[aF 115 92 1,ac 92 115]
def c179r20:JV:=[bM 2]
def c179r21:JV:=[aZ 117 84 1,ac 116 117]
def c179r22:JV:=[aZ 118 84 2,ac 116 118]
def c179r23:JV:=[ac 119 3,aZ 120 119 0,ac 121 120,aO 121 1,aP 121 123 1 9,bS 121 124 123,bc 121 125 124 0,aI 126 121 125,ac 127 126,aO 127 1,aP 127 129 1 7,aI 130 127 129,ac 2 130]
def c179r24:JV:=[aC 2]
def c179:SC:=(.seq (aa c179r0) (.seq (ab c179r1 26 c179r2) (.seq (aa c179r3) (.seq (.blk 0 (.seq (aa c179r4) (.cond (.t 32) (.seq (aa c179r5) .ret) (.seq (aa c179r6) (.cond (.t 53) (.seq (aa c179r7) .ret) (ab c179r8 62 c179r9)))))) (.seq (.seq (aa c179r10) (.blk 1 (.seq (aa c179r11) (.cond (.t 85) (.seq (aa c179r12) (.seq (.seq (aa c179r13) (.blk 2 (.loop (.seq (aa c179r14) (.seq (.cond (.t 93) .skip (.exit 2)) (.seq (.blk 3 (.seq (aa c179r15) (.seq (ab c179r16 111 c179r17) (aa c179r18)))) (aa c179r19))))))) (.seq (aa c179r20) .ret))) (.seq (.seq (aa c179r21) (.cond (.t 116) .skip (aa c179r22))) (.cond (.t 116) (.seq (aa c179r23) .ret) .skip)))))) (.seq (aa c179r24) .ret))))))
def v179:JZ:=([1,6],[1,6,7,9,11,17,19,21,27,29,40,47,54,58,63,67,69,74,78,83,87,89,100,106,108,112,122,128])
def o179:J1:=[.t 2]
theorem s179 : gu Tryz.prog Tryz.f179.ntmps v179.1 v179.2 ((Tryz.f179.body).getD .skip) = some c179 := by kernel_rfl
theorem q179 : fA Tryz.prog Tryz.f179.ntmps v179.1 v179.2 Tryz.f179.results.toList = some o179 := by kernel_rfl
def c180r0:JV:=[aG 1 0,aL 2]
def c180r1:JV:=[aL 3]
def c180r2:JV:=[ah 1,ai 13 1 0,ah 1,ai 15 1 1,ah 1,ai 17 1 0,bd 18 15 17,ah 1,ai 20 1 2,ah 1,ai 22 1 3,ah 1,ai 24 1 4,ah 1,ai 26 1 5,ah 1,ai 28 1 6,⟨none,.bld 29 [(.int .i64 0),(.int .i64 0),(.int .i64 0),(.int .i64 0),(.int .i64 0),(.int .i64 0),(.int .i64 0)] [(0,1,(.t 13)),(1,1,(.t 18)),(2,1,(.t 20)),(3,1,(.t 22)),(4,1,(.t 24)),(5,1,(.t 26)),(6,1,(.t 28))],none,0⟩,af 30 0]
def c180r3:JV:=[aS 31 30 7]
def c180r4:JV:=[⟨none,.ixV 32 (.t 29) (.t 30) 7 1 none,none,0⟩,ac 5 32]
def c180r5:JV:=[ac 33 3,ac 34 5,aB 35 200 33 34,ac 3 35]
def c180r6:JV:=[aF 36 30 1,ac 30 36]
def c180r7:JV:=[ah 1,ai 38 1 8,bF 39 38,ac 6 39]
def c180r8:JV:=[ah 1,ai 41 1 7]
def c180r9:JV:=[ac 42 6,⟨none,.bin 43 .or (.t 42) (.v (.int .u8 4)),none,0⟩,ac 6 43]
def c180r10:List (Bool × SI):=[(true,ac 44 3),(true,ac 45 6),(true,ah 1),(true,ai 49 1 9),(true,aw 50 49),(false,bW 46 5 1 1 0 1 45),(false,aQ 47 44 46 5 1 1),(false,aB 51 200 47 50),(true,ac 3 51)]
def c180r11:JV:=[ah 1,ai 53 1 9,aw 54 53,bw 55 54 0]
def c180r12:JV:=[ah 1,ai 57 1 9,cJ 58 57 0 5,ao 59 58 4,aj 60 59,ac 7 60]
def c180r13:JV:=[ac 61 3,ac 62 7,aB 63 200 61 62,ac 3 63]
def c180r14:JV:=[ah 1,ai 65 1 9,aw 66 65,af 67 0]
def c180r15:JV:=[aJ 68 67 66]
def c180r16:JV:=[aE 69 65 67 5,aK 70 69 5,bV 9,am 9 0 5 70]
def c180r17:JV:=[ar 72 9 0 5,ah 1,ai 74 1 0,ac 75 7,bh 76 201 72 74 75,ac 71 76,ak 77 71 0,ak 78 71 1,ac 10 77,ac 11 78]
def c180r18:JV:=[ac 79 3,ac 80 10,aQ 81 79 80 5 1 1,ac 3 81]
def c180r19:JV:=[aF 82 67 1,ac 67 82]
def c180r20:JV:=[ac 83 3,au 84 202 83,ac 3 84]
def c180r21:JV:=[ac 85 3,aw 86 85,bu 87 86,⟨none,.call 88 203 [(.v (.slice none 0 0)),(.t 87),(.i 4)],none,0⟩,ac 89 3,aQ 90 88 89 5 1 1,ac 2 90]
def c180:SC:=(.seq (aa c180r0) (.seq (aa c180r1) (.seq (.seq (aa c180r2) (.blk 0 (.loop (.seq (aa c180r3) (.seq (.cond (.t 31) .skip (.exit 0)) (.seq (.blk 1 (.seq (aa c180r4) (aa c180r5))) (aa c180r6))))))) (.seq (aa c180r7) (.seq (.seq (aa c180r8) (.cond (.t 41) (aa c180r9) .skip)) (.seq (.rgX c180r10) (.seq (.seq (aa c180r11) (.cond (.t 55) (.seq (aa c180r12) (.seq (aa c180r13) (.seq (aa c180r14) (.blk 2 (.loop (.seq (aa c180r15) (.seq (.cond (.t 68) .skip (.exit 2)) (.seq (.blk 3 (.seq (aa c180r16) (.seq (aa c180r17) (aa c180r18)))) (aa c180r19))))))))) .skip)) (.seq (aa c180r20) (.seq (aa c180r21) .ret)))))))))
def v180:JZ:=([1,9],[1,9,12,14,16,19,21,23,25,27,37,40,48,52,56,64,73])
def o180:J1:=[.t 2]
theorem s180 : gu Tryz.prog Tryz.f180.ntmps v180.1 v180.2 ((Tryz.f180.body).getD .skip) = some c180 := by kernel_rfl
theorem q180 : fA Tryz.prog Tryz.f180.ntmps v180.1 v180.2 Tryz.f180.results.toList = some o180 := by kernel_rfl
def c181r0:JV:=[aL 4]
def c181r1:JV:=[ac 5 1,aS 6 5 0]
def c181r2:JV:=[ac 8 1,ac 9 0,⟨none,.cpc 10 (.t 9),none,0⟩,ac 11 0,aw 12 11,bd 13 10 12,bd 14 8 13,ac 1 14]
def c181r3:JV:=[ac 15 1,bw 16 15 0]
def c181r4:JV:=[ac 17 0,ac 18 0,⟨none,.cpc 19 (.t 18),none,0⟩,bB 20 17 19 1,ac 21 1,⟨none,.apz 22 5 1 1 (.t 20) (.t 21),none,0⟩,ac 23 0,aw 24 23,bB 25 22 24 1,ac 0 25]
def c181r5:JV:=[ac 26 0,ac 4 26]
def c181:SC:=(.seq (aa c181r0) (.seq (.seq (aa c181r1) (.cond (.t 6) .dead .skip)) (.seq (.seq (aa c181r2) (.seq (aa c181r3) (.cond (.t 16) (aa c181r4) .skip))) (.seq (aa c181r5) .ret))))
def v181:JZ:=([],[])
def o181:J1:=[.t 4]
def c182r0:JV:=[aj 4 1,aw 5 4,bA 6 5 1,ac 3 6]
def c182r1:JV:=[ac 7 3,bf 8 7 0]
def c182r2:JV:=[ac 11 0,ac 12 3,aj 13 1,ac 14 3,aE 15 13 14 2,aK 16 15 2,ck 17 11 12 16,aN 18 17]
def c182r3:JV:=[ac 9 3,bA 10 9 1,ac 3 10]
def c182:SC:=(.seq (aa c182r0) (.blk 0 (.loop (.seq (.seq (aa c182r1) (.cond (.t 8) .skip (.exit 0))) (.seq (.blk 1 (.seq (aa c182r2) (.cond (.t 18) .ret .skip))) (aa c182r3))))))
def v182:JZ:=([],[])
def o182:J1:=[]
def c183r0:JV:=[aU 2 0,aU 3 1,af 4 0]
def c183r1:JV:=[aj 5 2,aw 6 5,cw 7 204 2 3,aB 8 144 6 7,ac 4 8]
def c183:SC:=(.seq (aa c183r0) (.seq (aa c183r1) .ret))
def v183:JZ:=([],[])
def o183:J1:=[.t 4]
def c184r0:JV:=[aC 2]
def c184r1:JV:=[ac 3 0,bf 4 3 0,ac 5 4,aD 5 6 0,bE 5 7 6 1099511627776,aI 8 5 7,ac 2 8]
def c184:SC:=(.seq (aa c184r0) (.seq (aa c184r1) .ret))
def v184:JZ:=([],[])
def o184:J1:=[.t 2]
theorem s184 : gu Tryz.prog Tryz.f184.ntmps v184.1 v184.2 ((Tryz.f184.body).getD .skip) = some c184 := by kernel_rfl
theorem q184 : fA Tryz.prog Tryz.f184.ntmps v184.1 v184.2 Tryz.f184.results.toList = some o184 := by kernel_rfl
def c185r0:JV:=[aL 4]
def c185r1:JV:=[ac 5 0,ac 6 1,dp 7 6,aB 8 162 5 7,ac 9 1,aQ 10 8 9 5 1 1,ac 4 10]
def c185:SC:=(.seq (aa c185r0) (.seq (aa c185r1) .ret))
def v185:JZ:=([],[])
def o185:J1:=[.t 4]
theorem s185 : gu Tryz.prog Tryz.f185.ntmps v185.1 v185.2 ((Tryz.f185.body).getD .skip) = some c185 := by kernel_rfl
theorem q185 : fA Tryz.prog Tryz.f185.ntmps v185.1 v185.2 Tryz.f185.results.toList = some o185 := by kernel_rfl
def c186r0:JV:=[aL 2]
def c186r1:JV:=[ac 3 0,cT 4 3 16777216,bF 5 4,ac 6 0,cT 7 6 65536,bF 8 7,ac 9 0,cT 10 9 256,bF 11 10,ac 12 0,bF 13 12,⟨none,.bls 14 5 4 1 [(.int .u8 0),(.int .u8 0),(.int .u8 0),(.int .u8 0)] [(0,1,(.t 5)),(1,1,(.t 8)),(2,1,(.t 11)),(3,1,(.t 13))],none,0⟩,ac 2 14]
def c186:SC:=(.seq (aa c186r0) (.seq (aa c186r1) .ret))
def v186:JZ:=([],[])
def o186:J1:=[.t 2]
theorem s186 : gu Tryz.prog Tryz.f186.ntmps v186.1 v186.2 ((Tryz.f186.body).getD .skip) = some c186 := by kernel_rfl
theorem q186 : fA Tryz.prog Tryz.f186.ntmps v186.1 v186.2 Tryz.f186.results.toList = some o186 := by kernel_rfl
def c187r0:JV:=[cn 2 0]
def c187r1:JV:=[cn 3 4294967295]
def c187r2:JV:=[af 4 0]
def c187r3:JV:=[ac 5 4,ac 6 0,aw 7 6,aJ 8 5 7]
def c187r4:JV:=[ac 11 3,ac 12 0,ac 13 4,aE 14 12 13 1,aj 15 14,⟨none,.cvI 16 .u32 (.t 15),none,0⟩,cE 17 11 16,bH 18 205 17 8,ac 3 18]
def c187r5:JV:=[ac 9 4,aF 10 9 1,ac 4 10]
def c187r6:JV:=[ac 19 3,⟨none,.bin 20 .xor (.t 19) (.v (.int .u32 4294967295)),none,0⟩,ac 2 20]
def c187:SC:=(.seq (aa c187r0) (.seq (aa c187r1) (.seq (.seq (aa c187r2) (.blk 0 (.loop (.seq (.seq (aa c187r3) (.cond (.t 8) .skip (.exit 0))) (.seq (.blk 1 (aa c187r4)) (aa c187r5)))))) (.seq (aa c187r6) .ret))))
def v187:JZ:=([],[])
def o187:J1:=[.t 2]
theorem s187 : gu Tryz.prog Tryz.f187.ntmps v187.1 v187.2 ((Tryz.f187.body).getD .skip) = some c187 := by kernel_rfl
theorem q187 : fA Tryz.prog Tryz.f187.ntmps v187.1 v187.2 Tryz.f187.results.toList = some o187 := by kernel_rfl
def c188r0:JV:=[aG 3 0,ba 6,af 7 0]
def c188r1:JV:=[ar 9 3 0 3,au 10 62 9,ac 8 10]
def c188r2:JV:=[ac 11 8,aM 12 11 0]
def c188r3:JV:=[bq 13,ac 14 8,am 6 0 3 13,ac 7 14]
def c188r4:JV:=[ar 15 3 0 3,ac 16 1,aB 17 206 15 16,aN 18 17]
def c188r5:JV:=[bq 19,am 6 0 3 19,af 7 90]
def c188r6:JV:=[ac 20 2,dq 21 20,am 6 0 3 21,af 7 0]
def c188:SC:=(.seq (aa c188r0) (.seq (.seq (aa c188r1) (ab c188r2 12 c188r3)) (.seq (ab c188r4 18 c188r5) (.seq (aa c188r6) .ret))))
def v188:JZ:=([3,6],[3,6])
def o188:J1:=[.r 6 (some 3),.t 7]
def c189r0:JV:=[ba 2]
def c189r1:JV:=[aL 3]
def c189r2:JV:=[ao 6 0 2,aj 7 6,aw 8 7,af 9 0]
def c189r3:JV:=[aJ 10 9 8]
def c189r4:JV:=[aE 11 7 9 2,aK 12 11 2,bz 5,am 5 0 2 12]
def c189r5:JV:=[ah 5,ai 14 5 0,aj 15 1,aJ 16 14 15]
def c189r6:JV:=[ac 17 3,ar 18 5 0 2,aj 19 1,aB 20 190 18 19,bQ 21 120 1 2 0 2 20,aQ 22 17 21 120 2 32,ac 3 22]
def c189r7:JV:=[aF 23 9 1,ac 9 23]
def c189r8:JV:=[ac 24 3,aw 25 24,aZ 26 25 0]
def c189r9:JV:=[aj 27 1,cW 28 0 1 27,bQ 29 120 1 2 0 2 28,ac 3 29]
def c189r10:JV:=[aK 30 0 3,ac 31 3,aB 32 122 30 31,am 2 0 3 32]
def c189:SC:=(.seq (aa c189r0) (.seq (aa c189r1) (.seq (.seq (aa c189r2) (.blk 0 (.loop (.seq (aa c189r3) (.seq (.cond (.t 10) .skip (.exit 0)) (.seq (.blk 1 (.seq (aa c189r4) (.seq (aa c189r5) (.cond (.t 16) (aa c189r6) .skip)))) (aa c189r7))))))) (.seq (.seq (aa c189r8) (.cond (.t 26) (aa c189r9) .skip)) (.seq (aa c189r10) .ret)))))
def v189:JZ:=([2,5],[2,5,13])
def o189:J1:=[.r 2 (some 3)]
def c190r0:JV:=[aU 2 0,aU 3 1,dv 4]
def c190r1:JV:=[bY 5,cO 5 1 0]
def c190r2:JV:=[aK 8 2 2,au 9 151 8]
def c190r3:JV:=[bg 6,am 6 0 10 10]
def c190r4:JV:=[ac 7 11]
def c190r5:JV:=[ah 6,ai 13 6 1,aj 14 3,cC 15 13 14]
def c190r6:JV:=[ac 16 7,aH 5 1 16]
def c190r7:JV:=[aK 17 2 2,aj 18 5,aB 19 172 17 18,aH 4 2 19]
def c190:SC:=(.seq (aa c190r0) (.seq (aa c190r1) (.seq (.seq (aa c190r2) (.blk 0 (.rf (.t 9) [10,11] (.seq (aa c190r3) (aa c190r4)) (.blk 1 (.seq (.seq (aa c190r5) (.cond (.t 15) (.exit 0) .skip)) (aa c190r6)))))) (.seq (aa c190r7) .ret))))
def v190:JZ:=([6],[6,12])
def o190:J1:=[.c 4 (some 2)]
def c191r0:JV:=[aC 4]
def c191r1:JV:=[ac 6 0,aw 7 6,ac 8 1,aw 9 8,bP 10 7 9]
def c191r2:JV:=[aC 4]
def c191r3:JV:=[ac 11 0,aw 12 11,af 13 0]
def c191r4:JV:=[aJ 14 13 12]
def c191r5:JV:=[ac 15 13,ac 5 15]
def c191r6:JV:=[ac 16 0,ac 17 5,aE 18 16 17 5,aK 19 18 5,ac 20 1,ac 21 5,aE 22 20 21 5,aK 23 22 5,⟨none,.eqf 24 true [0,2,2,1,0] (.t 19) (.t 23),none,0⟩]
def c191r7:JV:=[aC 4]
def c191r8:JV:=[aF 25 13 1,ac 13 25]
def c191r9:JV:=[bM 4]
def c191:SC:=(.seq (aa c191r0) (.seq (ab c191r1 10 c191r2) (.seq (.seq (aa c191r3) (.blk 0 (.loop (.seq (aa c191r4) (.seq (.cond (.t 14) .skip (.exit 0)) (.seq (.blk 1 (.seq (aa c191r5) (.seq (.reg true c191r6) (.cond (.t 24) (.seq (aa c191r7) .ret) .skip)))) (aa c191r8))))))) (.seq (aa c191r9) .ret))))
def v191:JZ:=([],[])
def o191:J1:=[.t 4]
def c192r0:JV:=[aG 1 0,⟨none,.alR 2 [(.int .i64 0),(.int .i64 0),(.int .i64 0),(.int .i64 0),(.int .i64 0),(.int .i64 0),(.int .i64 0),(.int .i64 0),(.int .i64 0)],none,0⟩]
def c192r1:JV:=[ah 1,ai 5 1 8,⟨none,.bin 6 .mul (.t 5) (.i 2),none,0⟩,ac 3 6]
def c192r2:JV:=[ah 1,ai 8 1 7]
def c192r3:JV:=[ac 9 3,aF 10 9 1,ac 3 10]
def c192r4:JV:=[ah 1,ai 12 1 0,ah 1,ai 14 1 1,ah 1,ai 16 1 2,ah 1,ai 18 1 3,ah 1,ai 20 1 4,ah 1,ai 22 1 5,ah 1,ai 24 1 6,ah 1,ai 26 1 8,ac 27 3,ah 1,ai 29 1 8,⟨none,.bin 30 .mul (.t 29) (.i 2),none,0⟩,bd 31 27 30,⟨none,.bld 32 [(.int .i64 0),(.int .i64 0),(.int .i64 0),(.int .i64 0),(.int .i64 0),(.int .i64 0),(.int .i64 0),(.int .i64 0),(.int .i64 0)] [(0,1,(.t 12)),(1,1,(.t 14)),(2,1,(.t 16)),(3,1,(.t 18)),(4,1,(.t 20)),(5,1,(.t 22)),(6,1,(.t 24)),(7,1,(.t 26)),(8,1,(.t 31))],none,0⟩,am 2 0 9 32]
def c192:SC:=(.seq (aa c192r0) (.seq (aa c192r1) (.seq (.seq (aa c192r2) (.cond (.t 8) (aa c192r3) .skip)) (.seq (aa c192r4) .ret))))
def v192:JZ:=([1,2],[1,2,4,7,11,13,15,17,19,21,23,25,28])
def o192:J1:=[.r 2 (some 9)]
def c194r0:JV:=[aL 2]
def c194r1:JV:=[ac 3 0,cP 4 3]
def c194r2:JV:=[aL 2]
def c194r3:JV:=[cf 5,ac 6 0,aQ 7 5 6 5 1 1,ac 2 7]
def c194:SC:=(.seq (aa c194r0) (.seq (ab c194r1 4 c194r2) (.seq (aa c194r3) .ret)))
def v194:JZ:=([],[])
def o194:J1:=[.t 2]
theorem s194 : gu Tryz.prog Tryz.f194.ntmps v194.1 v194.2 ((Tryz.f194.body).getD .skip) = some c194 := by kernel_rfl
theorem q194 : fA Tryz.prog Tryz.f194.ntmps v194.1 v194.2 Tryz.f194.results.toList = some o194 := by kernel_rfl
def c195r0:JV:=[bg 4,af 5 0,af 6 0]
def c195r1:JV:=[ac 14 0,ac 15 1,cm 16 207 14 15 4,ac 13 16,ak 17 13 0,ak 18 13 1,ac 7 17,ac 8 18]
def c195r2:JV:=[ac 19 8,aM 20 19 0]
def c195r3:JV:=[bt 21,ac 22 8,am 4 0 10 21,af 5 0,ac 6 22]
def c195r4:JV:=[ac 23 7,⟨none,.bin 24 .lss (.t 23) (.v (.int .u64 5)),none,0⟩,ac 25 24,av 25 26 7,dG 25 27 26 2044,aq 28 25 27]
def c195r5:JV:=[bt 29,am 4 0 10 29,af 5 0,af 6 11]
def c195r6:JV:=[ac 30 1,aF 31 30 4,ac 32 7,bR 33 32,aX 34 31 33,ac 9 34]
def c195r7:JV:=[ac 35 9,ac 36 0,aw 37 36,bN 38 35 37]
def c195r8:JV:=[bt 39,am 4 0 10 39,af 5 0,af 6 10]
def c195r9:JV:=[ac 41 0,ac 42 1,aF 43 42 4,ac 44 9,dH 45 41 43 44 1,au 46 208 45,ac 40 46,ak 47 40 0,ak 48 40 1,ac 10 47,ac 8 48]
def c195r10:JV:=[ac 49 8,aM 50 49 0]
def c195r11:JV:=[bt 51,ac 52 8,am 4 0 10 51,af 5 0,ac 6 52]
def c195r12:JV:=[ac 54 10,au 55 209 54,ac 53 55,ak 56 53 0,ak 57 53 1,bg 11,am 11 0 10 56,ac 12 57]
def c195r13:JV:=[ac 58 12,aN 59 58,ac 60 59,cN 60 61 11 0 10,aY 60 62 73 61,bl 60 63 62 0,aq 64 60 63]
def c195r14:JV:=[bt 65,am 4 0 10 65,af 5 0,af 6 11]
def c195r15:JV:=[ar 66 11 0 10,ac 67 9,am 4 0 10 66,ac 5 67,af 6 0]
def c195:SC:=(.seq (aa c195r0) (.seq (aa c195r1) (.seq (ab c195r2 20 c195r3) (.seq (ab c195r4 28 c195r5) (.seq (aa c195r6) (.seq (ab c195r7 38 c195r8) (.seq (aa c195r9) (.seq (ab c195r10 50 c195r11) (.seq (aa c195r12) (.seq (ab c195r13 64 c195r14) (.seq (aa c195r15) .ret)))))))))))
def v195:JZ:=([4,11],[4,11])
def o195:J1:=[.r 4 (some 10),.t 5,.t 6]
def c196r0:JV:=[bO 6 0,af 7 0]
def c196r1:JV:=[ac 12 2,aS 13 12 1,ac 14 13,av 14 15 2,aR 14 16 15 8,aq 17 14 16,ac 18 17,av 18 19 1,bi 18 20 19 0,aq 21 18 20]
def c196r2:JV:=[bO 6 0,af 7 1]
def c196r3:JV:=[ac 22 0,ac 23 1,aB 24 210 22 23,ac 8 24]
def c196r4:JV:=[ac 25 8,aw 26 25,ac 27 2,aJ 28 26 27]
def c196r5:JV:=[bO 6 0,af 7 10]
def c196r6:JV:=[bO 9 0]
def c196r7:JV:=[ac 29 8,ac 30 2,bB 31 29 30 1,aw 32 31,af 33 0]
def c196r8:JV:=[aJ 34 33 32]
def c196r9:JV:=[aE 35 31 33 1,aj 36 35,ac 11 36]
def c196r10:JV:=[ac 37 9,⟨none,.bin 38 .shl (.t 37) (.v (.int .u64 8)),none,0⟩,ac 39 11,bu 40 39,⟨none,.bin 41 .or (.t 38) (.t 40),none,0⟩,ac 9 41]
def c196r11:JV:=[aF 42 33 1,ac 33 42]
def c196r12:JV:=[ac 43 9,ac 6 43,af 7 0]
def c196:SC:=(.seq (aa c196r0) (.seq (ab c196r1 21 c196r2) (.seq (aa c196r3) (.seq (ab c196r4 28 c196r5) (.seq (aa c196r6) (.seq (.seq (aa c196r7) (.blk 0 (.loop (.seq (aa c196r8) (.seq (.cond (.t 34) .skip (.exit 0)) (.seq (.blk 1 (.seq (aa c196r9) (aa c196r10))) (aa c196r11))))))) (.seq (aa c196r12) .ret)))))))
def v196:JZ:=([],[])
def o196:J1:=[.t 6,.t 7]
def c197r0:JV:=[aL 2,af 3 0]
def c197r1:JV:=[ac 7 0,aw 8 7,bA 9 8 4,ac 4 9]
def c197r2:JV:=[ac 10 4,aS 11 10 0]
def c197r3:JV:=[aL 2,af 3 10]
def c197r4:JV:=[ac 13 0,ac 14 4,cm 15 196 13 14 4,ac 12 15,ak 16 12 0,ak 17 12 1,ac 5 16,ac 6 17]
def c197r5:JV:=[ac 18 6,aM 19 18 0,ac 20 19,av 20 21 5,av 20 22 0,av 20 23 4,⟨some (20,false),.sl 24 (.t 22) none (some (.t 23)) none 1,none,24⟩,aY 20 25 211 24,⟨some (20,false),.cvI 26 .u64 (.t 25),none,26⟩,cv 20 27 21 26,aq 28 20 27]
def c197r6:JV:=[aL 2,af 3 20]
def c197r7:JV:=[ac 29 0,ac 30 4,bB 31 29 30 1,dF 32 31 5 1 1,ac 2 32,af 3 0]
def c197:SC:=(.seq (aa c197r0) (.seq (aa c197r1) (.seq (ab c197r2 11 c197r3) (.seq (.seq (aa c197r4) (ab c197r5 28 c197r6)) (.seq (aa c197r7) .ret)))))
def v197:JZ:=([],[])
def o197:J1:=[.t 2,.t 3]
def c198r0:JV:=[aU 1 0,bg 2,⟨none,.al 3 [(.bool false)],none,0⟩]
def c198r1:JV:=[bY 4,cO 4 1 0]
def c198r2:JV:=[⟨none,.st (.t 3) 1 (.b true),none,0⟩]
def c198r3:JV:=[⟨none,.mkf 15 (.func 212) [(.t 1),(.t 4),(.t 3)],none,0⟩,ac 5 15]
def c198r4:JV:=[dQ 6]
def c198r5:JV:=[af 16 0]
def c198r6:JV:=[aS 17 16 7]
def c198r7:JV:=[ac 18 16,ac 7 18]
def c198r8:JV:=[ac 19 7,ac 20 5,dq 21 20,cU 22 6 19 7 1,aH 22 1 21]
def c198r9:JV:=[aF 23 16 1,ac 16 23]
def c198r10:JV:=[aj 24 3,aN 25 24,ac 26 25,aW 26 27 4,aW 26 28 1,aV 26 29 28,⟨some (26,false),.bin 30 .geq (.t 27) (.t 29),none,30⟩,aq 31 26 30,ac 32 31,aW 32 33 1,aW 32 34 4,bI 32 35 33 34 1,aW 32 36 35,⟨some (32,false),.bin 37 .geq (.t 36) (.v (.int .u8 8)),none,37⟩,aq 38 32 37,ac 39 38,cp 39 40 6 0 7 1,aW 39 41 40,bi 39 42 41 0,aq 43 39 42,ac 44 43,cp 44 45 6 0 7 1,aW 44 46 45,aR 44 47 46 1099511627776,aq 48 44 47,ac 49 48,cp 49 50 6 1 7 1,aW 49 51 50,bi 49 52 51 0,aq 53 49 52,ac 54 53,cp 54 55 6 1 7 1,aW 54 56 55,dC 54 57 56 16,aq 58 54 57]
def c198r11:JV:=[bt 59,am 2 0 10 59,dh 3 1]
def c198r12:JV:=[aj 60 1,aj 61 4,aE 62 60 61 1,aj 63 62,ac 8 63]
def c198r13:JV:=[aj 64 4,aF 65 64 1,aH 4 1 65]
def c198r14:JV:=[bo 66 6 0 7 1,aj 67 66,bo 68 6 0 7 1,aj 69 68,bo 70 6 1 7 1,aj 71 70,aX 72 69 71,bo 73 6 2 7 1,aj 74 73,bo 75 6 3 7 1,aj 76 75,bo 77 6 4 7 1,aj 78 77,bo 79 6 5 7 1,aj 80 79,bo 81 6 6 7 1,aj 82 81,ac 83 8,⟨none,.bin 84 .and (.t 83) (.v (.int .u8 4)),none,0⟩,⟨none,.bin 85 .neq (.t 84) (.v (.int .u8 0)),none,0⟩,ac 86 8,⟨none,.bin 87 .andNot (.t 86) (.v (.int .u8 4)),none,0⟩,bR 88 87,⟨none,.bld 89 [(.int .i64 0),(.int .i64 0),(.int .i64 0),(.int .i64 0),(.int .i64 0),(.int .i64 0),(.int .i64 0),(.bool false),(.int .i64 0),(.slice none 0 0)] [(0,1,(.t 67)),(1,1,(.t 72)),(2,1,(.t 74)),(3,1,(.t 76)),(4,1,(.t 78)),(5,1,(.t 80)),(6,1,(.t 82)),(7,1,(.t 85)),(8,1,(.t 88))],none,0⟩,am 2 0 10 89]
def c198r15:JV:=[ac 90 5,dq 91 90,ac 9 91]
def c198r16:JV:=[aj 92 3,aN 93 92,ac 94 93,av 94 95 9,bi 94 96 95 0,aq 97 94 96,ac 98 97,av 98 99 9,aR 98 100 99 16,aq 101 98 100]
def c198r17:JV:=[bt 102,am 2 0 10 102,dh 3 1]
def c198r18:JV:=[af 10 0]
def c198r19:JV:=[ac 103 9,bw 104 103 0]
def c198r20:JV:=[ac 105 5,dq 106 105,ac 10 106]
def c198r21:JV:=[af 11 0]
def c198r22:JV:=[ac 107 11,ac 108 9,aJ 109 107 108,ac 110 109,bm 110 111 3,aI 112 110 111]
def c198r23:JV:=[aj 116 1,aj 117 4,ah 2,ai 119 2 0,ac 120 10,cZ 121 214 116 117 119 120,ac 115 121,ak 122 115 0,ak 123 115 1,ak 124 115 2,bV 12,am 12 0 5 122,ac 13 123,ac 14 124]
def c198r24:JV:=[aj 125 3,ac 126 125,aD 126 127 14,bc 126 128 127 0,aI 129 126 128,ac 130 129,aD 130 131 11,⟨some (130,true),.bin 132 .gtr (.t 131) (.i 0),none,132⟩,aD 130 133 132,az 133 12,aA 133 135 12 4,av 133 136 10,⟨some (133,false),.bin 137 .eql (.t 135) (.t 136),none,137⟩,bC 130 138 133 137,aI 139 130 138,aH 3 1 139]
def c198r25:JV:=[ac 140 13,aH 4 1 140]
def c198r26:JV:=[ah 2,ai 142 2 9,ar 143 12 0 5,dR 144 103 1 5 0 5 143,aQ 145 142 144 103 5 56,ah 2,am 2 9 1 145]
def c198r27:JV:=[ac 113 11,aF 114 113 1,ac 11 114]
def c198r28:List WI:=[(true,false,ar 147 2 0 10),(true,false,aj 148 3),(true,false,ac 149 148),(true,false,bm 149 150 4),(true,false,bm 149 151 1),(true,false,bS 149 152 151),(true,false,bG 149 153 150 152),(true,false,aI 154 149 153),(false,false,am 2 0 10 147),(false,true,aH 3 1 154)]
def c198:SC:=(.seq (aa c198r0) (.seq (aa c198r1) (.seq (aa c198r2) (.seq (aa c198r3) (.seq (aa c198r4) (.seq (.seq (aa c198r5) (.blk 0 (.loop (.seq (aa c198r6) (.seq (.cond (.t 17) .skip (.exit 0)) (.seq (.blk 1 (.seq (aa c198r7) (aa c198r8))) (aa c198r9))))))) (.seq (ab c198r10 58 c198r11) (.seq (aa c198r12) (.seq (aa c198r13) (.seq (aa c198r14) (.seq (aa c198r15) (.seq (ab c198r16 101 c198r17) (.seq (aa c198r18) (.seq (.seq (aa c198r19) (.cond (.t 104) (aa c198r20) .skip)) (.seq (.seq (aa c198r21) (.blk 2 (.loop (.seq (.seq (aa c198r22) (.cond (.t 112) .skip (.exit 2))) (.seq (.blk 3 (.seq (aa c198r23) (.seq (aa c198r24) (.seq (aa c198r25) (aa c198r26))))) (aa c198r27)))))) (.seq (.rgW c198r28) .ret))))))))))))))))
def v198:JZ:=([2,12],[2,12,118,134,141,146])
def o198:J1:=[.r 2 (some 10),.c 3 none]
def c199r0:JV:=[aG 1 0,af 2 0]
def c199r1:JV:=[ah 1,ai 5 1 0,au 6 215 5,aN 7 6,ac 3 7]
def c199r2:JV:=[ah 1,ai 9 1 4,au 10 215 9,aN 11 10,ac 3 11]
def c199r3:JV:=[ah 1,ai 13 1 1,dp 14 13,ah 1,ai 16 1 2,dp 17 16,bZ 18 14 17,bw 19 18 64,ac 3 19]
def c199r4:JV:=[af 2 1]
def c199r5:JV:=[ah 1,ai 22 1 3,ac 23 22,aO 23 1,aP 23 25 1 1,⟨some (23,true),.bin 26 .eql (.t 25) (.v (.string ⟨#[]⟩)),none,26⟩,aD 23 27 26,az 27 1,aA 27 29 1 2,⟨some (27,false),.bin 30 .neq (.t 29) (.v (.string ⟨#[]⟩)),none,30⟩,bC 23 31 27 30,aI 32 23 31,ac 20 32]
def c199r6:JV:=[af 2 1]
def c199r7:JV:=[af 2 0]
def c199:SC:=(.seq (aa c199r0) (.seq (.blk 0 (.seq (.seq (aa c199r1) (.cond (.t 3) .skip (.seq (aa c199r2) (.cond (.t 3) .skip (aa c199r3))))) (.cond (.t 3) (.seq (aa c199r4) .ret) (ab c199r5 20 c199r6)))) (.seq (aa c199r7) .ret)))
def v199:JZ:=([1],[1,4,8,12,15,21,24,28])
def o199:J1:=[.t 2]
theorem s199 : gu Tryz.prog Tryz.f199.ntmps v199.1 v199.2 ((Tryz.f199.body).getD .skip) = some c199 := by kernel_rfl
theorem q199 : fA Tryz.prog Tryz.f199.ntmps v199.1 v199.2 Tryz.f199.results.toList = some o199 := by kernel_rfl
def c200r0:JV:=[aL 4]
def c200r1:JV:=[ac 7 1,bu 8 7,⟨none,.bin 9 .shl (.t 8) (.v (.int .u64 1)),none,0⟩,ac 10 1,bU 11 10 63,bu 12 11,cE 13 9 12,ac 5 13]
def c200r2:JV:=[ac 14 0,au 15 194 14,ac 6 15]
def c200r3:JV:=[ac 16 5,dD 17 16 128]
def c200r4:JV:=[ac 20 6,ac 21 5,bF 22 21,⟨none,.bin 23 .or (.t 22) (.v (.int .u8 128)),none,0⟩,bW 24 5 1 1 0 1 23,aQ 25 20 24 5 1 1,ac 6 25]
def c200r5:JV:=[ac 18 5,bU 19 18 7,ac 5 19]
def c200r6:JV:=[ac 26 6,ac 27 5,bF 28 27,bW 29 5 1 1 0 1 28,aQ 30 26 29 5 1 1,ac 4 30]
def c200:SC:=(.seq (aa c200r0) (.seq (aa c200r1) (.seq (aa c200r2) (.seq (.blk 0 (.loop (.seq (.seq (aa c200r3) (.cond (.t 17) .skip (.exit 0))) (.seq (.blk 1 (aa c200r4)) (aa c200r5))))) (.seq (aa c200r6) .ret)))))
def v200:JZ:=([],[])
def o200:J1:=[.t 4]
theorem s200 : gu Tryz.prog Tryz.f200.ntmps v200.1 v200.2 ((Tryz.f200.body).getD .skip) = some c200 := by kernel_rfl
theorem q200 : fA Tryz.prog Tryz.f200.ntmps v200.1 v200.2 Tryz.f200.results.toList = some o200 := by kernel_rfl
def c201r0:JV:=[aG 3 0,aL 6,af 7 0]
def c201r1:JV:=[ar 11 3 0 5,au 12 199 11,ac 8 12]
def c201r2:JV:=[ac 13 8,aM 14 13 0]
def c201r3:JV:=[ac 15 8,aL 6,ac 7 15]
def c201r4:JV:=[ac 16 1,au 17 215 16,aN 18 17,ac 19 18,av 19 20 2,aY 19 21 215 20,aT 19 22 21,aq 23 19 22]
def c201r5:JV:=[aL 6,af 7 1]
def c201r6:JV:=[⟨none,.mv 9 (.v (.int .u8 0)),none,0⟩]
def c201r7:JV:=[ah 3,ai 25 3 3]
def c201r8:JV:=[⟨none,.mv 9 (.v (.int .u8 1)),none,0⟩]
def c201r9:List (Bool × SI):=[(true,ah 3),(true,ai 27 3 0),(true,ac 28 1),(true,bd 29 27 28),(true,ah 3),(true,ai 32 3 4),(true,ac 33 2),(true,bd 34 32 33),(false,da 30 200 29),(false,aB 35 200 30 34),(true,ac 10 35)]
def c201r10:List (Bool × SI):=[(true,ac 36 10),(true,ac 37 9),(true,ah 3),(true,ai 41 3 1),(true,ah 3),(true,ai 44 3 2),(false,bW 38 5 1 1 0 1 37),(false,aQ 39 36 38 5 1 1),(false,aB 42 216 39 41),(false,aB 45 216 42 44),(true,ac 6 45),(true,af 7 0)]
def c201:SC:=(.seq (aa c201r0) (.seq (.seq (aa c201r1) (ab c201r2 14 c201r3)) (.seq (ab c201r4 23 c201r5) (.seq (aa c201r6) (.seq (.seq (aa c201r7) (.cond (.t 25) (aa c201r8) .skip)) (.seq (.rgX c201r9) (.seq (.rgX c201r10) .ret)))))))
def v201:JZ:=([3],[3,24,26,31,40,43])
def o201:J1:=[.t 6,.t 7]
theorem s201 : gu Tryz.prog Tryz.f201.ntmps v201.1 v201.2 ((Tryz.f201.body).getD .skip) = some c201 := by kernel_rfl
theorem q201 : fA Tryz.prog Tryz.f201.ntmps v201.1 v201.2 Tryz.f201.results.toList = some o201 := by kernel_rfl
def c202r0:JV:=[aL 2]
def c202r1:JV:=[ac 3 0,dF 4 3 5 1 1,ac 5 0,au 6 211 5,bu 7 6,cm 8 203 4 7 4,ac 2 8]
def c202:SC:=(.seq (aa c202r0) (.seq (aa c202r1) .ret))
def v202:JZ:=([],[])
def o202:J1:=[.t 2]
theorem s202 : gu Tryz.prog Tryz.f202.ntmps v202.1 v202.2 ((Tryz.f202.body).getD .skip) = some c202 := by kernel_rfl
theorem q202 : fA Tryz.prog Tryz.f202.ntmps v202.1 v202.2 Tryz.f202.results.toList = some o202 := by kernel_rfl
def c203r0:JV:=[aL 6]
def c203r1:JV:=[ac 9 0,au 10 194 9,ac 7 10]
def c203r2:JV:=[ac 11 2,aS 12 11 1,ac 13 12,av 13 14 2,aR 13 15 14 8,aq 16 13 15]
def c203r3:JV:=[ac 17 7,ac 6 17]
def c203r4:JV:=[ac 18 2,bA 19 18 1,⟨none,.bin 20 .mul (.i 8) (.t 19),none,0⟩,ac 8 20]
def c203r5:JV:=[ac 21 8,bf 22 21 0]
def c203r6:JV:=[ac 25 7,ac 26 1,ac 27 8,⟨none,.bin 28 .shr (.t 26) (.t 27),none,0⟩,bF 29 28,bW 30 5 1 1 0 1 29,aQ 31 25 30 5 1 1,ac 7 31]
def c203r7:JV:=[ac 23 8,bA 24 23 8,ac 8 24]
def c203r8:JV:=[ac 32 7,ac 6 32]
def c203:SC:=(.seq (aa c203r0) (.seq (aa c203r1) (.seq (ab c203r2 16 c203r3) (.seq (.seq (aa c203r4) (.blk 0 (.loop (.seq (.seq (aa c203r5) (.cond (.t 22) .skip (.exit 0))) (.seq (.blk 1 (aa c203r6)) (aa c203r7)))))) (.seq (aa c203r8) .ret)))))
def v203:JZ:=([],[])
def o203:J1:=[.t 6]
theorem s203 : gu Tryz.prog Tryz.f203.ntmps v203.1 v203.2 ((Tryz.f203.body).getD .skip) = some c203 := by kernel_rfl
theorem q203 : fA Tryz.prog Tryz.f203.ntmps v203.1 v203.2 Tryz.f203.results.toList = some o203 := by kernel_rfl
def c204r0:JV:=[aC 4]
def c204r1:JV:=[aj 5 1,ac 6 0,aE 7 5 6 2,ao 8 7 0,aj 9 8,aj 10 2,bN 11 9 10,ac 4 11]
def c204:SC:=(.seq (aa c204r0) (.seq (.reg true c204r1) .ret))
def v204:JZ:=([],[])
def o204:J1:=[.t 4]
def c205r0:JV:=[cn 4 0]
def c205r1:JV:=[af 5 0]
def c205r2:JV:=[ac 6 5,ac 7 1,aJ 8 6 7]
def c205r3:JV:=[ac 11 0,au 12 217 11,ac 0 12]
def c205r4:JV:=[ac 9 5,aF 10 9 1,ac 5 10]
def c205r5:JV:=[ac 13 0,ac 4 13]
def c205:SC:=(.seq (aa c205r0) (.seq (.seq (aa c205r1) (.blk 0 (.loop (.seq (.seq (aa c205r2) (.cond (.t 8) .skip (.exit 0))) (.seq (.blk 1 (aa c205r3)) (aa c205r4)))))) (.seq (aa c205r5) .ret)))
def v205:JZ:=([],[])
def o205:J1:=[.t 4]
theorem s205 : gu Tryz.prog Tryz.f205.ntmps v205.1 v205.2 ((Tryz.f205.body).getD .skip) = some c205 := by kernel_rfl
theorem q205 : fA Tryz.prog Tryz.f205.ntmps v205.1 v205.2 Tryz.f205.results.toList = some o205 := by kernel_rfl
def c206r0:JV:=[aG 2 0,aC 4]
def c206r1:JV:=[ah 2,ai 6 2 1,ac 7 1,⟨none,.bin 8 .leq (.t 6) (.t 7),none,0⟩,ac 9 8,aD 9 10 1,a8 9 11 2 0 3,a0 9 12 63 11,cA 9 13 10 12,aI 14 9 13,ac 4 14]
def c206:SC:=(.seq (aa c206r0) (.seq (aa c206r1) .ret))
def v206:JZ:=([2],[2,5])
def o206:J1:=[.t 4]
def c207r0:JV:=[bO 6 0,af 7 0]
def c207r1:JV:=[ac 10 2,aS 11 10 1,ac 12 11,av 12 13 2,aR 12 14 13 8,aq 15 12 14,ac 16 15,av 16 17 1,bi 16 18 17 0,aq 19 16 18]
def c207r2:JV:=[bO 6 0,af 7 1]
def c207r3:JV:=[ac 20 1,ac 21 0,aw 22 21,bN 23 20 22,ac 24 23,av 24 25 0,aV 24 26 25,av 24 27 1,dA 24 28 26 27,av 24 29 2,cS 24 30 28 29,aq 31 24 30]
def c207r4:JV:=[bO 6 0,af 7 10]
def c207r5:JV:=[bO 8 0]
def c207r6:JV:=[ac 32 2,af 33 0]
def c207r7:JV:=[aJ 34 33 32]
def c207r8:JV:=[ac 35 33,ac 9 35]
def c207r9:JV:=[ac 36 8,⟨none,.bin 37 .mul (.t 36) (.v (.int .u64 256)),none,0⟩,ac 38 0,ac 39 1,ac 40 9,aX 41 39 40,aE 42 38 41 1,aj 43 42,bu 44 43,aX 45 37 44,ac 8 45]
def c207r10:JV:=[aF 46 33 1,ac 33 46]
def c207r11:JV:=[ac 47 8,ac 6 47,af 7 0]
def c207:SC:=(.seq (aa c207r0) (.seq (ab c207r1 19 c207r2) (.seq (ab c207r3 31 c207r4) (.seq (aa c207r5) (.seq (.seq (aa c207r6) (.blk 0 (.loop (.seq (aa c207r7) (.seq (.cond (.t 34) .skip (.exit 0)) (.seq (.blk 1 (.seq (aa c207r8) (aa c207r9))) (aa c207r10))))))) (.seq (aa c207r11) .ret))))))
def v207:JZ:=([],[])
def o207:J1:=[.t 6,.t 7]
def c208r0:JV:=[aL 2,af 3 0]
def c208r1:JV:=[ac 7 0,aw 8 7,bA 9 8 4,ac 4 9]
def c208r2:JV:=[ac 10 4,aS 11 10 0]
def c208r3:JV:=[aL 2,af 3 10]
def c208r4:JV:=[ac 12 0,ac 13 4,bB 14 12 13 1,au 15 187 14,au 16 186 15,ac 5 16]
def c208r5:JV:=[af 6 0]
def c208r6:JV:=[ac 17 6,aS 18 17 4]
def c208r7:JV:=[ac 21 0,ac 22 4,ac 23 6,aX 24 22 23,aE 25 21 24 1,aj 26 25,ac 27 5,ac 28 6,aE 29 27 28 1,aj 30 29,bP 31 26 30]
def c208r8:JV:=[aL 2,af 3 20]
def c208r9:JV:=[ac 19 6,aF 20 19 1,ac 6 20]
def c208r10:JV:=[cf 32,ac 33 0,ac 34 4,bB 35 33 34 1,aQ 36 32 35 5 1 1,ac 2 36,af 3 0]
def c208:SC:=(.seq (aa c208r0) (.seq (aa c208r1) (.seq (ab c208r2 11 c208r3) (.seq (aa c208r4) (.seq (.seq (aa c208r5) (.blk 0 (.loop (.seq (.seq (aa c208r6) (.cond (.t 18) .skip (.exit 0))) (.seq (.blk 1 (.seq (.reg true c208r7) (.cond (.t 31) (.seq (aa c208r8) .ret) .skip))) (aa c208r9)))))) (.seq (aa c208r10) .ret))))))
def v208:JZ:=([],[])
def o208:J1:=[.t 2,.t 3]
def c209r0:JV:=[bg 2,aC 3]
def c209r1:JV:=[bg 4]
def c209r2:JV:=[af 5 0]
def c209r3:JV:=[⟨none,.bld 21 [(.int .i64 0),(.int .i64 0),(.int .i64 0),(.int .i64 0),(.int .i64 0),(.int .i64 0),(.int .i64 0)] [],none,0⟩,dQ 6,aH 6 7 21]
def c209r4:JV:=[af 22 0]
def c209r5:JV:=[aS 23 22 7]
def c209r6:JV:=[ac 24 22,ac 7 24]
def c209r7:JV:=[ac 26 0,ac 27 5,aB 28 218 26 27,ac 25 28,ak 29 25 0,ak 30 25 1,ak 31 25 2,ac 8 29,ac 9 30,ac 10 31]
def c209r8:JV:=[ac 32 10,aM 33 32 0]
def c209r9:JV:=[ar 34 4 0 10,am 2 0 10 34,aC 3]
def c209r10:JV:=[ac 35 7,ac 36 8,cU 37 6 35 7 1,aH 37 1 36]
def c209r11:JV:=[ac 38 9,ac 5 38]
def c209r12:JV:=[aF 39 22 1,ac 22 39]
def c209r13:JV:=[ac 41 0,ac 42 5,cm 43 207 41 42 1,ac 40 43,ak 44 40 0,ak 45 40 1,ac 11 44,ac 12 45]
def c209r14:JV:=[ac 46 12,aM 47 46 0,ac 48 47,av 48 49 11,dG 48 50 49 7,aq 51 48 50]
def c209r15:JV:=[ar 52 4 0 10,am 2 0 10 52,aC 3]
def c209r16:JV:=[ac 54 0,ac 55 5,aF 56 55 1,aB 57 218 54 56,ac 53 57,ak 58 53 0,ak 59 53 1,ak 60 53 2,ac 13 58,ac 5 59,ac 12 60]
def c209r17:JV:=[ac 61 12,aM 62 61 0,ac 63 62,av 63 64 13,bi 63 65 64 0,aq 66 63 65,ac 67 66,av 67 68 13,aR 67 69 68 16,aq 70 67 69,ac 71 70,cp 71 72 6 1 7 1,aW 71 73 72,bi 71 74 73 0,aq 75 71 74,ac 76 75,cp 76 77 6 1 7 1,aW 76 78 77,aR 76 79 78 16,aq 80 76 79,ac 81 80,cp 81 82 6 0 7 1,aW 81 83 82,bi 81 84 83 0,aq 85 81 84,ac 86 85,cp 86 87 6 0 7 1,aW 86 88 87,aR 86 89 88 1099511627776,aq 90 86 89]
def c209r18:JV:=[ar 91 4 0 10,am 2 0 10 91,aC 3]
def c209r19:JV:=[bo 92 6 0 7 1,aj 93 92,bo 94 6 0 7 1,aj 95 94,bo 96 6 1 7 1,aj 97 96,aX 98 95 97,bo 99 6 2 7 1,aj 100 99,bo 101 6 3 7 1,aj 102 101,bo 103 6 4 7 1,aj 104 103,bo 105 6 5 7 1,aj 106 105,bo 107 6 6 7 1,aj 108 107,ac 109 11,dD 110 109 4,ac 111 11,dl 112 111 4,bR 113 112,⟨none,.bld 114 [(.int .i64 0),(.int .i64 0),(.int .i64 0),(.int .i64 0),(.int .i64 0),(.int .i64 0),(.int .i64 0),(.bool false),(.int .i64 0),(.slice none 0 0)] [(0,1,(.t 93)),(1,1,(.t 98)),(2,1,(.t 100)),(3,1,(.t 102)),(4,1,(.t 104)),(5,1,(.t 106)),(6,1,(.t 108)),(7,1,(.t 110)),(8,1,(.t 113))],none,0⟩,am 4 0 10 114]
def c209r20:JV:=[af 14 0]
def c209r21:JV:=[ac 115 13,bw 116 115 0]
def c209r22:JV:=[ac 118 0,ac 119 5,aB 120 218 118 119,ac 117 120,ak 121 117 0,ak 122 117 1,ak 123 117 2,ac 15 121,ac 16 122,ac 17 123]
def c209r23:JV:=[ac 124 17,aM 125 124 0]
def c209r24:JV:=[ar 126 4 0 10,am 2 0 10 126,aC 3]
def c209r25:JV:=[ac 127 15,ac 14 127]
def c209r26:JV:=[ac 128 16,ac 5 128]
def c209r27:JV:=[ac 129 13,af 130 0]
def c209r28:JV:=[aJ 131 130 129]
def c209r29:JV:=[ac 133 0,ac 134 5,ah 4,ai 136 4 0,ac 137 14,cZ 138 219 133 134 136 137,ac 132 138,ak 139 132 0,ak 140 132 1,ak 141 132 2,bV 18,am 18 0 5 139,ac 19 140,ac 20 141]
def c209r30:JV:=[ac 142 20,aM 143 142 0]
def c209r31:JV:=[ar 144 4 0 10,am 2 0 10 144,aC 3]
def c209r32:JV:=[ah 4,ai 146 4 9,ar 147 18 0 5,dR 148 103 1 5 0 5 147,aQ 149 146 148 103 5 56,ah 4,am 4 9 1 149]
def c209r33:JV:=[ac 151 19,ac 5 151]
def c209r34:JV:=[aF 152 130 1,ac 130 152]
def c209r35:List WI:=[(true,false,ar 153 4 0 10),(true,false,ac 154 5),(true,false,ac 155 0),(true,false,aw 156 155),(true,false,bn 157 154 156),(true,false,ac 158 157),(true,false,aD 158 159 13),(true,false,bc 158 160 159 0),(true,false,aD 158 161 160),(true,false,az 161 4),(true,false,aA 161 163 4 9),(true,false,dw 161 164 163 0 5),(true,false,bJ 161 165 164 4),(true,false,aW 161 166 165),(true,false,av 161 167 14),(true,false,⟨some (161,false),.bin 168 .eql (.t 166) (.t 167),none,168⟩),(true,false,bC 158 169 161 168),(true,false,aI 170 158 169),(false,false,am 2 0 10 153),(true,false,ac 3 170)]
def c209:SC:=(.seq (aa c209r0) (.seq (aa c209r1) (.seq (aa c209r2) (.seq (aa c209r3) (.seq (.seq (aa c209r4) (.blk 0 (.loop (.seq (aa c209r5) (.seq (.cond (.t 23) .skip (.exit 0)) (.seq (.blk 1 (.seq (aa c209r6) (.seq (aa c209r7) (.seq (ab c209r8 33 c209r9) (.seq (aa c209r10) (aa c209r11)))))) (aa c209r12))))))) (.seq (aa c209r13) (.seq (ab c209r14 51 c209r15) (.seq (aa c209r16) (.seq (ab c209r17 90 c209r18) (.seq (aa c209r19) (.seq (aa c209r20) (.seq (.seq (aa c209r21) (.cond (.t 116) (.seq (aa c209r22) (.seq (ab c209r23 125 c209r24) (.seq (aa c209r25) (aa c209r26)))) .skip)) (.seq (.seq (aa c209r27) (.blk 2 (.loop (.seq (aa c209r28) (.seq (.cond (.t 131) .skip (.exit 2)) (.seq (.blk 3 (.seq (aa c209r29) (.seq (ab c209r30 143 c209r31) (.seq (aa c209r32) (aa c209r33))))) (aa c209r34))))))) (.seq (.rgW c209r35) .ret))))))))))))))
def v209:JZ:=([2,4,18],[2,4,18,135,145,150,162])
def o209:J1:=[.r 2 (some 10),.t 3]
def c210r0:JV:=[aL 4]
def c210r1:JV:=[ac 5 0,ac 6 1,ac 7 0,aw 8 7,bT 9 6 8,dj 10 5 9 1,ac 4 10]
def c210:SC:=(.seq (aa c210r0) (.seq (aa c210r1) .ret))
def v210:JZ:=([],[])
def o210:J1:=[.t 4]
def c211r0:JV:=[cn 2 0]
def c211r1:JV:=[cF 7 220,ac 3 7]
def c211r2:JV:=[cn 4 4294967295]
def c211r3:JV:=[ac 8 0,aw 9 8,af 10 0]
def c211r4:JV:=[aJ 11 10 9]
def c211r5:JV:=[aE 12 8 10 1,aj 13 12,ac 6 13]
def c211r6:JV:=[ac 14 3,ac 15 4,ac 16 6,ck 17 14 15 16,ac 4 17]
def c211r7:JV:=[aF 18 10 1,ac 10 18]
def c211r8:JV:=[ac 19 4,⟨none,.un 20 .xor (.t 19),none,0⟩,ac 2 20]
def c211:SC:=(.seq (aa c211r0) (.seq (aa c211r1) (.seq (aa c211r2) (.seq (.seq (aa c211r3) (.blk 0 (.loop (.seq (aa c211r4) (.seq (.cond (.t 11) .skip (.exit 0)) (.seq (.blk 1 (.seq (aa c211r5) (aa c211r6))) (aa c211r7))))))) (.seq (aa c211r8) .ret)))))
def v211:JZ:=([],[])
def o211:J1:=[.t 2]
theorem s211 : gu Tryz.prog Tryz.f211.ntmps v211.1 v211.2 ((Tryz.f211.body).getD .skip) = some c211 := by kernel_rfl
theorem q211 : fA Tryz.prog Tryz.f211.ntmps v211.1 v211.2 Tryz.f211.results.toList = some o211 := by kernel_rfl
def c212r0:JV:=[af 3 0]
def c212r1:JV:=[aj 8 0,aj 9 1,aB 10 213 8 9,ac 7 10,ak 11 7 0,ak 12 7 1,ak 13 7 2,ac 4 11,ac 5 12,ac 6 13]
def c212r2:JV:=[ac 14 6,aM 15 14 0]
def c212r3:JV:=[dh 2 1]
def c212r4:JV:=[af 3 0]
def c212r5:JV:=[ac 16 5,aH 1 1 16]
def c212r6:JV:=[ac 17 4,ac 3 17]
def c212:SC:=(.seq (aa c212r0) (.seq (aa c212r1) (.seq (.seq (aa c212r2) (.cond (.t 15) (.seq (aa c212r3) (.seq (aa c212r4) .ret)) .skip)) (.seq (aa c212r5) (.seq (aa c212r6) .ret)))))
def v212:JZ:=([],[])
def o212:J1:=[.t 3]
def c213r0:JV:=[af 4 0,af 5 0,af 6 0]
def c213r1:JV:=[ac 10 1,aS 11 10 0]
def c213r2:JV:=[af 4 0,af 5 0,af 6 1]
def c213r3:JV:=[bO 7 0]
def c213r4:JV:=[ac 12 0,ac 13 1,aB 14 210 12 13,aw 15 14,af 16 0]
def c213r5:JV:=[aJ 17 16 15]
def c213r6:JV:=[ac 18 16,aE 19 14 16 1,aj 20 19,ac 8 18,ac 9 20]
def c213r7:JV:=[ac 21 8,aZ 22 21 9,ac 23 22,aD 23 24 9,⟨some (23,true),.bin 25 .gtr (.t 24) (.v (.int .u8 1)),none,25⟩,aI 26 23 25,ac 27 26,av 27 28 8,aR 27 29 28 0,av 27 30 29,aD 30 31 9,⟨some (30,true),.bin 32 .eql (.t 31) (.v (.int .u8 0)),none,32⟩,bp 27 33 30 32,aq 34 27 33]
def c213r8:JV:=[af 4 0,af 5 0,af 6 11]
def c213r9:JV:=[ac 35 7,ac 36 9,⟨none,.bin 37 .and (.t 36) (.v (.int .u8 127)),none,0⟩,bu 38 37,ac 39 8,⟨none,.bin 40 .mul (.i 7) (.t 39),none,0⟩,⟨none,.bin 41 .shl (.t 38) (.t 40),none,0⟩,⟨none,.bin 42 .or (.t 35) (.t 41),none,0⟩,ac 7 42]
def c213r10:JV:=[ac 43 9,⟨none,.bin 44 .lss (.t 43) (.v (.int .u8 128)),none,0⟩]
def c213r11:JV:=[ac 45 7,bU 46 45 1,bR 47 46,ac 48 7,⟨none,.bin 49 .and (.t 48) (.v (.int .u64 1)),none,0⟩,bR 50 49,dk 51 50,cE 52 47 51,ac 53 1,ac 54 8,aX 55 53 54,aF 56 55 1,ac 4 52,ac 5 56,af 6 0]
def c213r12:JV:=[aF 57 16 1,ac 16 57]
def c213r13:JV:=[af 4 0,af 5 0,af 6 10]
def c213:SC:=(.seq (aa c213r0) (.seq (ab c213r1 11 c213r2) (.seq (aa c213r3) (.seq (.seq (aa c213r4) (.blk 0 (.loop (.seq (aa c213r5) (.seq (.cond (.t 17) .skip (.exit 0)) (.seq (.blk 1 (.seq (aa c213r6) (.seq (ab c213r7 34 c213r8) (.seq (aa c213r9) (ab c213r10 44 c213r11))))) (aa c213r12))))))) (.seq (aa c213r13) .ret)))))
def v213:JZ:=([],[])
def o213:J1:=[.t 4,.t 5,.t 6]
def c214r0:JV:=[bV 8,af 9 0,af 10 0]
def c214r1:JV:=[ac 13 2,au 14 215 13,aN 15 14,ac 16 15,av 16 17 3,aY 16 18 215 17,aT 16 19 18,aq 20 16 19,ac 21 20,av 21 22 1,bi 21 23 22 0,aq 24 21 23,ac 25 24,av 25 26 1,av 25 27 0,aV 25 28 27,bK 25 29 26 28,aq 30 25 29]
def c214r2:JV:=[dI 31,am 8 0 5 31,af 9 0,af 10 1]
def c214r3:JV:=[ac 32 0,ac 33 1,⟨none,.bld 34 [(.slice none 0 0),(.int .i64 0),(.int .i64 0)] [(0,1,(.t 32)),(1,1,(.t 33))],none,0⟩,aU 35 34,ac 11 35]
def c214r4:JV:=[⟨none,.mv 12 (.v (.func (.func 221) #[] #[])),none,0⟩]
def c214r5:JV:=[ac 36 2,ac 37 11,dJ 38 224 37 213,aB 39 223 36 38,ah 8,am 8 0 1 39]
def c214r6:JV:=[ac 41 3,ac 42 11,dJ 43 224 42 213,aB 44 223 41 43,ah 8,am 8 4 1 44]
def c214r7:JV:=[ac 46 11,dJ 47 225 46 226,ah 8,am 8 3 1 47]
def c214r8:JV:=[ac 49 11,ac 50 12,aB 51 227 49 50,ac 52 11,ac 53 12,aB 54 227 52 53,ah 8,am 8 1 1 51,ah 8,am 8 2 1 54]
def c214r9:JV:=[ac 57 11,ay 58 57,ao 59 58 2,aj 60 59,aZ 61 60 0]
def c214r10:JV:=[ac 62 11,ar 63 8 0 5,au 64 199 63,ay 65 62,ao 66 65 2,aH 66 1 64]
def c214r11:JV:=[ac 67 11,ay 68 67,ao 69 68 2,aj 70 69,aM 71 70 0]
def c214r12:List WI:=[(true,false,dI 72),(true,false,ac 73 11),(true,false,ay 74 73),(true,false,ao 75 74 2),(true,false,aj 76 75),(false,false,am 8 0 5 72),(true,false,af 9 0),(true,false,ac 10 76)]
def c214r13:List WI:=[(true,false,ar 77 8 0 5),(true,false,ac 78 11),(true,false,ay 79 78),(true,false,ao 80 79 1),(true,false,aj 81 80),(false,false,am 8 0 5 77),(true,false,ac 9 81),(true,false,af 10 0)]
def c214:SC:=(.seq (aa c214r0) (.seq (ab c214r1 30 c214r2) (.seq (aa c214r3) (.seq (aa c214r4) (.seq (aa c214r5) (.seq (aa c214r6) (.seq (aa c214r7) (.seq (aa c214r8) (.seq (.seq (aa c214r9) (.cond (.t 61) (aa c214r10) .skip)) (.seq (.seq (aa c214r11) (.cond (.t 71) (.seq (.rgW c214r12) .ret) .skip)) (.seq (.rgW c214r13) .ret)))))))))))
def v214:JZ:=([8],[8,40,45,48,55,56])
def o214:J1:=[.r 8 (some 5),.t 9,.t 10]
def c215r0:JV:=[aC 2]
def c215r1:JV:=[ac 3 0,bf 4 3 0,ac 5 4,aD 5 6 0,bE 5 7 6 1099511627776,aI 8 5 7,ac 2 8]
def c215:SC:=(.seq (aa c215r0) (.seq (aa c215r1) .ret))
def v215:JZ:=([],[])
def o215:J1:=[.t 2]
theorem s215 : gu Tryz.prog Tryz.f215.ntmps v215.1 v215.2 ((Tryz.f215.body).getD .skip) = some c215 := by kernel_rfl
theorem q215 : fA Tryz.prog Tryz.f215.ntmps v215.1 v215.2 Tryz.f215.results.toList = some o215 := by kernel_rfl
def c216r0:JV:=[aL 4]
def c216r1:JV:=[ac 5 0,ac 6 1,dp 7 6,aB 8 200 5 7,ac 9 1,aQ 10 8 9 5 1 1,ac 4 10]
def c216:SC:=(.seq (aa c216r0) (.seq (aa c216r1) .ret))
def v216:JZ:=([],[])
def o216:J1:=[.t 4]
theorem s216 : gu Tryz.prog Tryz.f216.ntmps v216.1 v216.2 ((Tryz.f216.body).getD .skip) = some c216 := by kernel_rfl
theorem q216 : fA Tryz.prog Tryz.f216.ntmps v216.1 v216.2 Tryz.f216.results.toList = some o216 := by kernel_rfl
def c217r0:JV:=[cn 2 0]
def c217r1:JV:=[ac 3 0,⟨none,.bin 4 .rem (.t 3) (.v (.int .u32 2)),none,0⟩,⟨none,.bin 5 .eql (.t 4) (.v (.int .u32 1)),none,0⟩]
def c217r2:JV:=[ac 6 0,cT 7 6 2,⟨none,.bin 8 .xor (.t 7) (.v (.int .u32 3988292384)),none,0⟩,ac 2 8]
def c217r3:JV:=[ac 9 0,cT 10 9 2,ac 2 10]
def c217:SC:=(.seq (aa c217r0) (.seq (ab c217r1 5 c217r2) (.seq (aa c217r3) .ret)))
def v217:JZ:=([],[])
def o217:J1:=[.t 2]
theorem s217 : gu Tryz.prog Tryz.f217.ntmps v217.1 v217.2 ((Tryz.f217.body).getD .skip) = some c217 := by kernel_rfl
theorem q217 : fA Tryz.prog Tryz.f217.ntmps v217.1 v217.2 Tryz.f217.results.toList = some o217 := by kernel_rfl
def c218r0:JV:=[af 4 0,af 5 0,af 6 0]
def c218r1:JV:=[ac 12 1,aS 13 12 0]
def c218r2:JV:=[af 4 0,af 5 0,af 6 1]
def c218r3:JV:=[bO 7 0]
def c218r4:JV:=[bO 8 1]
def c218r5:JV:=[af 9 0]
def c218r6:JV:=[ac 16 1,ac 17 0,aw 18 17,cC 19 16 18,ac 20 19,av 20 21 9,av 20 22 0,aV 20 23 22,av 20 24 1,dA 20 25 23 24,⟨some (20,false),.bin 26 .geq (.t 21) (.t 25),none,26⟩,aq 27 20 26]
def c218r7:JV:=[af 4 0,af 5 0,af 6 10]
def c218r8:JV:=[ac 28 0,ac 29 1,ac 30 9,aX 31 29 30,aE 32 28 31 1,aj 33 32,ac 10 33]
def c218r9:JV:=[ac 34 9,aZ 35 34 9,ac 36 35,aD 36 37 10,⟨some (36,true),.bin 38 .gtr (.t 37) (.v (.int .u8 1)),none,38⟩,aI 39 36 38,ac 40 39,av 40 41 9,aR 40 42 41 0,av 40 43 42,aD 43 44 10,⟨some (43,true),.bin 45 .eql (.t 44) (.v (.int .u8 0)),none,45⟩,bp 40 46 43 45,aq 47 40 46]
def c218r10:JV:=[af 4 0,af 5 0,af 6 11]
def c218r11:JV:=[ac 48 7,ac 49 8,ac 50 10,⟨none,.bin 51 .rem (.t 50) (.v (.int .u8 128)),none,0⟩,bu 52 51,⟨none,.bin 53 .mul (.t 49) (.t 52),none,0⟩,aX 54 48 53,ac 7 54]
def c218r12:JV:=[ac 55 8,⟨none,.bin 56 .mul (.t 55) (.v (.int .u64 128)),none,0⟩,ac 8 56]
def c218r13:JV:=[ac 57 10,⟨none,.bin 58 .lss (.t 57) (.v (.int .u8 128)),none,0⟩]
def c218r14:JV:=[ac 59 7,dE 60 59 2,bR 61 60,ac 11 61]
def c218r15:JV:=[ac 62 7,dl 63 62 2,⟨none,.bin 64 .eql (.t 63) (.v (.int .u64 1)),none,0⟩]
def c218r16:JV:=[ac 65 11,dk 66 65,bA 67 66 1,ac 11 67]
def c218r17:JV:=[ac 68 11,ac 69 1,ac 70 9,aX 71 69 70,aF 72 71 1,ac 4 68,ac 5 72,af 6 0]
def c218r18:JV:=[ac 14 9,aF 15 14 1,ac 9 15]
def c218:SC:=(.seq (aa c218r0) (.seq (ab c218r1 13 c218r2) (.seq (aa c218r3) (.seq (aa c218r4) (.seq (aa c218r5) (.blk 0 (.loop (.seq (.blk 1 (.seq (ab c218r6 27 c218r7) (.seq (aa c218r8) (.seq (ab c218r9 47 c218r10) (.seq (aa c218r11) (.seq (aa c218r12) (.seq (aa c218r13) (.cond (.t 58) (.seq (aa c218r14) (.seq (.seq (aa c218r15) (.cond (.t 64) (aa c218r16) .skip)) (.seq (aa c218r17) .ret))) .skip)))))))) (aa c218r18)))))))))
def v218:JZ:=([],[])
def o218:J1:=[.t 4,.t 5,.t 6]
def c219r0:JV:=[bV 8,af 9 0,af 10 0]
def c219r1:JV:=[dI 25,bV 11,am 11 0 5 25]
def c219r2:JV:=[ac 26 2,au 27 184 26,aN 28 27,ac 29 28,av 29 30 3,aY 29 31 184 30,aT 29 32 31,aq 33 29 32,ac 34 33,av 34 35 1,bi 34 36 35 0,aq 37 34 36,ac 38 37,av 38 39 1,av 38 40 0,aV 38 41 40,bK 38 42 39 41,aq 43 38 42]
def c219r3:JV:=[ar 44 11 0 5,am 8 0 5 44,af 9 0,af 10 1]
def c219r4:JV:=[ac 46 0,ac 47 1,aB 48 218 46 47,ac 45 48,ak 49 45 0,ak 50 45 1,ak 51 45 2,ac 12 49,ac 13 50,ac 14 51]
def c219r5:JV:=[ac 52 14,aM 53 52 0]
def c219r6:JV:=[ar 54 11 0 5,ac 55 14,am 8 0 5 54,af 9 0,ac 10 55]
def c219r7:JV:=[ac 57 0,ac 58 13,aB 59 218 57 58,ac 56 59,ak 60 56 0,ak 61 56 1,ak 62 56 2,ac 15 60,ac 16 61,ac 17 62]
def c219r8:JV:=[ac 63 17,aM 64 63 0]
def c219r9:JV:=[ar 65 11 0 5,ac 66 17,am 8 0 5 65,af 9 0,ac 10 66]
def c219r10:JV:=[ac 67 16,ac 68 0,aw 69 68,cC 70 67 69]
def c219r11:JV:=[ar 71 11 0 5,am 8 0 5 71,af 9 0,af 10 10]
def c219r12:JV:=[ac 72 0,ac 73 16,aE 74 72 73 1,aj 75 74,⟨none,.bin 76 .gtr (.t 75) (.v (.int .u8 1)),none,0⟩]
def c219r13:JV:=[ar 77 11 0 5,am 8 0 5 77,af 9 0,af 10 11]
def c219r14:JV:=[ac 79 0,ac 80 16,aF 81 80 1,cm 82 228 79 81 64,ac 78 82,ak 83 78 0,ak 84 78 1,ak 85 78 2,ac 18 83,ac 19 84,ac 20 85]
def c219r15:JV:=[ac 86 20,aM 87 86 0]
def c219r16:JV:=[ar 88 11 0 5,ac 89 20,am 8 0 5 88,af 9 0,ac 10 89]
def c219r17:JV:=[ac 91 0,ac 92 19,cm 93 228 91 92 64,ac 90 93,ak 94 90 0,ak 95 90 1,ak 96 90 2,ac 21 94,ac 22 95,ac 23 96]
def c219r18:JV:=[ac 97 23,aM 98 97 0]
def c219r19:JV:=[ar 99 11 0 5,ac 100 23,am 8 0 5 99,af 9 0,ac 10 100]
def c219r20:RX:=.br [(true,ac 101 2),(true,ac 102 12),(true,ac 104 18),(true,ac 105 21),(true,ac 106 0),(true,ac 107 16),(true,aE 108 106 107 1),(true,aj 109 108),(true,⟨none,.bin 110 .eql (.t 109) (.v (.int .u8 1)),none,0⟩),(true,ac 111 3),(true,ac 112 15)] (aB 103 229 101 102) (.br [] (aB 113 229 111 112) (.leaf [(true,dK 114 0 1 103 1 1 104 2 1 105 3 1 110 4 1 113),(false,dL 24),(false,aH 24 5 114)]) (dL 24) (.leaf [(false,aB 113 229 111 112),(true,dK 114 0 1 103 1 1 104 2 1 105 3 1 110 4 1 113),(false,aH 24 5 114)])) (dL 24) (.leaf [(false,aB 103 229 101 102),(false,aB 113 229 111 112),(true,dK 114 0 1 103 1 1 104 2 1 105 3 1 110 4 1 113),(false,aH 24 5 114)])
def c219r21:JV:=[aK 115 24 5,au 116 161 115,aM 117 116 0]
def c219r22:JV:=[ar 118 11 0 5,am 8 0 5 118,af 9 0,af 10 1]
def c219r23:JV:=[aK 119 24 5,ac 120 22,am 8 0 5 119,ac 9 120,af 10 0]
def c219:SC:=(.seq (aa c219r0) (.seq (aa c219r1) (.seq (ab c219r2 43 c219r3) (.seq (aa c219r4) (.seq (ab c219r5 53 c219r6) (.seq (aa c219r7) (.seq (ab c219r8 64 c219r9) (.seq (ab c219r10 70 c219r11) (.seq (ab c219r12 76 c219r13) (.seq (aa c219r14) (.seq (ab c219r15 87 c219r16) (.seq (aa c219r17) (.seq (ab c219r18 98 c219r19) (.seq (.rgZ c219r20) (.seq (ab c219r21 117 c219r22) (.seq (aa c219r23) .ret))))))))))))))))
def v219:JZ:=([8,11],[8,11])
def o219:J1:=[.r 8 (some 5),.t 9,.t 10]
def c220r0:JV:=[cR 0]
def c220r1:JV:=[⟨none,.al 1 [(.int .u32 0),(.int .u32 0),(.int .u32 0),(.int .u32 0),(.int .u32 0),(.int .u32 0),(.int .u32 0),(.int .u32 0),(.int .u32 0),(.int .u32 0),(.int .u32 0),(.int .u32 0),(.int .u32 0),(.int .u32 0),(.int .u32 0),(.int .u32 0)],none,0⟩]
def c220r2:JV:=[af 3 0]
def c220r3:JV:=[aS 4 3 16]
def c220r4:JV:=[ac 5 3,ac 2 5]
def c220r5:JV:=[ac 6 2,ac 7 2,⟨none,.cvI 8 .u32 (.t 7),none,0⟩,au 9 230 8,cU 10 1 6 16 1,aH 10 1 9]
def c220r6:JV:=[aF 11 3 1,ac 3 11]
def c220r7:JV:=[cd 12 231 1,ac 0 12]
def c220:SC:=(.seq (aa c220r0) (.seq (aa c220r1) (.seq (.seq (aa c220r2) (.blk 0 (.loop (.seq (aa c220r3) (.seq (.cond (.t 4) .skip (.exit 0)) (.seq (.blk 1 (.seq (aa c220r4) (aa c220r5))) (aa c220r6))))))) (.seq (aa c220r7) .ret))))
def v220:JZ:=([],[])
def o220:J1:=[.t 0]
theorem s220 : gu Tryz.prog Tryz.f220.ntmps v220.1 v220.2 ((Tryz.f220.body).getD .skip) = some c220 := by kernel_rfl
theorem q220 : fA Tryz.prog Tryz.f220.ntmps v220.1 v220.2 Tryz.f220.results.toList = some o220 := by kernel_rfl
def c221r0:JV:=[bD 4,af 5 0,af 6 0]
def c221r1:JV:=[ac 7 0,ac 8 1,cm 9 222 7 8 64,ak 10 9 0,ak 11 9 1,ak 12 9 2,ac 4 10,ac 5 11,ac 6 12]
def c221:SC:=(.seq (aa c221r0) (.seq (aa c221r1) .ret))
def v221:JZ:=([],[])
def o221:J1:=[.t 4,.t 5,.t 6]
def c222r0:JV:=[bD 6,af 7 0,af 8 0]
def c222r1:JV:=[ac 11 0,ac 12 1,aB 13 213 11 12,ac 10 13,ak 14 10 0,ak 15 10 1,ak 16 10 2,ac 9 14,ac 7 15,ac 8 16]
def c222r2:JV:=[ac 18 8,aM 19 18 0,ac 17 19]
def c222r3:JV:=[ac 20 8,bD 6,af 7 0,ac 8 20]
def c222r4:JV:=[ac 22 9,aS 23 22 0,ac 21 23]
def c222r5:JV:=[bD 6,af 7 0,af 8 11]
def c222r6:JV:=[ac 25 9,ac 26 2,bN 27 25 26,ac 24 27]
def c222r7:JV:=[bD 6,af 7 0,af 8 2]
def c222r8:JV:=[ac 29 9,ac 30 0,aw 31 30,ac 32 7,bd 33 31 32,bN 34 29 33,ac 28 34]
def c222r9:JV:=[bD 6,af 7 0,af 8 10]
def c222r10:JV:=[ac 35 0,ac 36 7,ac 37 7,ac 38 9,aX 39 37 38,dH 40 35 36 39 1,dm 41 40,ac 42 7,ac 43 9,aX 44 42 43,ac 6 41,ac 7 44,af 8 0]
def c222:SC:=(.seq (aa c222r0) (.seq (aa c222r1) (.seq (.blk 0 (.seq (aa c222r2) (.cond (.t 17) (.seq (aa c222r3) .ret) (.seq (aa c222r4) (.cond (.t 21) (.seq (aa c222r5) .ret) (.seq (aa c222r6) (.cond (.t 24) (.seq (aa c222r7) .ret) (ab c222r8 28 c222r9)))))))) (.seq (aa c222r10) .ret))))
def v222:JZ:=([],[])
def o222:J1:=[.t 6,.t 7,.t 8]
def c223r0:JV:=[af 4 0]
def c223r1:JV:=[ac 5 1,⟨none,.bin 6 .lss (.t 5) (.i (-1099511627776)),none,0⟩,ac 7 6,av 7 8 1,aR 7 9 8 1099511627776,aq 10 7 9]
def c223r2:JV:=[cz 4]
def c223r3:JV:=[ac 11 0,ac 12 1,aX 13 11 12,ac 4 13]
def c223:SC:=(.seq (aa c223r0) (.seq (ab c223r1 10 c223r2) (.seq (aa c223r3) .ret)))
def v223:JZ:=([],[])
def o223:J1:=[.t 4]
def c224r0:JV:=[af 4 0]
def c224r1:JV:=[af 5 0]
def c224r2:JV:=[ac 6 0,ay 7 6,ao 8 7 2,aj 9 8,aZ 10 9 0]
def c224r3:List WI:=[(true,false,ac 12 0),(true,false,ac 13 0),(true,false,ac 14 1),(true,false,ac 15 0),(true,false,ay 16 15),(true,false,ao 17 16 0),(true,false,aj 18 17),(true,false,ac 19 0),(true,false,ay 20 19),(true,false,ao 21 20 1),(true,false,aj 22 21),(false,true,ck 23 14 18 22),(true,false,ac 11 23),(true,false,ak 24 11 0),(true,false,ak 25 11 1),(true,false,ak 26 11 2),(true,false,ac 5 24),(true,false,ay 27 12),(true,false,ao 28 27 1),(false,true,aH 28 1 25),(true,false,ay 29 13),(true,false,ao 30 29 2),(false,true,aH 30 1 26)]
def c224r4:JV:=[ac 31 5,ac 4 31]
def c224:SC:=(.seq (aa c224r0) (.seq (aa c224r1) (.seq (.seq (aa c224r2) (.cond (.t 10) (.rgW c224r3) .skip)) (.seq (aa c224r4) .ret))))
def v224:JZ:=([],[])
def o224:J1:=[.t 4]
def c225r0:JV:=[aC 4]
def c225r1:JV:=[aC 5]
def c225r2:JV:=[ac 6 0,ay 7 6,ao 8 7 2,aj 9 8,aZ 10 9 0]
def c225r3:List WI:=[(true,false,ac 12 0),(true,false,ac 13 0),(true,false,ac 14 1),(true,false,ac 15 0),(true,false,ay 16 15),(true,false,ao 17 16 0),(true,false,aj 18 17),(true,false,ac 19 0),(true,false,ay 20 19),(true,false,ao 21 20 1),(true,false,aj 22 21),(false,true,ck 23 14 18 22),(true,false,ac 11 23),(true,false,ak 24 11 0),(true,false,ak 25 11 1),(true,false,ak 26 11 2),(true,false,ac 5 24),(true,false,ay 27 12),(true,false,ao 28 27 1),(false,true,aH 28 1 25),(true,false,ay 29 13),(true,false,ao 30 29 2),(false,true,aH 30 1 26)]
def c225r4:JV:=[ac 31 5,ac 4 31]
def c225:SC:=(.seq (aa c225r0) (.seq (aa c225r1) (.seq (.seq (aa c225r2) (.cond (.t 10) (.rgW c225r3) .skip)) (.seq (aa c225r4) .ret))))
def v225:JZ:=([],[])
def o225:J1:=[.t 4]
def c226r0:JV:=[aC 4,af 5 0,af 6 0]
def c226r1:JV:=[ac 8 1,ac 9 0,aw 10 9,cC 11 8 10,ac 7 11]
def c226r2:JV:=[aC 4,af 5 0,af 6 10]
def c226r3:JV:=[ac 13 0,ac 14 1,aE 15 13 14 1,aj 16 15,⟨none,.bin 17 .gtr (.t 16) (.v (.int .u8 1)),none,0⟩,ac 12 17]
def c226r4:JV:=[aC 4,af 5 0,af 6 11]
def c226r5:JV:=[ac 18 0,ac 19 1,aE 20 18 19 1,aj 21 20,⟨none,.bin 22 .eql (.t 21) (.v (.int .u8 1)),none,0⟩,ac 23 1,aF 24 23 1,ac 4 22,ac 5 24,af 6 0]
def c226:SC:=(.seq (aa c226r0) (.seq (.blk 0 (.seq (aa c226r1) (.cond (.t 7) (.seq (aa c226r2) .ret) (ab c226r3 12 c226r4)))) (.seq (aa c226r5) .ret)))
def v226:JZ:=([],[])
def o226:J1:=[.t 4,.t 5,.t 6]
def c227r0:JV:=[bD 4]
def c227r1:JV:=[bD 5]
def c227r2:JV:=[ac 6 0,ay 7 6,ao 8 7 2,aj 9 8,aZ 10 9 0]
def c227r3:List WI:=[(true,false,ac 12 0),(true,false,ac 13 0),(true,false,ac 14 1),(true,false,ac 15 0),(true,false,ay 16 15),(true,false,ao 17 16 0),(true,false,aj 18 17),(true,false,ac 19 0),(true,false,ay 20 19),(true,false,ao 21 20 1),(true,false,aj 22 21),(false,true,ck 23 14 18 22),(true,false,ac 11 23),(true,false,ak 24 11 0),(true,false,ak 25 11 1),(true,false,ak 26 11 2),(true,false,ac 5 24),(true,false,ay 27 12),(true,false,ao 28 27 1),(false,true,aH 28 1 25),(true,false,ay 29 13),(true,false,ao 30 29 2),(false,true,aH 30 1 26)]
def c227r4:JV:=[ac 31 5,ac 4 31]
def c227:SC:=(.seq (aa c227r0) (.seq (aa c227r1) (.seq (.seq (aa c227r2) (.cond (.t 10) (.rgW c227r3) .skip)) (.seq (aa c227r4) .ret))))
def v227:JZ:=([],[])
def o227:J1:=[.t 4]
def c228r0:JV:=[bD 6,af 7 0,af 8 0]
def c228r1:JV:=[ac 13 0,ac 14 1,aB 15 218 13 14,ac 12 15,ak 16 12 0,ak 17 12 1,ak 18 12 2,ac 9 16,ac 10 17,ac 11 18]
def c228r2:JV:=[ac 19 11,aM 20 19 0]
def c228r3:JV:=[ac 21 11,bD 6,af 7 0,ac 8 21]
def c228r4:JV:=[ac 22 9,aS 23 22 0]
def c228r5:JV:=[bD 6,af 7 0,af 8 11]
def c228r6:JV:=[ac 24 9,ac 25 2,bN 26 24 25]
def c228r7:JV:=[bD 6,af 7 0,af 8 2]
def c228r8:JV:=[ac 27 0,aw 28 27,ac 29 10,bd 30 28 29,ac 31 9,aJ 32 30 31]
def c228r9:JV:=[bD 6,af 7 0,af 8 10]
def c228r10:JV:=[ac 33 0,ac 34 10,ac 35 10,ac 36 9,aX 37 35 36,dH 38 33 34 37 1,dm 39 38,ac 40 10,ac 41 9,aX 42 40 41,ac 6 39,ac 7 42,af 8 0]
def c228:SC:=(.seq (aa c228r0) (.seq (aa c228r1) (.seq (ab c228r2 20 c228r3) (.seq (ab c228r4 23 c228r5) (.seq (ab c228r6 26 c228r7) (.seq (ab c228r8 32 c228r9) (.seq (aa c228r10) .ret)))))))
def v228:JZ:=([],[])
def o228:J1:=[.t 6,.t 7,.t 8]
def c229r0:JV:=[af 4 0]
def c229r1:JV:=[ac 5 1,⟨none,.bin 6 .lss (.t 5) (.i (-1099511627776)),none,0⟩,ac 7 6,av 7 8 1,aR 7 9 8 1099511627776,aq 10 7 9,ac 11 10,av 11 12 0,av 11 13 1,di 11 14 12 13,aY 11 15 184 14,aT 11 16 15,aq 17 11 16]
def c229r2:JV:=[cz 4]
def c229r3:JV:=[ac 18 0,ac 19 1,aX 20 18 19,ac 4 20]
def c229:SC:=(.seq (aa c229r0) (.seq (ab c229r1 17 c229r2) (.seq (aa c229r3) .ret)))
def v229:JZ:=([],[])
def o229:J1:=[.t 4]
def c230r0:JV:=[cn 2 0]
def c230r1:JV:=[af 3 0]
def c230r2:JV:=[aS 4 3 4]
def c230r3:JV:=[ac 5 0,bU 6 5 1,ac 7 0,dM 8 7 1,dk 9 8,⟨none,.bin 10 .and (.v (.int .u32 3988292384)) (.t 9),none,0⟩,cE 11 6 10,ac 0 11]
def c230r4:JV:=[aF 12 3 1,ac 3 12]
def c230r5:JV:=[ac 13 0,ac 2 13]
def c230:SC:=(.seq (aa c230r0) (.seq (.seq (aa c230r1) (.blk 0 (.loop (.seq (aa c230r2) (.seq (.cond (.t 4) .skip (.exit 0)) (.seq (.blk 1 (aa c230r3)) (aa c230r4))))))) (.seq (aa c230r5) .ret)))
def v230:JZ:=([],[])
def o230:J1:=[.t 2]
theorem s230 : gu Tryz.prog Tryz.f230.ntmps v230.1 v230.2 ((Tryz.f230.body).getD .skip) = some c230 := by kernel_rfl
theorem q230 : fA Tryz.prog Tryz.f230.ntmps v230.1 v230.2 Tryz.f230.results.toList = some o230 := by kernel_rfl
def c231r0:JV:=[cn 5 0]
def c231r1:JV:=[ac 6 0,ac 7 1,⟨none,.cvI 8 .u32 (.t 7),none,0⟩,cE 9 6 8,ac 0 9]
def c231r2:JV:=[ac 10 0,dM 11 10 15,cU 12 2 11 16 1,aj 13 12,ac 14 0,bU 15 14 4,cE 16 13 15,ac 0 16]
def c231r3:JV:=[ac 17 0,dM 18 17 15,cU 19 2 18 16 1,aj 20 19,ac 21 0,bU 22 21 4,cE 23 20 22,ac 5 23]
def c231:SC:=(.seq (aa c231r0) (.seq (aa c231r1) (.seq (aa c231r2) (.seq (aa c231r3) .ret))))
def v231:JZ:=([],[])
def o231:J1:=[.t 5]
theorem s231 : gu Tryz.prog Tryz.f231.ntmps v231.1 v231.2 ((Tryz.f231.body).getD .skip) = some c231 := by kernel_rfl
theorem q231 : fA Tryz.prog Tryz.f231.ntmps v231.1 v231.2 Tryz.f231.results.toList = some o231 := by kernel_rfl
theorem F176:Fun Tryz.prog 176 5 v176 c176 o176:=Fun.mk' Tryz.func176 Tryz.ntmps176 (by kernel_rfl) (by kernel_rfl) s176 q176
theorem F194:Fun Tryz.prog 194 8 v194 c194 o194:=Fun.mk' Tryz.func194 Tryz.ntmps194 (by kernel_rfl) (by kernel_rfl) s194 q194
def UE(x:UInt8)(cs:JU):Prop:=cs=[.int .u8 (x.toNat:Int)]
theorem UE1:∀ (x:UInt8) cs,UE x cs→∀ u∈cs,u.oneCell'=true:=fun x cs h u hu=>by
 rw[h]at hu;simp at hu;subst hu;rfl
abbrev SB(G:JT)(v:Value)(l:J3):Prop:=SlV G UE 1 v l
abbrev pC(zs:J3)(L':JW)(r:Value):Prop:=wU UE 5 1 zs L' r
theorem SB.le{G G':JT}{v:Value}{l:J3}(h:SB G v l)(hg:Gle G G'):SB G' v l:=SlV.le h hg Kd
def sg(l:J3):JU:=l.map fun b=>.int .u8 (b.toNat:Int)
theorem m5:∀ (l:J3),Cells UE 1 l (sg l)
 | []=>.nil
 | b :: l=>.cons (cs:=[.int .u8 (b.toNat:Int)]) rfl rfl (m5 l)
theorem nr(s:ByteArray):byteCells s=sg s.data.toList:=rfl
theorem vv{P:Program}{h:H}{d:Nat}{l:JV}{e:Env}{K:J7}{u:Value}{b:Nat}{zs:J3}{zc:JU}{L1 L2:JW}{x:UInt8}{y:Int}(hL:h.L=.row (.slice (some ⟨b,0,none⟩) 1 1) 5 1 1 [.int .u8 y] :: L1++.row u 5 1 zs.length zc :: L2)(hy:y=(x.toNat:Int))
  (hc:Cells UE 1 zs zc) (hz:zs.length≤10000000)
  (hk:∀ A' c' zc',Cells UE 1 (zs++[x]) zc'→kR P l d e K (.slice A' (zs++[x]).length c') ⟨h.G,.row (.slice (some ⟨b,0,none⟩) 1 1) 5 1 1 [.int .u8 y] :: L1++.row (.slice A' (zs++[x]).length c') 5 1 (zs++[x]).length zc' :: L2,h.D⟩) :
  apX P u (.slice (some ⟨b,0,none⟩) 1 1) 5 1 1 d l e h K:=by
 subst hy;refine⟨.row (.slice (some ⟨b,0,none⟩) 1 1) 5 1 1 [.int .u8 (x.toNat:Int)] :: L1,zs.length,zc,L2,1,[.int .u8 (x.toNat:Int)],.inl hL,li (h:=h) (by rw[hL];exact .head _) (UE1 x _ rfl) rfl,by unfold maxLen;omega,fun A' c'=>?_⟩;have:=hk A' c' (zc++[.int .u8 (x.toNat:Int)]) (hc.app (.one (show UE x [.int .u8 (x.toNat:Int)]from rfl) rfl))
 simp only[length_append,List.length_cons,List.length_nil,Nat.zero_add]at this;exact this
theorem EM{P:Program}{h:H}{d:Nat}{l:JV}{e:Env}{K:J7}{u:Value}{s:ByteArray}{zs:J3}{zc:JU}{L1 L2:JW}(hr:yG h.L u 5 1 L1 zs.length zc L2)(hc:Cells UE 1 zs zc)(hz:zs.length+s.size≤10000000)
  (hk:∀ A' c' zc',Cells UE 1 (zs++s.data.toList) zc'→kR P l d e K (.slice A' (zs++s.data.toList).length c') { h with L:=L1++.row (.slice A' (zs++s.data.toList).length c') 5 1 (zs++s.data.toList).length zc' :: L2 }) :
  apX P u (.string s) 5 1 1 d l e h K:=by
 refine⟨L1,zs.length,zc,L2,s.size,sg s.data.toList,hr,⟨fun u hu=>?_,?_,.inr (.inr ⟨s,rfl,rfl,nr s,rfl⟩)⟩,by unfold maxLen;omega,fun A' c'=>?_⟩
 ·simp[sg]at hu;obtain⟨_,_,rfl⟩:=hu;rfl
 ·simp[sg]
 ·have:=hk A' c' (zc++sg s.data.toList) (hc.app (m5 _));rw[length_append]at this;exact this
theorem mV(k:IntKind)(a b:Int):fl .mul (.int k a) (.int k b)=some (.int k (k.wrap (a * b))):=by simp[fl]
theorem pn(k:IntKind)(a b:Int):fl .add (.int k a) (.int k b)=some (.int k (k.wrap (a+b))):=by simp[fl]
theorem mW(k:IntKind)(a b:Nat)(hb:b≠0)(ha:(a:Int)≤k.max)(hk:k.signed=false):fl .quo (.int k a) (.int k b)=some (.int k ((a / b:Nat):Int)):=by
 have h1:¬ (b:Int)=0:=by omega
 have h2:k.wrap (((a / b:Nat):Int))=((a / b:Nat):Int):=by
  have hq:=Nat.div_le_self a b;generalize a / b=q at hq ⊢;cases k <;> simp[IntKind.signed]at hk <;> simp[IntKind.max,IntKind.signed,IntKind.bits]at ha <;> simp only[IntKind.wrap,IntKind.signed,IntKind.bits] <;> simp <;> omega
 simp only[fl];rw[if_pos trivial,if_neg h1];have:(a:Int).tdiv (b:Int)=((a / b:Nat):Int):=by rw[Int.tdiv_eq_ediv_of_nonneg (by omega)];rfl
 rw[this,h2]
theorem lX(k:IntKind)(a b:Nat)(hb:b≠0):fl .rem (.int k a) (.int k b)=some (.int k ((a % b:Nat):Int)):=by
 have h1:¬ (b:Int)=0:=by omega
 simp only[fl];rw[if_pos trivial,if_neg h1];have:(a:Int).tmod (b:Int)=((a % b:Nat):Int):=by rw[Int.tmod_eq_emod_of_nonneg (by omega)];rfl
 rw[this]
theorem fq{P:Program}{f:FuncId}{args:Array Value}{h:H}{M:H→Prop}{R:Value→H→Prop}(hE:ij P f)(hg:fa h M)(hc:∀ h',M h'→eP P f args h' R):eP P f args h R :=
 ⟨hE,fun β w hs=>by
  obtain⟨h1,m,s1,t1,d1,r1⟩:=hg β w hs
  exact((hc h1 m).2 β w s1).mono fun _ _ ⟨v,h2,a,⟨b1,b2⟩,c,d,r⟩=>⟨v,h2,a,⟨b1.trans d1,r1.trans b2⟩,c,t1.trans d,r⟩⟩
theorem SB.nil{G:JT}:SB G (.slice none 0 0) []:=⟨none,0,rfl,Nat.le_refl _,Nat.zero_le _,fun i x hx=>by simp at hx⟩
theorem rU(l:J3)(v:Value)(G:JT)(hl:SB G v l)(hb:l.length≤1000000):
  FnO Tryz.prog 176 #[v] G [] (fun _ L' r=>pC l L' r):=by
 refine F176.fnO (by simp) dS (d7 ?_);unfold c176;intros;refine gR 0 0 c176r0.eq_1 ?_;intros;refine gR 3 5 c176r1.eq_1 ?_;refine ki (.inr ⟨⟨none,rfl⟩,rfl,rfl,rfl,rfl⟩) hl rfl UE1 (by unfold maxLen;omega) fun ys A c hc=>?_
 simp only[Nat.zero_add];refine sI ?_;intros;refine dT ?_;refine ea (ee _ rfl J9 (dV dS) ?_);exact⟨ys,hc,rfl⟩
theorem ph(l:J3)(v:Value)(G:JT)(hl:SB G v l)(hb:l.length≤1000000):
  FnO Tryz.prog 194 #[v] G [] (fun _ L' r=>pC l L' r):=by
 refine F194.fnO (by simp) dS (d7 ?_);have hl0:=hl;obtain⟨A,c,rfl,hc,hm,hA⟩:=hl;unfold c194;intros;refine gR 0 0 c194r0.eq_1 ?_;intros;refine gR 3 4 c194r1.eq_1 ?_;intros;refine gC ?_;refine gb (fun ht=>?_) (fun ht=>?_)
 ·intros;refine gR 0 0 c194r2.eq_1 ?_;intros;refine dT ?_;have hA0:l=[]:=by
   match l,hA with
   | [],_=>rfl
   | x :: xs,hA=>obtain⟨a,_,ha,_⟩:=hA 0 x rfl;subst ha;cases ht
  subst hA0;refine dW (ew none 5 1) ?_;refine ea (ee _ rfl J9 (dV dS) ?_);exact⟨[],.nil,rfl⟩
 ·intros;refine gR 5 8 c194r3.eq_1 ?_;intro b hb';refine ki (.inr ⟨⟨_,rfl⟩,rfl,rfl,rfl,rfl⟩) hl0 rfl UE1 (by unfold maxLen;omega) fun ys A c hc=>?_
  simp only[Nat.zero_add];refine sI ?_;intros;refine dT ?_;refine ea (ee _ rfl J9 (dV dS) ?_);exact⟨ys,hc,rfl⟩
theorem F200:Fun Tryz.prog 200 31 v200 c200 o200:=Fun.mk' Tryz.func200 Tryz.ntmps200 (by kernel_rfl) (by kernel_rfl) s200 q200
theorem F162:Fun Tryz.prog 162 36 v162 c162 o162:=Fun.mk' Tryz.func162 Tryz.ntmps162 (by kernel_rfl) (by kernel_rfl) s162 q162
def zig(n:Int):Nat:=if 0≤n then(2 * n).toNat else(-2 * n - 1).toNat
def pB:Nat→Nat→J3
 | 0,z=>[UInt8.ofNat z]
 | f+1,z=>if z < 128 then[UInt8.ofNat z]else UInt8.ofNat (128+z % 128) :: pB f (z / 128)
def pvB(n:Int):J3:=pB 9 (zig n)
theorem o7:∀ f z,(pB f z).length≤f+1∧1≤(pB f z).length
 | 0,z=>by simp[pB]
 | f+1,z=>by
  unfold pB;split
  ·simp
  ·have:=o7 f (z / 128);simp;omega
theorem gA(n:Int):(pvB n).length≤10:=(o7 9 _).1
theorem qv{n:Int}(h:I64 n):zig n < 18446744073709551616:=by
 unfold zig I64 at *;split <;> omega
theorem rJ{f z:Nat}(h:z < 128):pB f z=[UInt8.ofNat z]:=by
 cases f with
 | zero=>rfl
 | succ f=>exact if_pos h
def Co(p:J3)(z0:Nat)(zs:J3)(z:Nat):Prop:=∃ f,f≤9∧zs.length+f=p.length+9∧z < 2 * 128 ^ f∧zs++pB f z=p++pB 9 z0
theorem p6(p:J3){z0:Nat}(h:z0 < 18446744073709551616):Co p z0 p z0:=⟨9,Nat.le_refl _,rfl,by omega,rfl⟩
theorem tI{p zs:J3}{z0 z:Nat}(h:Co p z0 zs z)(hz:z < 128):zs++[UInt8.ofNat z]=p++pB 9 z0:=by
 obtain⟨f,_,_,_,h⟩:=h;rw[← h,rJ hz]
theorem rk{p zs:J3}{z0 z:Nat}(h:Co p z0 zs z)(hz:¬ z < 128):Co p z0 (zs++[UInt8.ofNat (128+z % 128)]) (z / 128):=by
 obtain⟨f,h1,h2,h3,h4⟩:=h;cases f with
 | zero=>simp at h3;omega
 | succ f =>
  refine⟨f,by omega,by simp;omega,by rw[Nat.pow_succ]at h3;omega,?_⟩;rw[← h4,pB,if_neg hz];simp
theorem sF{p zs:J3}{z0 z:Nat}(h:Co p z0 zs z):zs.length≤p.length+9:=by
 obtain⟨f,h1,h2,_⟩:=h;omega
theorem Ej(z:Nat):fl .or (.int .u8 (IntKind.u8.wrap (z:Int))) (.int .u8 128)=some (.int .u8 ((UInt8.ofNat (128+z % 128)).toNat:Int)):=by
 have key:∀ b:Fin 256,(BitVec.ofInt 8 ((b.val:Nat):Int) ||| BitVec.ofInt 8 128).toNat=128+b.val % 128:=by decide +kernel
 have h1:IntKind.u8.wrap (z:Int)=((z % 256:Nat):Int):=by rw[IntKind.wrap_u8];omega
 have h2:=key ⟨z % 256,Nat.mod_lt _ (by omega)⟩;rw[h1];simp only[fl];rw[if_pos trivial];have h3:(BitVec.ofInt IntKind.u8.bits ((z % 256:Nat):Int) ||| BitVec.ofInt IntKind.u8.bits 128).toNat=128+z % 128:=by
  refine h2.trans ?_;dsimp only;omega
 rw[h3];simp[IntKind.wrap_u8]
theorem nU(z:Nat):IntKind.u8.wrap (z:Int)=((UInt8.ofNat z).toNat:Int):=by
 rw[IntKind.wrap_u8];simp
theorem Hc(z:Nat):fl .shr (.int .u64 (z:Int)) (.int .u64 7)=some (.int .u64 ((z / 128:Nat):Int)):=by
 simp[fl,IntKind.bits];rw[Int.fdiv_eq_ediv_of_nonneg _ (by omega)]
theorem Gs(n:Int):fl .shl (.int .u64 (IntKind.u64.wrap n)) (.int .u64 1)=some (.int .u64 (IntKind.u64.wrap (IntKind.u64.wrap n * 2))):=by
 simp[fl,IntKind.bits]
def sgn(n:Int):Int:=if 0≤n then 0 else -1
theorem Ea{n:Int}(h:I64 n):fl .shr (.int .i64 n) (.int .u64 63)=some (.int .i64 (sgn n)):=by
 have h1:n.fdiv 9223372036854775808=sgn n:=by
  rw[Int.fdiv_eq_ediv_of_nonneg _ (by omega)];unfold sgn I64 at *;split <;> omega
 simp[fl,IntKind.bits,h1]
theorem DD{n:Int}(h:I64 n):fl .xor (.int .u64 (IntKind.u64.wrap (IntKind.u64.wrap n * 2))) (.int .u64 (IntKind.u64.wrap (sgn n)))=some (.int .u64 (zig n:Int)):=by
 have hz:=qv h;have key:(BitVec.ofInt 64 (IntKind.u64.wrap (IntKind.u64.wrap n * 2)) ^^^ BitVec.ofInt 64 (IntKind.u64.wrap (sgn n))).toNat=zig n:=by
  unfold I64 at h;by_cases h0:0≤n
  ·have e1:IntKind.u64.wrap (IntKind.u64.wrap n * 2)=2 * n:=by rw[IntKind.wrap_u64,IntKind.wrap_u64];omega
   have e2:IntKind.u64.wrap (sgn n)=0:=by rw[sgn,if_pos h0];rfl
   rw[e1,e2];have:BitVec.ofInt 64 0=0#64:=rfl;rw[this,BitVec.xor_zero,BitVec.toNat_ofInt];simp[zig,h0];omega
  ·have e1:IntKind.u64.wrap (IntKind.u64.wrap n * 2)=(2 * n) % 18446744073709551616:=by rw[IntKind.wrap_u64,IntKind.wrap_u64];omega
   have e2:IntKind.u64.wrap (sgn n)=18446744073709551615:=by rw[sgn,if_neg h0];rfl
   rw[e1,e2];have:BitVec.ofInt 64 18446744073709551615=BitVec.allOnes 64:=by decide
   rw[this,BitVec.xor_allOnes,BitVec.toNat_not,BitVec.toNat_ofInt];simp[zig,h0];omega
 simp only[fl];rw[if_pos trivial];have e3:(BitVec.ofInt IntKind.u64.bits (IntKind.u64.wrap (IntKind.u64.wrap n * 2)) ^^^ BitVec.ofInt IntKind.u64.bits (IntKind.u64.wrap (sgn n))).toNat=zig n:=key;rw[e3,IntKind.wrap_u64];congr 2;omega
theorem jq(l:J3)(n:Int)(hn:I64 n)(v:Value)(G:JT)(hl:SB G v l)(hb:l.length≤100000):
  FnO Tryz.prog 200 #[v,.int .i64 n] G [] (fun _ L' r=>pC (l++pvB n) L' r):=by
 refine F200.fnO (by simp) dS (d7 ?_);have hl0:=hl;obtain⟨A,c,rfl,hc,hm,hA⟩:=hl;unfold c200;intros;refine gR 0 0 c200r0.eq_1 ?_;intros;refine gr 7 14 ?_;(refine sJ4 c200r1.eq_1 @Gs (Ea hn) (DD hn) ?_);intros;refine gR 14 16 c200r2.eq_1 ?_;refine(ph l _ G hl0 (by omega) _ []).mono ?_;rintro r h' ⟨G1,L',rfl,hg1,ys,hys,rfl⟩;refine sI ?_;intros;refine dT ?_
 refine ej (fun e h=>∃ (z:Nat) (zs:J3) (zc:JU) (u:Value),(Co l (zig n) zs z∧Cells UE 1 zs zc)∧e 5=.int .u64 (z:Int)∧e 6=u∧h.G=G1∧h.D=[]∧[Item.row u 5 1 zs.length zc].Sublist h.L) (fun e h=>iv (e 5)) ?_ ?_
 ·exact⟨zig n,l,ys,_,⟨p6 l (qv hn),hys⟩,eE,eE,rfl,rfl,List.Sublist.refl _⟩
 ·rintro e ⟨G',L,D⟩ ⟨z,zs,zc,u,⟨hp,hcs⟩,e5,e6,hG,hD,hL⟩;dsimp only at hG hD hL;subst hG hD;refine dW (dY hL) ?_;refine dX [5,6] ?_;refine sJ2 @e5 @e6 ?_;have hlen:=sF hp;intros;refine gR 16 17 c200r3.eq_1 ?_;intros;refine gC ?_;refine gb (fun ht=>?_) (fun ht=>?_)
  ·have hz:¬ z < 128:=by simp at ht;omega
   intros;refine gR2 20 26 c200r4.eq_1 @Ej ?_;intro bk hbk;refine vv (L1:=[]) (L2:=[]) rfl rfl hcs (by omega) fun A' c' zc' hzc=>?_
   refine sI ?_;intros;refine gR2 18 20 c200r5.eq_1 @Hc ?_;intros;refine dT ?_;refine eC ⟨⟨z / 128,_,zc',_,⟨rk hp hz,hzc⟩,eE,eE,rfl,rfl,.cons _ J9⟩,?_⟩;refine sI ?_;simp[iv];omega
  ·have hz:z < 128:=by simp at ht;omega
   refine eg ?_;refine sI ?_;intros;refine gR2 26 31 c200r6.eq_1 @nU ?_;intro bk hbk;refine vv (L1:=[]) (L2:=[]) rfl rfl hcs (by omega) fun A' c' zc' hzc=>?_
   refine sI ?_;intros;refine dT ?_;rw[tI hp hz]at hzc ⊢;refine ea (ee _ rfl (.cons _ J9) (dV dS) ?_);exact⟨zc',hzc,rfl⟩
theorem iF(l:J3)(n:Int)(hn:I64 n)(v:Value)(G:JT)(hl:SB G v l)(hb:l.length≤100000):
  FnO Tryz.prog 162 #[v,.int .i64 n] G [] (fun _ L' r=>pC (l++pvB n) L' r):=by
 refine F162.fnO (by simp) dS (d7 ?_);have hl0:=hl;have hn0:=hn;unfold I64 at hn;obtain⟨A,c,rfl,hc,hm,hA⟩:=hl;unfold c162;intros;refine gR 0 0 c162r0.eq_1 ?_;intros;refine gR2 7 10 c162r1.eq_1 @mV ?_
 have hrest:∀ (e:Env),e 0=.slice A l.length c→e 5=.int .u64 (zig n:Int)→go none Tryz.prog 36 v162.1 v162.2 (fB o162 fun v h=>pC (l++pvB n) h.L v) [Td.s ((SC.reg false c162r4).seq ((SC.blk 0 (((SC.reg false c162r5).seq (SC.cond (O.t 21) SC.skip (SC.exit 0))).seq (SC.blk 1 ((SC.reg false c162r6).seq (SC.reg false c162r7)))).loop).seq ((SC.reg false c162r8).seq SC.ret)))] e ⟨G,[],[]⟩:=fun e e0 e5=>by
  refine dX [0,5] ?_;refine sJ2 @e0 @e5 ?_;intros;refine gR 18 20 c162r4.eq_1 ?_;refine(rU l _ G hl0 (by omega) _ []).mono ?_;rintro r h' ⟨G1,L',rfl,hg1,ys,hys,rfl⟩;refine sI ?_;intros;refine dT ?_
  refine ej (fun e h=>∃ (z:Nat) (zs:J3) (zc:JU) (u:Value),(Co l (zig n) zs z∧Cells UE 1 zs zc∧z < 18446744073709551616)∧e 5=.int .u64 (z:Int)∧e 6=u∧h.G=G1∧h.D=[]∧[Item.row u 5 1 zs.length zc].Sublist h.L) (fun e h=>iv (e 5)) ?_ ?_
  ·exact⟨zig n,l,ys,_,⟨p6 l (qv hn0),hys,qv hn0⟩,eE,eE,rfl,rfl,List.Sublist.refl _⟩
  ·rintro e ⟨G',L,D⟩ ⟨z,zs,zc,u,⟨hp,hcs,hzb⟩,e5,e6,hG,hD,hL⟩;dsimp only at hG hD hL;subst hG hD;refine dW (dY hL) ?_;refine dX [5,6] ?_;refine sJ2 @e5 @e6 ?_;have hlen:=sF hp;intros;refine gR 20 21 c162r5.eq_1 ?_;intros;refine gC ?_;refine gb (fun ht=>?_) (fun ht=>?_)
   ·have hz:¬ z < 128:=by simp at ht;omega
    have hpm:=rk hp hz;have hdz:z / 128 < z:=by omega
    have hq:fl .quo (.int .u64 (z:Int)) (.int .u64 128)=some (.int .u64 ((z / 128:Nat):Int)):=mW .u64 z 128 (by decide) (by simp[IntKind.max,IntKind.signed,IntKind.bits];omega) rfl;generalize z / 128=q at hq hpm hdz;have hr:fl .rem (.int .u64 (z:Int)) (.int .u64 128)=some (.int .u64 ((z:Int) % 128)):=lX .u64 z 128 (by decide)
    have hw:IntKind.u8.wrap (IntKind.u64.wrap (128+(z:Int) % 128))=((UInt8.ofNat (128+z % 128)).toNat:Int):=by
     rw[← nU,IntKind.wrap_u64];congr 1;omega
    intros;refine gr 22 29 ?_;refine sJ3 c162r6.eq_1 @hr @pn ?_;intro bk hbk;refine vv (L1:=[]) (L2:=[]) rfl hw hcs (by omega) fun A' c' zc' hzc=>?_
    refine sI ?_;intros;refine gR2 29 31 c162r7.eq_1 @hq ?_;intros;refine dT ?_;refine eC ⟨⟨q,_,zc',_,⟨hpm,hzc,by omega⟩,eE,eE,rfl,rfl,.cons _ J9⟩,?_⟩;refine sI ?_;omega
   ·have hz:z < 128:=by simp at ht;omega
    refine eg ?_;refine sI ?_;intros;refine gR2 31 36 c162r8.eq_1 @nU ?_;intro bk hbk;refine vv (L1:=[]) (L2:=[]) rfl rfl hcs (by omega) fun A' c' zc' hzc=>?_
    refine sI ?_;intros;refine dT ?_;rw[tI hp hz]at hzc ⊢;refine ea (ee _ rfl (.cons _ J9) (dV dS) ?_);exact⟨zc',hzc,rfl⟩
 intros;refine gR 10 11 c162r2.eq_1 ?_;intros;refine gC ?_;refine gb (fun ht=>?_) (fun ht=>?_)
 ·have hz:IntKind.u64.wrap (IntKind.u64.wrap (2 * IntKind.u64.wrap (IntKind.i64.wrap (0 - IntKind.i64.wrap (n+1))))+1)=(zig n:Int):=by
   have h0:n < 0:=by simpa using ht
   have e1:IntKind.i64.wrap (n+1)=n+1:=by rw[eh] <;> omega
   have e2:IntKind.i64.wrap (0 - (n+1))=0 - (n+1):=by rw[eh] <;> omega
   rw[e1,e2];simp only[IntKind.wrap_u64,zig,if_neg (show ¬ 0≤n by omega)];omega
  intros;refine gr 12 18 ?_;refine sJ4 c162r3.eq_1 @mV @pn @hz ?_;intro _
  (repeat first | refine eD ?_ | refine iV ?_)
  refine hrest _ ?_ ?_ <;> (refine sI ?_;try with_reducible exact True.intro)
 ·have hz:IntKind.u64.wrap (2 * IntKind.u64.wrap n)=(zig n:Int):=by
   have h0:¬ n < 0:=by simpa using ht
   simp only[IntKind.wrap_u64,zig,if_pos (show 0≤n by omega)];omega
  (repeat first | refine eD ?_ | refine iV ?_)
  refine hrest _ ?_ ?_ <;> (refine sJ @hz ?_;try with_reducible exact True.intro)
theorem F215:Fun Tryz.prog 215 9 v215 c215 o215:=Fun.mk' Tryz.func215 Tryz.ntmps215 (by kernel_rfl) (by kernel_rfl) s215 q215
theorem F184:Fun Tryz.prog 184 9 v184 c184 o184:=Fun.mk' Tryz.func184 Tryz.ntmps184 (by kernel_rfl) (by kernel_rfl) s184 q184
theorem F216:Fun Tryz.prog 216 11 v216 c216 o216:=Fun.mk' Tryz.func216 Tryz.ntmps216 (by kernel_rfl) (by kernel_rfl) s216 q216
theorem F185:Fun Tryz.prog 185 11 v185 c185 o185:=Fun.mk' Tryz.func185 Tryz.ntmps185 (by kernel_rfl) (by kernel_rfl) s185 q185
theorem F199:Fun Tryz.prog 199 33 v199 c199 o199:=Fun.mk' Tryz.func199 Tryz.ntmps199 (by kernel_rfl) (by kernel_rfl) s199 q199
theorem F161:Fun Tryz.prog 161 39 v161 c161 o161:=Fun.mk' Tryz.func161 Tryz.ntmps161 (by kernel_rfl) (by kernel_rfl) s161 q161
def inO(n:Int):Bool:=decide (0≤n) && decide (n≤1099511627776)
theorem uw(n:Int)(G:JT):FnS Tryz.prog 215 #[.int .i64 n] G (.bool (inO n)):=by
 refine F215.fnS (by simp) (d7 ?_);unfold c215;intros;refine gR 0 0 c215r0.eq_1 ?_;intros;refine gR 3 9 c215r1.eq_1 ?_;refine gd (fun h1=>?_) (fun h1=>?_)
 ·refine sI ?_;intros;refine rW ?_;have:0≤n:=by simpa using h1
  simp[inO,this]
 ·refine sI ?_;intros;refine rW ?_;have:¬ 0≤n:=by simpa using h1
  simp[inO,this]
theorem sn(n:Int)(G:JT):FnS Tryz.prog 184 #[.int .i64 n] G (.bool (inO n)):=by
 refine F184.fnS (by simp) (d7 ?_);unfold c184;intros;refine gR 0 0 c184r0.eq_1 ?_;intros;refine gR 3 9 c184r1.eq_1 ?_;refine gd (fun h1=>?_) (fun h1=>?_)
 ·refine sI ?_;intros;refine rW ?_;have:0≤n:=by simpa using h1
  simp[inO,this]
 ·refine sI ?_;intros;refine rW ?_;have:¬ 0≤n:=by simpa using h1
  simp[inO,this]
def ptB(s:ByteArray):J3:=pvB s.size++s.data.toList
theorem oM(s:ByteArray):(ptB s).length≤10+s.size:=by
 have:=gA s.size;simp[ptB];omega
theorem n8(l:J3)(s:ByteArray)(v:Value)(G:JT)(hl:SB G v l)(hb:l.length≤100000)(hs:s.size≤100000):
  FnO Tryz.prog 216 #[v,.string s] G [] (fun _ L' r=>pC (l++ptB s) L' r):=by
 refine F216.fnO (by simp) dS (d7 ?_);unfold c216;intros;refine gR 0 0 c216r0.eq_1 ?_;intros;refine gR 5 11 c216r1.eq_1 ?_;refine(jq l s.size (by unfold I64;omega) v G hl hb _ []).mono ?_;rintro r h' ⟨G1,L',rfl,hg1,ys,hys,rfl⟩;refine sI ?_;have hpl:=gA s.size;refine EM (L1:=[]) (.inl rfl) hys (by rw[length_append];omega) fun A' c' zc' hzc=>?_
 refine sI ?_;intros;refine dT ?_;refine ea (ee _ rfl J9 (dV dS) ?_);rw[List.append_assoc]at hzc ⊢;exact⟨zc',hzc,rfl⟩
theorem m4(l:J3)(s:ByteArray)(v:Value)(G:JT)(hl:SB G v l)(hb:l.length≤100000)(hs:s.size≤100000):
  FnO Tryz.prog 185 #[v,.string s] G [] (fun _ L' r=>pC (l++ptB s) L' r):=by
 refine F185.fnO (by simp) dS (d7 ?_);unfold c185;intros;refine gR 0 0 c185r0.eq_1 ?_;intros;refine gR 5 11 c185r1.eq_1 ?_;refine(iF l s.size (by unfold I64;omega) v G hl hb _ []).mono ?_;rintro r h' ⟨G1,L',rfl,hg1,ys,hys,rfl⟩;refine sI ?_;have hpl:=gA s.size;refine EM (L1:=[]) (.inl rfl) hys (by rw[length_append];omega) fun A' c' zc' hzc=>?_
 refine sI ?_;intros;refine dT ?_;refine ea (ee _ rfl J9 (dV dS) ?_);rw[List.append_assoc]at hzc ⊢;exact⟨zc',hzc,rfl⟩
structure Rec where
 off:Int
 key:ByteArray
 val:ByteArray
 dead:Bool
 stamp:Int
def gJ(x:Rec):JU:=[.int .i64 x.off,.string x.key,.string x.val,.bool x.dead,.int .i64 x.stamp]
def RR(x:Rec)(cs:JU):Prop:=cs=gJ x∧(I64 x.off∧I64 x.stamp)∧x.key.size≤maxLen∧x.val.size≤maxLen
def isE(s:ByteArray):Bool:=s.toList == ByteArray.toList ⟨#[]⟩
def jW(x:Rec):Int:=if inO x.off=true∧inO x.stamp=true∧x.key.size≤64∧x.val.size≤64∧¬ (x.dead=true∧(isE x.key=true∨isE x.val=false))then 0 else 1
theorem xa(a:ByteArray):fl .eql (.string a) (.string ⟨#[]⟩)=some (.bool (isE a)):=rfl
theorem xw(a:ByteArray):fl .neq (.string a) (.string ⟨#[]⟩)=some (.bool (!isE a)):=rfl
theorem iq{x:Rec}(h:inO x.off=false∨inO x.stamp=false∨64 < x.key.size∨64 < x.val.size∨(x.dead=true∧(isE x.key=true∨isE x.val=false))):jW x=1:=by
 refine if_neg fun⟨h1,h2,h3,h4,h5⟩=>?_
 rcases h with h | h | h | h | h
 ·rw[h1]at h;cases h
 ·rw[h2]at h;cases h
 ·omega
 ·omega
 ·exact h5 h
theorem mQ(x:Rec)(G:JT):FnS Tryz.prog 161 #[.agg (gJ x).toArray] G (.int .i64 (jW x)):=by
 refine F161.fnS (by simp) (d7 ?_);unfold c161 gJ;intros;refine gR 0 0 c161r0.eq_1 ?_;have hbad:∀ (fr:J0) (e:Env) (L:JW),jW x=1→go none Tryz.prog 39 v161.1 v161.2 (fB o161 fun v h=>v=.int .i64 (jW x)) (Td.s ((SC.reg false c161r2).seq .ret) :: fr) e ⟨G,L,[]⟩:=fun fr e L hx=>by
  intros;refine gR 0 0 c161r2.eq_1 ?_;intros;refine rW ?_;rw[hx]
 have hgood:∀ (e:Env) (L:JW),jW x=0→go none Tryz.prog 39 v161.1 v161.2 (fB o161 fun v h=>v=.int .i64 (jW x)) [Td.s ((SC.reg false c161r3).seq .ret)] e ⟨G,L,[]⟩:=fun e L hx=>by
  intros;refine gR 0 0 c161r3.eq_1 ?_;intros;refine rW ?_;rw[hx]
 intros;refine gR 4 38 c161r1.eq_1 ?_;refine fK (sn x.off G _ _) ?_;refine gd (fun h1=>?_) (fun h1=>?_)
 ·refine sI ?_;intros;refine gC ?_;exact hbad _ _ _ (iq (.inl (by simpa using h1)))
 refine sI ?_;refine fK (sn x.stamp G _ _) ?_;refine gd (fun h2=>?_) (fun h2=>?_)
 ·refine sI ?_;intros;refine gC ?_;exact hbad _ _ _ (iq (.inr (.inl (by simpa using h2))))
 refine sI ?_;refine gd (fun h3=>?_) (fun h3=>?_)
 ·refine sI ?_;intros;refine gC ?_;exact hbad _ _ _ (iq (.inr (.inr (.inl (by simp at h3;omega)))))
 refine sI ?_;refine gd (fun h4=>?_) (fun h4=>?_)
 ·refine sI ?_;intros;refine gC ?_;exact hbad _ _ _ (iq (.inr (.inr (.inr (.inl (by simp at h4;omega))))))
 refine sI ?_;have h1':inO x.off=true:=by simpa using h1
 have h2':inO x.stamp=true:=by simpa using h2
 have h3':x.key.size≤64:=by simp at h3;omega
 have h4':x.val.size≤64:=by simp at h4;omega
 refine gd (fun h5=>?_) (fun h5=>?_)
 ·refine sJ @xa ?_;refine gd (fun h6=>?_) (fun h6=>?_)
  ·refine sI ?_;intros;refine gC ?_;exact hbad _ _ _ (iq (.inr (.inr (.inr (.inr ⟨h5,.inl h6⟩)))))
  refine sJ @xw ?_;intros;refine gC ?_;refine gb (fun h7=>?_) (fun h7=>?_)
  ·exact hbad _ _ _ (iq (.inr (.inr (.inr (.inr ⟨h5,.inr (by simpa using h7)⟩)))))
  ·(repeat first | refine eD ?_ | refine iV ?_)
   refine hgood _ _ (if_pos ⟨h1',h2',h3',h4',fun h=>?_⟩);rcases h.2 with h | h
   ·rw[h6]at h;cases h
   ·simp[h]at h7
 ·refine sI ?_;intros;refine gC ?_
  (repeat first | refine eD ?_ | refine iV ?_)
  exact hgood _ _ (if_pos ⟨h1',h2',h3',h4',fun h=>by rw[h5]at h;cases h.1⟩)
theorem pw(x:Rec)(G:JT):FnS Tryz.prog 199 #[.agg (gJ x).toArray] G (.int .i64 (jW x)):=by
 refine F199.fnS (by simp) (d7 ?_);unfold c199 gJ;intros;refine gR 0 0 c199r0.eq_1 ?_;have hbad:∀ (fr:J0) (e:Env) (L:JW),jW x=1→go none Tryz.prog 33 v199.1 v199.2 (fB o199 fun v h=>v=.int .i64 (jW x)) (Td.s ((SC.reg false c199r4).seq .ret) :: fr) e ⟨G,L,[]⟩:=fun fr e L hx=>by
  intros;refine gR 0 0 c199r4.eq_1 ?_;intros;refine rW ?_;rw[hx]
 intros;refine gR 5 8 c199r1.eq_1 ?_;refine fK (uw x.off G _ _) ?_;intros;refine gC ?_;refine gb (fun h1=>?_) (fun h1=>?_)
 ·(repeat first | refine eD ?_ | refine iV ?_)
  intros;refine gC ?_;refine gb (fun _=>?_) (fun h=>by rw[h1]at h;cases h);exact hbad _ _ _ (iq (.inl (by simpa using h1)))
 intros;refine gR 9 12 c199r2.eq_1 ?_;refine fK (uw x.stamp G _ _) ?_;intros;refine gC ?_;refine gb (fun h2=>?_) (fun h2=>?_)
 ·(repeat first | refine eD ?_ | refine iV ?_)
  intros;refine gC ?_;refine gb (fun _=>?_) (fun h=>by rw[h2]at h;cases h);exact hbad _ _ _ (iq (.inr (.inl (by simpa using h2))))
 have h1':inO x.off=true:=by simpa using h1
 have h2':inO x.stamp=true:=by simpa using h2
 intros;refine gR 13 20 c199r3.eq_1 ?_;intros;refine gC ?_;refine gbD (fun h3=>?_) (fun h3=>?_)
 ·by_cases h4:64 < x.key.size
  ·exact hbad _ _ _ (iq (.inr (.inr (.inl h4))))
  ·exact hbad _ _ _ (iq (.inr (.inr (.inr (.inl (by omega))))))
 have h3':x.key.size≤64:=by omega
 have h4':x.val.size≤64:=by omega
 have hbad2:∀ (fr:J0) (e:Env) (L:JW),jW x=1→go none Tryz.prog 33 v199.1 v199.2 (fB o199 fun v h=>v=.int .i64 (jW x)) (Td.s ((SC.reg false c199r6).seq .ret) :: fr) e ⟨G,L,[]⟩:=fun fr e L hx=>by
  intros;refine gR 0 0 c199r6.eq_1 ?_;intros;refine rW ?_;rw[hx]
 have hgood:∀ (e:Env) (L:JW),jW x=0→go none Tryz.prog 33 v199.1 v199.2 (fB o199 fun v h=>v=.int .i64 (jW x)) [Td.s ((SC.reg false c199r7).seq .ret)] e ⟨G,L,[]⟩:=fun e L hx=>by
  intros;refine gR 0 0 c199r7.eq_1 ?_;intros;refine rW ?_;rw[hx]
 intros;refine gR 22 33 c199r5.eq_1 ?_;refine gd (fun h5=>?_) (fun h5=>?_)
 ·refine sJ @xa ?_;refine gd (fun h6=>?_) (fun h6=>?_)
  ·refine sI ?_;intros;refine gC ?_;exact hbad2 _ _ _ (iq (.inr (.inr (.inr (.inr ⟨h5,.inl h6⟩)))))
  refine sJ @xw ?_;intros;refine gC ?_;refine gb (fun h7=>?_) (fun h7=>?_)
  ·exact hbad2 _ _ _ (iq (.inr (.inr (.inr (.inr ⟨h5,.inr (by simpa using h7)⟩)))))
  ·(repeat first | refine eD ?_ | refine iV ?_)
   refine hgood _ _ (if_pos ⟨h1',h2',h3',h4',fun h=>?_⟩);rcases h.2 with h | h
   ·rw[h6]at h;cases h
   ·simp[h]at h7
 ·refine sI ?_;intros;refine gC ?_
  (repeat first | refine eD ?_ | refine iV ?_)
  exact hgood _ _ (if_pos ⟨h1',h2',h3',h4',fun h=>by rw[h5]at h;cases h.1⟩)
theorem F201:Fun Tryz.prog 201 46 v201 c201 o201:=Fun.mk' Tryz.func201 Tryz.ntmps201 (by kernel_rfl) (by kernel_rfl) s201 q201
theorem F163:Fun Tryz.prog 163 50 v163 c163 o163:=Fun.mk' Tryz.func163 Tryz.ntmps163 (by kernel_rfl) (by kernel_rfl) s163 q163
def prB(x:Rec)(base stamp:Int):J3:=pvB (x.off - base)++pvB (x.stamp - stamp)++[if x.dead=true then 1 else 0]++ptB x.key++ptB x.val
def nJ(x:Rec)(base stamp:Int):J3 × Int:=if jW x≠0 then([],jW x)else if ¬ (inO base=true∧inO stamp=true)then([],1)else(prB x base stamp,0)
def ym(p:J3 × Int)(L':JW)(r:Value):Prop:=∃ u,r=.tuple #[u,.int .i64 p.2]∧pC p.1 L' u
theorem fH{x:Rec}(h:jW x=0):(inO x.off=true∧inO x.stamp=true)∧x.key.size≤64∧x.val.size≤64:=by
 by_cases h0:inO x.off=true∧inO x.stamp=true∧x.key.size≤64∧x.val.size≤64∧¬ (x.dead=true∧(isE x.key=true∨isE x.val=false))
 ·exact⟨⟨h0.1,h0.2.1⟩,h0.2.2.1,h0.2.2.2.1⟩
 ·rw[jW,if_neg h0]at h;cases h
theorem BJ(x:Rec)(base stamp:Int)(G:JT):FnO Tryz.prog 163 #[.agg (gJ x).toArray,.int .i64 base,.int .i64 stamp] G [] (fun _ L' r=>ym (nJ x base stamp) L' r):=by
 refine F163.fnO (by simp) dS (d7 ?_);unfold c163;have hck:=mQ x;unfold gJ at hck ⊢;intros;refine gR 0 0 c163r0.eq_1 ?_;intros;refine gR 10 12 c163r1.eq_1 ?_;refine fK (hck G _ _) ?_;intros;refine gR 12 13 c163r2.eq_1 ?_;intros;refine gC ?_;refine gb (fun h1=>?_) (fun h1=>?_)
 ·intros;refine gR 14 15 c163r3.eq_1 ?_;intros;refine dT ?_;refine dW (ew none 5 1) ?_;refine ea (ee _ rfl (.cons_cons _ Ka) (dV dS) ?_);rw[nJ,if_pos (by simpa using h1)];exact⟨_,rfl,[],.nil,rfl⟩
 have h1:jW x=0:=by simpa using h1
 have hbad:∀ (fr:J0) (e:Env) (L:JW),nJ x base stamp=([],1)→go none Tryz.prog 50 v163.1 v163.2 (fB o163 fun v h=>ym (nJ x base stamp) h.L v) (Td.s ((SC.reg false c163r5).seq .ret) :: fr) e ⟨G,L,[]⟩:=fun fr e L hx=>by
  intros;refine gR 0 0 c163r5.eq_1 ?_;intros;refine dT ?_;refine dW (ew none 5 1) ?_;refine ea (ee _ rfl (.cons_cons _ Ka) (dV dS) ?_);rw[hx];exact⟨_,rfl,[],.nil,rfl⟩
 have hpb:∀ (h:¬ (inO base=true∧inO stamp=true)),nJ x base stamp=([],1):=fun h=>by rw[nJ,if_neg (by simp[h1]),if_pos h]
 intros;refine gR 15 22 c163r4.eq_1 ?_;refine fK (sn base G _ _) ?_;refine gd (fun h2=>?_) (fun h2=>?_)
 ·refine sI ?_;intros;refine gC ?_;exact hbad _ _ _ (hpb fun h=>by rw[h.1]at h2;cases h2)
 refine sI ?_;refine fK (sn stamp G _ _) ?_;intros;refine gC ?_;refine gb (fun h3=>?_) (fun h3=>?_)
 ·exact hbad _ _ _ (hpb fun h=>by rw[h.2]at h3;cases h3)
 have h2:inO base=true:=by simpa using h2
 have h3:inO stamp=true:=by simpa using h3
 obtain⟨⟨ho,hst⟩,hk,hv⟩:=fH h1;have hput:nJ x base stamp=(prB x base stamp,0):=by rw[nJ,if_neg (by simp[h1]),if_neg (by simp[h2,h3])]
 simp[inO]at h2 h3 ho hst;have w1:IntKind.i64.wrap (x.off - base)=x.off - base:=by rw[eh] <;> omega
 have w2:IntKind.i64.wrap (x.stamp - stamp)=x.stamp - stamp:=by rw[eh] <;> omega
 have i1:I64 (x.off - base):=by unfold I64;omega
 have i2:I64 (x.stamp - stamp):=by unfold I64;omega
 have l1:=gA (x.off - base);have l2:=gA (x.stamp - stamp)
 (repeat first | refine eD ?_ | refine iV ?_)
 intros;refine gR2 24 28 c163r6.eq_1 @w1 ?_;refine(iF [] (x.off - base) i1 _ G SB.nil (by simp) _ []).mono ?_;rintro r h' ⟨G1,L',rfl,hg1,ys,hys,rfl⟩;simp only[List.nil_append]at hys ⊢;refine sI ?_;intros;refine gR2 28 34 c163r7.eq_1 @w2 ?_;refine fq F162.enters (ef [] _ (by decide) hys) ?_;rintro h' ⟨G2,rfl,hg2,hv2⟩;refine(iF _ (x.stamp - stamp) i2 _ G2 hv2 (by omega) _ []).mono ?_
 rintro r h' ⟨G3,L',rfl,hg3,ys3,hys3,rfl⟩;refine sI ?_;have hrest:∀ (e:Env) (L:JW) (u:Value) (zc:JU) (b:UInt8),b=(if x.dead=true then 1 else 0)→Cells UE 1 (pvB (x.off - base)++pvB (x.stamp - stamp)++[b]) zc→e 9=u →
   go none Tryz.prog 50 v163.1 v163.2 (fB o163 fun v h=>ym (nJ x base stamp) h.L v) [Td.s ((SC.reg false c163r11).seq ((SC.reg false c163r12).seq .ret))] e ⟨G3,[.row u 5 1 (pvB (x.off - base)++pvB (x.stamp - stamp)++[b]).length zc,.reg 3 [.int .i64 x.off,.string x.key,.string x.val,.bool x.dead,.int .i64 x.stamp]],[]⟩:=fun e L u zc b hb hzc e9=>by
  refine dX [9] ?_;refine sJ @e9 ?_;intros;refine gR 42 46 c163r11.eq_1 ?_;refine fq F185.enters (ef [] _ (by decide) hzc) ?_;rintro h' ⟨G4,rfl,hg4,hv4⟩;refine(m4 _ x.key _ G4 hv4 (by simp;omega) (by omega) _ []).mono ?_;rintro r h' ⟨G5,L',rfl,hg5,ys5,hys5,rfl⟩;refine sI ?_;have l3:=oM x.key;intros;refine gR 46 50 c163r12.eq_1 ?_;refine fq F185.enters (ef [] _ (by decide) hys5) ?_
  rintro h' ⟨G6,rfl,hg6,hv6⟩;refine(m4 _ x.val _ G6 hv6 (by simp;omega) (by omega) _ []).mono ?_;rintro r h' ⟨G7,L',rfl,hg7,ys7,hys7,rfl⟩;refine sI ?_;intros;refine dT ?_;refine ea (ee _ rfl (.cons_cons _ Ka) (dV dS) ?_);rw[hput];subst hb;exact⟨_,rfl,ys7,hys7,rfl⟩
 intros;refine gR 0 0 c163r8.eq_1 ?_;intros;refine gC ?_;refine gb (fun h5=>?_) (fun h5=>?_)
 ·intros;refine gR 36 39 c163r9.eq_1 ?_;intro bk hbk;refine vv (L1:=[]) (L2:=[_]) (x:=1) rfl rfl hys3 (by simp;omega) fun A' c' zc' hzc=>?_
  refine sI ?_;intro _;refine dW (dY (.cons _ J9)) ?_
  (repeat first | refine eD ?_ | refine iV ?_)
  refine hrest _ [] _ _ 1 (by rw[if_pos h5]) hzc ?_
  (refine sI ?_;try with_reducible exact True.intro)
 ·intros;refine gR 39 42 c163r10.eq_1 ?_;intro bk hbk;refine vv (L1:=[]) (L2:=[_]) (x:=0) rfl rfl hys3 (by simp;omega) fun A' c' zc' hzc=>?_
  refine sI ?_;intro _;refine dW (dY (.cons _ J9)) ?_
  (repeat first | refine eD ?_ | refine iV ?_)
  refine hrest _ [] _ _ 0 (by rw[if_neg (by rw[h5];simp)]) hzc ?_
  (refine sI ?_;try with_reducible exact True.intro)
theorem E7(x:Rec)(base stamp:Int)(G:JT):FnO Tryz.prog 201 #[.agg (gJ x).toArray,.int .i64 base,.int .i64 stamp] G [] (fun _ L' r=>ym (nJ x base stamp) L' r):=by
 refine F201.fnO (by simp) dS (d7 ?_);unfold c201;have hck:=pw x;unfold gJ at hck ⊢;intros;refine gR 0 0 c201r0.eq_1 ?_;intros;refine gR 11 13 c201r1.eq_1 ?_;refine fK (hck G _ _) ?_;intros;refine gR 13 14 c201r2.eq_1 ?_;intros;refine gC ?_;refine gb (fun h1=>?_) (fun h1=>?_)
 ·intros;refine gR 15 16 c201r3.eq_1 ?_;intros;refine dT ?_;refine dW (ew none 5 1) ?_;refine ea (ee _ rfl (.cons_cons _ Ka) (dV dS) ?_);rw[nJ,if_pos (by simpa using h1)];exact⟨_,rfl,[],.nil,rfl⟩
 have h1:jW x=0:=by simpa using h1
 have hbad:∀ (fr:J0) (e:Env) (L:JW),nJ x base stamp=([],1)→go none Tryz.prog 46 v201.1 v201.2 (fB o201 fun v h=>ym (nJ x base stamp) h.L v) (Td.s ((SC.reg false c201r5).seq .ret) :: fr) e ⟨G,L,[]⟩:=fun fr e L hx=>by
  intros;refine gR 0 0 c201r5.eq_1 ?_;intros;refine dT ?_;refine dW (ew none 5 1) ?_;refine ea (ee _ rfl (.cons_cons _ Ka) (dV dS) ?_);rw[hx];exact⟨_,rfl,[],.nil,rfl⟩
 have hpb:∀ (h:¬ (inO base=true∧inO stamp=true)),nJ x base stamp=([],1):=fun h=>by rw[nJ,if_neg (by simp[h1]),if_pos h]
 (repeat first | refine eD ?_ | refine iV ?_)
 intros;refine gR 16 23 c201r4.eq_1 ?_;refine fK (uw base G _ _) ?_;refine gd (fun h2=>?_) (fun h2=>?_)
 ·refine sI ?_;intros;refine gC ?_;exact hbad _ _ _ (hpb fun h=>by rw[h.1]at h2;cases h2)
 refine sI ?_;refine fK (uw stamp G _ _) ?_;intros;refine gC ?_;refine gb (fun h3=>?_) (fun h3=>?_)
 ·exact hbad _ _ _ (hpb fun h=>by rw[h.2]at h3;cases h3)
 have h2:inO base=true:=by simpa using h2
 have h3:inO stamp=true:=by simpa using h3
 obtain⟨⟨ho,hst⟩,hk,hv⟩:=fH h1;have hput:nJ x base stamp=(prB x base stamp,0):=by rw[nJ,if_neg (by simp[h1]),if_neg (by simp[h2,h3])]
 simp[inO]at h2 h3 ho hst;have w1:IntKind.i64.wrap (x.off - base)=x.off - base:=by rw[eh] <;> omega
 have w2:IntKind.i64.wrap (x.stamp - stamp)=x.stamp - stamp:=by rw[eh] <;> omega
 have i1:I64 (x.off - base):=by unfold I64;omega
 have i2:I64 (x.stamp - stamp):=by unfold I64;omega
 have l1:=gA (x.off - base);have l2:=gA (x.stamp - stamp)
 (repeat first | refine eD ?_ | refine iV ?_)
 have hrest:∀ (e:Env) (b:UInt8),b=(if x.dead=true then 1 else 0)→e 1=.int .i64 base→e 2=.int .i64 stamp→e 9=.int .u8 (b.toNat:Int) →
   go none Tryz.prog 46 v201.1 v201.2 (fB o201 fun v h=>ym (nJ x base stamp) h.L v) [Td.s ((SC.rgX c201r9).seq ((SC.rgX c201r10).seq .ret))] e ⟨G,[.reg 3 [.int .i64 x.off,.string x.key,.string x.val,.bool x.dead,.int .i64 x.stamp]],[]⟩:=fun e b hb e1 e2 e9=>by
  refine dX [1,2,9] ?_;refine sJ3 @e1 @e2 @e9 ?_;intros;refine dT ?_;refine ly _ J9 (by decide) ?_;refine sJ3 c201r9.eq_1 @w1 @w2 ?_;refine(jq [] (x.off - base) i1 _ G SB.nil (by simp) _ []).mono ?_;rintro r h' ⟨G1,L',rfl,hg1,ys,hys,rfl⟩;simp only[List.nil_append]at hys ⊢;refine⟨ed hg1 (.cons _ J9),?_⟩;refine sI ?_;refine fq F200.enters (ef [] _ (by decide) hys) ?_;rintro h' ⟨G2,rfl,hg2,hv2⟩
  refine(jq _ (x.stamp - stamp) i2 _ G2 hv2 (by omega) _ []).mono ?_;rintro r h' ⟨G3,L',rfl,hg3,ys3,hys3,rfl⟩;refine⟨ed (hg1.trans (hg2.trans hg3)) (.cons _ J9),?_⟩;refine sI ?_;intros;refine dT ?_;refine ly _ (.cons _ J9) (by decide) ?_;refine sJ c201r10.eq_1 ?_;intro bk hbk;refine⟨ed Kd (.cons _ (.cons _ J9)),?_⟩;refine sI ?_
  refine vv (L1:=[]) (L2:=[_]) (x:=b) rfl rfl hys3 (by simp;omega) fun A' c' zc' hzc=>?_
  refine sI ?_;refine⟨ed Kd (.cons _ (.cons _ J9)),?_⟩;refine sI ?_;refine fq F216.enters (ef [_] _ (by decide) hzc) ?_;rintro h' ⟨G4,rfl,hg4,hv4⟩;refine(n8 _ x.key _ G4 hv4 (by simp;omega) (by omega) _ []).mono ?_;rintro r h' ⟨G5,L',rfl,hg5,ys5,hys5,rfl⟩;refine⟨ed (hg4.trans hg5) (.cons _ (.cons _ J9)),?_⟩;refine sI ?_;have l3:=oM x.key;refine fq F216.enters (ef [] _ (by decide) hys5) ?_
  rintro h' ⟨G6,rfl,hg6,hv6⟩;refine(n8 _ x.val _ G6 hv6 (by simp;omega) (by omega) _ []).mono ?_;rintro r h' ⟨G7,L',rfl,hg7,ys7,hys7,rfl⟩;refine⟨ed (hg4.trans (hg5.trans (hg6.trans hg7))) (.cons _ (.cons _ J9)),?_⟩;refine sI ?_;intros;refine dT ?_;refine ea (ee _ rfl (.cons_cons _ Ka) (dV dS) ?_);rw[hput];subst hb;exact⟨_,rfl,ys7,hys7,rfl⟩
 intros;refine gR 0 0 c201r6.eq_1 ?_;intros;refine gR 0 0 c201r7.eq_1 ?_;intros;refine gC ?_;refine gb (fun h5=>?_) (fun h5=>?_)
 ·intros;refine gR 0 0 c201r8.eq_1 ?_
  (repeat first | (with_reducible intro _) | refine eD ?_ | refine iV ?_)
  refine hrest _ 1 (by rw[if_pos h5]) ?_ ?_ ?_ <;> (refine sI ?_;try with_reducible exact True.intro);rfl
 ·(repeat first | refine eD ?_ | refine iV ?_)
  refine hrest _ 0 (by rw[if_neg (by rw[h5];simp)]) ?_ ?_ ?_ <;> (refine sI ?_;try with_reducible exact True.intro);rfl
theorem F117:Fun Tryz.prog 117 14 v117 c117 o117:=Fun.mk' Tryz.func117 Tryz.ntmps117 (by kernel_rfl) (by kernel_rfl) s117 q117
theorem F152:Fun Tryz.prog 152 25 v152 c152 o152:=Fun.mk' Tryz.func152 Tryz.ntmps152 (by kernel_rfl) (by kernel_rfl) s152 q152
theorem F153:Fun Tryz.prog 153 25 v153 c153 o153:=Fun.mk' Tryz.func153 Tryz.ntmps153 (by kernel_rfl) (by kernel_rfl) s153 q153
theorem F72:Fun Tryz.prog 72 12 v72 c72 o72:=Fun.mk' Tryz.func72 Tryz.ntmps72 (by kernel_rfl) (by kernel_rfl) s72 q72
def IE(x:Int)(cs:JU):Prop:=cs=[.int .i64 x]∧I64 x
def rng(m n:Int):Bool:=decide (0≤n) && decide (n≤m)
theorem m7(n m:Int)(G:JT):FnS Tryz.prog 72 #[.int .i64 n,.int .i64 m] G (.bool (rng m n)):=by
 refine F72.fnS (by simp) (d7 ?_);unfold c72;intros;refine gR 0 0 c72r0.eq_1 ?_;intros;refine gR 5 12 c72r1.eq_1 ?_;refine gd (fun h1=>?_) (fun h1=>?_)
 ·refine sI ?_;intros;refine rW ?_;have:0≤n:=by simpa using h1
  simp[rng,this]
 ·refine sI ?_;intros;refine rW ?_;have:¬ 0≤n:=by simpa using h1
  simp[rng,this]
theorem FE{l:J6}{k:Nat}{x y:Int}(h0:l[0]?=some y)(hx:l[k]?=some x)(f:Int→Int→Int)(hk:0 < k):((l.drop 1).take k).foldl f y=f (((l.drop 1).take (k - 1)).foldl f y) x:=by
 have hl:=List.getElem?_eq_some_iff.1 hx;obtain⟨k,rfl⟩:∃ j,k=j+1:=⟨k - 1,by omega⟩;have h1:(l.drop 1)[k]?=some x:=by rw[List.getElem?_drop,Nat.add_comm];exact hx
 have h2:=List.getElem?_eq_some_iff.1 h1;rw[List.take_succ_eq_append_getElem h2.1,h2.2];simp
theorem Ed(l:J6)(y:Int)(h0:l[0]?=some y)(v:Value)(G:JT)(hl:SlV G IE 1 v l):FnS Tryz.prog 152 #[v] G (.int .i64 ((l.drop 1).foldl min y)):=by
 refine F152.fnS (by simp) (d7 ?_);obtain⟨A,c,rfl,hc,hm,hA⟩:=hl;have hpos:=(List.getElem?_eq_some_iff.1 h0).1;unfold c152;intros;refine gR 0 0 c152r0.eq_1 ?_;intros;refine gR 5 7 c152r1.eq_1 ?_;intros;refine gC ?_;refine gb (fun h1=>by simp at h1;omega) (fun h1=>?_)
 (repeat first | refine eD ?_ | refine iV ?_)
 intros;refine gR 9 12 c152r2.eq_1 ?_;refine hA.x_l1 h0 rfl rfl ?_;rintro a1 ha1 u1 ⟨hu,-⟩;cases hu;refine sI ?_;intros;refine gR 0 0 c152r3.eq_1 ?_;intros;refine dT ?_;refine ej (fun e h=>∃ k:Nat,(0 < k∧k≤l.length)∧e 4=.int .i64 k∧e 0=.slice A l.length c∧e 3=.int .i64 (((l.drop 1).take (k - 1)).foldl min y)∧h=⟨G,[],[]⟩) (fun e h=>l.length - iv (e 4)) ?_ ?_
 ·exact⟨1,⟨by omega,by omega⟩,by refine sI ?_;rfl,eE,by refine sI ?_;rfl,rfl⟩
 ·rintro e h ⟨k,⟨hk0,hk⟩,e4,e0,e3,rfl⟩;refine dX [0,3,4] ?_;refine sJ3 @e0 @e3 @e4 ?_;intros;refine gR 12 15 c152r4.eq_1 ?_;intros;refine gC ?_;refine gb (fun ht=>?_) (fun ht=>?_)
  ·have hkl:k < l.length:=by simpa using ht
   have hw3:=eY k c (by omega) hm;obtain⟨x,hx⟩:∃ x,l[k]?=some x:=⟨l[k],getElem?_eq_getElem (by omega)⟩
   (repeat first | refine eD ?_ | refine iV ?_)
   intros;refine gR 18 24 c152r5.eq_1 ?_;refine hA.x_l1 hx rfl rfl ?_;rintro a1 ha1 u1 ⟨hu,-⟩;cases hu;refine sI ?_;intros;refine gR2 16 18 c152r6.eq_1 @hw3 ?_;intros;refine dT ?_;refine eC ⟨⟨k+1,⟨by omega,by omega⟩,eE,eE,by rw[Nat.add_sub_cancel,FE h0 hx min hk0];(refine sI ?_;try with_reducible exact True.intro),rfl⟩,?_⟩;refine sI ?_;omega
  ·have hkl:k=l.length:=by simp at ht;omega
   subst hkl;refine eg ?_;refine sI ?_;intros;refine gR 24 25 c152r7.eq_1 ?_;intros;refine rW ?_;rw[List.take_of_length_le (by simp)]
theorem EV(l:J6)(y:Int)(h0:l[0]?=some y)(v:Value)(G:JT)(hl:SlV G IE 1 v l):FnS Tryz.prog 153 #[v] G (.int .i64 ((l.drop 1).foldl max y)):=by
 refine F153.fnS (by simp) (d7 ?_);obtain⟨A,c,rfl,hc,hm,hA⟩:=hl;have hpos:=(List.getElem?_eq_some_iff.1 h0).1;unfold c153;intros;refine gR 0 0 c153r0.eq_1 ?_;intros;refine gR 5 7 c153r1.eq_1 ?_;intros;refine gC ?_;refine gb (fun h1=>by simp at h1;omega) (fun h1=>?_)
 (repeat first | refine eD ?_ | refine iV ?_)
 intros;refine gR 9 12 c153r2.eq_1 ?_;refine hA.x_l1 h0 rfl rfl ?_;rintro a1 ha1 u1 ⟨hu,-⟩;cases hu;refine sI ?_;intros;refine gR 0 0 c153r3.eq_1 ?_;intros;refine dT ?_;refine ej (fun e h=>∃ k:Nat,(0 < k∧k≤l.length)∧e 4=.int .i64 k∧e 0=.slice A l.length c∧e 3=.int .i64 (((l.drop 1).take (k - 1)).foldl max y)∧h=⟨G,[],[]⟩) (fun e h=>l.length - iv (e 4)) ?_ ?_
 ·exact⟨1,⟨by omega,by omega⟩,by refine sI ?_;rfl,eE,by refine sI ?_;rfl,rfl⟩
 ·rintro e h ⟨k,⟨hk0,hk⟩,e4,e0,e3,rfl⟩;refine dX [0,3,4] ?_;refine sJ3 @e0 @e3 @e4 ?_;intros;refine gR 12 15 c153r4.eq_1 ?_;intros;refine gC ?_;refine gb (fun ht=>?_) (fun ht=>?_)
  ·have hkl:k < l.length:=by simpa using ht
   have hw3:=eY k c (by omega) hm;obtain⟨x,hx⟩:∃ x,l[k]?=some x:=⟨l[k],getElem?_eq_getElem (by omega)⟩
   (repeat first | refine eD ?_ | refine iV ?_)
   intros;refine gR 18 24 c153r5.eq_1 ?_;refine hA.x_l1 hx rfl rfl ?_;rintro a1 ha1 u1 ⟨hu,-⟩;cases hu;refine sI ?_;intros;refine gR2 16 18 c153r6.eq_1 @hw3 ?_;intros;refine dT ?_;refine eC ⟨⟨k+1,⟨by omega,by omega⟩,eE,eE,by rw[Nat.add_sub_cancel,FE h0 hx max hk0];(refine sI ?_;try with_reducible exact True.intro),rfl⟩,?_⟩;refine sI ?_;omega
  ·have hkl:k=l.length:=by simp at ht;omega
   subst hkl;refine eg ?_;refine sI ?_;intros;refine gR 24 25 c153r7.eq_1 ?_;intros;refine rW ?_;rw[List.take_of_length_le (by simp)]
theorem u0(m:Int):∀ (l:J6) (y:Int),m≤l.foldl min y↔m≤y∧∀ x∈l,m≤x
 | [],y=>by simp
 | x :: l,y=>by
  have h1:m≤min y x↔m≤y∧m≤x:=by omega
  rw[List.foldl_cons,u0 m l,h1,and_assoc];simp
theorem wi(m:Int):∀ (l:J6) (y:Int),l.foldl max y≤m↔y≤m∧∀ x∈l,x≤m
 | [],y=>by simp
 | x :: l,y=>by
  have h1:max y x≤m↔y≤m∧x≤m:=by omega
  rw[List.foldl_cons,wi m l,h1,and_assoc];simp
theorem uE(m:Int)(l:J6)(y:Int):(decide (0≤l.foldl min y) && decide (l.foldl max y≤m))=(y :: l).all (rng m):=by
 rw[Bool.eq_iff_iff];simp only[Bool.and_eq_true,decide_eq_true_eq,u0,wi,List.all_eq_true,rng,List.mem_cons];constructor
 ·rintro⟨⟨h1,h2⟩,h3,h4⟩ x (rfl | hx)
  ·exact⟨h1,h3⟩
  ·exact⟨h2 x hx,h4 x hx⟩
 ·intro h;exact⟨⟨(h y (.inl rfl)).1,fun x hx=>(h x (.inr hx)).1⟩,(h y (.inl rfl)).2,fun x hx=>(h x (.inr hx)).2⟩
theorem wI(m:Int)(y:Int)(l:J6)(v:Value)(G:JT)(hl:SlV G IE 1 v (y :: l)):FnS Tryz.prog 117 #[.int .i64 m,v] G (.bool ((y :: l).all (rng m))):=by
 refine F117.fnS (by simp) (d7 ?_);rw[← uE];unfold c117;intros;refine gR 0 0 c117r0.eq_1 ?_;intros;refine gR 5 14 c117r1.eq_1 ?_;refine fK (Ed (y :: l) y rfl v G hl _ _) ?_;refine gd (fun h1=>?_) (fun h1=>?_)
 ·refine sI ?_;refine fK (EV (y :: l) y rfl v G hl _ _) ?_;intros;refine rW ?_;have h1:0≤l.foldl min y:=by simpa using h1
  simp[h1]
 ·refine sI ?_;intros;refine rW ?_;have h1:¬ 0≤l.foldl min y:=by simpa using h1
  simp[h1]
theorem F179:Fun Tryz.prog 179 131 v179 c179 o179:=Fun.mk' Tryz.func179 Tryz.ntmps179 (by kernel_rfl) (by kernel_rfl) s179 q179
structure Batch where
 base:Int
 last:Int
 src:Int
 epoch:Int
 pid:Int
 gen:Int
 seq:Int
 txn:Bool
 ctl:Int
 recs:List Rec
def fo(x:Batch)(v:Value):JU:=[.int .i64 x.base,.int .i64 x.last,.int .i64 x.src,.int .i64 x.epoch,.int .i64 x.pid,.int .i64 x.gen,.int .i64 x.seq,.bool x.txn,.int .i64 x.ctl,v]
def BE(G:JT)(x:Batch)(cs:JU):Prop :=
 ∃ A c,cs=fo x (.slice A x.recs.length c)∧(x.recs.length≤c∧c≤maxLen∧SlA G RR 5 A x.recs)∧I64 x.base∧I64 x.last∧I64 x.src∧I64 x.epoch∧I64 x.pid∧I64 x.gen∧I64 x.seq∧I64 x.ctl
theorem BE.le{G G':JT}(hg:Gle G G'){x:Batch}{cs:JU}(h:BE G x cs):BE G' x cs:=by
 obtain⟨A,c,h1,⟨h2,h3,h4⟩,h5⟩:=h;exact⟨A,c,h1,⟨h2,h3,h4.le hg Kd⟩,h5⟩
def tA(last:Int):Int→List Rec→Bool
 | _,[]=>true
 | next,r :: rs=>decide (jW r=0) && decide (next≤r.off) && decide (r.off≤last) && tA last (r.off+1) rs
def iP(b:Batch):Prop :=
 (rng 1099511627776 b.base=true∧rng 1099511627776 b.last=true∧rng 1099511627776 b.src=true)∧(rng 1048576 b.epoch=true∧rng 1048576 b.gen=true∧rng 1048576 b.seq=true) ∧
  (b.base≤b.last∧b.last - b.base < 16∧b.src+(b.last - b.base)≤1099511627776∧b.seq+(b.last - b.base)≤1048576)∧(-1≤b.pid∧b.pid≤1099511627776)∧(b.pid=-1→b.gen=0∧b.seq=0∧b.txn=false∧b.ctl=0) ∧
  ((b.ctl=0∧tA b.last b.base b.recs=true)∨((b.ctl=1∨b.ctl=2)∧b.last - b.base=0∧b.recs=[]∧b.txn=true))
instance decForm (b:Batch):Decidable (iP b):=by
 unfold iP
 infer_instance
theorem lQ(m:Int)(y:Int)(l:J6)(v:Value)(n:Nat)(ys:JU)(hc:Cells IE 1 (y :: l) ys)(G:JT)(L:JW)(D:J5):
  eP Tryz.prog 117 #[.int .i64 m,v] ⟨G,.row v 3 1 n ys :: L,D⟩ fun r h'=>r=.bool ((y :: l).all (rng m))∧h'=⟨G,.row v 3 1 n ys :: L,D⟩ :=
 Fy (E:=IE) (xs:=y :: l) (R:=fun r=>r=.bool ((y :: l).all (rng m))) F117.enters (by decide) hc fun G' hg hx=>by
  have:=wI m y l v G' hx L D;simpa using this
theorem AU{a b c:Int}(ha:I64 a)(hb:I64 b)(hc:I64 c):Cells IE 1 [a,b,c] [.int .i64 a,.int .i64 b,.int .i64 c] :=
 .cons (cs:=[.int .i64 a]) ⟨rfl,ha⟩ rfl (.cons (cs:=[.int .i64 b]) ⟨rfl,hb⟩ rfl (.one (cs:=[.int .i64 c]) ⟨rfl,hc⟩ rfl))
theorem xU(x:Batch)(cs:JU)(G:JT)(hx:BE G x cs):FnS Tryz.prog 179 #[.agg cs.toArray] G (.bool (decide (iP x))):=by
 obtain⟨A,c,rfl,⟨hc,hm,hA⟩,i1,i2,i3,i4,i5,i6,i7,i8⟩:=hx;refine F179.fnS (by simp) (d7 ?_);unfold c179 fo;intros;refine gR 0 0 c179r0.eq_1 ?_;have hbad:∀ (fr:J0) (e:Env) (L:JW),¬ iP x→go none Tryz.prog 131 v179.1 v179.2 (fB o179 fun v h=>v=.bool (decide (iP x))) (Td.s ((SC.reg false c179r2).seq .ret) :: fr) e ⟨G,L,[]⟩:=fun fr e L hx=>by
  intros;refine gR 0 0 c179r2.eq_1 ?_;intros;refine rW ?_;rw[decide_eq_false hx]
 intros;refine gR 8 26 c179r1.eq_1 ?_;intro b1 hb1;refine fK (lQ 1099511627776 _ _ _ _ _ (AU i1 i2 i3) _ _ _) ?_;refine gd (fun h1=>?_) (fun h1=>?_)
 ·refine sI ?_;intros;refine gC ?_;refine hbad _ _ _ fun h=>?_
  simp[h.1.1,h.1.2.1,h.1.2.2]at h1
 refine sI ?_;intro b2 hb2;refine fK (lQ 1048576 _ _ _ _ _ (AU i4 i6 i7) _ _ _) ?_;intros;refine gC ?_;refine gb (fun h2=>?_) (fun h2=>?_)
 ·refine hbad _ _ _ fun h=>?_
  simp[h.2.1.1,h.2.1.2.1,h.2.1.2.2]at h2
 have h1:rng 1099511627776 x.base=true∧rng 1099511627776 x.last=true∧rng 1099511627776 x.src=true:=by simpa using h1
 have h2:rng 1048576 x.epoch=true∧rng 1048576 x.gen=true∧rng 1048576 x.seq=true:=by simpa using h2
 have h1':=h1;have h2':=h2;simp[rng]at h1' h2';have w1:IntKind.i64.wrap (x.last - x.base)=x.last - x.base:=by rw[eh] <;> omega
 (repeat first | refine eD ?_ | refine iV ?_)
 intros;refine gR2 28 32 c179r3.eq_1 @w1 ?_;have hb5:∀ (fr:J0) (e:Env) (L:JW),¬ iP x→go none Tryz.prog 131 v179.1 v179.2 (fB o179 fun v h=>v=.bool (decide (iP x))) (Td.s ((SC.reg false c179r5).seq .ret) :: fr) e ⟨G,L,[]⟩:=fun fr e L hx=>by
  intros;refine gR 0 0 c179r5.eq_1 ?_;intros;refine rW ?_;rw[decide_eq_false hx]
 have hb7:∀ (fr:J0) (e:Env) (L:JW),¬ iP x→go none Tryz.prog 131 v179.1 v179.2 (fB o179 fun v h=>v=.bool (decide (iP x))) (Td.s ((SC.reg false c179r7).seq .ret) :: fr) e ⟨G,L,[]⟩:=fun fr e L hx=>by
  intros;refine gR 0 0 c179r7.eq_1 ?_;intros;refine rW ?_;rw[decide_eq_false hx]
 have hb9:∀ (fr:J0) (e:Env) (L:JW),¬ iP x→go none Tryz.prog 131 v179.1 v179.2 (fB o179 fun v h=>v=.bool (decide (iP x))) (Td.s ((SC.reg false c179r9).seq .ret) :: fr) e ⟨G,L,[]⟩:=fun fr e L hx=>by
  intros;refine gR 0 0 c179r9.eq_1 ?_;intros;refine rW ?_;rw[decide_eq_false hx]
 have hb17:∀ (fr:J0) (e:Env) (L:JW),¬ iP x→go none Tryz.prog 131 v179.1 v179.2 (fB o179 fun v h=>v=.bool (decide (iP x))) (Td.s ((SC.reg false c179r17).seq .ret) :: fr) e ⟨G,L,[]⟩:=fun fr e L hx=>by
  intros;refine gR 0 0 c179r17.eq_1 ?_;intros;refine rW ?_;rw[decide_eq_false hx]
 have w2:∀ (h:0≤x.last - x.base),IntKind.i64.wrap (x.src+(x.last - x.base))=x.src+(x.last - x.base):=fun h=>by rw[eh] <;> omega
 have w3:∀ (h:0≤x.last - x.base),IntKind.i64.wrap (x.seq+(x.last - x.base))=x.seq+(x.last - x.base):=fun h=>by rw[eh] <;> omega
 have w4:IntKind.i64.wrap (x.gen+x.seq)=x.gen+x.seq:=by rw[eh] <;> omega
 intros;refine gR 33 53 c179r4.eq_1 ?_;refine gd (fun h3=>?_) (fun h3=>?_)
 ·refine sI ?_;intros;refine gC ?_;exact hb5 _ _ _ fun h=>by have:=Kb h3;have:=h.2.2.1.1;omega
 have h3:=Kc h3;refine sI ?_;refine gd (fun h4=>?_) (fun h4=>?_)
 ·refine sI ?_;intros;refine gC ?_;exact hb5 _ _ _ fun h=>by have:=Kb h4;have:=h.2.2.1.2.1;omega
 have h4:=Kc h4
 (refine sJ (w2 (by omega)) ?_)
 refine gd (fun h5=>?_) (fun h5=>?_)
 ·refine sI ?_;intros;refine gC ?_;exact hb5 _ _ _ fun h=>by have:=Kb h5;have:=h.2.2.1.2.2.1;omega
 have h5:=Kc h5
 (refine sJ (w3 (by omega)) ?_)
 intros;refine gC ?_;refine gb (fun h6=>?_) (fun h6=>?_)
 ·exact hb5 _ _ _ fun h=>by have:=Kb h6;have:=h.2.2.1.2.2.2;omega
 have h6:=Kc h6;intros;refine gR 55 62 c179r6.eq_1 ?_;refine gd (fun h7=>?_) (fun h7=>?_)
 ·refine sI ?_;intros;refine gC ?_;exact hb7 _ _ _ fun h=>by have:=Kb h7;have:=h.2.2.2.1.1;omega
 have h7:=Kc h7;refine sI ?_;intros;refine gC ?_;refine gb (fun h8=>?_) (fun h8=>?_)
 ·exact hb7 _ _ _ fun h=>by have:=Kb h8;have:=h.2.2.2.1.2;omega
 have h8:=Kc h8;intros;refine gR 64 83 c179r8.eq_1 ?_;have hrest:∀ (e:Env),(x.pid=-1→x.gen=0∧x.seq=0∧x.txn=false∧x.ctl=0)→e 3=.int .i64 (x.last - x.base) →
   go none Tryz.prog 131 v179.1 v179.2 (fB o179 fun v h=>v=.bool (decide (iP x))) [Td.s (((SC.reg false c179r10).seq (SC.blk 1 ((SC.reg false c179r11).seq (SC.cond (O.t 85) ((SC.reg false c179r12).seq (((SC.reg false c179r13).seq (SC.blk 2 ((SC.reg false c179r14).seq ((SC.cond (O.t 93) SC.skip (SC.exit 2)).seq ((SC.blk 3 ((SC.reg false c179r15).seq (((SC.reg false c179r16).seq (SC.cond (O.t 111) ((SC.reg false c179r17).seq SC.ret) SC.skip)).seq (SC.reg false c179r18)))).seq (SC.reg false c179r19)))).loop)).seq ((SC.reg false c179r20).seq SC.ret))) (((SC.reg false c179r21).seq (SC.cond (O.t 116) SC.skip (SC.reg false c179r22))).seq (SC.cond (O.t 116) ((SC.reg false c179r23).seq SC.ret) SC.skip)))))).seq ((SC.reg false c179r24).seq SC.ret))] e ⟨G,[.reg 1 [.int .i64 x.base,.int .i64 x.last,.int .i64 x.src,.int .i64 x.epoch,.int .i64 x.pid,.int .i64 x.gen,.int .i64 x.seq,.bool x.txn,.int .i64 x.ctl,.slice A x.recs.length c]],[]⟩:=fun e hpid e3=>by
  refine dX [3] ?_;refine sJ @e3 ?_;intros;refine gR 0 0 c179r10.eq_1 ?_;intros;refine gR 86 87 c179r11.eq_1 ?_;intros;refine gC ?_;have hmk:((x.ctl=0∧tA x.last x.base x.recs=true)∨((x.ctl=1∨x.ctl=2)∧x.last - x.base=0∧x.recs=[]∧x.txn=true))→iP x:=fun h=>⟨h1,h2,⟨by omega,by omega,by omega,by omega⟩,⟨by omega,by omega⟩,hpid,h⟩
  refine gbD (fun k1=>?_) (fun k1=>?_)
  ·intros;refine gR 88 89 c179r12.eq_1 ?_;intros;refine gR 0 0 c179r13.eq_1 ?_;intros;refine dT ?_
   refine ej (fun e h=>∃ (k:Nat) (nx:Int),(k≤x.recs.length∧tA x.last x.base x.recs=tA x.last nx (x.recs.drop k))∧e 92=.int .i64 k∧e 91=.int .i64 x.recs.length∧e 90=.slice A x.recs.length c∧e 4=.int .i64 nx∧h.G=G∧h.D=[]∧[.reg 1 [.int .i64 x.base,.int .i64 x.last,.int .i64 x.src,.int .i64 x.epoch,.int .i64 x.pid,.int .i64 x.gen,.int .i64 x.seq,.bool x.txn,.int .i64 x.ctl,.slice A x.recs.length c]].Sublist h.L) (fun e h=>x.recs.length - iv (e 92)) ?_ ?_
   ·exact⟨0,x.base,⟨Nat.zero_le _,rfl⟩,eE,eE,eE,eE,rfl,rfl,List.Sublist.refl _⟩
   ·rintro e ⟨G',L,D⟩ ⟨k,nx,⟨hk,hrow⟩,e92,e91,e90,e4,hG,hD,hL⟩;dsimp only at hG hD hL;subst hG hD;refine dW (dY hL) ?_;refine dX [4,90,91,92] ?_;refine sJ4 @e4 @e90 @e91 @e92 ?_;intros;refine gR 0 0 c179r14.eq_1 ?_;intros;refine gC ?_;refine gb (fun ht=>?_) (fun ht=>?_)
    ·have hkl:k < x.recs.length:=by simpa using ht
     have hw3:=eY k c (by omega) hm;obtain⟨r,hr⟩:∃ r,x.recs[k]?=some r:=⟨x.recs[k],getElem?_eq_getElem (by omega)⟩;have hdr:x.recs.drop k=r :: x.recs.drop (k+1):=by
      have:=List.getElem?_eq_some_iff.1 hr;rw[List.drop_eq_getElem_cons hkl,this.2]
     rw[hdr]at hrow;simp only[tA]at hrow;have hno:tA x.last x.base x.recs=false→¬ iP x:=fun h h'=>by
      rcases h'.2.2.2.2.2 with h9 | h9
      ·rw[h]at h9;cases h9.2
      ·omega
     intros;refine gR 94 96 c179r15.eq_1 ?_;refine hA.x_ld hr rfl rfl ?_;rintro a1 ha1 cs ⟨rfl,⟨j1,j2⟩,j3,j4⟩;unfold gJ;refine sI ?_;have hck:=pw r;unfold gJ at hck;intros;refine gR 96 111 c179r16.eq_1 ?_;refine fK (hck G' _ _) ?_;refine gd (fun k2=>?_) (fun k2=>?_)
     ·refine sI ?_;intros;refine gC ?_;exact hb17 _ _ _ (hno (by rw[hrow];simp at k2;simp[k2]))
     have k2:jW r=0:=by simpa using k2
     refine sI ?_;refine gd (fun k3=>?_) (fun k3=>?_)
     ·refine sI ?_;intros;refine gC ?_;exact hb17 _ _ _ (hno (by rw[hrow];have:=Kb k3;simp;omega))
     have k3:=Kc k3;refine sI ?_;intros;refine gC ?_;refine gb (fun k4=>?_) (fun k4=>?_)
     ·exact hb17 _ _ _ (hno (by rw[hrow];have:=Kb k4;simp;omega))
     have k4:=Kc k4;have hoff:=(fH k2).1.1;simp[inO]at hoff;have w5:IntKind.i64.wrap (r.off+1)=r.off+1:=by rw[eh] <;> omega
     (repeat first | refine eD ?_ | refine iV ?_)
     intros;refine gR2 113 115 c179r18.eq_1 @w5 ?_;intros;refine gR2 115 116 c179r19.eq_1 @hw3 ?_;intros;refine dT ?_;refine eC ⟨⟨k+1,r.off+1,⟨by omega,by rw[hrow];simp[k2];omega⟩,eE,eE,eE,eE,rfl,rfl,.cons _ J9⟩,?_⟩;refine sI ?_;omega
    ·have hkl:k=x.recs.length:=by simp at ht;omega
     subst hkl;refine eg ?_;refine sI ?_;intros;refine gR 0 0 c179r20.eq_1 ?_;intros;refine rW ?_;rw[List.drop_length]at hrow;rw[decide_eq_true (hmk (.inl ⟨k1,hrow⟩))]
  ·have hb24:∀ (fr:J0) (e:Env) (L:JW),¬ iP x→go none Tryz.prog 131 v179.1 v179.2 (fB o179 fun v h=>v=.bool (decide (iP x))) (Td.s ((SC.reg false c179r24).seq .ret) :: fr) e ⟨G,L,[]⟩:=fun fr e L hx=>by
    intros;refine gR 0 0 c179r24.eq_1 ?_;intros;refine rW ?_;rw[decide_eq_false hx]
   have hfin:∀ (fr:J0) (e:Env),(x.ctl=1∨x.ctl=2)→e 3=.int .i64 (x.last - x.base)→go none Tryz.prog 131 v179.1 v179.2 (fB o179 fun v h=>v=.bool (decide (iP x))) (Td.s ((SC.reg false c179r23).seq .ret) :: fr) e ⟨G,[.reg 1 [.int .i64 x.base,.int .i64 x.last,.int .i64 x.src,.int .i64 x.epoch,.int .i64 x.pid,.int .i64 x.gen,.int .i64 x.seq,.bool x.txn,.int .i64 x.ctl,.slice A x.recs.length c]],[]⟩:=fun fr e hc12 e3=>by
    refine dX [3] ?_;refine sJ @e3 ?_;have hnf:∀ (_:¬ (x.last - x.base=0∧x.recs=[]∧x.txn=true)),decide (iP x)=false:=fun hn=>decide_eq_false fun h=>by
     rcases h.2.2.2.2.2 with h9 | h9
     ·exact k1 h9.1
     ·exact hn h9.2
    intros;refine gR 119 131 c179r23.eq_1 ?_;refine gdD (fun k2=>?_) (fun k2=>?_)
    ·refine sI ?_;refine gd (fun k3=>?_) (fun k3=>?_)
     ·have k3:x.recs=[]:=by have:=Kb k3;exact List.eq_nil_of_length_eq_zero (by omega)
      refine sI ?_;intros;refine rW ?_;cases ht:x.txn with
      | false=>rw[hnf fun h=>by rw[ht]at h;cases h.2.2]
      | true=>rw[decide_eq_true (hmk (.inr ⟨hc12,k2,k3,ht⟩))]
     ·have k3:=Kc k3;refine sI ?_;intros;refine rW ?_;rw[hnf fun h=>k3 (by rw[h.2.1];rfl)]
    ·refine sI ?_;intros;refine rW ?_;rw[hnf fun h=>k2 h.1]
   intros;refine gR 117 118 c179r21.eq_1 ?_;intros;refine gC ?_;refine gb (fun k2=>?_) (fun k2=>?_)
   ·(repeat first | refine eD ?_ | refine iV ?_)
    intros;refine gC ?_;refine gb (fun _=>?_) (fun h=>by rw[k2]at h;cases h);refine hfin _ _ (.inl (Kb k2)) ?_
    (refine sI ?_;try with_reducible exact True.intro)
   ·have k2:=Kc k2;intros;refine gR 118 119 c179r22.eq_1 ?_;intros;refine gC ?_;refine gb (fun k3=>?_) (fun k3=>?_)
    ·refine hfin _ _ (.inr (Kb k3)) ?_
     (refine sI ?_;try with_reducible exact True.intro)
    ·have k3:=Kc k3
     (repeat first | refine eD ?_ | refine iV ?_)
     refine hb24 _ _ _ fun h=>?_
     rcases h.2.2.2.2.2 with h9 | h9
     ·exact k1 h9.1
     ·rcases h9.1 with h9 | h9
      ·exact k2 h9
      ·exact k3 h9
 refine gdD (fun h9=>?_) (fun h9=>?_)
 ·refine sJ @w4 ?_;refine gd (fun h10=>?_) (fun h10=>?_)
  ·refine sI ?_;intros;refine gC ?_;exact hb9 _ _ _ fun h=>by have:=Kb h10;have:=h.2.2.2.2.1 h9;omega
  have h10:=Kc h10;refine sI ?_;refine gd (fun h11=>?_) (fun h11=>?_)
  ·refine sI ?_;intros;refine gC ?_;exact hb9 _ _ _ fun h=>by have:=(h.2.2.2.2.1 h9).2.2.1;rw[h11]at this;cases this
  refine sI ?_;intros;refine gC ?_;refine gb (fun h12=>?_) (fun h12=>?_)
  ·exact hb9 _ _ _ fun h=>by have:=Kb h12;have:=(h.2.2.2.2.1 h9).2.2.2;omega
  have h12:=Kc h12
  (repeat first | refine eD ?_ | refine iV ?_)
  refine dW (dY (.cons _ (.cons _ J9))) ?_;refine hrest _ (fun _=>⟨by omega,by omega,h11,by omega⟩) ?_
  (refine sI ?_;try with_reducible exact True.intro)
 ·refine sI ?_;intros;refine gC ?_
  (repeat first | refine eD ?_ | refine iV ?_)
  refine dW (dY (.cons _ (.cons _ J9))) ?_;refine hrest _ (fun h=>absurd h h9) ?_
  (refine sI ?_;try with_reducible exact True.intro)
abbrev J4:=List Batch
theorem F127:Fun Tryz.prog 127 165 v127 c127 o127:=Fun.mk' Tryz.func127 Tryz.ntmps127 (by kernel_rfl) (by kernel_rfl) s127 q127
theorem su{m n:Int}(h:(!rng m n)=true):¬ rng m n=true:=by simpa using h
theorem rz{m n:Int}(h:(!rng m n)=false):0≤n∧n≤m:=by simpa [rng]using h
theorem rP{m n:Int}(h:0≤n∧n≤m):rng m n=true:=by simp[rng,h]
theorem CH(x:Batch)(cs:JU)(G:JT)(hx:BE G x cs):FnS Tryz.prog 127 #[.agg cs.toArray] G (.bool (decide (iP x))):=by
 obtain⟨A,c,rfl,⟨hc,hm,hA⟩,i1,i2,i3,i4,i5,i6,i7,i8⟩:=hx;refine F127.fnS (by simp) (d7 ?_);unfold c127 fo;intros;refine gR 0 0 c127r0.eq_1 ?_;have hb2:∀ (fr:J0) (e:Env) (L:JW),¬ iP x→go none Tryz.prog 165 v127.1 v127.2 (fB o127 fun v h=>v=.bool (decide (iP x))) (Td.s ((SC.reg false c127r2).seq .ret) :: fr) e ⟨G,L,[]⟩:=fun fr e L hx=>by
  intros;refine gR 0 0 c127r2.eq_1 ?_;intros;refine rW ?_;rw[decide_eq_false hx]
 have hb5:∀ (fr:J0) (e:Env) (L:JW),¬ iP x→go none Tryz.prog 165 v127.1 v127.2 (fB o127 fun v h=>v=.bool (decide (iP x))) (Td.s ((SC.reg false c127r5).seq .ret) :: fr) e ⟨G,L,[]⟩:=fun fr e L hx=>by
  intros;refine gR 0 0 c127r5.eq_1 ?_;intros;refine rW ?_;rw[decide_eq_false hx]
 have hb7:∀ (fr:J0) (e:Env) (L:JW),¬ iP x→go none Tryz.prog 165 v127.1 v127.2 (fB o127 fun v h=>v=.bool (decide (iP x))) (Td.s ((SC.reg false c127r7).seq .ret) :: fr) e ⟨G,L,[]⟩:=fun fr e L hx=>by
  intros;refine gR 0 0 c127r7.eq_1 ?_;intros;refine rW ?_;rw[decide_eq_false hx]
 have hb15:∀ (fr:J0) (e:Env) (L:JW),¬ iP x→go none Tryz.prog 165 v127.1 v127.2 (fB o127 fun v h=>v=.bool (decide (iP x))) (Td.s ((SC.reg false c127r15).seq .ret) :: fr) e ⟨G,L,[]⟩:=fun fr e L hx=>by
  intros;refine gR 0 0 c127r15.eq_1 ?_;intros;refine rW ?_;rw[decide_eq_false hx]
 intros;refine gR 8 37 c127r1.eq_1 ?_;refine fK (m7 x.base _ G _ _) ?_;refine gd (fun h1=>?_) (fun h1=>?_)
 ·refine sI ?_;intros;refine gC ?_;exact hb2 _ _ _ fun h=>by exact su h1 h.1.1
 have h1:=rz h1;refine sI ?_;refine fK (m7 x.last _ G _ _) ?_;refine gd (fun h2=>?_) (fun h2=>?_)
 ·refine sI ?_;intros;refine gC ?_;exact hb2 _ _ _ fun h=>by exact su h2 h.1.2.1
 have h2:=rz h2;refine sI ?_;refine fK (m7 x.src _ G _ _) ?_;refine gd (fun h3=>?_) (fun h3=>?_)
 ·refine sI ?_;intros;refine gC ?_;exact hb2 _ _ _ fun h=>by exact su h3 h.1.2.2
 have h3:=rz h3;have w1:IntKind.i64.wrap (x.last - x.base)=x.last - x.base:=by rw[eh] <;> omega
 refine sI ?_;refine gd (fun h4=>?_) (fun h4=>?_)
 ·refine sI ?_;intros;refine gC ?_;exact hb2 _ _ _ fun h=>by have:=Kb h4;have:=h.2.2.1.1;omega
 have h4:=Kc h4;refine sJ @w1 ?_;intros;refine gC ?_;refine gb (fun h5=>?_) (fun h5=>?_)
 ·exact hb2 _ _ _ fun h=>by have:=Kb h5;have:=h.2.2.1.2.1;omega
 have h5:=Kc h5
 (repeat first | refine eD ?_ | refine iV ?_)
 intros;refine gR2 39 43 c127r3.eq_1 @w1 ?_;have w2:IntKind.i64.wrap (x.src+(x.last - x.base))=x.src+(x.last - x.base):=by rw[eh] <;> omega
 intros;refine gR2 44 72 c127r4.eq_1 @w2 ?_;refine gd (fun h6=>?_) (fun h6=>?_)
 ·refine sI ?_;intros;refine gC ?_;exact hb5 _ _ _ fun h=>by have:=Kb h6;have:=h.2.2.1.2.2.1;omega
 have h6:=Kc h6;refine sI ?_;refine fK (m7 x.epoch _ G _ _) ?_;refine gd (fun h7=>?_) (fun h7=>?_)
 ·refine sI ?_;intros;refine gC ?_;exact hb5 _ _ _ fun h=>by exact su h7 h.2.1.1
 have h7:=rz h7;refine sI ?_;refine fK (m7 x.gen _ G _ _) ?_;refine gd (fun h8=>?_) (fun h8=>?_)
 ·refine sI ?_;intros;refine gC ?_;exact hb5 _ _ _ fun h=>by exact su h8 h.2.1.2.1
 have h8:=rz h8;refine sI ?_;refine fK (m7 x.seq _ G _ _) ?_;refine gd (fun h9=>?_) (fun h9=>?_)
 ·refine sI ?_;intros;refine gC ?_;exact hb5 _ _ _ fun h=>by exact su h9 h.2.1.2.2
 have h9:=rz h9;have w3:IntKind.i64.wrap (x.seq+(x.last - x.base))=x.seq+(x.last - x.base):=by rw[eh] <;> omega
 refine sJ @w3 ?_;intros;refine gC ?_;refine gb (fun k1=>?_) (fun k1=>?_)
 ·exact hb5 _ _ _ fun h=>by have:=Kb k1;have:=h.2.2.1.2.2.2;omega
 have k1:=Kc k1
 (repeat first | refine eD ?_ | refine iV ?_)
 have hrest:∀ (e:Env),(x.pid=-1→x.gen=0∧x.seq=0∧x.txn=false∧x.ctl=0)→(-1≤x.pid∧x.pid≤1099511627776)→e 3=.int .i64 (x.last - x.base) →
   go none Tryz.prog 165 v127.1 v127.2 (fB o127 fun v h=>v=.bool (decide (iP x))) [Td.s (((SC.reg false c127r8).seq (SC.cond (O.t 108) ((SC.reg false c127r9).seq SC.ret) SC.skip)).seq ((SC.reg false c127r10).seq (((SC.reg false c127r11).seq (SC.blk 0 ((SC.reg false c127r12).seq ((SC.cond (O.t 143) SC.skip (SC.exit 0)).seq ((SC.blk 1 ((SC.reg false c127r13).seq (((SC.reg false c127r14).seq (SC.cond (O.t 161) ((SC.reg false c127r15).seq SC.ret) SC.skip)).seq (SC.reg false c127r16)))).seq (SC.reg false c127r17)))).loop)).seq ((SC.reg false c127r18).seq SC.ret))))] e ⟨G,[.reg 1 [.int .i64 x.base,.int .i64 x.last,.int .i64 x.src,.int .i64 x.epoch,.int .i64 x.pid,.int .i64 x.gen,.int .i64 x.seq,.bool x.txn,.int .i64 x.ctl,.slice A x.recs.length c]],[]⟩:=fun e hpid hpr e3=>by
  refine dX [3] ?_;refine sJ @e3 ?_;have hmk:((x.ctl=0∧tA x.last x.base x.recs=true)∨((x.ctl=1∨x.ctl=2)∧x.last - x.base=0∧x.recs=[]∧x.txn=true))→iP x:=fun h=>⟨⟨rP h1,rP h2,rP h3⟩,⟨rP h7,rP h8,rP h9⟩,⟨by omega,by omega,by omega,by omega⟩,hpr,hpid,h⟩
  intros;refine gR 107 108 c127r8.eq_1 ?_;intros;refine gC ?_;refine gb (fun k2=>?_) (fun k2=>?_)
  ·have k2:=Kb k2;have hnf:∀ (_:¬ ((x.ctl=1∨x.ctl=2)∧x.last - x.base=0∧x.recs=[]∧x.txn=true)),decide (iP x)=false:=fun hn=>decide_eq_false fun h=>by
    rcases h.2.2.2.2.2 with h9 | h9
    ·exact k2 h9.1
    ·exact hn h9
   have hp0:0≤x.pid:=by
    by_cases hp:x.pid=-1
    ·exact absurd (hpid hp).2.2.2 k2
    ·omega
   intros;refine gR 110 136 c127r9.eq_1 ?_;have hfin:∀ (l:JV),True:=fun _=>trivial
   refine gdD (fun k3=>?_) (fun k3=>?_)
   ·refine sI ?_;refine gdD (fun a1=>?_) (fun a1=>?_)
    ·refine sI ?_;refine gd (fun a2=>?_) (fun a2=>?_)
     ·have a2:x.recs=[]:=by have:=Kb a2;exact List.eq_nil_of_length_eq_zero (by omega)
      refine sI ?_;refine gd (fun a3=>?_) (fun a3=>?_)
      ·refine sI ?_;intros;refine rW ?_;rw[decide_eq_true hp0,decide_eq_true (hmk (.inr ⟨.inl k3,a1,a2,a3⟩))]
      ·refine sI ?_;intros;refine rW ?_;rw[hnf fun h=>by rw[a3]at h;cases h.2.2.2]
     ·have a2:=Kc a2;refine sI ?_;intros;refine rW ?_;rw[hnf fun h=>a2 (by rw[h.2.2.1];rfl)]
    ·refine sI ?_;intros;refine rW ?_;rw[hnf fun h=>a1 h.2.1]
   ·refine sI ?_;refine gdD (fun k4=>?_) (fun k4=>?_)
    ·refine sI ?_;refine gdD (fun a1=>?_) (fun a1=>?_)
     ·refine sI ?_;refine gd (fun a2=>?_) (fun a2=>?_)
      ·have a2:x.recs=[]:=by have:=Kb a2;exact List.eq_nil_of_length_eq_zero (by omega)
       refine sI ?_;refine gd (fun a3=>?_) (fun a3=>?_)
       ·refine sI ?_;intros;refine rW ?_;rw[decide_eq_true hp0,decide_eq_true (hmk (.inr ⟨.inr k4,a1,a2,a3⟩))]
       ·refine sI ?_;intros;refine rW ?_;rw[hnf fun h=>by rw[a3]at h;cases h.2.2.2]
      ·have a2:=Kc a2;refine sI ?_;intros;refine rW ?_;rw[hnf fun h=>a2 (by rw[h.2.2.1];rfl)]
     ·refine sI ?_;intros;refine rW ?_;rw[hnf fun h=>a1 h.2.1]
    ·refine sI ?_;intros;refine rW ?_;rw[hnf fun h=>by rcases h.1 with h | h;exact k3 h;exact k4 h]
  ·have k2:x.ctl=0:=by simpa using k2
   have w4:IntKind.i64.wrap (x.base - 1)=x.base - 1:=by rw[eh] <;> omega
   (repeat first | refine eD ?_ | refine iV ?_)
   intros;refine gR2 137 139 c127r10.eq_1 @w4 ?_;intros;refine gR 0 0 c127r11.eq_1 ?_;intros;refine dT ?_
   refine ej (fun e h=>∃ (k:Nat) (nx:Int),(k≤x.recs.length∧tA x.last x.base x.recs=tA x.last nx (x.recs.drop k))∧e 142=.int .i64 k∧e 141=.int .i64 x.recs.length∧e 140=.slice A x.recs.length c∧e 4=.int .i64 (nx - 1)∧h.G=G∧h.D=[]∧[.reg 1 [.int .i64 x.base,.int .i64 x.last,.int .i64 x.src,.int .i64 x.epoch,.int .i64 x.pid,.int .i64 x.gen,.int .i64 x.seq,.bool x.txn,.int .i64 x.ctl,.slice A x.recs.length c]].Sublist h.L) (fun e h=>x.recs.length - iv (e 142)) ?_ ?_
   ·exact⟨0,x.base,⟨Nat.zero_le _,rfl⟩,eE,eE,eE,eE,rfl,rfl,List.Sublist.refl _⟩
   ·rintro e ⟨G',L,D⟩ ⟨k,nx,⟨hk,hrow⟩,e142,e141,e140,e4,hG,hD,hL⟩;dsimp only at hG hD hL;subst hG hD;refine dW (dY hL) ?_;refine dX [4,140,141,142] ?_;refine sJ4 @e4 @e140 @e141 @e142 ?_;intros;refine gR 0 0 c127r12.eq_1 ?_;intros;refine gC ?_;refine gb (fun ht=>?_) (fun ht=>?_)
    ·have hkl:k < x.recs.length:=by simpa using ht
     have hw3:=eY k c (by omega) hm;obtain⟨r,hr⟩:∃ r,x.recs[k]?=some r:=⟨x.recs[k],getElem?_eq_getElem (by omega)⟩;have hdr:x.recs.drop k=r :: x.recs.drop (k+1):=by
      have:=List.getElem?_eq_some_iff.1 hr;rw[List.drop_eq_getElem_cons hkl,this.2]
     rw[hdr]at hrow;simp only[tA]at hrow;have hno:tA x.last x.base x.recs=false→¬ iP x:=fun h h'=>by
      rcases h'.2.2.2.2.2 with h9 | h9
      ·rw[h]at h9;cases h9.2
      ·omega
     intros;refine gR 144 146 c127r13.eq_1 ?_;refine hA.x_ld hr rfl rfl ?_;rintro a1 ha1 cs ⟨rfl,⟨j1,j2⟩,j3,j4⟩;unfold gJ;refine sI ?_;have hck:=mQ r;unfold gJ at hck;intros;refine gR 146 161 c127r14.eq_1 ?_;refine fK (hck G' _ _) ?_;refine gd (fun k3=>?_) (fun k3=>?_)
     ·refine sI ?_;intros;refine gC ?_;exact hb15 _ _ _ (hno (by rw[hrow];simp at k3;simp[k3]))
     have k3:jW r=0:=by simpa using k3
     refine sI ?_;refine gd (fun k4=>?_) (fun k4=>?_)
     ·refine sI ?_;intros;refine gC ?_;exact hb15 _ _ _ (hno (by rw[hrow];have:=Kb k4;simp;omega))
     have k4:=Kc k4;refine sI ?_;intros;refine gC ?_;refine gb (fun k5=>?_) (fun k5=>?_)
     ·exact hb15 _ _ _ (hno (by rw[hrow];have:=Kb k5;simp;omega))
     have k5:=Kc k5;have hoff:r.off=r.off+1 - 1:=by omega
     (repeat first | refine eD ?_ | refine iV ?_)
     intros;refine gR 163 164 c127r16.eq_1 ?_;intros;refine gR2 164 165 c127r17.eq_1 @hw3 ?_;intros;refine dT ?_;refine eC ⟨⟨k+1,r.off+1,⟨by omega,by rw[hrow];simp[k3];omega⟩,eE,eE,eE,by rw[← hoff];(refine sI ?_;try with_reducible exact True.intro),rfl,rfl,.cons _ J9⟩,?_⟩;refine sI ?_;omega
    ·have hkl:k=x.recs.length:=by simp at ht;omega
     subst hkl;refine eg ?_;refine sI ?_;intros;refine gR 0 0 c127r18.eq_1 ?_;intros;refine rW ?_;rw[List.drop_length]at hrow;rw[decide_eq_true (hmk (.inl ⟨k2,hrow⟩))]
 intros;refine gR 74 105 c127r6.eq_1 ?_;refine gdD (fun q1=>?_) (fun q1=>?_)
 ·refine sI ?_;refine gd (fun q2=>?_) (fun q2=>?_)
  ·refine sI ?_;intros;refine gC ?_;exact hb7 _ _ _ fun h=>by have:=Kb q2;exact this (h.2.2.2.2.1 q1).1
  have q2:=Kc q2;refine sI ?_;refine gd (fun q3=>?_) (fun q3=>?_)
  ·refine sI ?_;intros;refine gC ?_;exact hb7 _ _ _ fun h=>by have:=Kb q3;exact this (h.2.2.2.2.1 q1).2.1
  have q3:=Kc q3;refine sI ?_;refine gd (fun q4=>?_) (fun q4=>?_)
  ·refine sI ?_;intros;refine gC ?_;exact hb7 _ _ _ fun h=>by have:=(h.2.2.2.2.1 q1).2.2.1;rw[q4]at this;cases this
  refine sI ?_;refine gd (fun q5=>?_) (fun q5=>?_)
  ·refine sI ?_;intros;refine gC ?_;exact hb7 _ _ _ fun h=>by have:=Kb q5;exact this (h.2.2.2.2.1 q1).2.2.2
  have q5:=Kc q5;refine sI ?_;refine gd (fun q6=>?_) (fun q6=>?_)
  ·exact absurd q1 (Kb q6)
  refine sI ?_;intros;refine gC ?_
  (repeat first | refine eD ?_ | refine iV ?_)
  refine hrest _ (fun _=>⟨by omega,by omega,q4,by omega⟩) (by omega) ?_
  (refine sI ?_;try with_reducible exact True.intro)
 ·refine sI ?_;refine gd (fun q6=>?_) (fun q6=>?_)
  ·refine sI ?_;refine fK (m7 x.pid _ G _ _) ?_;intros;refine gC ?_;refine gb (fun q7=>?_) (fun q7=>?_)
   ·refine hb7 _ _ _ fun h=>su q7 (rP ?_)
    have:=h.2.2.2.1;omega
   have q7:=rz q7
   (repeat first | refine eD ?_ | refine iV ?_)
   refine hrest _ (fun h=>absurd h q1) (by omega) ?_
   (refine sI ?_;try with_reducible exact True.intro)
  ·exact absurd (Kc q6) (by simpa using q1)
abbrev W32:=BitVec 32
def vW(v:W32):Value:=.int .u32 (v.toNat:Int)
def uo:W32:=3988292384#32
def stp(v:W32):W32:=(v >>> 1) ^^^ (if v.getLsbD 0=true then uo else 0#32)
def mF:Nat→W32→W32
 | 0,v=>v
 | n+1,v=>stp (mF n v)
theorem BT(a b:W32):stp (a ^^^ b)=stp a ^^^ stp b:=by
 unfold stp;rw[BitVec.ushiftRight_xor_distrib,BitVec.getLsbD_xor];generalize a >>> 1=x;generalize b >>> 1=y;cases a.getLsbD 0 <;> cases b.getLsbD 0 <;> simp
 ·rw[BitVec.xor_assoc]
 ·rw[BitVec.xor_assoc,BitVec.xor_assoc,BitVec.xor_comm uo y]
 ·rw[BitVec.xor_assoc,BitVec.xor_comm uo (y ^^^ uo),BitVec.xor_assoc,BitVec.xor_self,BitVec.xor_zero]
theorem sW(a b:W32):∀ n,mF n (a ^^^ b)=mF n a ^^^ mF n b
 | 0=>rfl
 | n+1=>by rw[mF,sW a b n,BT];rfl
theorem tt{v:W32}(h:v.getLsbD 0=false):stp v=v >>> 1:=by rw[stp,if_neg (by rw[h];simp),BitVec.xor_zero]
theorem tB{v:W32}:∀ n,(∀ i,i < n→v.getLsbD i=false)→mF n v=v >>> n
 | 0,_=>by simp[mF]
 | n+1,h=>by
  rw[mF,tB n fun i hi=>h i (by omega),tt (by rw[BitVec.getLsbD_ushiftRight];exact h _ (by omega))];rw[BitVec.shiftRight_add]
theorem tq(v:W32):mF 4 v=mF 4 (v &&& 15#32) ^^^ (v >>> 4):=by
 have h1:v=(v &&& 15#32) ^^^ (v &&& ~~~15#32):=by
  apply BitVec.eq_of_getLsbD_eq;intro i hi;simp only[BitVec.getLsbD_xor,BitVec.getLsbD_and,BitVec.getLsbD_not];cases v.getLsbD i <;> cases (15#32).getLsbD i <;> simp[hi]
 have h2:mF 4 (v &&& ~~~15#32)=v >>> 4:=by
  rw[tB 4]
  ·apply BitVec.eq_of_getLsbD_eq;intro i hi;simp only[BitVec.getLsbD_ushiftRight,BitVec.getLsbD_and,BitVec.getLsbD_not];by_cases h:4+i < 32
   ·have:(15#32).getLsbD (4+i)=false:=by
     rw[BitVec.getLsbD_ofNat];have:Nat.testBit 15 (4+i)=false:=Nat.testBit_lt_two_pow (Nat.lt_of_lt_of_le (by decide:15 < 2 ^ 4) (Nat.pow_le_pow_right (by decide) (by omega)));simp[this]
    rw[this];simp only[h,decide_true,Bool.not_false,Bool.and_true]
   ·rw[BitVec.getLsbD_of_ge v (4+i) (by omega)];simp
  ·intro i hi;have:(15#32).getLsbD i=true:=by
    match i,hi with
    | 0,_=>rfl
    | 1,_=>rfl
    | 2,_=>rfl
    | 3,_=>rfl
   rw[BitVec.getLsbD_and,BitVec.getLsbD_not,this];simp
 conv=>lhs;rw[h1,sW,h2]
theorem tE(v:W32):∀ m n,mF (m+n) v=mF m (mF n v)
 | 0,n=>by rw[Nat.zero_add];rfl
 | m+1,n=>by rw[Nat.succ_add,mF,tE v m n];rfl
def ofB(b:UInt8):W32:=BitVec.ofNat 32 b.toNat
def upd(v:W32)(c:UInt8):W32:=mF 8 (v ^^^ ofB c)
def uf(v:W32):W32:=mF 4 (v &&& 15#32) ^^^ (v >>> 4)
theorem F4(v:W32)(c:UInt8):upd v c=uf (uf (v ^^^ ofB c)):=by
 rw[uf,← tq,uf,← tq,← tE];rfl
def Ar(l:J3):W32 := ~~~ (l.foldl upd 4294967295#32)
theorem ofW(a:W32):BitVec.ofInt 32 (a.toNat:Int)=a:=by
 rw[BitVec.ofInt_natCast,BitVec.ofNat_toNat];simp
theorem yj(a:W32):IntKind.u32.wrap (a.toNat:Int)=(a.toNat:Int):=by
 have:=a.isLt;simp only[IntKind.wrap,IntKind.bits,IntKind.signed];simp;omega
theorem jE(a b:W32):fl .xor (vW a) (vW b)=some (vW (a ^^^ b)):=by
 simp only[fl,vW];rw[if_pos trivial];have:(BitVec.ofInt IntKind.u32.bits (a.toNat:Int) ^^^ BitVec.ofInt IntKind.u32.bits (b.toNat:Int)).toNat=(a ^^^ b).toNat:=by
  show(BitVec.ofInt 32 (a.toNat:Int) ^^^ BitVec.ofInt 32 (b.toNat:Int)).toNat=_;rw[ofW,ofW]
 rw[this,yj]
theorem pH(a b:W32):fl .and (vW a) (vW b)=some (vW (a &&& b)):=by
 simp only[fl,vW];rw[if_pos trivial];have:(BitVec.ofInt IntKind.u32.bits (a.toNat:Int) &&& BitVec.ofInt IntKind.u32.bits (b.toNat:Int)).toNat=(a &&& b).toNat:=by
  show(BitVec.ofInt 32 (a.toNat:Int) &&& BitVec.ofInt 32 (b.toNat:Int)).toNat=_;rw[ofW,ofW]
 rw[this,yj]
theorem tj(a:W32)(k:Nat)(hk:k≤32):fl .shr (vW a) (.int .u64 (k:Int))=some (vW (a >>> k)):=by
 simp only[fl,vW];rw[if_pos (by omega)];congr 2;have h1:min ((k:Int)).toNat IntKind.u32.bits=k:=by simp[IntKind.bits];omega
 rw[h1,BitVec.toNat_ushiftRight,Nat.shiftRight_eq_div_pow];rw[Int.fdiv_eq_ediv_of_nonneg _ (by exact_mod_cast Nat.zero_le _)]
 exact_mod_cast rfl
theorem EC(c:UInt8):Value.int .u32 (IntKind.u32.wrap (c.toNat:Int))=vW (ofB c):=by
 have h:=c.toNat_lt;have h2:(ofB c).toNat=c.toNat:=by simp[ofB]
 have:=yj (ofB c);rw[h2]at this;rw[vW,h2,this]
theorem F230:Fun Tryz.prog 230 14 v230 c230 o230:=Fun.mk' Tryz.func230 Tryz.ntmps230 (by kernel_rfl) (by kernel_rfl) s230 q230
theorem F217:Fun Tryz.prog 217 11 v217 c217 o217:=Fun.mk' Tryz.func217 Tryz.ntmps217 (by kernel_rfl) (by kernel_rfl) s217 q217
theorem F205:Fun Tryz.prog 205 14 v205 c205 o205:=Fun.mk' Tryz.func205 Tryz.ntmps205 (by kernel_rfl) (by kernel_rfl) s205 q205
theorem F6(v:W32):v.getLsbD 0=true↔v.toNat % 2=1:=by
 rw[BitVec.getLsbD,Nat.testBit_zero];simp
theorem qg(v:W32):fl .quo (vW v) (.int .u32 2)=some (vW (v >>> 1)):=by
 have h:=v.isLt;refine(mW .u32 v.toNat 2 (by decide) (by simp[IntKind.max,IntKind.signed,IntKind.bits];omega) rfl).trans ?_;rw[vW,BitVec.toNat_ushiftRight,Nat.shiftRight_eq_div_pow]
theorem wJ(v:W32):fl .rem (vW v) (.int .u32 2)=some (.int .u32 ((v.toNat % 2:Nat):Int)):=lX .u32 v.toNat 2 (by decide)
theorem yH(v:W32):fl .xor (vW v) (.int .u32 3988292384)=some (vW (v ^^^ uo)):=jE v uo
theorem yw(n:Nat):fl .eql (.int .u32 (n:Int)) (.int .u32 1)=some (.bool (decide (n=1))):=by
 simp only[fl];rw[if_pos trivial];congr 2;simp;omega
theorem Bp(v:W32)(G:JT):FnS Tryz.prog 217 #[vW v] G (vW (stp v)):=by
 refine F217.fnS (by simp) (d7 ?_);unfold c217;intros;refine gR 0 0 c217r0.eq_1 ?_;have hr:=wJ v;generalize hn:v.toNat % 2=n at hr;intros;refine gr 3 5 ?_;refine sJ3 c217r1.eq_1 @hr @yw ?_;intros;refine gC ?_;refine gb (fun h1=>?_) (fun h1=>?_)
 ·intros;refine gr 6 9 ?_;refine sJ3 c217r2.eq_1 @qg @yH ?_;intros;refine rW ?_;rw[stp,if_pos ((F6 v).2 (by rw[hn];simpa using h1))]
 ·(repeat first | refine eD ?_ | refine iV ?_)
  intros;refine gR2 9 11 c217r3.eq_1 @qg ?_;intros;refine rW ?_;rw[stp,if_neg (fun h=>by have:=(F6 v).1 h;rw[hn]at this;simp[this]at h1),BitVec.xor_zero]
theorem yM(v:W32)(n:Nat)(hn:n≤1000)(G:JT):FnS Tryz.prog 205 #[vW v,.int .i64 (n:Int)] G (vW (mF n v)):=by
 refine F205.fnS (by simp) (d7 ?_);unfold c205;intros;refine gR 0 0 c205r0.eq_1 ?_;intros;refine gR 0 0 c205r1.eq_1 ?_;intros;refine dT ?_;refine ej (fun e h=>∃ k:Nat,k≤n∧e 5=.int .i64 k∧e 1=.int .i64 n∧e 0=vW (mF k v)∧h=⟨G,[],[]⟩) (fun e h=>n - iv (e 5)) ?_ ?_
 ·exact⟨0,Nat.zero_le _,eE,eE,by refine sI ?_;rfl,rfl⟩
 ·rintro e h ⟨k,hk,e5,e1,e0,rfl⟩;refine dX [0,1,5] ?_;refine sJ3 @e0 @e1 @e5 ?_;intros;refine gR 6 8 c205r2.eq_1 ?_;intros;refine gC ?_;refine gb (fun h1=>?_) (fun h1=>?_)
  ·have hkn:k < n:=by simpa using h1
   have hw3:=eY k n (by omega) (by unfold maxLen;omega);intros;refine gR 11 13 c205r3.eq_1 ?_;refine fK (Bp (mF k v) G _ _) ?_;intros;refine gR2 9 11 c205r4.eq_1 @hw3 ?_;intros;refine dT ?_;refine eC ⟨⟨k+1,by omega,eE,eE,by refine sI ?_;rfl,rfl⟩,?_⟩;refine sI ?_;omega
  ·have hkn:k=n:=by simp at h1;omega
   subst hkn;refine eg ?_;refine sI ?_;intros;refine gR 13 14 c205r5.eq_1 ?_;intros;refine rV ?_;simp only[push_cast,Nat.reduceBEq]
theorem F220:Fun Tryz.prog 220 13 v220 c220 o220:=Fun.mk' Tryz.func220 Tryz.ntmps220 (by kernel_rfl) (by kernel_rfl) s220 q220
theorem F231:Fun Tryz.prog 231 24 v231 c231 o231:=Fun.mk' Tryz.func231 Tryz.ntmps231 (by kernel_rfl) (by kernel_rfl) s231 q231
theorem F211:Fun Tryz.prog 211 21 v211 c211 o211:=Fun.mk' Tryz.func211 Tryz.ntmps211 (by kernel_rfl) (by kernel_rfl) s211 q211
theorem F187:Fun Tryz.prog 187 21 v187 c187 o187:=Fun.mk' Tryz.func187 Tryz.ntmps187 (by kernel_rfl) (by kernel_rfl) s187 q187
theorem zv(v:W32):fl .and (vW v) (.int .u32 1)=some (vW (v &&& 1#32)):=pH v 1#32
theorem qR(v:W32):fl .and (vW v) (.int .u32 15)=some (vW (v &&& 15#32)):=pH v 15#32
theorem yN(v:W32):fl .and (.int .u32 3988292384) (vW v)=some (vW (uo &&& v)):=pH uo v
theorem zL(v:W32):fl .shr (vW v) (.int .u64 1)=some (vW (v >>> 1)):=tj v 1 (by omega)
theorem sP(v:W32):fl .shr (vW v) (.int .u64 4)=some (vW (v >>> 4)):=tj v 4 (by omega)
theorem C6(v:W32):unV .neg (vW v)=some (vW (-v)):=by
 have:=v.isLt;simp only[unV,vW];congr 2;rw[BitVec.toNat_neg];simp only[IntKind.wrap,IntKind.bits,IntKind.signed];simp;omega
theorem Di(v:W32):unV .xor (vW v)=some (vW (~~~v)):=by
 simp only[unV,vW];have:(BitVec.ofInt IntKind.u32.bits (if IntKind.u32.signed=true then -1 else IntKind.u32.max) ^^^ BitVec.ofInt IntKind.u32.bits (v.toNat:Int)).toNat=(~~~v).toNat:=by
  show(BitVec.ofInt 32 4294967295 ^^^ BitVec.ofInt 32 (v.toNat:Int)).toNat=_;have h1:BitVec.ofInt 32 4294967295=BitVec.allOnes 32:=by decide
  rw[ofW,h1,BitVec.allOnes_xor]
 rw[this,yj]
theorem zS(v:W32):fl .xor (vW v) (.int .u32 4294967295)=some (vW (~~~v)):=by
 have h:=jE v 4294967295#32;have h1:(4294967295#32:W32)=BitVec.allOnes 32:=by decide
 rw[h1,BitVec.xor_allOnes]at h;exact h
theorem C1(v:W32):(v >>> 1) ^^^ (uo &&& -(v &&& 1#32))=stp v:=by
 have h1:v &&& 1#32=if v.getLsbD 0=true then 1#32 else 0#32:=by
  apply BitVec.eq_of_toNat_eq;rw[BitVec.toNat_and];have:(1#32).toNat=1:=rfl;rw[this,Nat.and_one_is_mod];by_cases h:v.getLsbD 0=true
  ·rw[if_pos h,(F6 v).1 h];rfl
  ·rw[if_neg h];have h3:¬ v.toNat % 2=1:=fun h9=>h ((F6 v).2 h9)
   have h2:v.toNat % 2=0:=by omega
   rw[h2];rfl
 rw[h1,stp];by_cases h:v.getLsbD 0=true
 ·rw[if_pos h,if_pos h];have:uo &&& -1#32=uo:=by decide
  rw[this]
 ·rw[if_neg h,if_neg h];have:uo &&& -0#32=0#32:=by decide
  rw[this]
theorem Bt(v:W32)(G:JT):FnS Tryz.prog 230 #[vW v] G (vW (mF 4 v)):=by
 refine F230.fnS (by simp) (d7 ?_);unfold c230;intros;refine gR 0 0 c230r0.eq_1 ?_;intros;refine gR 0 0 c230r1.eq_1 ?_;intros;refine dT ?_;refine ej (fun e h=>∃ k:Nat,k≤4∧e 3=.int .i64 k∧e 0=vW (mF k v)∧h=⟨G,[],[]⟩) (fun e h=>4 - iv (e 3)) ?_ ?_
 ·exact⟨0,Nat.zero_le _,eE,by refine sI ?_;rfl,rfl⟩
 ·rintro e h ⟨k,hk,e3,e0,rfl⟩;refine dX [0,3] ?_;refine sJ2 @e0 @e3 ?_;intros;refine gR 0 0 c230r2.eq_1 ?_;intros;refine gC ?_;refine gb (fun h1=>?_) (fun h1=>?_)
  ·have hkn:k < 4:=by simp at h1;omega
   have hw3:=eY k 4 (by omega) (by unfold maxLen;omega);intros;refine gr 5 12 ?_;refine sJ7 c230r3.eq_1 @zL @zv @C6 @yN @jE @C1 ?_;intros;refine gR2 12 13 c230r4.eq_1 @hw3 ?_;intros;refine dT ?_;refine eC ⟨⟨k+1,by omega,eE,by refine sI ?_;rfl,rfl⟩,?_⟩;refine sI ?_;omega
  ·have hkn:k=4:=by simp at h1;omega
   subst hkn;refine eg ?_;refine sI ?_;intros;refine gR 13 14 c230r5.eq_1 ?_;intros;refine rV ?_;simp only[push_cast,Nat.reduceBEq]
def wj(G:JT)(v:Value):Prop:=∃ b,v=.pointer (some ⟨b,0,none⟩)∧∀ i:Nat,i < 16→fw G ⟨b,i,none⟩=some (vW (mF 4 (BitVec.ofNat 32 i)))
theorem wj.le{G G':JT}{v:Value}(h:wj G v)(hg:Gle G G'):wj G' v:=by
 obtain⟨b,h1,h2⟩:=h;exact⟨b,h1,fun i hi=>em hg (h2 i hi)⟩
theorem EX(v:W32):(v &&& 15#32).toNat < 16∧BitVec.ofNat 32 (v &&& 15#32).toNat=v &&& 15#32:=by
 refine⟨?_,by simp⟩;rw[BitVec.toNat_and];exact Nat.lt_of_le_of_lt Nat.and_le_right (by decide)
theorem I3{b n:Nat}{v:W32}(h:v.toNat < n):uR n 1 (.pointer (some ⟨b,0,none⟩)) (vW v)=some (.pointer (some ⟨b,v.toNat,none⟩)):=by
 simp only[uR,vW];rw[if_pos ⟨by omega,by omega⟩];simp[eS]
theorem EF(v:W32)(c:UInt8)(p:Value)(G:JT)(hp:wj G p):FnS Tryz.prog 231 #[vW v,.int .u8 (c.toNat:Int),p] G (vW (upd v c)):=by
 obtain⟨b,rfl,ht⟩:=hp;refine F231.fnS (by simp) (d7 ?_);unfold c231;intros;refine gR 0 0 c231r0.eq_1 ?_;intros;refine gr 6 10 ?_;refine sJ3 c231r1.eq_1 @EC @jE ?_;rw[F4];generalize v ^^^ ofB c=x;obtain⟨g1,g2⟩:=EX x
 intros;refine gr 10 17 ?_;(try simp -implicitDefEqProofs only[mz,mE,push_cast,Nat.reduceBEq,Nat.reduceAdd,Nat.reduceSub,Nat.reduceMul,Nat.reduceLT,Nat.reduceLeDiff,Nat.reduceEqDiff,reduceIte,Bool.not_true,Bool.not_false,true_and,and_true,Option.map_some,Option.bind_some,Int.toNat_natCast,c231r2,qR,I3 g1]);refine⟨_,⟨_,rfl,.g (ht _ g1)⟩,?_⟩;rw[g2];refine sJ2 @sP @jE ?_;rw[← uf];generalize uf x=y
 obtain⟨k1,k2⟩:=EX y;intros;refine gr 17 24 ?_;(try simp -implicitDefEqProofs only[mz,mE,push_cast,Nat.reduceBEq,Nat.reduceAdd,Nat.reduceSub,Nat.reduceMul,Nat.reduceLT,Nat.reduceLeDiff,Nat.reduceEqDiff,reduceIte,Bool.not_true,Bool.not_false,true_and,and_true,Option.map_some,Option.bind_some,Int.toNat_natCast,c231r3,qR,I3 k1]);refine⟨_,⟨_,rfl,.g (ht _ k1)⟩,?_⟩;rw[k2];refine sJ2 @sP @jE ?_
 intros;refine rW ?_;rfl
theorem xC{cs:JU}{o:Nat}(x:Value)(h:o < cs.length):eu cs o [x]=cs.set o x:=by
 rw[eu,List.set_eq_take_append_cons_drop,if_pos h];simp
theorem yn(G:JT):FnD Tryz.prog 220 #[] G (fun G' r=>∃ p,r=.func (.func 231) #[] #[p]∧wj G' p):=by
 refine F220.fnD (by simp) (d7 ?_);unfold c220;intros;refine gR 0 0 c220r0.eq_1 ?_;intros;refine gR 0 0 c220r1.eq_1 ?_;intro b hb;refine sI ?_;intros;refine gR 0 0 c220r2.eq_1 ?_;intros;refine dT ?_
 refine ej (fun e h=>∃ (k:Nat) (cs:JU),(k≤16∧cs.length=16∧∀ i,i < k→cs[i]?=some (vW (mF 4 (BitVec.ofNat 32 i))))∧e 3=.int .i64 k∧e 1=.pointer (some ⟨b,0,none⟩)∧h=⟨G,[.blk b cs],[]⟩) (fun e h=>16 - iv (e 3)) ?_ ?_
 ·exact⟨0,_,⟨Nat.zero_le _,rfl,fun i hi=>by omega⟩,eE,eE,rfl⟩
 ·rintro e h ⟨k,cs,⟨hk,hl,ht⟩,e3,e1,rfl⟩;refine dX [1,3] ?_;refine sJ2 @e1 @e3 ?_;intros;refine gR 0 0 c220r3.eq_1 ?_;intros;refine gC ?_;refine gb (fun h1=>?_) (fun h1=>?_)
  ·have hkn:k < 16:=by simp at h1;omega
   have hw3:=eY k 16 (by omega) (by unfold maxLen;omega);have hkw:Value.int .u32 (IntKind.u32.wrap (k:Int))=vW (BitVec.ofNat 32 k):=by
    have h2:(BitVec.ofNat 32 k).toNat=k:=by simp;omega
    have:=yj (BitVec.ofNat 32 k);rw[h2]at this;rw[vW,h2,this]
   intros;refine gR 5 6 c220r4.eq_1 ?_;intros;refine gR2 6 11 c220r5.eq_1 @hkw ?_;refine fK (Bt (BitVec.ofNat 32 k) G _ _) ?_;refine⟨by omega,?_⟩;refine ei (xs:=[vW (mF 4 (BitVec.ofNat 32 k))]) [] [] rfl (by simp;omega) ⟨rfl,rfl⟩ ?_;rw[xC _ (by omega),show 0+k * 1=k by omega];refine sI ?_;intros;refine gR2 11 12 c220r6.eq_1 @hw3 ?_;intros;refine dT ?_
   refine eC ⟨⟨k+1,_,⟨by omega,by simp[hl],fun i hi=>?_⟩,eE,eE,rfl⟩,?_⟩
   ·rw[List.getElem?_set];by_cases hik:k=i
    ·rw[if_pos hik,if_pos (by omega),← hik]
    ·rw[if_neg hik];exact ht i (by omega)
   ·refine sI ?_;omega
  ·have hkn:k=16:=by simp at h1;omega
   subst hkn;refine eg ?_;refine sI ?_;intros;refine gR 12 13 c220r7.eq_1 ?_;intros;refine dT ?_;refine eI (eO [] []) ?_;rintro h' ⟨G2,rfl,hg2,hc⟩;intros;refine rW ?_;exact⟨_,rfl,b,rfl,fun i hi=>by simpa [eS]using hc i _ (ht i hi)⟩
theorem qz{l:J3}{k:Nat}{x:UInt8}(hx:l[k]?=some x)(v:W32):(l.take (k+1)).foldl upd v=upd ((l.take k).foldl upd v) x:=by
 have hk:=List.getElem?_eq_some_iff.1 hx;rw[List.take_succ_eq_append_getElem hk.1,hk.2];simp
theorem Bn(l:J3)(v:Value)(G:JT)(hl:SB G v l):FnD Tryz.prog 211 #[v] G (fun _ r=>r=vW (Ar l)):=by
 refine F211.fnD (by simp) (d7 ?_);obtain⟨A,c,rfl,hc,hm,hA⟩:=hl;unfold c211;intros;refine gR 0 0 c211r0.eq_1 ?_;intros;refine gR 7 8 c211r1.eq_1 ?_;refine(yn G _ []).mono ?_;rintro r h' ⟨G1,rfl,hg1,p,rfl,hp⟩;refine sI ?_;have hA1:=hA.le hg1 (E':=UE) Kd;intros;refine gR 0 0 c211r2.eq_1 ?_;intros;refine gR 0 0 c211r3.eq_1 ?_;intros;refine dT ?_
 refine ej (fun e h=>∃ k:Nat,k≤l.length∧e 10=.int .i64 k∧e 9=.int .i64 l.length∧e 8=.slice A l.length c∧e 3=.func (.func 231) #[] #[p]∧e 4=vW ((l.take k).foldl upd 4294967295#32)∧h=⟨G1,[],[]⟩) (fun e h=>l.length - iv (e 10)) ?_ ?_
 ·exact⟨0,Nat.zero_le _,eE,eE,eE,eE,by refine sI ?_;rfl,rfl⟩
 ·rintro e h ⟨k,hk,e10,e9,e8,e3,e4,rfl⟩;refine dX [3,4,8,9,10] ?_;refine sJ5 @e3 @e4 @e8 @e9 @e10 ?_;intros;refine gR 0 0 c211r4.eq_1 ?_;intros;refine gC ?_;refine gb (fun h1=>?_) (fun h1=>?_)
  ·have hkn:k < l.length:=by simpa using h1
   have hw3:=eY k c (by omega) hm;obtain⟨x,hx⟩:∃ x,l[k]?=some x:=⟨l[k],getElem?_eq_getElem (by omega)⟩;intros;refine gR 12 14 c211r5.eq_1 ?_;refine hA1.x_l1 hx rfl rfl ?_;rintro a1 ha1 u1 hu;cases hu;refine sI ?_;intros;refine gR 14 18 c211r6.eq_1 ?_;refine .inl ⟨_,_,rfl,(EF _ x p G1 hp _ _).mono ?_⟩;rintro _ _ ⟨rfl,rfl⟩;refine sI ?_;intros;refine gR2 18 19 c211r7.eq_1 @hw3 ?_
   intros;refine dT ?_;refine eC ⟨⟨k+1,by omega,eE,eE,eE,eE,by rw[qz hx];(refine sI ?_;try with_reducible exact True.intro),rfl⟩,?_⟩;refine sI ?_;omega
  ·have hkn:k=l.length:=by simp at h1;omega
   subst hkn;refine eg ?_;refine sI ?_;intros;refine gR2 19 21 c211r8.eq_1 @Di ?_;intros;refine rW ?_;rw[take_length];rfl
theorem vG(l:J3)(v:Value)(G:JT)(hl:SB G v l):FnS Tryz.prog 187 #[v] G (vW (Ar l)):=by
 refine F187.fnS (by simp) (d7 ?_);obtain⟨A,c,rfl,hc,hm,hA⟩:=hl;unfold c187;intros;refine gR 0 0 c187r0.eq_1 ?_;intros;refine gR 0 0 c187r1.eq_1 ?_;intros;refine gR 0 0 c187r2.eq_1 ?_;intros;refine dT ?_;refine ej (fun e h=>∃ k:Nat,k≤l.length∧e 4=.int .i64 k∧e 0=.slice A l.length c∧e 3=vW ((l.take k).foldl upd 4294967295#32)∧h=⟨G,[],[]⟩) (fun e h=>l.length - iv (e 4)) ?_ ?_
 ·exact⟨0,Nat.zero_le _,eE,eE,by refine sI ?_;rfl,rfl⟩
 ·rintro e h ⟨k,hk,e4,e0,e3,rfl⟩;refine dX [0,3,4] ?_;refine sJ3 @e0 @e3 @e4 ?_;intros;refine gR 5 8 c187r3.eq_1 ?_;intros;refine gC ?_;refine gb (fun h1=>?_) (fun h1=>?_)
  ·have hkn:k < l.length:=by simpa using h1
   have hw3:=eY k c (by omega) hm;obtain⟨x,hx⟩:∃ x,l[k]?=some x:=⟨l[k],getElem?_eq_getElem (by omega)⟩;intros;refine gR 11 19 c187r4.eq_1 ?_;refine hA.x_l1 hx rfl rfl ?_;rintro a1 ha1 u1 hu;cases hu;refine sJ2 @EC @jE ?_;refine fK (yM _ 8 (by omega) G _ _) ?_;intros;refine gR2 9 11 c187r5.eq_1 @hw3 ?_;intros;refine dT ?_;refine eC ⟨⟨k+1,by omega,eE,eE,by rw[qz hx];refine sI ?_;rfl,rfl⟩,?_⟩
   refine sI ?_;omega
  ·have hkn:k=l.length:=by simp at h1;omega
   subst hkn;refine eg ?_;refine sI ?_;intros;refine gR2 19 21 c187r6.eq_1 @zS ?_;intros;refine rW ?_;rw[take_length];rfl
theorem F203:Fun Tryz.prog 203 33 v203 c203 o203:=Fun.mk' Tryz.func203 Tryz.ntmps203 (by kernel_rfl) (by kernel_rfl) s203 q203
theorem F165:Fun Tryz.prog 165 41 v165 c165 o165:=Fun.mk' Tryz.func165 Tryz.ntmps165 (by kernel_rfl) (by kernel_rfl) s165 q165
theorem F186:Fun Tryz.prog 186 15 v186 c186 o186:=Fun.mk' Tryz.func186 Tryz.ntmps186 (by kernel_rfl) (by kernel_rfl) s186 q186
theorem F202:Fun Tryz.prog 202 9 v202 c202 o202:=Fun.mk' Tryz.func202 Tryz.ntmps202 (by kernel_rfl) (by kernel_rfl) s202 q202
theorem F164:Fun Tryz.prog 164 10 v164 c164 o164:=Fun.mk' Tryz.func164 Tryz.ntmps164 (by kernel_rfl) (by kernel_rfl) s164 q164
def kc(n k:Nat):J3:=(List.range k).map fun i=>UInt8.ofNat (n / 256 ^ (k - 1 - i))
theorem fP(n k:Nat):(kc n k).length=k:=by simp[kc]
theorem rg{n k i:Nat}(h:i < k):(kc n k).take (i+1)=(kc n k).take i++[UInt8.ofNat (n / 256 ^ (k - 1 - i))]:=by
 have hl:i < (kc n k).length:=by rw[fP];exact h
 rw[List.take_succ_eq_append_getElem hl];congr 2;simp[kc]
def g0(l:J3):J3:=l++kc (Ar l).toNat 4
theorem zW(n s:Nat)(hs:s≤64):fl .shr (.int .u64 (n:Int)) (.int .i64 (s:Int))=some (.int .u64 ((n / 2 ^ s:Nat):Int)):=by
 simp only[fl];rw[if_pos (by omega)];congr 2;have h1:min ((s:Int)).toNat IntKind.u64.bits=s:=by simp[IntKind.bits];omega
 rw[h1,Int.fdiv_eq_ediv_of_nonneg _ (by exact_mod_cast Nat.zero_le _)]
 exact_mod_cast rfl
theorem vI(l:J3)(n k:Nat)(hn:n < 18446744073709551616)(hk:1≤k∧k≤8)(v:Value)(G:JT)(hl:SB G v l)(hb:l.length≤100000):
  FnO Tryz.prog 203 #[v,.int .u64 (n:Int),.int .i64 (k:Int)] G [] (fun _ L' r=>pC (l++kc n k) L' r):=by
 refine F203.fnO (by simp) dS (d7 ?_);have hl0:=hl;obtain⟨A,c,rfl,hc,hm,hA⟩:=hl;unfold c203;intros;refine gR 0 0 c203r0.eq_1 ?_;intros;refine gR 9 11 c203r1.eq_1 ?_;refine(ph l _ G hl0 (by omega) _ []).mono ?_;rintro r h' ⟨G1,L',rfl,hg1,ys,hys,rfl⟩;refine sI ?_;intros;refine gR 11 16 c203r2.eq_1 ?_;refine gd (fun h1=>by simp at h1;omega) (fun h1=>?_);refine sI ?_;intros;refine gC ?_
 refine gb (fun h2=>by simp at h2;omega) (fun h2=>?_);have w1:IntKind.i64.wrap ((k:Int) - 1)=(k:Int) - 1:=by rw[eh] <;> omega
 have w2:IntKind.i64.wrap (8 * ((k:Int) - 1))=8 * (k:Int) - 8:=by rw[eh] <;> omega
 (repeat first | refine eD ?_ | refine iV ?_)
 intros;refine gr 18 21 ?_;refine sJ3 c203r4.eq_1 @w1 @w2 ?_;intros;refine dT ?_;refine ej (fun e h=>∃ (i:Nat) (zc:JU) (u:Value),(i≤k∧Cells UE 1 (l++(kc n k).take i) zc)∧e 8=.int .i64 (8 * (k:Int) - 8 - 8 * i)∧e 1=.int .u64 (n:Int)∧e 7=u∧h.G=G1∧h.D=[]∧[Item.row u 5 1 (l++(kc n k).take i).length zc].Sublist h.L) (fun e h=>iv1 (e 8)) ?_ ?_
 ·exact⟨0,ys,r,⟨Nat.zero_le _,by simpa using hys⟩,by refine sI ?_;simp,eE,eE,rfl,rfl,by simp⟩
 ·rintro e ⟨G',L,D⟩ ⟨i,zc,u,⟨hi,hcs⟩,e8,e1,e7,hG,hD,hL⟩;dsimp only at hG hD hL;subst hG hD;refine dW (dY hL) ?_;refine dX [1,7,8] ?_;refine sJ3 @e1 @e7 @e8 ?_;intros;refine gR 21 22 c203r5.eq_1 ?_;intros;refine gC ?_;refine gb (fun ht=>?_) (fun ht=>?_)
  ·have hik:i < k:=by have:=Kb ht;omega
   have htk:=rg (n:=n) hik;have hsh:fl .shr (.int .u64 (n:Int)) (.int .i64 (8 * (k:Int) - 8 - 8 * i))=some (.int .u64 ((n / 256 ^ (k - 1 - i):Nat):Int)):=by
    have e1:8 * (k:Int) - 8 - 8 * i=((8 * (k - 1 - i):Nat):Int):=by omega
    rw[e1,zW n _ (by omega),Nat.pow_mul]
   generalize n / 256 ^ (k - 1 - i)=q at htk hsh;have w3:IntKind.i64.wrap (8 * (k:Int) - 8 - 8 * i - 8)=8 * (k:Int) - 8 - 8 * ((i+1:Nat):Int):=by rw[eh] <;> omega
   have hll:(l++(kc n k).take i).length≤200000:=by simp[fP];omega
   intros;refine gr 25 32 ?_;refine sJ3 c203r6.eq_1 @hsh @nU ?_;intro bk hbk;refine vv (L1:=[]) (L2:=[]) rfl rfl hcs (by omega) fun A' c' zc' hzc=>?_
   rw[List.append_assoc,← htk]at hzc ⊢;refine sI ?_;intros;refine gR2 23 25 c203r7.eq_1 @w3 ?_;intros;refine dT ?_;refine eC ⟨⟨i+1,zc',_,⟨by omega,hzc⟩,eE,eE,eE,rfl,rfl,.cons _ J9⟩,?_⟩;refine sJ @Fk ?_;omega
  ·have hik:i=k:=by have:=Kc ht;omega
   subst hik;refine eg ?_;refine sI ?_;intros;refine gR 32 33 c203r8.eq_1 ?_;intros;refine dT ?_;rw[List.take_of_length_le (by rw[fP];exact Nat.le_refl _)]at hcs ⊢;refine ea (ee _ rfl J9 (dV dS) ?_);exact⟨zc,hcs,rfl⟩
theorem zC(l:J3)(n k:Nat)(hn:n < 18446744073709551616)(hk:1≤k∧k≤8)(v:Value)(G:JT)(hl:SB G v l)(hb:l.length≤100000):
  FnO Tryz.prog 165 #[v,.int .u64 (n:Int),.int .i64 (k:Int)] G [] (fun _ L' r=>pC (l++kc n k) L' r):=by
 refine F165.fnO (by simp) dS (d7 ?_);have hl0:=hl;obtain⟨A,c,rfl,hc,hm,hA⟩:=hl;unfold c165;intros;refine gR 0 0 c165r0.eq_1 ?_;intros;refine gR 10 12 c165r1.eq_1 ?_;refine(rU l _ G hl0 (by omega) _ []).mono ?_;rintro r h' ⟨G1,L',rfl,hg1,ys,hys,rfl⟩;refine sI ?_;intros;refine gR 12 17 c165r2.eq_1 ?_;refine gd (fun h1=>by simp at h1;omega) (fun h1=>?_);refine sI ?_;intros;refine gC ?_
 refine gb (fun h2=>by simp at h2;omega) (fun h2=>?_);have w1:IntKind.i64.wrap ((k:Int) - 1)=(k:Int) - 1:=by rw[eh] <;> omega
 (repeat first | refine eD ?_ | refine iV ?_)
 intros;refine gR 0 0 c165r4.eq_1 ?_;intros;refine dT ?_;refine ej (fun e h=>∃ (i:Nat) (zc:JU) (u:Value),(i≤k∧Cells UE 1 (l++(kc n k).take i) zc)∧e 20=.int .i64 i∧e 19=.int .i64 k∧e 1=.int .u64 (n:Int)∧e 2=.int .i64 k∧e 7=u∧h.G=G1∧h.D=[]∧[Item.row u 5 1 (l++(kc n k).take i).length zc].Sublist h.L) (fun e h=>k - iv (e 20)) ?_ ?_
 ·exact⟨0,ys,r,⟨Nat.zero_le _,by simpa using hys⟩,eE,eE,eE,eE,eE,rfl,rfl,by simp⟩
 ·rintro e ⟨G',L,D⟩ ⟨i,zc,u,⟨hi,hcs⟩,e20,e19,e1,e2,e7,hG,hD,hL⟩;dsimp only at hG hD hL;subst hG hD;refine dW (dY hL) ?_;refine dX [1,2,7,19,20] ?_;refine sJ5 @e1 @e2 @e7 @e19 @e20 ?_;intros;refine gR 0 0 c165r5.eq_1 ?_;intros;refine gC ?_;refine gb (fun ht=>?_) (fun ht=>?_)
  ·have hik:i < k:=by have:=Kb ht;omega
   have hw3:=eY i k hik (by unfold maxLen;omega);have w2:IntKind.i64.wrap ((k:Int) - 1 - i)=((k - 1 - i:Nat):Int):=by rw[eh] <;> omega
   have htk:=rg (n:=n) hik;have hll:(l++(kc n k).take i).length≤200000:=by simp[fP];omega
   generalize hmm:k - 1 - i=m at htk w2
   (repeat first | refine eD ?_ | refine iV ?_)
   intros;refine gR 22 23 c165r6.eq_1 ?_;intros;refine gR 23 24 c165r7.eq_1 ?_;intros;refine gr 24 27 ?_;refine sJ3 c165r8.eq_1 @w1 @w2 ?_;intros;refine dT ?_
   refine ej (fun e h=>∃ j:Nat,j≤m∧e 28=.int .i64 j∧e 27=.int .i64 m∧(∃ q:Nat,q=n / 256 ^ j∧e 9=.int .u64 (q:Int))∧e 1=.int .u64 (n:Int)∧e 2=.int .i64 k∧e 7=u∧e 19=.int .i64 k∧e 20=.int .i64 i∧h=⟨G',[.row u 5 1 (l++(kc n k).take i).length zc],[]⟩) (fun e h=>m - iv (e 28)) ?_ ?_
   ·exact⟨0,Nat.zero_le _,eE,eE,⟨n,by simp,eE⟩,eE,eE,eE,eE,eE,rfl⟩
   ·rintro e h ⟨j,hj,e28,e27,⟨q,hq,e9⟩,e1,e2,e7,e19,e20,rfl⟩;refine dX [1,2,7,9,19,20,27,28] ?_
    (try simp -implicitDefEqProofs only[mz,mE,push_cast,Nat.reduceBEq,Nat.reduceAdd,Nat.reduceSub,Nat.reduceMul,Nat.reduceLT,Nat.reduceLeDiff,Nat.reduceEqDiff,reduceIte,Bool.not_true,Bool.not_false,true_and,and_true,Option.map_some,Option.bind_some,Int.toNat_natCast,e1,e2,e7,e9,e19,e20,e27,e28])
    intros;refine gR 0 0 c165r9.eq_1 ?_;intros;refine gC ?_;have hqn:q≤n:=by rw[hq];exact Nat.div_le_self _ _
    refine gb (fun ht=>?_) (fun ht=>?_)
    ·have hjm:j < m:=by have:=Kb ht;omega
     have hw4:=eY j m hjm (by unfold maxLen;omega);have hqq:fl .quo (.int .u64 (q:Int)) (.int .u64 256)=some (.int .u64 ((q / 256:Nat):Int)):=mW .u64 q 256 (by decide) (by simp[IntKind.max,IntKind.signed,IntKind.bits];omega) rfl;have hq2:q / 256=n / 256 ^ (j+1):=by rw[hq,Nat.div_div_eq_div_mul,Nat.pow_succ]
     generalize q / 256=q2 at hqq hq2
     (repeat first | refine eD ?_ | refine iV ?_)
     intros;refine gR2 30 32 c165r10.eq_1 @hqq ?_;intros;refine gR2 32 33 c165r11.eq_1 @hw4 ?_;intros;refine dT ?_;refine eC ⟨⟨j+1,by omega,eE,eE,⟨q2,hq2,eE⟩,eE,eE,eE,eE,eE,rfl⟩,?_⟩;refine sI ?_;omega
    ·have hjm:j=m:=by have:=Kc ht;omega
     subst hjm;rw[← hq]at htk;have hr:fl .rem (.int .u64 (q:Int)) (.int .u64 256)=some (.int .u64 ((q % 256:Nat):Int)):=lX .u64 q 256 (by decide);have hw:IntKind.u8.wrap ((q % 256:Nat):Int)=((UInt8.ofNat q).toNat:Int):=by rw[nU];simp
     generalize q % 256=q3 at hr hw;refine eg ?_;refine sI ?_;intros;refine gR2 33 39 c165r12.eq_1 @hr ?_;intro bk hbk;refine vv (L1:=[]) (L2:=[]) rfl hw hcs (by omega) fun A' c' zc' hzc=>?_
     rw[List.append_assoc,← htk]at hzc ⊢;refine sI ?_;intros;refine gR2 39 40 c165r13.eq_1 @hw3 ?_;intros;refine dT ?_;refine eC ⟨⟨i+1,zc',_,⟨by omega,hzc⟩,eE,eE,eE,eE,eE,rfl,rfl,.cons _ J9⟩,?_⟩;refine sI ?_;omega
  ·have hik:i=k:=by have:=Kc ht;omega
   subst hik;refine eg ?_;refine sI ?_;intros;refine gR 40 41 c165r14.eq_1 ?_;intros;refine dT ?_;rw[List.take_of_length_le (by rw[fP];exact Nat.le_refl _)]at hcs ⊢;refine ea (ee _ rfl J9 (dV dS) ?_);exact⟨zc,hcs,rfl⟩
theorem kj(l:J3):(g0 l).length=l.length+4:=by simp[g0,fP]
theorem EA(v:W32):IntKind.u64.wrap (v.toNat:Int)=(v.toNat:Int):=by
 have:=v.isLt;simp only[IntKind.wrap,IntKind.bits,IntKind.signed];simp;omega
theorem oO(v:W32)(b:Nat)(hb:b≠0):fl .quo (.int .u32 (v.toNat:Int)) (.int .u32 (b:Int))=some (.int .u32 ((v.toNat / b:Nat):Int)):=by
 have h:=v.isLt;exact mW .u32 v.toNat b hb (by simp[IntKind.max,IntKind.signed,IntKind.bits];omega) rfl
theorem xL(v:W32)(G:JT):FnO Tryz.prog 186 #[vW v] G [] (fun _ L' r=>pC (kc v.toNat 4) L' r):=by
 refine F186.fnO (by simp) dS (d7 ?_);unfold c186;unfold vW;intros;refine gR 0 0 c186r0.eq_1 ?_;have q1:fl .quo (.int .u32 (v.toNat:Int)) (.int .u32 16777216)=some (.int .u32 ((v.toNat / 16777216:Nat):Int)):=oO v 16777216 (by decide);have q2:fl .quo (.int .u32 (v.toNat:Int)) (.int .u32 65536)=some (.int .u32 ((v.toNat / 65536:Nat):Int)):=oO v 65536 (by decide)
 have q3:fl .quo (.int .u32 (v.toNat:Int)) (.int .u32 256)=some (.int .u32 ((v.toNat / 256:Nat):Int)):=oO v 256 (by decide);have hput:kc v.toNat 4=[UInt8.ofNat (v.toNat / 16777216),UInt8.ofNat (v.toNat / 65536),UInt8.ofNat (v.toNat / 256),UInt8.ofNat v.toNat]:=by
  simp[kc,List.range_succ]
 rw[hput];generalize v.toNat / 16777216=n1 at q1 ⊢;generalize v.toNat / 65536=n2 at q2 ⊢;generalize v.toNat / 256=n3 at q3 ⊢;generalize v.toNat=n4 at *;intros;refine gr 3 15 ?_;refine sJ5 c186r1.eq_1 @q1 @q2 @q3 @nU ?_;intro b hb;intros;refine dT ?_;refine ea (ee _ rfl J9 (dV dS) ?_);exact⟨_,m5 [UInt8.ofNat n1,UInt8.ofNat n2,UInt8.ofNat n3,UInt8.ofNat n4],rfl⟩
theorem BN(l:J3)(v:Value)(G:JT)(hl:SB G v l)(hb:l.length≤100000):FnO Tryz.prog 202 #[v] G [] (fun _ L' r=>pC (g0 l) L' r):=by
 refine F202.fnO (by simp) dS (d7 ?_);unfold c202;have hsum:=Bn l v G hl;unfold g0;generalize Ar l=w at hsum ⊢;intros;refine gR 0 0 c202r0.eq_1 ?_;intros;refine gR 3 9 c202r1.eq_1 ?_;refine ki (.inr ⟨⟨none,rfl⟩,rfl,rfl,rfl,rfl⟩) hl rfl UE1 (by unfold maxLen;omega) fun ys A c hc=>?_
 simp only[Nat.zero_add,List.nil_append];refine sI ?_;refine(hsum _ []).mono ?_;rintro r h' ⟨G1,rfl,hg1,rfl⟩;unfold vW;refine sJ @EA ?_;refine fq F203.enters (ef [] _ (by decide) hc) ?_;rintro h' ⟨G2,rfl,hg2,hv2⟩;refine(vI l w.toNat 4 (by have:=w.isLt;omega) (by omega) _ G2 hv2 hb _ []).mono ?_;rintro r h' ⟨G3,L',rfl,hg3,ys3,hys3,rfl⟩;refine sI ?_;intros;refine dT ?_
 refine ea (ee _ rfl J9 (dV dS) ?_);exact⟨ys3,hys3,rfl⟩
theorem yL(l:J3)(v:Value)(G:JT)(hl:SB G v l)(hb:l.length≤100000):FnO Tryz.prog 164 #[v] G [] (fun _ L' r=>pC (g0 l) L' r):=by
 refine F164.fnO (by simp) dS (d7 ?_);unfold c164;have hsum:=vG l v G hl;unfold g0;generalize Ar l=w at hsum ⊢;intros;refine gR 0 0 c164r0.eq_1 ?_;intros;refine gR 3 10 c164r1.eq_1 ?_;intro b0 hb0;refine ki (.inr ⟨⟨_,rfl⟩,rfl,rfl,rfl,rfl⟩) hl rfl UE1 (by unfold maxLen;omega) fun ys A c hc=>?_
 simp only[Nat.zero_add,List.nil_append];refine sI ?_;refine fK (hsum _ _) ?_;refine(vF (by decide) (xL w G) _ []).mono ?_;rintro r h' ⟨G1,rfl,hg1,hv1⟩;refine sI ?_;refine ki (L1:=[]) (.inl rfl) hv1 rfl UE1 (by rw[fP];unfold maxLen;omega) fun ys' A' c' hc'=>?_
 have hh:=hc.app hc';refine sI ?_;intros;refine dT ?_;refine ea (ee _ rfl J9 (dV dS) ?_);rw[← length_append];exact⟨_,hh,rfl⟩
def fg(b:Batch):J6:=[b.base,b.last - b.base,b.src,b.epoch,b.pid,b.gen,b.seq]
def fb(l:J6):J3:=l.flatMap pvB
def iQ(b:Batch):UInt8:=UInt8.ofNat (b.ctl.toNat+if b.txn=true then 4 else 0)
def fR(base stamp:Int)(l:List Rec):J3:=l.flatMap fun r=>prB r base stamp
def ii(b:Batch):J3:=match b.recs with
 | []=>[]
 | r :: rs=>pvB r.stamp++fR b.base r.stamp (r :: rs)
def fM(b:Batch):J3:=fb (fg b)++[iQ b]++pvB b.recs.length++ii b
def ek(b:Batch):J3:=kc (g0 (fM b)).length 4++g0 (fM b)
theorem lK:∀ (l:J6),(fb l).length≤10 * l.length
 | []=>by simp[fb]
 | n :: l=>by
  have:=lK l;have h2:=gA n;simp[fb]at this ⊢;omega
theorem nZ{l:J6}{k:Nat}{n:Int}(h:l[k]?=some n):fb (l.take (k+1))=fb (l.take k)++pvB n:=by
 have hk:=List.getElem?_eq_some_iff.1 h;rw[List.take_succ_eq_append_getElem hk.1,hk.2];simp[fb]
theorem ow{base stamp:Int}{l:List Rec}{k:Nat}{r:Rec}(h:l[k]?=some r):fR base stamp (l.take (k+1))=fR base stamp (l.take k)++prB r base stamp:=by
 have hk:=List.getElem?_eq_some_iff.1 h;rw[List.take_succ_eq_append_getElem hk.1,hk.2];simp[fR]
theorem sa{r:Rec}{base stamp:Int}(hk:r.key.size≤64)(hv:r.val.size≤64):(prB r base stamp).length≤169:=by
 have h1:=gA (r.off - base);have h2:=gA (r.stamp - stamp);have h3:=oM r.key;have h4:=oM r.val;simp[prB];omega
theorem sU:∀ (l:List Rec) (last nx:Int),tA last nx l=true→(∀ r∈l,jW r=0)∧nx+l.length≤max nx (last+1)
 | [],last,nx,_=>⟨by simp,by simp;omega⟩
 | r :: l,last,nx,h=>by
  simp only[tA,Bool.and_eq_true,decide_eq_true_eq]at h;obtain⟨⟨⟨h1,h2⟩,h3⟩,h4⟩:=h;obtain⟨h5,h6⟩:=sU l last (r.off+1) h4;refine⟨fun x hx=>?_,?_⟩
  ·rcases List.mem_cons.1 hx with rfl | hx
   ·exact h1
   ·exact h5 x hx
  ·simp;omega
theorem kf{b:Batch}(h:iP b):(∀ r∈b.recs,jW r=0)∧b.recs.length≤16:=by
 rcases h.2.2.2.2.2 with h9 | h9
 ·obtain⟨h1,h2⟩:=sU _ _ _ h9.2;have:=h.2.2.1;exact⟨h1,by omega⟩
 ·rw[h9.2.2.1];exact⟨by simp,by simp⟩
end Go.Proofs.YtpmofpekcbghnaaGreat

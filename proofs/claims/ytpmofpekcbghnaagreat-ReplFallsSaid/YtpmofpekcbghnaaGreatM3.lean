/- Parts of a proof, 14 texts in one file. No condition. -/
import Derived.Test.YtpmofpekcbghnaaGreatRows
import Derived.Test.YtpmofpekcbghnaaGreatM1
import Derived.Test.YtpmofpekcbghnaaGreatM2
set_option linter.unusedSimpArgs false
set_option linter.unusedVariables false
namespace Go.Proofs.YtpmofpekcbghnaaGreat
open Go Go.Kx
open List (getElem?_eq_getElem mem_of_getElem? length_append append_nil take_length)
abbrev ac(a b:Nat):SI:=⟨none,.mv a (.t b),none,0⟩
abbrev af(a:Nat)(b:Int):SI:=⟨none,.mv a (.i b),none,0⟩
abbrev ah(a:Nat):SI:=⟨none,.nop,(some a),0⟩
abbrev ai(a b c:Nat):SI:=⟨none,.ldR a b c none,none,0⟩
abbrev aj(a b:Nat):SI:=⟨none,.ld a (.t b) none,none,0⟩
abbrev ak(a b c d:Nat):SI:=⟨none,.stR a b c (.t d),none,0⟩
abbrev am(a b c:Nat):SI:=⟨none,.ext a (.t b) c,none,0⟩
abbrev ao(a b c d:Nat):SI:=⟨none,.ldR a b c (some d),none,0⟩
abbrev aq(a b c:Nat):SI:=⟨none,.flA a (.t b) c,none,0⟩
abbrev ar(a b c:Nat):SI:=⟨none,.call a b [(.t c)],none,0⟩
abbrev au(a b c:Nat):SI:=⟨none,.pick a (.t b) (.b true) (.t c),none,0⟩
abbrev av(a b:Nat):SI:=⟨none,.len a false (.t b),none,0⟩
abbrev aw(a b:Nat):SI:=⟨none,.nck a (.t b),none,0⟩
abbrev ay(a b c d:Nat):SI:=⟨none,.call a b [(.t c),(.t d)],none,0⟩
abbrev az(a b c:Nat):SI:=⟨some (a,false),.mv b (.t c),none,b⟩
abbrev aA(a b c d:Nat):SI:=⟨none,.ixA a (.t b) (.t c) d,none,0⟩
abbrev aB(a b:Nat):SI:=⟨some (a,false),.nop,(some b),99999⟩
abbrev aC(a b c d:Nat):SI:=⟨some (a,false),.ldR b c d none,none,b⟩
abbrev aD(a b:Nat)(c:Int):SI:=⟨none,.bin a .add (.t b) (.i c),none,0⟩
abbrev aE(a:Nat):SI:=⟨none,.mv a (.b false),none,0⟩
abbrev aF(a b:Nat):SI:=⟨none,.bxR a (.t b),none,0⟩
abbrev aG(a b c:Nat):SI:=⟨some (a,true),.mv b (.t c),none,b⟩
abbrev aH(a b c:Nat):SI:=⟨none,.st (.t a) b (.t c),none,0⟩
abbrev aI(a b c:Nat):SI:=⟨none,.ld a (.t b) (some c),none,0⟩
abbrev aJ(a b c:Nat):SI:=⟨none,.pick a (.t b) (.t c) (.b false),none,0⟩
abbrev aK(a b c:Nat):SI:=⟨none,.bin a .lss (.t b) (.t c),none,0⟩
abbrev aL(a b:Nat)(c:Int):SI:=⟨none,.bin a .neq (.t b) (.i c),none,0⟩
abbrev aM(a:Nat):SI:=⟨none,.mv a (.v (.slice none 0 0)),none,0⟩
abbrev aN(a b:Nat):SI:=⟨none,.un a .not (.t b),none,0⟩
abbrev aO(a b:Nat):SI:=⟨some (a,true),.nop,(some b),99999⟩
abbrev aP(a b c d e f:Nat):SI:=⟨none,.app a (.t b) (.t c) d e f,none,0⟩
abbrev aQ(a b c d:Nat):SI:=⟨some (a,true),.ldR b c d none,none,b⟩
abbrev aR(a b:Nat)(c:Int):SI:=⟨none,.bin a .lss (.t b) (.i c),none,0⟩
abbrev aS(a b c:Nat)(d:Int):SI:=⟨some (a,false),.bin b .gtr (.t c) (.i d),none,b⟩
abbrev aT(a b:Nat):SI:=⟨none,.bx a (.t b),none,0⟩
abbrev aU(a b c:Nat):SI:=⟨some (a,false),.un b .not (.t c),none,b⟩
abbrev aV(a:Nat):SI:=⟨none,.alR a [(.int .i64 0),(.int .i64 0),(.int .i64 0),(.slice none 0 0),(.slice none 0 0)],none,0⟩
abbrev aW(a b c:Nat):SI:=⟨some (a,false),.len b false (.t c),none,b⟩
abbrev aX(a b c:Nat):SI:=⟨some (a,false),.ld b (.t c) none,none,b⟩
abbrev aY(a b c:Nat):SI:=⟨none,.bin a .add (.t b) (.t c),none,0⟩
abbrev aZ(a b:Nat)(c:Int):SI:=⟨none,.bin a .eql (.t b) (.i c),none,0⟩
abbrev a0(a b c d e:Nat):SI:=⟨none,.call a b [(.t c),(.t d),(.t e)],none,0⟩
abbrev a8(a b c d:Nat):SI:=⟨some (a,false),.call b c [(.t d)],none,b⟩
abbrev a9(a b c d e:Nat):SI:=⟨some (a,true),.ldR b c d (some e),none,b⟩
abbrev ba(a b c:Nat):SI:=⟨none,.bin a .sub (.t b) (.t c),none,0⟩
abbrev bc(a:Nat):SI:=⟨none,.alR a [(.int .i64 0),(.int .i64 0),(.slice none 0 0)],none,0⟩
abbrev bd(a b c:Nat)(d:Int):SI:=⟨some (a,true),.bin b .eql (.t c) (.i d),none,b⟩
abbrev bf(a b:Nat)(c:Int):SI:=⟨none,.bin a .geq (.t b) (.i c),none,0⟩
abbrev bg(a:Nat):SI:=⟨none,.alR a [(.int .i64 0),(.int .i64 0),(.int .i64 0),(.int .i64 0),(.int .i64 0),(.int .i64 0),(.int .i64 0),(.bool false),(.int .i64 0),(.slice none 0 0)],none,0⟩
abbrev bh(a b c:Nat)(d:Int):SI:=⟨some (a,false),.bin b .lss (.t c) (.i d),none,b⟩
abbrev bi(a b c:Nat)(d:Int):SI:=⟨some (a,false),.bin b .neq (.t c) (.i d),none,b⟩
abbrev bj(a b c d:Nat):SI:=⟨some (a,true),.call b c [(.t d)],none,b⟩
abbrev bm(a b c:Nat):SI:=⟨none,.bin a .eql (.t b) (.t c),none,0⟩
abbrev bn(a:Nat):SI:=⟨none,.bld a [(.int .i64 0),(.int .i64 0),(.int .i64 0),(.slice none 0 0),(.slice none 0 0)] [],none,0⟩
abbrev bo(a b:Nat)(c:Int)(d e:Nat):SI:=⟨none,.ixP a (.t b) (.i c) d e,none,0⟩
abbrev bp(a b c d e:Nat):SI:=⟨some (a,true),.ixA b (.t c) (.t d) e,none,b⟩
abbrev bq(a b:Nat)(c:Int):SI:=⟨none,.bin a .gtr (.t b) (.i c),none,0⟩
abbrev bt(a b c:Nat):SI:=⟨none,.mm a false (.t b) (.t c),none,0⟩
abbrev bu(a:Nat):SI:=⟨none,.bld a [(.int .i64 0),(.int .i64 0),(.int .i64 0),(.int .i64 0),(.int .i64 0),(.int .i64 0),(.int .i64 0),(.bool false),(.int .i64 0),(.slice none 0 0)] [],none,0⟩
abbrev bw(a b:Nat)(c:Int):SI:=⟨none,.bin a .sub (.t b) (.i c),none,0⟩
abbrev bz(a b:Nat):SI:=⟨none,.cvI a .u64 (.t b),none,0⟩
abbrev bA(a b c:Nat):SI:=⟨some (a,true),.ld b (.t c) none,none,b⟩
abbrev bB(a:Nat):SI:=⟨none,.bld a [(.int .i64 0),(.int .i64 0),(.slice none 0 0)] [],none,0⟩
abbrev bC(a b c:Nat):SI:=⟨none,.bin a .neq (.t b) (.t c),none,0⟩
abbrev bD(a b c d:Nat):SI:=⟨some (a,false),.pick b (.t c) (.t d) (.b false),none,b⟩
abbrev bE(a:Nat):SI:=⟨none,.alR a [(.int .i64 0),(.slice none 0 0)],none,0⟩
abbrev bF(a b c d:Nat):SI:=⟨none,.sl a (.t b) none (some (.t c)) none d,none,0⟩
abbrev bG(a b c d:Nat):SI:=⟨some (a,true),.pick b (.t c) (.b true) (.t d),none,b⟩
abbrev bH(a:Nat):SI:=⟨none,.mv a (.v (.string ⟨#[]⟩)),none,0⟩
abbrev bI(a b c:Nat)(d:Int):SI:=⟨some (a,true),.bin b .leq (.t c) (.i d),none,b⟩
abbrev bJ(a b:Nat):SI:=⟨none,.cvI a .u8 (.t b),none,0⟩
abbrev bK(a b c d:Nat):SI:=⟨some (a,false),.flA b (.t c) d,none,b⟩
abbrev bL(a:Nat):SI:=⟨none,.mv a (.b true),none,0⟩
abbrev bM(a b c:Nat):SI:=⟨none,.bin a .gtr (.t b) (.t c),none,0⟩
abbrev bN(a:Nat)(b:Int):SI:=⟨none,.mv a (.v (.int .u64 b)),none,0⟩
abbrev bO(a b c d e:Nat):SI:=⟨some (a,true),.call b c [(.t d),(.t e)],none,b⟩
abbrev bP(a b c:Nat)(d:Int):SI:=⟨none,.call a b [(.t c),(.i d)],none,0⟩
abbrev bQ(a b c d e:Nat):SI:=⟨some (a,false),.ixA b (.t c) (.t d) e,none,b⟩
abbrev bR(a b c d:Nat):SI:=⟨some (a,false),.bin b .gtr (.t c) (.t d),none,b⟩
abbrev bS(a b c:Nat)(d:Int):SI:=⟨some (a,true),.bin b .sub (.t c) (.i d),none,b⟩
abbrev bT(a:Nat):SI:=⟨none,.bl0 a,none,0⟩
abbrev bU(a b:Nat):SI:=⟨none,.cvI a .i64 (.t b),none,0⟩
abbrev bV(a b c d:Nat):SI:=⟨some (a,true),.bin b .eql (.t c) (.t d),none,b⟩
abbrev bW(a b c:Nat):SI:=⟨none,.mkf a (.func b) [(.t c)],none,0⟩
abbrev bX(a b c d e f g:Nat):SI:=⟨none,.bls a b c d [(.int .i64 0),(.slice none 0 0)] [(e,f,(.t g))],none,0⟩
abbrev bY(a:Nat):SI:=⟨none,.mv a (.i (-1)),none,0⟩
abbrev bZ(a b:Nat)(c:Int):SI:=⟨none,.bin a .shr (.t b) (.v (.int .u64 c)),none,0⟩
abbrev cd(a:Nat):SI:=⟨none,.alR a [(.int .i64 0),(.string ⟨#[]⟩),(.string ⟨#[]⟩),(.bool false),(.int .i64 0)],none,0⟩
abbrev cf(a b c d e f g:Nat):SI:=⟨none,.bls a b c d [(.int .u8 0)] [(e,f,(.t g))],none,0⟩
abbrev ci(a:Nat):SI:=⟨none,.al a [(.int .i64 0),(.int .i64 0),(.int .i64 0),(.slice none 0 0),(.slice none 0 0)],none,0⟩
abbrev cj(a:Nat):SI:=⟨none,.al a [(.int .i64 0)],none,0⟩
abbrev ck(a b c:Nat):SI:=⟨none,.mm a true (.t b) (.t c),none,0⟩
abbrev cm(a b c:Nat):SI:=⟨none,.cav a (.t b) [(.t c)],none,0⟩
abbrev cn(a b c d:Nat)(e:Int):SI:=⟨some (a,false),.call b c [(.t d),(.i e)],none,b⟩
abbrev cp(a b c d:Nat):SI:=⟨none,.cav a (.t b) [(.t c),(.t d)],none,0⟩
abbrev cr(a b c d:Nat)(e:Int):SI:=⟨none,.call a b [(.t c),(.t d),(.i e)],none,0⟩
abbrev cv(a:Nat)(b:Int):SI:=⟨none,.mv a (.v (.int .u32 b)),none,0⟩
abbrev cw(a b c:Nat)(d:Int)(e f:Nat):SI:=⟨some (a,false),.ixP b (.t c) (.i d) e f,none,b⟩
abbrev cz(a b c:Nat):SI:=⟨some (a,true),.len b false (.t c),none,b⟩
abbrev cA(a b c d:Nat):SI:=⟨some (a,false),.bin b .neq (.t c) (.t d),none,b⟩
abbrev cB(a:Nat):SI:=⟨none,.alR a [(.int .i64 0),(.bool false),(.int .i64 0),(.int .i64 0),(.slice none 0 0),(.slice none 0 0),(.int .i64 0)],none,0⟩
abbrev cC(a b c d:Nat):SI:=⟨none,.mkf a (.func b) [(.t c),(.t d)],none,0⟩
abbrev cD(a b c d:Nat):SI:=⟨some (a,true),.bin b .leq (.t c) (.t d),none,b⟩
abbrev cE(a b c:Nat):SI:=⟨some (a,true),.un b .not (.t c),none,b⟩
abbrev cF(a:Nat):SI:=⟨none,.alR a [(.int .i64 0),(.int .i64 0)],none,0⟩
abbrev cG(a b c:Nat):SI:=⟨none,.bin a .geq (.t b) (.t c),none,0⟩
abbrev cH(a:Nat):SI:=⟨none,.bld a [(.int .i64 0),(.slice none 0 0)] [],none,0⟩
abbrev cI(a b c:Nat):SI:=⟨none,.bin a .xor (.t b) (.t c),none,0⟩
abbrev cJ(a b:Nat):SI:=⟨none,.call a b [],none,0⟩
abbrev cK(a b c d:Nat):SI:=⟨some (a,true),.ld b (.t c) (some d),none,b⟩
abbrev cL(a b c d e:Nat):SI:=⟨some (a,false),.call b c [(.t d),(.t e)],none,b⟩
abbrev cM(a b c:Nat)(d:Int):SI:=⟨some (a,false),.bin b .eql (.t c) (.i d),none,b⟩
abbrev cN(a b c d:Nat):SI:=⟨some (a,true),.flA b (.t c) d,none,b⟩
abbrev cO(a b c d:Nat):SI:=⟨some (a,true),.bin b .geq (.t c) (.t d),none,b⟩
abbrev cP(a b c d e:Nat):SI:=⟨some (a,false),.ldR b c d (some e),none,b⟩
abbrev cQ(a b:Nat)(c:Int):SI:=⟨none,.st (.t a) b (.i c),none,0⟩
abbrev cR(a b:Nat):SI:=⟨none,.isn a false (.t b),none,0⟩
abbrev cS(a b:Nat)(c:Int)(d:Nat):SI:=⟨none,.ixA a (.t b) (.i c) d,none,0⟩
abbrev cT(a b:Nat):SI:=⟨none,.bin a .eql (.t b) (.i (-1)),none,0⟩
abbrev cU(a:Nat):SI:=⟨none,.mv a (.v .nilFunc),none,0⟩
abbrev cV(a b c d e f:Nat):SI:=⟨none,.call a b [(.t c),(.t d),(.t e),(.t f)],none,0⟩
abbrev cW(a b c d:Nat):SI:=⟨some (a,false),.bin b .lss (.t c) (.t d),none,b⟩
abbrev cX(a b:Nat)(c:Int):SI:=⟨none,.bin a .quo (.t b) (.v (.int .u32 c)),none,0⟩
abbrev cY(a b c d e:Nat):SI:=⟨none,.ixP a (.t b) (.t c) d e,none,0⟩
abbrev cZ(a b c d e f g:Nat):SI:=⟨none,.bls a b c d [(.int .i64 0)] [(e,f,(.t g))],none,0⟩
abbrev da(a b c d e f g:Nat):SI:=⟨none,.bls a b c d [(.int .i64 0),(.int .i64 0),(.int .i64 0),(.int .i64 0),(.int .i64 0),(.int .i64 0),(.int .i64 0),(.bool false),(.int .i64 0),(.slice none 0 0)] [(e,f,(.t g))],none,0⟩
abbrev dh(a b c:Nat):SI:=⟨none,.call a b [(.v (.slice none 0 0)),(.t c)],none,0⟩
abbrev di(a b:Nat):SI:=⟨none,.st (.t a) b (.b false),none,0⟩
abbrev dj(a b c d e f g:Nat):SI:=⟨none,.bld a [(.int .i64 0),(.slice none 0 0)] [(b,c,(.t d)),(e,f,(.t g))],none,0⟩
abbrev dk(a b c d:Nat):SI:=⟨some (a,false),.bin b .add (.t c) (.t d),none,b⟩
abbrev dl(a b c d:Nat):SI:=⟨none,.sl a (.t b) (some (.t c)) none none d,none,0⟩
abbrev dm(a b:Nat):SI:=⟨none,.un a .neg (.t b),none,0⟩
abbrev dp(a b:Nat)(c:Int):SI:=⟨none,.bin a .rem (.t b) (.v (.int .u64 c)),none,0⟩
abbrev dq(a b:Nat):SI:=⟨none,.cvS a (.t b),none,0⟩
abbrev dr(a b:Nat):SI:=⟨none,.len a true (.t b),none,0⟩
abbrev dt(a b:Nat):SI:=⟨none,.cav a (.t b) [],none,0⟩
abbrev du(a b c d:Nat):SI:=⟨none,.bld a [(.int .i64 0),(.int .i64 0),(.int .i64 0),(.slice none 0 0),(.slice none 0 0)] [(b,c,(.t d))],none,0⟩
abbrev dv(a b c d:Nat):SI:=⟨none,.bld a [(.int .i64 0),(.slice none 0 0)] [(b,c,(.t d))],none,0⟩
abbrev dw(a:Nat):SI:=⟨none,.al a [(.int .i64 0),(.int .i64 0),(.int .i64 0),(.int .i64 0),(.int .i64 0),(.int .i64 0),(.int .i64 0),(.bool false),(.int .i64 0),(.slice none 0 0)],none,0⟩
abbrev dx(a:Nat):SI:=⟨none,.al a [(.int .i64 0),(.slice none 0 0)],none,0⟩
abbrev dy(a b c d e f g:Nat):SI:=⟨none,.bls a b c d [(.int .i64 0),(.int .i64 0)] [(e,f,(.t g))],none,0⟩
abbrev dz(a b c:Nat)(d:Int)(e:Nat):SI:=⟨some (a,false),.ixA b (.t c) (.i d) e,none,b⟩
abbrev dA(a b c:Nat)(d:Int):SI:=⟨some (a,false),.bin b .sub (.t c) (.i d),none,b⟩
abbrev dC(a b c d:Nat):SI:=⟨some (a,false),.ld b (.t c) (some d),none,b⟩
abbrev dD(a b c d:Nat):SI:=⟨some (a,false),.bin b .sub (.t c) (.t d),none,b⟩
abbrev dE(a b c:Nat)(d:Int):SI:=⟨some (a,false),.bin b .geq (.t c) (.i d),none,b⟩
abbrev dF(a b:Nat)(c:Int):SI:=⟨none,.bin a .geq (.t b) (.v (.int .u64 c)),none,0⟩
abbrev dG(a b:Nat)(c:Int):SI:=⟨none,.bin a .quo (.t b) (.v (.int .u64 c)),none,0⟩
abbrev dH(a b c d e:Nat):SI:=⟨none,.app a (.v (.slice none 0 0)) (.t b) c d e,none,0⟩
abbrev dI(a b c:Nat)(d:Int):SI:=⟨some (a,false),.bin b .gtr (.t c) (.v (.int .u64 d)),none,b⟩
abbrev dJ(a b c d e:Nat):SI:=⟨none,.sl a (.t b) (some (.t c)) (some (.t d)) none e,none,0⟩
abbrev dK(a:Nat):SI:=⟨none,.bld a [(.int .i64 0),(.string ⟨#[]⟩),(.string ⟨#[]⟩),(.bool false),(.int .i64 0)] [],none,0⟩
abbrev dL(a b c d:Nat):SI:=⟨none,.call a b [(.t c),(.v (.func (.func d) #[] #[]))],none,0⟩
abbrev dM(a b c d e f g h i j k l m n o p:Nat):SI:=⟨none,.bld a [(.int .i64 0),(.string ⟨#[]⟩),(.string ⟨#[]⟩),(.bool false),(.int .i64 0)] [(b,c,(.t d)),(e,f,(.t g)),(h,i,(.t j)),(k,l,(.t m)),(n,o,(.t p))],none,0⟩
abbrev dN(a:Nat):SI:=⟨none,.al a [(.int .i64 0),(.string ⟨#[]⟩),(.string ⟨#[]⟩),(.bool false),(.int .i64 0)],none,0⟩
abbrev dO(a b:Nat)(c:Int):SI:=⟨none,.bin a .and (.t b) (.v (.int .u32 c)),none,0⟩
abbrev dP(a b c:Nat)(d:Int)(e f g h i j k l m:Nat):SI:=⟨none,.bld a [(.int .i64 0),(.int .i64 0),(.int .i64 0),(.slice none 0 0),(.slice none 0 0)] [(b,c,(.i d)),(e,f,(.t g)),(h,i,(.t j)),(k,l,(.t m))],none,0⟩
abbrev dQ(a:Nat):SI:=⟨none,.al a [(.int .i64 0),(.int .i64 0),(.int .i64 0),(.int .i64 0),(.int .i64 0),(.int .i64 0),(.int .i64 0)],none,0⟩
abbrev dR(a b c d e f g:Nat):SI:=⟨none,.bls a b c d [(.int .i64 0),(.string ⟨#[]⟩),(.string ⟨#[]⟩),(.bool false),(.int .i64 0)] [(e,f,(.t g))],none,0⟩
abbrev aa(l:Ku):SC:=.reg false l
abbrev ab(a:Ku)(n:Nat)(b:Ku):SC:=.seq (.reg false a) (.cond (.t n) (.seq (.reg false b) .ret) .skip)
def c10r0:Ku:=[aF 4 0,aF 7 3,aE 8]
def c10r1:Ku:=[cJ 26 11,ac 9 26]
def c10r2:Ku:=[ao 27 4 0 5,ar 28 12 27,aN 29 28,ac 30 29,aB 30 7,aC 30 32 7 2,aW 30 33 32,aS 30 34 33 12,au 35 30 34]
def c10r3:Ku:=[ac 36 9,ac 8 36]
def c10r4:Ku:=[ao 38 4 0 5,ac 39 1,ac 40 2,a0 41 35 38 39 40,ac 37 41,am 42 37 0,am 43 37 1,aV 10,ak 10 0 5 42,ac 11 43]
def c10r5:Ku:=[ao 45 4 0 5,ac 46 1,ac 47 2,a0 48 38 45 46 47,ac 44 48,am 49 44 0,am 50 44 1,aV 12,ak 12 0 5 49,ac 13 50]
def c10r6:Ku:=[ao 52 4 0 5,ac 53 1,ay 54 36 52 53,ac 51 54,am 55 51 0,am 56 51 1,aV 14,ak 14 0 5 55,ac 15 56]
def c10r7:Ku:=[ao 58 4 0 5,ac 59 1,ay 60 39 58 59,ac 57 60,am 61 57 0,am 62 57 1,aV 16,ak 16 0 5 61,ac 17 62]
def c10r8:Ku:=[ao 64 4 0 5,ac 65 1,ay 66 37 64 65,ac 63 66,am 67 63 0,am 68 63 1,aV 18,ak 18 0 5 67,ac 19 68]
def c10r9:Ku:=[ao 70 4 0 5,ac 71 1,ay 72 40 70 71,ac 69 72,am 73 69 0,am 74 69 1,aV 20,ak 20 0 5 73,ac 21 74]
def c10r10:Ku:=[ao 76 4 0 5,ao 77 7 0 3,ay 78 41 76 77,ac 75 78,am 79 75 0,am 80 75 1,aV 22,ak 22 0 5 79,ac 23 80]
def c10r11:Ku:=[ao 82 4 0 5,ao 83 7 0 3,ay 84 42 82 83,ac 81 84,am 85 81 0,am 86 81 1,aV 24,ak 24 0 5 85,ac 25 86]
def c10r12:Ku:=[ac 87 9,ac 88 87,a9 88 89 10 0 5,a9 88 90 12 0 5,bO 88 91 17 89 90,aJ 92 88 91,ac 93 92,aG 93 94 11,aG 93 95 13,bV 93 96 94 95,aJ 97 93 96,ac 98 97,a9 98 99 14 0 5,a9 98 100 16 0 5,bO 98 101 17 99 100,aJ 102 98 101,ac 103 102,aG 103 104 15,aG 103 105 17,bV 103 106 104 105,aJ 107 103 106,ac 108 107,a9 108 109 18 0 5,a9 108 110 20 0 5,bO 108 111 17 109 110,aJ 112 108 111,ac 113 112,aG 113 114 19,aG 113 115 21,bV 113 116 114 115,aJ 117 113 116,ac 118 117,a9 118 119 22 0 5,a9 118 120 24 0 5,bO 118 121 17 119 120,aJ 122 118 121,ac 123 122,aG 123 124 23,aG 123 125 25,bV 123 126 124 125,aJ 127 123 126,ac 8 127]
def c10:SC:=(.seq (aa c10r0) (.seq (aa c10r1) (.seq (ab c10r2 35 c10r3) (.seq (aa c10r4) (.seq (aa c10r5) (.seq (aa c10r6) (.seq (aa c10r7) (.seq (aa c10r8) (.seq (aa c10r9) (.seq (aa c10r10) (.seq (aa c10r11) (.seq (aa c10r12) .ret))))))))))))
def v10:Kz:=([4,7,10,12,14,16,18,20,22,24],[4,7,10,12,14,16,18,20,22,24,31])
def o10:KB:=[.t 8]
def c11r0:Ku:=[aE 0]
def c11r1:Ku:=[⟨none,.bls 26 3 3 1 [(.int .i64 0),(.int .i64 0),(.int .i64 0)] [(0,1,(.i 0)),(1,1,(.i 1)),(2,1,(.i 2))],none,0⟩,⟨none,.call 27 13 [(.t 26),(.i 4096),(.i 1)],none,0⟩,ac 25 27,am 28 25 0,am 29 25 1,aV 1,ak 1 0 5 28,ac 2 29]
def c11r2:RX:=.br [(true,ao 31 1 0 5)] (cJ 32 43) (.br [] (ay 33 25 31 32) (.leaf [(true,ac 30 33),(true,am 34 30 0),(true,am 35 30 1),(true,am 36 30 2),(false,ci 3),(false,aH 3 5 34),(true,ac 4 35),(true,ac 5 36)]) (ci 3) (.leaf [(false,ay 33 25 31 32),(true,ac 30 33),(true,am 34 30 0),(true,am 35 30 1),(true,am 36 30 2),(false,aH 3 5 34),(true,ac 4 35),(true,ac 5 36)])) (ci 3) (.leaf [(false,cJ 32 43),(false,ay 33 25 31 32),(true,ac 30 33),(true,am 34 30 0),(true,am 35 30 1),(true,am 36 30 2),(false,aH 3 5 34),(true,ac 4 35),(true,ac 5 36)])
def c11r3:Ku:=[aI 38 3 5,bP 39 33 38 1,ac 37 39,am 40 37 0,am 41 37 1,aV 6,ak 6 0 5 40,ac 7 41]
def c11r4:Ku:=[ao 43 6 0 5,bP 44 44 43 2,ac 42 44,am 45 42 0,am 46 42 1,aV 8,ak 8 0 5 45,ac 9 46]
def c11r5:Ku:=[ao 48 8 0 5,⟨none,.call 49 35 [(.t 48),(.i 0),(.i 0)],none,0⟩,ac 47 49,am 50 47 0,am 51 47 1,aV 10,ak 10 0 5 50,ac 11 51]
def c11r6:RX:=.br [(true,ao 53 10 0 5)] (cJ 54 43) (.br [] (ay 55 25 53 54) (.leaf [(true,ac 52 55),(true,am 56 52 0),(true,am 57 52 1),(true,am 58 52 2),(false,ci 12),(false,aH 12 5 56),(true,ac 13 57),(true,ac 14 58)]) (ci 12) (.leaf [(false,ay 55 25 53 54),(true,ac 52 55),(true,am 56 52 0),(true,am 57 52 1),(true,am 58 52 2),(false,aH 12 5 56),(true,ac 13 57),(true,ac 14 58)])) (ci 12) (.leaf [(false,cJ 54 43),(false,ay 55 25 53 54),(true,ac 52 55),(true,am 56 52 0),(true,am 57 52 1),(true,am 58 52 2),(false,aH 12 5 56),(true,ac 13 57),(true,ac 14 58)])
def c11r7:Ku:=[ao 60 10 0 5,bP 61 37 60 2,ac 59 61,am 62 59 0,am 63 59 1,aV 15,ak 15 0 5 62,ac 16 63]
def c11r8:Ku:=[ao 65 10 0 5,bP 66 37 65 1,ac 64 66,am 67 64 0,am 68 64 1,aV 17,ak 17 0 5 67,ac 18 68]
def c11r9:Ku:=[ao 70 17 0 5,ar 71 15 70,ac 69 71,am 72 69 0,am 73 69 1,bc 19,ak 19 0 3 72,ac 20 73]
def c11r10:Ku:=[ao 75 17 0 5,bP 76 36 75 0,ac 74 76,am 77 74 0,am 78 74 1,aV 21,ak 21 0 5 77,ac 22 78]
def c11r11:Ku:=[ao 80 21 0 5,bP 81 36 80 0,ac 79 81,am 82 79 0,am 83 79 1,aV 23,ak 23 0 5 82,ac 24 83]
def c11r12:Ku:=[ac 84 2,aL 85 84 0,ac 86 85,az 86 87 5,bi 86 88 87 0,au 89 86 88,ac 90 89,az 90 91 7,bi 90 92 91 0,au 93 90 92,ac 94 93,az 94 95 9,bi 94 96 95 0,au 97 94 96,ac 98 97,az 98 99 11,bi 98 100 99 0,au 101 98 100,ac 102 101,az 102 103 18,bi 102 104 103 0,au 105 102 104,ac 106 105,az 106 107 20,bi 106 108 107 0,au 109 106 108,ac 110 109,az 110 111 22,bi 110 112 111 0,au 113 110 112,ac 114 113,aB 114 17,aC 114 116 17 3,aW 114 117 116,bi 114 118 117 1,au 119 114 118]
def c11r13:Ku:=[aE 0]
def c11r14:Ku:=[ac 120 4,aZ 121 120 0,ac 122 121,cK 122 123 3 5,bj 122 124 20 123,bd 122 125 124 0,aJ 126 122 125,ac 127 126,a9 127 128 6 0 5,bj 127 129 20 128,bd 127 130 129 0,aJ 131 127 130,ac 132 131,a9 132 133 8 0 5,bj 132 134 20 133,bd 132 135 134 2,aJ 136 132 135,ac 137 136,aO 137 10,aQ 137 139 10 1,⟨some (137,true),.bin 140 .eql (.t 139) (.i (-1)),none,140⟩,aJ 141 137 140,ac 142 141,aG 142 143 14,bd 142 144 143 180,aJ 145 142 144,ac 146 145,aG 146 147 16,bd 146 148 147 181,aJ 149 146 148,ac 150 149,aO 150 17,aQ 150 152 17 0,bd 150 153 152 2,aJ 154 150 153,ac 155 154,aO 155 17,aQ 155 157 17 1,bd 155 158 157 1,aJ 159 155 158,ac 160 159,aO 160 17,aQ 160 162 17 3,⟨some (160,true),.ixA 163 (.t 162) (.i 0) 1,none,163⟩,bA 160 164 163,bd 160 165 164 1,aJ 166 160 165,ac 167 166,a9 167 168 17 0 5,bj 167 169 20 168,bd 167 170 169 2,aJ 171 167 170,ac 172 171,a9 172 173 19 0 3,bj 172 174 22 173,bd 172 175 174 2,aJ 176 172 175,ac 177 176,aG 177 178 24,bd 177 179 178 150,aJ 180 177 179,ac 181 180,a9 181 182 21 0 5,bj 181 183 18 182,bd 181 184 183 0,aJ 185 181 184,ac 186 185,⟨some (186,true),.bld 187 [(.int .i64 0),(.int .i64 0),(.int .i64 0),(.slice none 0 0),(.slice none 0 0)] [],none,187⟩,bj 186 188 18 187,bd 186 189 188 1,aJ 190 186 189,ac 0 190]
def c11:SC:=(.seq (aa c11r0) (.seq (aa c11r1) (.seq (.rgZ c11r2) (.seq (aa c11r3) (.seq (aa c11r4) (.seq (aa c11r5) (.seq (.rgZ c11r6) (.seq (aa c11r7) (.seq (aa c11r8) (.seq (aa c11r9) (.seq (aa c11r10) (.seq (aa c11r11) (.seq (ab c11r12 119 c11r13) (.seq (aa c11r14) .ret))))))))))))))
def v11:Kz:=([1,6,8,10,15,17,19,21,23],[1,6,8,10,15,17,19,21,23,115,138,151,156,161])
def o11:KB:=[.t 0]
def c12r0:Ku:=[aF 1 0,aE 2]
def c12r1:Ku:=[af 3 0]
def c12r2:Ku:=[ac 4 3,ah 1,ai 6 1 4,av 7 6,aK 8 4 7,ac 9 8,aG 9 10 3,⟨some (9,true),.bin 11 .lss (.t 10) (.i 10),none,11⟩,aJ 12 9 11]
def c12r3:Ku:=[ah 1,ai 16 1 4,ac 17 3,aA 18 16 17 7,aq 19 18 2,aI 20 19 3,ar 21 45 20,aN 22 21,ac 23 22,aB 23 1,aC 23 25 1 4,az 23 26 3,bQ 23 27 25 26 7,bK 23 28 27 5,aX 23 29 28,aW 23 30 29,aS 23 31 30 60,au 32 23 31]
def c12r4:Ku:=[aE 2]
def c12r5:Ku:=[ac 13 3,aD 14 13 1,ac 3 14]
def c12r6:Ku:=[ah 1,ai 34 1 4,av 35 34,⟨none,.bin 36 .leq (.t 35) (.i 8),none,0⟩,ac 37 36,aO 37 1,aQ 37 39 1 3,cz 37 40 39,bI 37 41 40 30,aJ 42 37 41,ac 2 42]
def c12:SC:=(.seq (aa c12r0) (.seq (.seq (aa c12r1) (.blk 0 (.loop (.seq (.seq (aa c12r2) (.cond (.t 12) .skip (.exit 0))) (.seq (.blk 1 (ab c12r3 32 c12r4)) (aa c12r5)))))) (.seq (aa c12r6) .ret)))
def v12:Kz:=([1],[1,5,15,24,33,38])
def o12:KB:=[.t 2]
def c13r0:Ku:=[aV 6,af 7 0]
def c13r1:Ku:=[ac 14 1,bP 15 46 14 0,ac 13 15,am 16 13 0,am 17 13 1,bc 8,ak 8 0 3 16,ac 9 17]
def c13r2:Ku:=[ac 18 9,aL 19 18 0,ac 20 19,az 20 21 0,a8 20 22 47 21,aU 20 23 22,au 24 20 23,ac 25 24,az 25 26 0,aW 25 27 26,aS 25 28 27 5,au 29 25 28,ac 30 29,az 30 31 2,bh 30 32 31 1,au 33 30 32,ac 34 33,az 34 35 2,az 34 36 0,aW 34 37 36,bR 34 38 35 37,au 39 34 38]
def c13r3:Ku:=[bn 40,ak 6 0 5 40,af 7 1]
def c13r4:RX:=.br [(true,ac 41 0),(true,cS 42 41 0 1),(true,aj 43 42),(true,ac 44 2),(true,ac 45 0)] (ar 46 48 45) (.leaf [(true,dP 47 0 1 1 1 1 43 2 1 44 3 1 46),(false,ci 10),(false,aH 10 5 47)]) (ci 10) (.leaf [(false,ar 46 48 45),(true,dP 47 0 1 1 1 1 43 2 1 44 3 1 46),(false,aH 10 5 47)])
def c13r5:Ku:=[ac 48 0,av 49 48,af 50 0]
def c13r6:Ku:=[aK 51 50 49]
def c13r7:Ku:=[aA 52 48 50 1,aj 53 52,ac 12 53]
def c13r8:Ku:=[aq 54 10 4,aj 55 54,ac 56 12,ao 57 8 0 3,⟨none,.bld 58 [(.int .i64 0),(.bool false),(.int .i64 0),(.int .i64 0),(.slice none 0 0),(.slice none 0 0),(.int .i64 0)] [(0,1,(.t 56)),(1,1,(.b true)),(2,3,(.t 57))],none,0⟩,⟨none,.bls 59 50 1 7 [(.int .i64 0),(.bool false),(.int .i64 0),(.int .i64 0),(.slice none 0 0),(.slice none 0 0),(.int .i64 0)] [(0,7,(.t 58))],none,0⟩,aP 60 55 59 50 7 88,aq 61 10 4,aH 61 1 60]
def c13r9:Ku:=[aD 62 50 1,ac 50 62]
def c13r10:Ku:=[aI 63 10 5,ak 6 0 5 63,af 7 0]
def c13:SC:=(.seq (aa c13r0) (.seq (aa c13r1) (.seq (ab c13r2 39 c13r3) (.seq (.rgZ c13r4) (.seq (.seq (aa c13r5) (.blk 0 (.loop (.seq (aa c13r6) (.seq (.cond (.t 51) .skip (.exit 0)) (.seq (.blk 1 (.seq (aa c13r7) (aa c13r8))) (aa c13r9))))))) (.seq (aa c13r10) .ret))))))
def v13:Kz:=([6,8],[6,8])
def o13:KB:=[.r 6 (some 5),.t 7]
def c15r0:Ku:=[aF 1 0,bc 2,af 3 0]
def c15r1:Ku:=[ao 6 1 0 5,ar 7 18 6,ac 4 7]
def c15r2:Ku:=[ac 8 4,aL 9 8 0]
def c15r3:Ku:=[bB 10,ac 11 4,ak 2 0 3 10,ac 3 11]
def c15r4:Ku:=[ah 1,ai 13 1 1,aR 14 13 0]
def c15r5:Ku:=[bB 15,ak 2 0 3 15,af 3 180]
def c15r6:Ku:=[ao 16 1 0 5,du 17 0 5 16,aT 18 17,ac 5 18]
def c15r7:Ku:=[ac 19 5,ah 1,ai 21 1 1,ay 22 51 19 21,aw 23 22,aq 24 23 2,aI 25 24 3,ak 2 0 3 25,af 3 0]
def c15:SC:=(.seq (aa c15r0) (.seq (.seq (aa c15r1) (ab c15r2 9 c15r3)) (.seq (ab c15r4 14 c15r5) (.seq (aa c15r6) (.seq (aa c15r7) .ret)))))
def v15:Kz:=([1,2],[1,2,12,20])
def o15:KB:=[.r 2 (some 3),.t 3]
def c16r0:Ku:=[aF 1 0,bc 2,af 3 0]
def c16r1:Ku:=[ao 5 1 0 5,ar 6 19 5,ac 4 6]
def c16r2:Ku:=[ac 7 4,aL 8 7 0]
def c16r3:Ku:=[bB 9,ac 10 4,ak 2 0 3 9,ac 3 10]
def c16r4:Ku:=[ah 1,ai 12 1 1,aR 13 12 0]
def c16r5:Ku:=[bB 14,ak 2 0 3 14,af 3 180]
def c16r6:List (Bool × SI):=[(true,ah 1),(true,ai 16 1 4),(true,ao 17 1 0 5),(true,ah 1),(true,ai 19 1 1),(false,ay 20 52 17 19),(true,aA 21 16 20 7),(true,aq 22 21 2),(true,aI 23 22 3)]
def c16r7:Ku:=[ak 2 0 3 23,af 3 0]
def c16:SC:=(.seq (aa c16r0) (.seq (aa c16r1) (.seq (ab c16r2 8 c16r3) (.seq (ab c16r4 13 c16r5) (.seq (.rgY c16r6 c16r7) .ret)))))
def v16:Kz:=([1,2],[1,2,11,15,18])
def o16:KB:=[.r 2 (some 3),.t 3]
def c17r0:Ku:=[aF 2 0,aF 3 1,aE 4]
def c17r1:Ku:=[ah 2,ai 8 2 0,ah 3,ai 10 3 0,bC 11 8 10,ac 12 11,aB 12 2,aC 12 14 2 1,aB 12 3,aC 12 16 3 1,cA 12 17 14 16,au 18 12 17,ac 19 18,aB 19 2,aC 19 21 2 2,aB 19 3,aC 19 23 3 2,cA 19 24 21 23,au 25 19 24,ac 26 25,aB 26 2,aC 26 28 2 3,aW 26 29 28,aB 26 3,aC 26 31 3 3,aW 26 32 31,cA 26 33 29 32,au 34 26 33,ac 35 34,aB 35 2,aC 35 37 2 4,aW 35 38 37,aB 35 3,aC 35 40 3 4,aW 35 41 40,cA 35 42 38 41,au 43 35 42]
def c17r2:Ku:=[aE 4]
def c17r3:Ku:=[af 5 0]
def c17r4:Ku:=[ac 44 5,ah 2,ai 46 2 3,av 47 46,aK 48 44 47]
def c17r5:Ku:=[ah 2,ai 52 2 3,ac 53 5,aA 54 52 53 1,aj 55 54,ah 3,ai 57 3 3,ac 58 5,aA 59 57 58 1,aj 60 59,bC 61 55 60]
def c17r6:Ku:=[aE 4]
def c17r7:Ku:=[ac 49 5,aD 50 49 1,ac 5 50]
def c17r8:Ku:=[af 6 0]
def c17r9:Ku:=[ac 62 6,ah 2,ai 64 2 4,av 65 64,aK 66 62 65]
def c17r10:List (Bool × SI):=[(true,ah 2),(true,ai 70 2 4),(true,ac 71 6),(true,aA 72 70 71 7),(true,aI 73 72 7),(true,ah 3),(true,ai 75 3 4),(true,ac 76 6),(true,aA 77 75 76 7),(true,aI 78 77 7),(false,ay 79 28 73 78),(true,aN 80 79)]
def c17r11:Ku:=[aE 4]
def c17r12:Ku:=[ac 67 6,aD 68 67 1,ac 6 68]
def c17r13:Ku:=[bL 4]
def c17:SC:=(.seq (aa c17r0) (.seq (ab c17r1 43 c17r2) (.seq (.seq (aa c17r3) (.blk 0 (.loop (.seq (.seq (aa c17r4) (.cond (.t 48) .skip (.exit 0))) (.seq (.blk 1 (.seq (.reg true c17r5) (.cond (.t 61) (.seq (aa c17r6) .ret) .skip))) (aa c17r7)))))) (.seq (.seq (aa c17r8) (.blk 2 (.loop (.seq (.seq (aa c17r9) (.cond (.t 66) .skip (.exit 2))) (.seq (.blk 3 (.seq (.rgX c17r10) (.cond (.t 80) (.seq (aa c17r11) .ret) .skip))) (aa c17r12)))))) (.seq (aa c17r13) .ret)))))
def v17:Kz:=([2,3],[2,3,7,9,13,15,20,22,27,30,36,39,45,51,56,63,69,74])
def o17:KB:=[.t 4]
def c18r0:Ku:=[aF 1 0,af 2 0]
def c18r1:Ku:=[⟨none,.al 3 [(.slice none 0 0)],none,0⟩]
def c18r2:Ku:=[ah 1,ai 8 1 4,av 9 8,af 10 0]
def c18r3:Ku:=[aK 11 10 9]
def c18r4:Ku:=[aA 12 8 10 7,aI 13 12 7,cB 5,ak 5 0 7 13]
def c18r5:Ku:=[aj 14 3,ah 5,ai 16 5 0,cZ 17 3 1 1 0 1 16,aP 18 14 17 3 1 8,aH 3 1 18]
def c18r6:Ku:=[aD 19 10 1,ac 10 19]
def c18r7:Ku:=[ah 1,ai 21 1 0,ar 22 53 21,aN 23 22,ac 24 23,aX 24 25 3,a8 24 26 47 25,aU 24 27 26,au 28 24 27,ac 29 28,aX 29 30 3,aW 29 31 30,aS 29 32 31 5,au 33 29 32,ac 34 33,aB 34 1,aC 34 36 1 2,bh 34 37 36 1,au 38 34 37,ac 39 38,aB 39 1,aC 39 41 1 2,aX 39 42 3,aW 39 43 42,bR 39 44 41 43,au 45 39 44,ac 46 45,aB 46 1,aC 46 48 1 4,⟨some (46,false),.call 49 54 [(.t 48),(.v (.func (.func 55) #[] #[]))],none,49⟩,au 50 46 49]
def c18r8:Ku:=[af 2 1]
def c18r9:Ku:=[ah 1,ai 52 1 3,ar 53 47 52,aN 54 53,ac 55 54,aB 55 1,aC 55 57 1 3,⟨some (55,false),.mkf 58 (.func 57) [(.t 3)],none,58⟩,cL 55 59 56 57 58,au 60 55 59]
def c18r10:Ku:=[af 2 1]
def c18r11:Ku:=[ah 1,ai 62 1 1,cT 63 62]
def c18r12:Ku:=[af 2 0]
def c18r13:Ku:=[aj 64 3,ah 1,ai 66 1 1,ay 67 59 64 66,ac 6 67]
def c18r14:Ku:=[ac 68 6,aR 69 68 0,ac 70 69,aB 70 1,aC 70 72 1 4,az 70 73 6,bQ 70 74 72 73 7,bK 70 75 74 1,aX 70 76 75,aU 70 77 76,au 78 70 77,ac 79 78,aB 79 1,aC 79 81 1 3,aB 79 1,aC 79 83 1 1,cL 79 84 58 81 83,aU 79 85 84,au 86 79 85]
def c18r15:Ku:=[af 2 1]
def c18r16:Ku:=[af 2 0]
def c18:SC:=(.seq (aa c18r0) (.seq (aa c18r1) (.seq (.seq (aa c18r2) (.blk 0 (.loop (.seq (aa c18r3) (.seq (.cond (.t 11) .skip (.exit 0)) (.seq (.blk 1 (.seq (aa c18r4) (aa c18r5))) (aa c18r6))))))) (.seq (ab c18r7 50 c18r8) (.seq (ab c18r9 60 c18r10) (.seq (ab c18r11 63 c18r12) (.seq (aa c18r13) (.seq (ab c18r14 86 c18r15) (.seq (aa c18r16) .ret)))))))))
def v18:Kz:=([1,5],[1,5,7,15,20,35,40,47,51,56,61,65,71,80,82])
def o18:KB:=[.t 2]
def c19r0:Ku:=[aF 1 0,af 2 0]
def c19r1:Ku:=[ah 1,ai 7 1 0,ar 8 50 7,aN 9 8,ac 10 9,aB 10 1,aC 10 12 1 4,aW 10 13 12,bh 10 14 13 1,au 15 10 14,ac 16 15,aB 16 1,aC 16 18 1 4,aW 16 19 18,aS 16 20 19 5,au 21 16 20,ac 22 21,aB 22 1,aC 22 24 1 2,bh 22 25 24 1,au 26 22 25,ac 27 26,aB 27 1,aC 27 29 1 2,aB 27 1,aC 27 31 1 4,aW 27 32 31,bR 27 33 29 32,au 34 27 33,ac 35 34,aB 35 1,aC 35 37 1 3,aW 35 38 37,cM 35 39 38 0,au 40 35 39]
def c19r2:Ku:=[af 2 1]
def c19r3:Ku:=[af 3 0]
def c19r4:Ku:=[ac 41 3,ah 1,ai 43 1 4,av 44 43,aK 45 41 44]
def c19r5:List (Bool × SI):=[(true,ah 1),(true,ai 49 1 4),(true,ac 50 3),(true,aA 51 49 50 7),(true,aI 52 51 7),(false,ar 53 60 52),(true,aN 54 53),(true,ac 55 54),(true,az 55 56 3),(true,aS 55 57 56 0),(true,az 55 58 57),(true,aO 58 1),(true,aQ 58 60 1 4),(true,aG 58 61 3),(true,bS 58 62 61 1),(true,bp 58 63 60 62 7),(true,cN 58 64 63 0),(true,bA 58 65 64),(true,aO 58 1),(true,aQ 58 67 1 4),(true,aG 58 68 3),(true,bp 58 69 67 68 7),(true,cN 58 70 69 0),(true,bA 58 71 70),(true,cO 58 72 65 71),(true,bD 55 73 58 72),(true,au 74 55 73)]
def c19r6:Ku:=[af 2 1]
def c19r7:Ku:=[ac 46 3,aD 47 46 1,ac 3 47]
def c19r8:Ku:=[af 4 0]
def c19r9:Ku:=[ac 75 4,ah 1,ai 77 1 3,av 78 77,aK 79 75 78]
def c19r10:List (Bool × SI):=[(true,ao 82 1 0 5),(true,ah 1),(true,ai 84 1 3),(true,ac 85 4),(true,aA 86 84 85 1),(true,aj 87 86),(false,ay 88 52 82 87),(true,aR 89 88 0),(true,ac 90 89),(true,az 90 91 4),(true,aS 90 92 91 0),(true,az 90 93 92),(true,aO 93 1),(true,aQ 93 95 1 3),(true,aG 93 96 4),(true,bS 93 97 96 1),(true,bp 93 98 95 97 1),(true,bA 93 99 98),(true,aO 93 1),(true,aQ 93 101 1 3),(true,aG 93 102 4),(true,bp 93 103 101 102 1),(true,bA 93 104 103),(true,cO 93 105 99 104),(true,bD 90 106 93 105),(true,au 107 90 106)]
def c19r11:Ku:=[af 2 1]
def c19r12:Ku:=[ac 80 4,aD 81 80 1,ac 4 81]
def c19r13:Ku:=[ah 1,ai 109 1 1,cT 110 109]
def c19r14:Ku:=[af 2 0]
def c19r15:Ku:=[ao 111 1 0 5,ah 1,ai 113 1 1,ay 114 52 111 113,ac 5 114]
def c19r16:Ku:=[ac 115 5,aR 116 115 0,ac 117 116,aB 117 1,aC 117 119 1 4,az 117 120 5,bQ 117 121 119 120 7,bK 117 122 121 1,aX 117 123 122,aU 117 124 123,au 125 117 124,ac 126 125,cP 126 127 1 0 5,aB 126 1,aC 126 129 1 1,cL 126 130 34 127 129,aU 126 131 130,au 132 126 131]
def c19r17:Ku:=[af 2 1]
def c19r18:Ku:=[af 2 0]
def c19:SC:=(.seq (aa c19r0) (.seq (ab c19r1 40 c19r2) (.seq (.seq (aa c19r3) (.blk 0 (.loop (.seq (.seq (aa c19r4) (.cond (.t 45) .skip (.exit 0))) (.seq (.blk 1 (.seq (.rgX c19r5) (.cond (.t 74) (.seq (aa c19r6) .ret) .skip))) (aa c19r7)))))) (.seq (.seq (aa c19r8) (.blk 2 (.loop (.seq (.seq (aa c19r9) (.cond (.t 79) .skip (.exit 2))) (.seq (.blk 3 (.seq (.rgX c19r10) (.cond (.t 107) (.seq (aa c19r11) .ret) .skip))) (aa c19r12)))))) (.seq (ab c19r13 110 c19r14) (.seq (aa c19r15) (.seq (ab c19r16 132 c19r17) (.seq (aa c19r18) .ret))))))))
def v19:Kz:=([1],[1,6,11,17,23,28,30,36,42,48,59,66,76,83,94,100,108,112,118,128])
def o19:KB:=[.t 2]
def c20r0:Ku:=[aT 1 0,af 2 0]
def c20r1:Ku:=[aI 6 1 5,ar 7 18 6,aL 8 7 0]
def c20r2:Ku:=[af 2 0]
def c20r3:Ku:=[aI 9 1 5,du 10 0 5 9,aT 11 10,ac 3 11]
def c20r4:Ku:=[aq 12 1 1,aj 13 12,bf 14 13 0]
def c20r5:Ku:=[ac 15 3,aq 16 1 1,aj 17 16,ay 18 51 15 17,aw 19 18,aq 20 19 6,aj 21 20,ac 2 21]
def c20r6:Ku:=[cj 4,cQ 4 1 0]
def c20r7:Ku:=[ac 22 3,ar 23 61 22]
def c20r8:Ku:=[ac 5 24]
def c20r9:Ku:=[aj 25 4,ac 26 5,aw 27 26,aq 28 27 6,aj 29 28,ck 30 25 29]
def c20r10:Ku:=[aH 4 1 30]
def c20r11:Ku:=[aj 31 4,ac 2 31]
def c20:SC:=(.seq (aa c20r0) (.seq (ab c20r1 8 c20r2) (.seq (aa c20r3) (.seq (ab c20r4 14 c20r5) (.seq (aa c20r6) (.seq (.seq (aa c20r7) (.blk 0 (.rf (.t 23) [24] (aa c20r8) (.blk 1 (.rgT c20r9 c20r10))))) (.seq (aa c20r11) .ret)))))))
def v20:Kz:=([],[])
def o20:KB:=[.t 2]
def c22r0:Ku:=[aF 1 0,af 2 0]
def c22r1:Ku:=[ao 3 1 0 3,ar 4 62 3,aL 5 4 0]
def c22r2:Ku:=[af 2 0]
def c22r3:Ku:=[ao 6 1 0 3,ar 7 63 6,ac 2 7]
def c22:SC:=(.seq (aa c22r0) (.seq (ab c22r1 5 c22r2) (.seq (aa c22r3) .ret)))
def v22:Kz:=([1],[1])
def o22:KB:=[.t 2]
def c25r0:Ku:=[aF 2 0,aT 3 1,aV 4,cj 5,af 6 0]
def c25r1:Ku:=[ao 8 2 0 5,cC 9 66 3 5,ay 10 65 8 9,ac 7 10,am 11 7 0,am 12 7 1,ak 4 0 5 11,ac 6 12]
def c25r2:Ku:=[ac 13 6,aL 14 13 0]
def c25r3:Ku:=[bn 15,ac 16 6,ak 4 0 5 15,cQ 5 1 0,ac 6 16]
def c25r4:List WI:=[(true,false,ao 17 4 0 5),(true,false,aj 18 5),(false,false,ak 4 0 5 17),(false,true,aH 5 1 18),(true,false,af 6 0)]
def c25:SC:=(.seq (aa c25r0) (.seq (aa c25r1) (.seq (ab c25r2 14 c25r3) (.seq (.rgW c25r4) .ret))))
def v25:Kz:=([2,4],[2,4])
def o25:KB:=[.r 4 (some 5),.c 5 none,.t 6]
def c27r0:Ku:=[aF 1 0,aM 2]
def c27r1:Ku:=[ao 3 1 0 3,ar 4 62 3,aL 5 4 0]
def c27r2:Ku:=[aM 2]
def c27r3:Ku:=[ao 6 1 0 3,ah 1,ai 8 1 1,ay 9 76 6 8,ar 10 75 9,ac 2 10]
def c27:SC:=(.seq (aa c27r0) (.seq (ab c27r1 5 c27r2) (.seq (aa c27r3) .ret)))
def v27:Kz:=([1],[1,7])
def o27:KB:=[.t 2]
def c28r0:Ku:=[aF 2 0,aF 3 1,aE 4]
def c28r1:Ku:=[ah 2,ai 6 2 0,ah 3,ai 8 3 0,bm 9 6 8,ac 10 9,aO 10 2,aQ 10 12 2 1,aO 10 3,aQ 10 14 3 1,⟨some (10,true),.eqb 15 false (.t 12) (.t 14),none,15⟩,aJ 16 10 15,ac 17 16,aO 17 2,aQ 17 19 2 6,aO 17 3,aQ 17 21 3 6,bV 17 22 19 21,aJ 23 17 22,ac 24 23,aO 24 2,a9 24 26 2 2 3,aO 24 3,a9 24 28 3 2 3,bO 24 29 77 26 28,aJ 30 24 29,ac 31 30,aO 31 2,aQ 31 33 2 5,aO 31 3,aQ 31 35 3 5,bO 31 36 78 33 35,aJ 37 31 36,ac 4 37]
def c28:SC:=(.seq (aa c28r0) (.seq (aa c28r1) .ret))
def v28:Kz:=([2,3],[2,3,5,7,11,13,18,20,25,27,32,34])
def o28:KB:=[.t 4]
def c33r0:Ku:=[aF 2 0,aT 3 1,aV 4,af 5 0]
def c33r1:Ku:=[ao 6 2 0 5,aj 7 3,bW 8 81 3,a0 9 80 6 7 8,am 10 9 0,am 11 9 1,ak 4 0 5 10,ac 5 11]
def c33:SC:=(.seq (aa c33r0) (.seq (aa c33r1) .ret))
def v33:Kz:=([2,4],[2,4])
def o33:KB:=[.r 4 (some 5),.t 5]
def c34r0:Ku:=[aF 2 0,aE 4]
def c34r1:Ku:=[af 5 0]
def c34r2:Ku:=[ac 6 5,ah 2,ai 8 2 3,av 9 8,aK 10 6 9]
def c34r3:Ku:=[ah 2,ai 14 2 3,ac 15 5,aA 16 14 15 1,aj 17 16,ac 18 1,bm 19 17 18]
def c34r4:Ku:=[bL 4]
def c34r5:Ku:=[ac 11 5,aD 12 11 1,ac 5 12]
def c34r6:Ku:=[aE 4]
def c34:SC:=(.seq (aa c34r0) (.seq (.seq (aa c34r1) (.blk 0 (.loop (.seq (.seq (aa c34r2) (.cond (.t 10) .skip (.exit 0))) (.seq (.blk 1 (ab c34r3 19 c34r4)) (aa c34r5)))))) (.seq (aa c34r6) .ret)))
def v34:Kz:=([2],[2,7,13])
def o34:KB:=[.t 4]
def c35r0:Ku:=[aF 3 0,aT 4 1,aT 5 2,aV 6,af 7 0]
def c35r1:Ku:=[ao 8 3 0 5,aj 9 4,cC 10 85 5 4,a0 11 80 8 9 10,am 12 11 0,am 13 11 1,ak 6 0 5 12,ac 7 13]
def c35:SC:=(.seq (aa c35r0) (.seq (aa c35r1) .ret))
def v35:Kz:=([3,6],[3,6])
def o35:KB:=[.r 6 (some 5),.t 7]
def c36r0:Ku:=[aF 2 0,aV 4,af 5 0]
def c36r1:Ku:=[ao 6 2 0 5,ac 7 1,⟨none,.call 8 80 [(.t 6),(.t 7),(.v (.func (.func 88) #[] #[]))],none,0⟩,am 9 8 0,am 10 8 1,ak 4 0 5 9,ac 5 10]
def c36:SC:=(.seq (aa c36r0) (.seq (aa c36r1) .ret))
def v36:Kz:=([2,4],[2,4])
def o36:KB:=[.r 4 (some 5),.t 5]
def c37r0:Ku:=[aF 2 0,aT 3 1,aV 4,af 5 0]
def c37r1:Ku:=[ao 6 2 0 5,aj 7 3,bW 8 91 3,a0 9 80 6 7 8,am 10 9 0,am 11 9 1,ak 4 0 5 10,ac 5 11]
def c37:SC:=(.seq (aa c37r0) (.seq (aa c37r1) .ret))
def v37:Kz:=([2,4],[2,4])
def o37:KB:=[.r 4 (some 5),.t 5]
def c38r0:Ku:=[aF 3 0,aV 6,af 7 0]
def c38r1:Ku:=[ao 12 3 0 5,ac 13 1,ay 14 92 12 13,ac 11 14,am 15 11 0,am 16 11 1,ac 8 15,ac 9 16]
def c38r2:Ku:=[ac 17 9,aL 18 17 0]
def c38r3:Ku:=[bn 19,ac 20 9,ak 6 0 5 19,ac 7 20]
def c38r4:Ku:=[ac 21 2,aR 22 21 0]
def c38r5:Ku:=[bn 23,ak 6 0 5 23,af 7 1]
def c38r6:Ku:=[ah 3,ai 25 3 4,ac 26 8,aA 27 25 26 7,aq 28 27 1,aj 29 28,aN 30 29]
def c38r7:Ku:=[bn 31,ak 6 0 5 31,af 7 180]
def c38r8:Ku:=[ah 3,ai 33 3 4,ac 34 8,aA 35 33 34 7,aI 36 35 7,cB 10,ak 10 0 7 36]
def c38r9:Ku:=[ah 10,⟨none,.stR 10 1 1 (.b false),none,0⟩]
def c38r10:Ku:=[ah 10,ao 39 10 2 3,ac 40 2,ay 41 93 39 40,ah 10,ak 10 2 3 41]
def c38r11:Ku:=[ao 43 3 0 5,ac 44 8,ao 45 10 0 7,a0 46 94 43 44 45,ak 3 0 5 46]
def c38r12:Ku:=[ah 3,ai 48 3 1,ac 49 1,bm 50 48 49]
def c38r13:Ku:=[ah 3,⟨none,.stR 3 1 1 (.i (-1)),none,0⟩]
def c38r14:Ku:=[ah 3,ai 53 3 3,av 54 53,bq 55 54 1]
def c38r15:Ku:=[ah 3,ai 57 3 3,ac 58 1,ay 59 95 57 58,ah 3,ak 3 3 1 59]
def c38r16:Ku:=[ao 61 3 0 5,ar 62 96 61,ak 6 0 5 62,af 7 0]
def c38:SC:=(.seq (aa c38r0) (.seq (aa c38r1) (.seq (ab c38r2 18 c38r3) (.seq (ab c38r4 22 c38r5) (.seq (ab c38r6 30 c38r7) (.seq (aa c38r8) (.seq (aa c38r9) (.seq (aa c38r10) (.seq (aa c38r11) (.seq (.seq (aa c38r12) (.cond (.t 50) (aa c38r13) .skip)) (.seq (.seq (aa c38r14) (.cond (.t 55) (aa c38r15) .skip)) (.seq (aa c38r16) .ret))))))))))))
def v38:Kz:=([3,6,10],[3,6,10,24,32,37,38,42,47,51,52,56,60])
def o38:KB:=[.r 6 (some 5),.t 7]
def c39r0:Ku:=[aF 2 0,aV 4,af 5 0]
def c39r1:Ku:=[ao 13 2 0 5,ac 14 1,ay 15 92 13 14,ac 12 15,am 16 12 0,am 17 12 1,ac 6 16,ac 7 17]
def c39r2:Ku:=[ac 18 7,aL 19 18 0]
def c39r3:Ku:=[bn 20,ac 21 7,ak 4 0 5 20,ac 5 21]
def c39r4:Ku:=[ah 2,ai 23 2 4,ac 24 6,aA 25 23 24 7,aq 26 25 1,aj 27 26]
def c39r5:Ku:=[bn 28,ak 4 0 5 28,af 5 150]
def c39r6:Ku:=[ah 2,ai 30 2 4,ac 31 6,aA 32 30 31 7,aI 33 32 7,cB 8,ak 8 0 7 33]
def c39r7:Ku:=[ah 8,ao 36 8 2 3,ar 37 97 36,ac 34 37,am 38 34 0,am 39 34 1,bc 9,ak 9 0 3 38,ac 10 39]
def c39r8:Ku:=[ao 40 9 0 3,ar 41 98 40,ac 11 41]
def c39r9:Ku:=[ah 8,⟨none,.stR 8 1 1 (.b true),none,0⟩]
def c39r10:Ku:=[ao 43 9 0 3,ah 8,ak 8 2 3 43]
def c39r11:Ku:=[ah 8,ai 46 8 5,ac 47 11,ay 48 99 46 47,ah 8,ak 8 5 1 48]
def c39r12:Ku:=[ah 8,ai 51 8 6,ac 52 11,bt 53 51 52,ah 8,ak 8 6 1 53]
def c39r13:Ku:=[ao 55 2 0 5,ac 56 6,ao 57 8 0 7,a0 58 94 55 56 57,ak 4 0 5 58,af 5 0]
def c39:SC:=(.seq (aa c39r0) (.seq (aa c39r1) (.seq (ab c39r2 19 c39r3) (.seq (ab c39r4 27 c39r5) (.seq (aa c39r6) (.seq (aa c39r7) (.seq (aa c39r8) (.seq (aa c39r9) (.seq (aa c39r10) (.seq (aa c39r11) (.seq (aa c39r12) (.seq (aa c39r13) .ret))))))))))))
def v39:Kz:=([2,4,8,9],[2,4,8,9,22,29,35,42,44,45,49,50,54])
def o39:KB:=[.r 4 (some 5),.t 5]
def c40r0:Ku:=[aF 2 0,aV 4,af 5 0]
def c40r1:Ku:=[ao 9 2 0 5,ac 10 1,ay 11 92 9 10,ac 8 11,am 12 8 0,am 13 8 1,ac 6 12,ac 7 13]
def c40r2:Ku:=[ac 14 7,aL 15 14 0]
def c40r3:Ku:=[bn 16,ac 17 7,ak 4 0 5 16,ac 5 17]
def c40r4:Ku:=[ah 2,ai 19 2 4,ac 20 6,aA 21 19 20 7,aq 22 21 1,aj 23 22,aN 24 23]
def c40r5:Ku:=[bn 25,ak 4 0 5 25,af 5 180]
def c40r6:Ku:=[ao 26 2 0 5,ac 27 1,ay 28 34 26 27,aN 29 28]
def c40r7:Ku:=[bn 30,ak 4 0 5 30,af 5 181]
def c40r8:Ku:=[ah 2,ai 32 2 0,aZ 33 32 1048576]
def c40r9:Ku:=[bn 34,ak 4 0 5 34,af 5 2]
def c40r10:Ku:=[ah 2,ai 36 2 0,aD 37 36 1,ah 2,ak 2 0 1 37]
def c40r11:Ku:=[ac 39 1,ah 2,ak 2 1 1 39]
def c40r12:Ku:=[ao 41 2 0 5,ar 42 96 41,ak 4 0 5 42,af 5 0]
def c40:SC:=(.seq (aa c40r0) (.seq (aa c40r1) (.seq (ab c40r2 15 c40r3) (.seq (ab c40r4 24 c40r5) (.seq (ab c40r6 29 c40r7) (.seq (ab c40r8 33 c40r9) (.seq (aa c40r10) (.seq (aa c40r11) (.seq (aa c40r12) .ret)))))))))
def v40:Kz:=([2,4],[2,4,18,31,35,38,40])
def o40:KB:=[.r 4 (some 5),.t 5]
def c41r0:Ku:=[aF 2 0,aT 3 1,aV 4,af 5 0]
def c41r1:Ku:=[ao 6 2 0 5,bW 7 100 3,ay 8 65 6 7,am 9 8 0,am 10 8 1,ak 4 0 5 9,ac 5 10]
def c41:SC:=(.seq (aa c41r0) (.seq (aa c41r1) .ret))
def v41:Kz:=([2,4],[2,4])
def o41:KB:=[.r 4 (some 5),.t 5]
def c42r0:Ku:=[aF 2 0,aF 3 1,aV 4,af 5 0]
def c42r1:Ku:=[ao 13 2 0 5,ar 14 16 13,ac 12 14,am 15 12 0,am 16 12 1,bc 6,ak 6 0 3 15,ac 7 16]
def c42r2:Ku:=[ac 17 7,aL 18 17 0]
def c42r3:Ku:=[bn 19,ac 20 7,ak 4 0 5 19,ac 5 20]
def c42r4:Ku:=[ao 21 3 0 3,ar 22 101 21,ac 8 22]
def c42r5:Ku:=[ac 23 8,aL 24 23 0]
def c42r6:Ku:=[bn 25,ac 26 8,ak 4 0 5 25,ac 5 26]
def c42r7:List (Bool × SI):=[(true,ao 27 3 0 3),(true,ao 29 6 0 3),(false,ar 28 98 27),(false,ar 30 98 29),(true,bC 31 28 30)]
def c42r8:Ku:=[bn 32,ak 4 0 5 32,af 5 1]
def c42r9:List (Bool × SI):=[(true,ah 2),(true,ai 34 2 4),(true,ao 35 2 0 5),(true,ah 2),(true,ai 37 2 1),(false,ay 38 52 35 37),(true,aA 39 34 38 7),(true,aq 40 39 5),(true,aj 41 40),(true,ac 9 41)]
def c42r10:Ku:=[af 10 0]
def c42r11:Ku:=[ac 42 10,ah 2,ai 44 2 4,av 45 44,aK 46 42 45]
def c42r12:Ku:=[ah 2,ai 50 2 4,ac 51 10,aA 52 50 51 7,aI 53 52 7,cB 11,ak 11 0 7 53]
def c42r13:Ku:=[ah 11,ai 55 11 1]
def c42r14:Ku:=[ao 56 3 0 3,ah 11,ak 11 2 3 56]
def c42r15:Ku:=[ac 58 9,ah 11,ak 11 5 1 58]
def c42r16:List (Bool × SI):=[(true,ah 11),(true,ai 61 11 6),(true,ao 62 3 0 3),(false,ar 63 98 62),(true,bt 64 61 63),(true,ah 11)]
def c42r17:Ku:=[ak 11 6 1 64]
def c42r18:Ku:=[ao 66 2 0 5,ac 67 10,ao 68 11 0 7,a0 69 94 66 67 68,ak 2 0 5 69]
def c42r19:Ku:=[ac 47 10,aD 48 47 1,ac 10 48]
def c42r20:Ku:=[ao 70 2 0 5,ar 71 96 70,ak 4 0 5 71,af 5 0]
def c42:SC:=(.seq (aa c42r0) (.seq (aa c42r1) (.seq (ab c42r2 18 c42r3) (.seq (aa c42r4) (.seq (ab c42r5 24 c42r6) (.seq (.seq (.rgX c42r7) (.cond (.t 31) (.seq (aa c42r8) .ret) .skip)) (.seq (.rgX c42r9) (.seq (.seq (aa c42r10) (.blk 0 (.loop (.seq (.seq (aa c42r11) (.cond (.t 46) .skip (.exit 0))) (.seq (.blk 1 (.seq (aa c42r12) (.seq (aa c42r13) (.cond (.t 55) (.seq (aa c42r14) (.seq (aa c42r15) (.seq (.rgY c42r16 c42r17) (aa c42r18)))) .skip)))) (aa c42r19)))))) (.seq (aa c42r20) .ret)))))))))
def v42:Kz:=([2,3,4,6,11],[2,3,4,6,11,33,36,43,49,54,57,59,60,65])
def o42:KB:=[.r 4 (some 5),.t 5]
def c43r0:Ku:=[bg 0]
def c43r1:Ku:=[⟨none,.bld 1 [(.int .i64 0),(.string ⟨#[]⟩),(.string ⟨#[]⟩),(.bool false),(.int .i64 0)] [(2,1,(.v (.string ⟨#[118]⟩)))],none,0⟩,⟨none,.bld 2 [(.int .i64 0),(.string ⟨#[]⟩),(.string ⟨#[]⟩),(.bool false),(.int .i64 0)] [(0,1,(.i 1)),(2,1,(.v (.string ⟨#[119]⟩)))],none,0⟩,⟨none,.bls 3 103 2 5 [(.int .i64 0),(.string ⟨#[]⟩),(.string ⟨#[]⟩),(.bool false),(.int .i64 0),(.int .i64 0),(.string ⟨#[]⟩),(.string ⟨#[]⟩),(.bool false),(.int .i64 0)] [(0,5,(.t 1)),(5,5,(.t 2))],none,0⟩,⟨none,.bld 4 [(.int .i64 0),(.int .i64 0),(.int .i64 0),(.int .i64 0),(.int .i64 0),(.int .i64 0),(.int .i64 0),(.bool false),(.int .i64 0),(.slice none 0 0)] [(1,1,(.i 1)),(4,1,(.i (-1))),(9,1,(.t 3))],none,0⟩,ak 0 0 10 4]
def c43:SC:=(.seq (aa c43r0) (.seq (aa c43r1) .ret))
def v43:Kz:=([0],[0])
def o43:KB:=[.r 0 (some 10)]
def c44r0:Ku:=[aF 2 0,aT 3 1,aV 4,af 5 0]
def c44r1:Ku:=[ao 6 2 0 5,aj 7 3,bW 8 102 3,a0 9 80 6 7 8,am 10 9 0,am 11 9 1,ak 4 0 5 10,ac 5 11]
def c44:SC:=(.seq (aa c44r0) (.seq (aa c44r1) .ret))
def v44:Kz:=([2,4],[2,4])
def o44:KB:=[.r 4 (some 5),.t 5]
def c45r0:Ku:=[aF 1 0,aE 2]
def c45r1:Ku:=[af 3 0]
def c45r2:Ku:=[ac 4 3,ah 1,ai 6 1 2,av 7 6,aK 8 4 7,ac 9 8,aG 9 10 3,⟨some (9,true),.bin 11 .lss (.t 10) (.i 300),none,11⟩,aJ 12 9 11]
def c45r3:Ku:=[ah 1,ai 16 1 2,ac 17 3,aA 18 16 17 2,aq 19 18 1,aj 20 19,av 21 20,bq 22 21 5000]
def c45r4:Ku:=[aE 2]
def c45r5:Ku:=[ac 13 3,aD 14 13 1,ac 3 14]
def c45r6:Ku:=[ah 1,ai 24 1 2,av 25 24,⟨none,.bin 26 .leq (.t 25) (.i 12),none,0⟩,ac 2 26]
def c45:SC:=(.seq (aa c45r0) (.seq (.seq (aa c45r1) (.blk 0 (.loop (.seq (.seq (aa c45r2) (.cond (.t 12) .skip (.exit 0))) (.seq (.blk 1 (ab c45r3 22 c45r4)) (aa c45r5)))))) (.seq (aa c45r6) .ret)))
def v45:Kz:=([1],[1,5,15,23])
def o45:KB:=[.t 2]
def c46r0:Ku:=[bc 4,af 5 0]
def c46r1:Ku:=[ac 6 0,ac 7 1,ay 8 103 6 7,aN 9 8]
def c46r2:Ku:=[bB 10,ak 4 0 3 10,af 5 1]
def c46r3:Ku:=[ac 11 0,ac 12 1,ac 13 1,dv 14 0 1 13,bX 15 120 1 2 0 2 14,⟨none,.bld 16 [(.int .i64 0),(.int .i64 0),(.slice none 0 0)] [(0,1,(.t 11)),(1,1,(.t 12)),(2,1,(.t 15))],none,0⟩,ak 4 0 3 16,af 5 0]
def c46:SC:=(.seq (aa c46r0) (.seq (ab c46r1 9 c46r2) (.seq (aa c46r3) .ret)))
def v46:Kz:=([4],[4])
def o46:KB:=[.r 4 (some 3),.t 5]
def c47r0:Ku:=[aE 2]
def c47r1:Ku:=[ac 5 0,av 6 5,af 7 0]
def c47r2:Ku:=[aK 8 7 6]
def c47r3:Ku:=[ac 9 7,aA 10 5 7 1,aj 11 10,ac 3 9,ac 4 11]
def c47r4:Ku:=[ac 12 4,ar 13 53 12,aN 14 13,ac 15 14,az 15 16 3,aS 15 17 16 0,az 15 18 17,aG 18 19 0,aG 18 20 3,bS 18 21 20 1,bp 18 22 19 21 1,bA 18 23 22,aG 18 24 4,cO 18 25 23 24,bD 15 26 18 25,au 27 15 26]
def c47r5:Ku:=[aE 2]
def c47r6:Ku:=[aD 28 7 1,ac 7 28]
def c47r7:Ku:=[ac 29 0,av 30 29,bq 31 30 0,ac 2 31]
def c47:SC:=(.seq (aa c47r0) (.seq (.seq (aa c47r1) (.blk 0 (.loop (.seq (aa c47r2) (.seq (.cond (.t 8) .skip (.exit 0)) (.seq (.blk 1 (.seq (aa c47r3) (ab c47r4 27 c47r5))) (aa c47r6))))))) (.seq (aa c47r7) .ret)))
def v47:Kz:=([],[])
def o47:KB:=[.t 2]
def c48r0:Ku:=[aM 2]
def c48r1:Ku:=[ac 3 0,cR 4 3]
def c48r2:Ku:=[aM 2]
def c48r3:Ku:=[bT 5,ac 6 0,aP 7 5 6 3 1 8,ac 2 7]
def c48:SC:=(.seq (aa c48r0) (.seq (ab c48r1 4 c48r2) (.seq (aa c48r3) .ret)))
def v48:Kz:=([],[])
def o48:KB:=[.t 2]
def c50r0:Ku:=[aE 2]
def c50r1:Ku:=[ac 3 0,bf 4 3 0,ac 5 4,aG 5 6 0,bI 5 7 6 1048576,aJ 8 5 7,ac 2 8]
def c50:SC:=(.seq (aa c50r0) (.seq (aa c50r1) .ret))
def v50:Kz:=([],[])
def o50:KB:=[.t 2]
def c51r0:Ku:=[⟨none,.mv 4 (.v (.pointer none)),none,0⟩]
def c51r1:Ku:=[ac 8 0,aw 9 8,aq 10 9 0,aq 11 10 4,aj 12 11,ac 13 1,⟨none,.call 14 105 [(.t 12),(.t 13),(.v (.func (.func 106) #[] #[]))],none,0⟩,ac 7 14,am 15 7 0,am 16 7 1,ac 5 15,ac 6 16]
def c51r2:Ku:=[ac 17 6,aN 18 17]
def c51r3:Ku:=[⟨none,.mv 4 (.v (.pointer none)),none,0⟩]
def c51r4:Ku:=[ac 19 0,aw 20 19,aq 21 20 0,aq 22 21 4,aj 23 22,ac 24 5,aA 25 23 24 7,ac 4 25]
def c51:SC:=(.seq (aa c51r0) (.seq (aa c51r1) (.seq (ab c51r2 18 c51r3) (.seq (aa c51r4) .ret))))
def v51:Kz:=([],[])
def o51:KB:=[.t 4]
def c52r0:Ku:=[aF 2 0,af 4 0]
def c52r1:Ku:=[af 5 0]
def c52r2:Ku:=[ac 6 5,ah 2,ai 8 2 4,av 9 8,aK 10 6 9]
def c52r3:Ku:=[ah 2,ai 14 2 4,ac 15 5,aA 16 14 15 7,aq 17 16 0,aj 18 17,ac 19 1,bm 20 18 19]
def c52r4:Ku:=[ac 21 5,ac 4 21]
def c52r5:Ku:=[ac 11 5,aD 12 11 1,ac 5 12]
def c52r6:Ku:=[bY 4]
def c52:SC:=(.seq (aa c52r0) (.seq (.seq (aa c52r1) (.blk 0 (.loop (.seq (.seq (aa c52r2) (.cond (.t 10) .skip (.exit 0))) (.seq (.blk 1 (ab c52r3 20 c52r4)) (aa c52r5)))))) (.seq (aa c52r6) .ret)))
def v52:Kz:=([2],[2,7,13])
def o52:KB:=[.t 4]
def c53r0:Ku:=[aE 2]
def c53r1:Ku:=[ac 3 0,bf 4 3 0,ac 5 4,aG 5 6 0,bI 5 7 6 1048576,aJ 8 5 7,ac 2 8]
def c53:SC:=(.seq (aa c53r0) (.seq (aa c53r1) .ret))
def v53:Kz:=([],[])
def o53:KB:=[.t 2]
def c54r0:Ku:=[aE 4]
def c54r1:Ku:=[ac 5 0,ac 6 1,ay 7 107 5 6,bf 8 7 0,ac 4 8]
def c54:SC:=(.seq (aa c54r0) (.seq (aa c54r1) .ret))
def v54:Kz:=([],[])
def o54:KB:=[.t 4]
def c55r0:Ku:=[aF 1 0,aE 2]
def c55r1:Ku:=[ah 1,ai 5 1 0,ar 6 53 5,aN 7 6,ac 8 7,aB 8 1,aC 8 10 1 5,a8 8 11 108 10,bi 8 12 11 0,au 13 8 12,ac 14 13,aB 14 1,aC 14 16 1 6,bh 14 17 16 0,au 18 14 17,ac 19 18,aB 19 1,aC 19 21 1 6,aS 19 22 21 1099511627777,au 23 19 22]
def c55r2:Ku:=[bL 2]
def c55r3:Ku:=[ah 1,ao 25 1 2 3,bc 3,ak 3 0 3 25]
def c55r4:Ku:=[ah 1,ai 27 1 1,aN 28 27]
def c55r5:Ku:=[ao 30 3 0 3,ar 31 89 30,ac 29 31,am 32 29 0,am 33 29 1,ak 3 0 3 32]
def c55r6:List (Bool × SI):=[(true,ao 34 3 0 3),(false,ar 35 62 34),(true,aL 36 35 0),(true,ac 37 36),(true,aB 37 1),(true,aC 37 39 1 1),(true,az 37 40 39),(true,aO 40 1),(true,aQ 40 42 1 6),(true,a9 40 43 1 0 7),(false,bj 40 44 68 43),(true,⟨some (40,true),.bin 45 .gtr (.t 42) (.t 44),none,45⟩),(true,bD 37 46 40 45),(true,au 47 37 46),(true,ac 2 47)]
def c55:SC:=(.seq (aa c55r0) (.seq (ab c55r1 23 c55r2) (.seq (aa c55r3) (.seq (.seq (aa c55r4) (.cond (.t 28) (aa c55r5) .skip)) (.seq (.rgX c55r6) .ret)))))
def v55:Kz:=([1,3],[1,3,4,9,15,20,24,26,38,41])
def o55:KB:=[.t 2]
def c56r0:Ku:=[aE 4]
def c56r1:Ku:=[ac 5 0,ac 6 1,ay 7 109 5 6,bf 8 7 0,ac 4 8]
def c56:SC:=(.seq (aa c56r0) (.seq (aa c56r1) .ret))
def v56:Kz:=([],[])
def o56:KB:=[.t 4]
def c57r0:Ku:=[aE 3]
def c57r1:Ku:=[aj 4 1,ac 5 0,ay 6 58 4 5,aN 7 6,ac 3 7]
def c57:SC:=(.seq (aa c57r0) (.seq (aa c57r1) .ret))
def v57:Kz:=([],[])
def o57:KB:=[.t 3]
def c58r0:Ku:=[aE 4]
def c58r1:Ku:=[ac 5 0,ac 6 1,ay 7 59 5 6,bf 8 7 0,ac 4 8]
def c58:SC:=(.seq (aa c58r0) (.seq (aa c58r1) .ret))
def v58:Kz:=([],[])
def o58:KB:=[.t 4]
def c59r0:Ku:=[af 4 0]
def c59r1:Ku:=[ac 6 0,av 7 6,af 8 0]
def c59r2:Ku:=[aK 9 8 7]
def c59r3:Ku:=[ac 10 8,ac 5 10]
def c59r4:Ku:=[ac 11 1,ac 12 0,ac 13 5,aA 14 12 13 1,aj 15 14,bm 16 11 15]
def c59r5:Ku:=[ac 17 5,ac 4 17]
def c59r6:Ku:=[aD 18 8 1,ac 8 18]
def c59r7:Ku:=[bY 4]
def c59:SC:=(.seq (aa c59r0) (.seq (.seq (aa c59r1) (.blk 0 (.loop (.seq (aa c59r2) (.seq (.cond (.t 9) .skip (.exit 0)) (.seq (.blk 1 (.seq (aa c59r3) (ab c59r4 16 c59r5))) (aa c59r6))))))) (.seq (aa c59r7) .ret)))
def v59:Kz:=([],[])
def o59:KB:=[.t 4]
def c60r0:Ku:=[aF 1 0,aE 2]
def c60r1:Ku:=[ah 1,ai 6 1 0,ar 7 50 6,aN 8 7,ac 9 8,aB 9 1,aC 9 11 1 5,a8 9 12 110 11,bi 9 13 12 0,au 14 9 13,ac 15 14,aB 15 1,aC 15 17 1 6,bh 15 18 17 0,au 19 15 18,ac 20 19,aB 20 1,aC 20 22 1 6,aS 20 23 22 1099511627777,au 24 20 23]
def c60r2:Ku:=[aE 2]
def c60r3:Ku:=[ah 1,ai 26 1 1,aN 27 26]
def c60r4:Ku:=[ah 1,ao 30 1 2 3,ar 31 97 30,ac 28 31,am 32 28 0,am 33 28 1,bc 3,ak 3 0 3 32,ac 4 33]
def c60r5:Ku:=[ao 34 3 0 3,ar 35 101 34,aZ 36 35 0,ac 2 36]
def c60r6:List (Bool × SI):=[(true,ah 1),(true,ao 38 1 2 3),(false,ar 39 101 38),(true,aZ 40 39 0),(true,ac 41 40),(true,aO 41 1),(true,aQ 41 43 1 6),(true,aO 41 1),(true,a9 41 45 1 2 3),(false,bj 41 46 98 45),(true,cD 41 47 43 46),(true,aJ 48 41 47),(true,ac 2 48)]
def c60:SC:=(.seq (aa c60r0) (.seq (ab c60r1 24 c60r2) (.seq (.seq (aa c60r3) (.cond (.t 27) (.seq (aa c60r4) (.seq (aa c60r5) .ret)) .skip)) (.seq (.rgX c60r6) .ret))))
def v60:Kz:=([1,3],[1,3,5,10,16,21,25,29,37,42,44])
def o60:KB:=[.t 2]
def c61r0:Ku:=[aT 1 0,cU 2]
def c61r1:Ku:=[bW 3 111 1,ac 2 3]
def c61:SC:=(.seq (aa c61r0) (.seq (aa c61r1) .ret))
def v61:Kz:=([],[])
def o61:KB:=[.t 2]
def c62r0:Ku:=[aF 1 0,af 2 0]
def c62r1:Ku:=[ah 1,ai 6 1 0,ah 1,ai 8 1 1,ay 9 103 6 8,aN 10 9,ac 11 10,aB 11 1,aC 11 13 1 2,aW 11 14 13,cM 11 15 14 0,au 16 11 15]
def c62r2:Ku:=[af 2 1]
def c62r3:Ku:=[ah 1,ai 18 1 2,av 19 18,af 20 0]
def c62r4:Ku:=[aK 21 20 19]
def c62r5:Ku:=[ac 22 20,aA 23 18 20 2,aI 24 23 2,bE 4,ac 3 22,ak 4 0 2 24]
def c62r6:List (Bool × SI):=[(true,ah 4),(true,ai 26 4 1),(true,av 27 26),(true,ah 1),(true,ai 29 1 0),(true,bM 30 27 29),(true,ac 31 30),(true,cP 31 32 4 0 2),(false,a8 31 33 112 32),(true,aU 31 34 33),(true,au 35 31 34),(true,ac 36 35),(true,az 36 37 3),(true,aS 36 38 37 0),(true,az 36 39 38),(true,aO 39 1),(true,aQ 39 41 1 2),(true,aG 39 42 3),(true,bS 39 43 42 1),(true,bp 39 44 41 43 2),(true,cK 39 45 44 2),(true,a9 39 46 4 0 2),(false,bO 39 47 113 45 46),(true,cE 39 48 47),(true,bD 36 49 39 48),(true,au 50 36 49)]
def c62r7:Ku:=[af 2 1]
def c62r8:Ku:=[aD 51 20 1,ac 20 51]
def c62r9:Ku:=[ah 1,ai 53 1 2,av 54 53,bq 55 54 256]
def c62r10:Ku:=[af 2 2]
def c62r11:Ku:=[af 2 0]
def c62:SC:=(.seq (aa c62r0) (.seq (ab c62r1 16 c62r2) (.seq (.seq (aa c62r3) (.blk 0 (.loop (.seq (aa c62r4) (.seq (.cond (.t 21) .skip (.exit 0)) (.seq (.blk 1 (.seq (aa c62r5) (.seq (.rgX c62r6) (.cond (.t 50) (.seq (aa c62r7) .ret) .skip)))) (aa c62r8))))))) (.seq (ab c62r9 55 c62r10) (.seq (aa c62r11) .ret)))))
def v62:Kz:=([1,4],[1,4,5,7,12,17,25,28,40,52])
def o62:KB:=[.t 2]
def c63r0:Ku:=[aF 1 0,af 2 0]
def c63r1:List (Bool × SI):=[(true,ah 1),(true,ai 4 1 1),(true,ah 1),(true,ai 6 1 2),(true,ao 7 1 0 3),(false,ar 8 115 7),(true,aA 9 6 8 2),(true,aI 10 9 2),(false,ar 11 114 10),(true,ck 12 4 11),(true,ac 2 12)]
def c63:SC:=(.seq (aa c63r0) (.seq (.rgX c63r1) .ret))
def v63:Kz:=([1],[1,3,5])
def o63:KB:=[.t 2]
def c65r0:Ku:=[aF 2 0,aV 4,af 5 0]
def c65r1:Ku:=[ao 9 2 0 5,ar 10 18 9,ac 6 10]
def c65r2:Ku:=[ac 11 6,aL 12 11 0]
def c65r3:Ku:=[bn 13,ac 14 6,ak 4 0 5 13,ac 5 14]
def c65r4:List (Bool × SI):=[(true,ah 2),(true,ai 16 2 4),(true,ah 2),(true,ai 19 2 3),(false,ar 17 116 16),(true,ah 2),(false,ar 20 48 19)]
def c65r5:Ku:=[ak 2 4 1 17,ah 2,ak 2 3 1 20]
def c65r6:Ku:=[ao 23 2 0 5,du 24 0 5 23,aT 25 24,ac 7 25]
def c65r7:Ku:=[ac 26 1,ac 27 7,cm 28 26 27,ac 8 28]
def c65r8:Ku:=[ac 29 8,aL 30 29 0]
def c65r9:Ku:=[bn 31,ac 32 8,ak 4 0 5 31,ac 5 32]
def c65r10:Ku:=[ac 33 7,aw 34 33,aq 35 34 0,aI 36 35 5,ak 4 0 5 36,af 5 0]
def c65:SC:=(.seq (aa c65r0) (.seq (.seq (aa c65r1) (ab c65r2 12 c65r3)) (.seq (.rgY c65r4 c65r5) (.seq (aa c65r6) (.seq (.seq (aa c65r7) (ab c65r8 30 c65r9)) (.seq (aa c65r10) .ret))))))
def v65:Kz:=([2,4],[2,4,15,18,21,22])
def o65:KB:=[.r 4 (some 5),.t 5]
def c66r0:Ku:=[af 4 0]
def c66r1:Ku:=[ac 8 0,aw 9 8,aq 10 9 0,aq 11 10 1,aj 12 11,aR 13 12 0]
def c66r2:Ku:=[af 4 180]
def c66r3:Ku:=[ac 14 0,aw 15 14,aq 16 15 0,aq 17 16 3,aj 18 17,av 19 18,ac 20 0,aw 21 20,aq 22 21 0,aq 23 22 2,aj 24 23,aK 25 19 24]
def c66r4:Ku:=[af 4 181]
def c66r5:Ku:=[ac 26 0,ac 27 0,aw 28 27,aq 29 28 0,aq 30 29 1,aj 31 30,ay 32 51 26 31,ac 5 32]
def c66r6:RX:=.br [(true,aI 34 1 10),(true,ac 35 5),(true,aw 36 35),(true,aI 37 36 7)] (ar 38 68 37) (.br [] (ay 39 67 34 38) (.leaf [(true,ac 33 39),(true,am 40 33 0),(true,am 41 33 1),(false,dw 6),(false,aH 6 10 40),(true,ac 7 41)]) (dw 6) (.leaf [(false,ay 39 67 34 38),(true,ac 33 39),(true,am 40 33 0),(true,am 41 33 1),(false,aH 6 10 40),(true,ac 7 41)])) (dw 6) (.leaf [(false,ar 38 68 37),(false,ay 39 67 34 38),(true,ac 33 39),(true,am 40 33 0),(true,am 41 33 1),(false,aH 6 10 40),(true,ac 7 41)])
def c66r7:Ku:=[ac 42 7,aL 43 42 0]
def c66r8:Ku:=[ac 44 7,ac 4 44]
def c66r9:List (Bool × SI):=[(true,ac 45 0),(true,aw 46 45),(true,aq 47 46 0),(true,aq 48 47 0),(true,aj 49 48),(true,aq 50 6 0),(true,aj 51 50),(true,aq 52 6 3)]
def c66r10:Ku:=[aH 52 1 49,aH 2 1 51]
def c66r11:List WI:=[(true,false,ac 54 5),(true,false,ac 55 5),(true,false,aw 56 55),(true,false,aq 57 56 2),(true,false,aI 58 57 3),(true,false,aI 59 6 10),(false,true,ay 60 69 58 59),(true,false,ac 53 60),(true,false,am 61 53 0),(true,false,am 62 53 1),(true,false,aw 63 54),(true,false,aq 64 63 2),(false,true,aH 64 3 61),(true,false,ac 7 62)]
def c66r12:Ku:=[ac 65 7,aL 66 65 0]
def c66r13:Ku:=[ac 67 7,ac 4 67]
def c66r14:List WI:=[(true,false,ac 69 5),(true,false,ac 70 5),(true,false,aw 71 70),(true,false,aq 72 71 5),(true,false,aj 73 72),(true,false,ac 74 0),(true,false,aw 75 74),(true,false,aq 76 75 0),(true,false,aq 77 76 0),(true,false,aj 78 77),(true,false,aj 79 2),(false,true,a0 80 70 73 78 79),(true,false,ac 68 80),(true,false,am 81 68 0),(true,false,am 82 68 1),(true,false,aw 83 69),(true,false,aq 84 83 5),(false,true,aH 84 1 81),(true,false,ac 7 82)]
def c66r15:Ku:=[ac 85 7,aL 86 85 0]
def c66r16:Ku:=[ac 87 7,ac 4 87]
def c66r17:Ku:=[ac 88 0,ar 89 71 88]
def c66r18:Ku:=[af 4 0]
def c66:SC:=(.seq (aa c66r0) (.seq (ab c66r1 13 c66r2) (.seq (.seq (.reg true c66r3) (.cond (.t 25) (.seq (aa c66r4) .ret) .skip)) (.seq (aa c66r5) (.seq (.rgZ c66r6) (.seq (ab c66r7 43 c66r8) (.seq (.rgY c66r9 c66r10) (.seq (.seq (.rgW c66r11) (ab c66r12 66 c66r13)) (.seq (.seq (.rgW c66r14) (ab c66r15 86 c66r16)) (.seq (aa c66r17) (.seq (aa c66r18) .ret)))))))))))
def v66:Kz:=([],[])
def o66:KB:=[.t 4]
def c67r0:Ku:=[aF 2 0,bg 4,af 5 0]
def c67r1:Ku:=[ac 10 1,cZ 11 3 1 1 0 1 10,⟨none,.call 12 117 [(.i 1099511627776),(.t 11)],none,0⟩,aN 13 12]
def c67r2:Ku:=[bu 14,ak 4 0 10 14,af 5 1]
def c67r3:Ku:=[ao 15 2 0 10,ar 16 118 15,ac 6 16]
def c67r4:Ku:=[ac 17 6,aL 18 17 0]
def c67r5:Ku:=[bu 19,ac 20 6,ak 4 0 10 19,ac 5 20]
def c67r6:Ku:=[ac 21 1,ah 2,ai 23 2 0,ba 24 21 23,ac 7 24]
def c67r7:List WI:=[(true,false,ac 25 1),(true,false,ah 2),(true,false,ai 27 2 1),(true,false,ac 28 7),(true,false,aY 29 27 28),(true,false,ah 2),(true,false,ai 31 2 9),(true,false,ah 2),(false,false,ar 32 119 31),(false,true,ak 2 0 1 25),(true,false,ah 2),(false,true,ak 2 1 1 29),(true,false,ah 2),(false,true,ak 2 9 1 32)]
def c67r8:Ku:=[ah 2,ai 37 2 9,av 38 37,af 39 0]
def c67r9:Ku:=[aK 40 39 38]
def c67r10:Ku:=[ac 41 39,ac 8 41]
def c67r11:Ku:=[ah 2,ai 43 2 9,ac 44 8,aA 45 43 44 5,aq 46 45 0,aj 47 46,ac 48 7,aY 49 47 48,aA 50 43 44 5,aq 51 50 0,aH 51 1 49]
def c67r12:Ku:=[aD 52 39 1,ac 39 52]
def c67r13:Ku:=[ao 53 2 0 10,ar 54 118 53,ac 9 54]
def c67r14:Ku:=[ac 55 9,aL 56 55 0]
def c67r15:Ku:=[bu 57,ac 58 9,ak 4 0 10 57,ac 5 58]
def c67r16:Ku:=[ao 59 2 0 10,ak 4 0 10 59,af 5 0]
def c67:SC:=(.seq (aa c67r0) (.seq (ab c67r1 13 c67r2) (.seq (.seq (aa c67r3) (ab c67r4 18 c67r5)) (.seq (aa c67r6) (.seq (.rgW c67r7) (.seq (.seq (aa c67r8) (.blk 0 (.loop (.seq (aa c67r9) (.seq (.cond (.t 40) .skip (.exit 0)) (.seq (.blk 1 (.seq (aa c67r10) (aa c67r11))) (aa c67r12))))))) (.seq (.seq (aa c67r13) (ab c67r14 56 c67r15)) (.seq (aa c67r16) .ret))))))))
def v67:Kz:=([2,4],[2,4,22,26,30,33,34,35,36,42])
def o67:KB:=[.r 4 (some 10),.t 5]
def c68r0:Ku:=[aF 1 0,af 2 0]
def c68r1:Ku:=[ah 1,ao 4 1 2 3,ar 5 22 4,ac 2 5]
def c68:SC:=(.seq (aa c68r0) (.seq (aa c68r1) .ret))
def v68:Kz:=([1],[1,3])
def o68:KB:=[.t 2]
def c69r0:Ku:=[aF 2 0,aF 3 1,bc 4,af 5 0]
def c69r1:Ku:=[ao 11 2 0 3,ar 12 62 11,ac 6 12]
def c69r2:Ku:=[ac 13 6,aZ 14 13 0]
def c69r3:Ku:=[ao 15 3 0 10,ar 16 118 15,ac 6 16]
def c69r4:Ku:=[ac 18 6,aL 19 18 0,ac 17 19]
def c69r5:Ku:=[bB 20,ac 21 6,ak 4 0 3 20,ac 5 21]
def c69r6:List (Bool × SI):=[(true,ah 3),(true,ai 24 3 0),(true,ao 25 2 0 3),(false,ar 26 63 25),(true,aK 27 24 26),(true,ac 22 27)]
def c69r7:Ku:=[bB 28,ak 4 0 3 28,af 5 71]
def c69r8:List (Bool × SI):=[(true,ao 30 3 0 10),(true,ah 2),(true,ai 33 2 0),(false,ar 31 120 30),(true,bM 34 31 33),(true,ac 29 34)]
def c69r9:Ku:=[bB 35,ak 4 0 3 35,af 5 70]
def c69r10:Ku:=[ao 36 2 0 3,ar 37 115 36,ac 7 37]
def c69r11:RX:=.br [(true,ah 2),(true,ai 40 2 2),(true,ac 41 7),(true,aA 42 40 41 2),(true,aI 43 42 2),(true,ao 44 3 0 10),(true,ah 2),(true,ai 46 2 0)] (a0 47 121 43 44 46) (.leaf [(true,ac 38 47),(true,am 48 38 0),(true,am 49 38 1),(false,dx 8),(false,aH 8 2 48),(true,ac 9 49)]) (dx 8) (.leaf [(false,a0 47 121 43 44 46),(true,ac 38 47),(true,am 48 38 0),(true,am 49 38 1),(false,aH 8 2 48),(true,ac 9 49)])
def c69r12:Ku:=[ac 50 9,aZ 51 50 0]
def c69r13:RX:=.br [(true,ao 52 2 0 3),(true,ah 2),(true,ai 54 2 2),(true,ac 55 7),(true,bF 56 54 55 2),(true,aI 58 8 2)] (ar 57 86 56) (.leaf [(false,bX 59 120 1 2 0 2 58),(false,aP 60 57 59 120 2 32),(false,ay 61 122 52 60),(false,ak 4 0 3 61),(true,af 5 0)]) (bX 59 120 1 2 0 2 58) (.leaf [(false,ar 57 86 56),(false,aP 60 57 59 120 2 32),(false,ay 61 122 52 60),(false,ak 4 0 3 61),(true,af 5 0)])
def c69r14:Ku:=[ah 2,ai 63 2 2,av 64 63,aZ 65 64 256]
def c69r15:Ku:=[bB 66,ak 4 0 3 66,af 5 2]
def c69r16:Ku:=[ah 3,ai 69 3 0,ao 70 3 0 10,da 71 43 1 10 0 10 70,ah 2,ai 73 2 0,a0 74 123 69 71 73,ac 67 74,am 75 67 0,am 76 67 1,bE 10,ak 10 0 2 75,ac 6 76]
def c69r17:Ku:=[ac 77 6,aL 78 77 0]
def c69r18:Ku:=[bB 79,ac 80 6,ak 4 0 3 79,ac 5 80]
def c69r19:RX:=.br [(true,ao 81 2 0 3),(true,ah 2),(true,ai 83 2 2),(true,ao 85 10 0 2)] (ar 84 86 83) (.leaf [(false,bX 86 120 1 2 0 2 85),(false,aP 87 84 86 120 2 32),(false,ay 88 122 81 87),(false,ak 4 0 3 88),(true,af 5 0)]) (bX 86 120 1 2 0 2 85) (.leaf [(false,ar 84 86 83),(false,aP 87 84 86 120 2 32),(false,ay 88 122 81 87),(false,ak 4 0 3 88),(true,af 5 0)])
def c69:SC:=(.seq (aa c69r0) (.seq (aa c69r1) (.seq (.seq (aa c69r2) (.cond (.t 14) (aa c69r3) .skip)) (.seq (.blk 0 (.seq (aa c69r4) (.cond (.t 17) (.seq (aa c69r5) .ret) (.seq (.rgX c69r6) (.cond (.t 22) (.seq (aa c69r7) .ret) (.seq (.rgX c69r8) (.cond (.t 29) (.seq (aa c69r9) .ret) .skip))))))) (.seq (aa c69r10) (.seq (.seq (.rgZ c69r11) (.seq (aa c69r12) (.cond (.t 51) (.seq (.rgZ c69r13) .ret) .skip))) (.seq (ab c69r14 65 c69r15) (.seq (aa c69r16) (.seq (ab c69r17 78 c69r18) (.seq (.rgZ c69r19) .ret))))))))))
def v69:Kz:=([2,3,4,10],[2,3,4,10,23,32,39,45,53,62,68,72,82])
def o69:KB:=[.r 4 (some 3),.t 5]
def c70r0:Ku:=[aM 6,af 7 0]
def c70r1:Ku:=[ac 11 0,ar 12 108 11,aL 13 12 0,ac 14 13,az 14 15 1,cn 14 16 124 15 1048576,aU 14 17 16,au 18 14 17,ac 19 18,az 19 20 2,cn 19 21 124 20 1099511627776,aU 19 22 21,au 23 19 22]
def c70r2:Ku:=[aM 6,af 7 1]
def c70r3:Ku:=[ac 24 0,ar 25 125 24,ac 26 1,ac 27 2,⟨none,.bld 28 [(.int .i64 0),(.int .i64 0)] [(0,1,(.t 26)),(1,1,(.t 27))],none,0⟩,cF 9,ac 8 25,ak 9 0 2 28]
def c70r4:Ku:=[ac 29 0,av 30 29,aZ 31 30 0]
def c70r5:Ku:=[ac 32 8,ao 33 9 0 2,dy 34 151 1 2 0 2 33,aP 35 32 34 151 2 16,ac 6 35,af 7 0]
def c70r6:Ku:=[ac 36 8,ac 37 8,av 38 37,bw 39 38 1,aA 40 36 39 2,ac 10 40]
def c70r7:Ku:=[ac 46 1,ac 47 10,aw 48 47,aq 49 48 0,aj 50 49,aK 51 46 50,ac 45 51]
def c70r8:Ku:=[aM 6,af 7 100]
def c70r9:Ku:=[ac 53 1,ac 54 10,aw 55 54,aq 56 55 0,aj 57 56,bm 58 53 57,ac 52 58]
def c70r10:Ku:=[ac 60 2,ac 61 10,aw 62 61,aq 63 62 1,aj 64 63,aK 65 60 64,ac 59 65]
def c70r11:Ku:=[aM 6,af 7 71]
def c70r12:Ku:=[ac 67 2,ac 68 10,aw 69 68,aq 70 69 1,aj 71 70,bm 72 67 71,ac 66 72]
def c70r13:Ku:=[ac 73 10,ao 74 9 0 2,aw 75 73,aH 75 2 74]
def c70r14:Ku:=[ac 41 8,ao 42 9 0 2,dy 43 151 1 2 0 2 42,aP 44 41 43 151 2 16,ac 8 44]
def c70r15:Ku:=[ac 76 8,ac 6 76,af 7 0]
def c70:SC:=(.seq (aa c70r0) (.seq (ab c70r1 23 c70r2) (.seq (aa c70r3) (.seq (ab c70r4 31 c70r5) (.seq (.seq (aa c70r6) (.blk 0 (.seq (aa c70r7) (.cond (.t 45) (.seq (aa c70r8) .ret) (.seq (aa c70r9) (.cond (.t 52) .skip (.seq (aa c70r10) (.cond (.t 59) (.seq (aa c70r11) .ret) (.seq (aa c70r12) (.cond (.t 66) (aa c70r13) (aa c70r14))))))))))) (.seq (aa c70r15) .ret))))))
def v70:Kz:=([9],[9])
def o70:KB:=[.t 6,.t 7]
def c71r0:Ku:=[ac 5 0,ac 6 0,aw 7 6,aq 8 7 0,aq 9 8 1,aj 10 9,ay 11 51 5 10,⟨none,.al 2 [(.pointer none)],none,0⟩,aH 2 1 11]
def c71r1:Ku:=[ac 12 0,aw 13 12,aq 14 13 0,aq 15 14 1,aj 16 15,aR 17 16 0,ac 18 17,aX 18 19 2,⟨some (18,false),.eqf 20 false [3] (.t 19) (.v (.pointer none)),none,20⟩,au 21 18 20]
def c71r2:Ku:=[aj 22 2,aw 23 22,aI 24 23 7,ar 25 68 24,cj 3,aH 3 1 25]
def c71r3:Ku:=[ac 26 0,ar 27 61 26]
def c71r4:Ku:=[ac 4 28]
def c71r5:Ku:=[ac 29 4,aj 30 2,⟨none,.eqf 31 true [3] (.t 29) (.t 30),none,0⟩]
def c71r6:List (Bool × SI):=[(true,aj 32 3),(true,ac 33 4),(true,aw 34 33),(true,aq 35 34 5),(true,aj 36 35),(true,ac 37 4),(true,aw 38 37),(true,aI 39 38 7),(true,aj 41 2),(true,aw 42 41),(true,aq 43 42 5),(true,aj 44 43),(true,aj 45 2),(true,aw 46 45),(true,aI 47 46 7),(false,ar 40 68 39),(false,ar 48 68 47),(false,cV 49 126 36 40 44 48),(true,bt 50 32 49)]
def c71r7:Ku:=[aH 3 1 50]
def c71r8:Ku:=[aj 51 2,aj 52 2,aw 53 52,aq 54 53 6,aj 55 54,aj 56 3,ck 57 55 56,aw 58 51,aq 59 58 6]
def c71r9:Ku:=[aH 59 1 57]
def c71:SC:=(.seq (aa c71r0) (.seq (.seq (aa c71r1) (.cond (.t 21) .ret .skip)) (.seq (aa c71r2) (.seq (.seq (aa c71r3) (.blk 0 (.rf (.t 27) [28] (aa c71r4) (.blk 1 (.seq (aa c71r5) (.cond (.t 31) (.rgY c71r6 c71r7) .skip)))))) (.rgT c71r8 c71r9)))))
def v71:Kz:=([],[])
def o71:KB:=[]
def c72r0:Ku:=[aE 4]
def c72r1:Ku:=[ac 5 0,bf 6 5 0,ac 7 6,aG 7 8 0,aG 7 9 1,cD 7 10 8 9,aJ 11 7 10,ac 4 11]
def c72:SC:=(.seq (aa c72r0) (.seq (aa c72r1) .ret))
def v72:Kz:=([],[])
def o72:KB:=[.t 4]
theorem s72 : gv Tryz.prog Tryz.f72.ntmps v72.1 v72.2 ((Tryz.f72.body).getD .skip) = some c72 := by kernel_rfl
theorem q72 : fF Tryz.prog Tryz.f72.ntmps v72.1 v72.2 Tryz.f72.results.toList = some o72 := by kernel_rfl
def c73r0:Ku:=[aF 1 0,af 2 0]
def c73r1:Ku:=[ao 3 1 0 10,ar 4 127 3,aN 5 4]
def c73r2:Ku:=[af 2 1]
def c73r3:Ku:=[ao 6 1 0 10,ar 7 128 6,av 8 7,bq 9 8 2048]
def c73r4:Ku:=[af 2 2]
def c73r5:Ku:=[af 2 0]
def c73:SC:=(.seq (aa c73r0) (.seq (ab c73r1 5 c73r2) (.seq (ab c73r3 9 c73r4) (.seq (aa c73r5) .ret))))
def v73:Kz:=([1],[1])
def o73:KB:=[.t 2]
def c75r0:Ku:=[aM 2]
def c75r1:Ku:=[ac 3 0,dh 4 129 3,ac 2 4]
def c75:SC:=(.seq (aa c75r0) (.seq (aa c75r1) .ret))
def v75:Kz:=([],[])
def o75:KB:=[.t 2]
def c76r0:Ku:=[aT 2 0,aT 3 1,cU 4]
def c76r1:Ku:=[cC 5 130 2 3,ac 4 5]
def c76:SC:=(.seq (aa c76r0) (.seq (aa c76r1) .ret))
def v76:Kz:=([],[])
def o76:KB:=[.t 4]
def c77r0:Ku:=[aF 2 0,aF 3 1,aE 4]
def c77r1:Ku:=[ah 2,ai 7 2 0,ah 3,ai 9 3 0,bC 10 7 9,ac 11 10,aB 11 2,aC 11 13 2 1,aB 11 3,aC 11 15 3 1,cA 11 16 13 15,au 17 11 16,ac 18 17,aB 18 2,aC 18 20 2 2,aW 18 21 20,aB 18 3,aC 18 23 3 2,aW 18 24 23,cA 18 25 21 24,au 26 18 25]
def c77r2:Ku:=[aE 4]
def c77r3:Ku:=[af 5 0]
def c77r4:Ku:=[ac 27 5,ah 2,ai 29 2 2,av 30 29,aK 31 27 30]
def c77r5:List (Bool × SI):=[(true,ah 2),(true,ai 35 2 2),(true,ac 36 5),(true,aA 37 35 36 2),(true,aI 38 37 2),(true,ah 3),(true,ai 40 3 2),(true,ac 41 5),(true,aA 42 40 41 2),(true,aI 43 42 2),(false,ay 44 132 38 43),(true,aN 45 44)]
def c77r6:Ku:=[aE 4]
def c77r7:Ku:=[ac 32 5,aD 33 32 1,ac 5 33]
def c77r8:Ku:=[bL 4]
def c77:SC:=(.seq (aa c77r0) (.seq (ab c77r1 26 c77r2) (.seq (.seq (aa c77r3) (.blk 0 (.loop (.seq (.seq (aa c77r4) (.cond (.t 31) .skip (.exit 0))) (.seq (.blk 1 (.seq (.rgX c77r5) (.cond (.t 45) (.seq (aa c77r6) .ret) .skip))) (aa c77r7)))))) (.seq (aa c77r8) .ret))))
def v77:Kz:=([2,3],[2,3,6,8,12,14,19,22,28,34,39])
def o77:KB:=[.t 4]
def c78r0:Ku:=[aE 4]
def c78r1:Ku:=[ac 6 0,av 7 6,ac 8 1,av 9 8,bC 10 7 9]
def c78r2:Ku:=[aE 4]
def c78r3:Ku:=[ac 11 0,av 12 11,af 13 0]
def c78r4:Ku:=[aK 14 13 12]
def c78r5:Ku:=[ac 15 13,ac 5 15]
def c78r6:Ku:=[ac 16 0,ac 17 5,aA 18 16 17 2,aI 19 18 2,ac 20 1,ac 21 5,aA 22 20 21 2,aI 23 22 2,⟨none,.eqf 24 true [0,0] (.t 19) (.t 23),none,0⟩]
def c78r7:Ku:=[aE 4]
def c78r8:Ku:=[aD 25 13 1,ac 13 25]
def c78r9:Ku:=[bL 4]
def c78:SC:=(.seq (aa c78r0) (.seq (ab c78r1 10 c78r2) (.seq (.seq (aa c78r3) (.blk 0 (.loop (.seq (aa c78r4) (.seq (.cond (.t 14) .skip (.exit 0)) (.seq (.blk 1 (.seq (aa c78r5) (.seq (.reg true c78r6) (.cond (.t 24) (.seq (aa c78r7) .ret) .skip)))) (aa c78r8))))))) (.seq (aa c78r9) .ret))))
def v78:Kz:=([],[])
def o78:KB:=[.t 4]
def c80r0:Ku:=[aF 3 0,aT 4 1,aT 5 2,aV 6,af 7 0]
def c80r1:Ku:=[ao 8 3 0 5,cC 9 134 4 5,ay 10 65 8 9,am 11 10 0,am 12 10 1,ak 6 0 5 11,ac 7 12]
def c80:SC:=(.seq (aa c80r0) (.seq (aa c80r1) .ret))
def v80:Kz:=([3,6],[3,6])
def o80:KB:=[.r 6 (some 5),.t 7]
def c81r0:Ku:=[af 5 0]
def c81r1:Ku:=[ac 10 0,aw 11 10,aq 12 11 0,aq 13 12 1,aj 14 13,aR 15 14 0,ac 16 15,az 16 17 1,⟨some (16,false),.nck 18 (.t 17),none,18⟩,bK 16 19 18 1,aX 16 20 19,aU 16 21 20,au 22 16 21]
def c81r2:Ku:=[af 5 180]
def c81r3:Ku:=[aj 23 2,ac 24 0,aw 25 24,aq 26 25 0,aq 27 26 1,aj 28 27,bm 29 23 28]
def c81r4:Ku:=[af 5 0]
def c81r5:Ku:=[ac 30 0,ac 31 0,aw 32 31,aq 33 32 0,aq 34 33 1,aj 35 34,ay 36 51 30 35,ac 6 36]
def c81r6:Ku:=[ac 37 1,ac 38 6,aw 39 38,aI 40 39 7,ay 41 82 37 40]
def c81r7:Ku:=[ac 42 1,aw 43 42,aI 44 43 7,ar 45 68 44,ac 7 45]
def c81r8:Ku:=[ac 46 1,ac 47 1,aw 48 47,aq 49 48 6,aj 50 49,ac 51 7,bt 52 50 51,aw 53 46,aq 54 53 6,aH 54 1 52]
def c81r9:List (Bool × SI):=[(true,ac 56 0),(true,aw 57 56),(true,aq 58 57 0),(true,aq 59 58 3),(true,aj 60 59),(true,aj 61 2),(false,ay 62 83 60 61),(true,ac 55 62),(true,am 63 55 0),(true,am 64 55 1),(true,ac 8 63),(true,ac 9 64)]
def c81r10:Ku:=[ac 65 7,ac 66 6,aw 67 66,aq 68 67 6,aj 69 68,cG 70 65 69,ac 71 70,aG 71 72 9,cE 71 73 72,aJ 74 71 73]
def c81r11:List (Bool × SI):=[(true,ac 75 0),(true,ac 76 0),(true,aw 77 76),(true,aq 78 77 0),(true,aq 79 78 3),(true,aj 80 79),(true,ac 81 8),(true,aj 82 2),(false,cZ 83 3 1 1 0 1 82),(false,a0 84 84 80 81 83),(true,aw 85 75),(true,aq 86 85 0),(true,aq 87 86 3)]
def c81r12:Ku:=[aH 87 1 84]
def c81r13:Ku:=[ac 88 0,ar 89 71 88]
def c81r14:Ku:=[ac 90 1,ac 91 1,aw 92 91,aq 93 92 6,aj 94 93,ac 95 6,aw 96 95,aq 97 96 6,aj 98 97,ck 99 94 98,ac 100 7,bt 101 99 100,aw 102 90,aq 103 102 6]
def c81r15:Ku:=[aH 103 1 101]
def c81r16:Ku:=[af 5 0]
def c81:SC:=(.seq (aa c81r0) (.seq (ab c81r1 22 c81r2) (.seq (.seq (.reg true c81r3) (.cond (.t 29) (.seq (aa c81r4) .ret) .skip)) (.seq (aa c81r5) (.seq (aa c81r6) (.seq (aa c81r7) (.seq (aa c81r8) (.seq (.seq (.rgX c81r9) (.seq (aa c81r10) (.cond (.t 74) (.rgY c81r11 c81r12) .skip))) (.seq (aa c81r13) (.seq (.rgT c81r14 c81r15) (.seq (aa c81r16) .ret)))))))))))
def v81:Kz:=([],[])
def o81:KB:=[.t 5]
def c82r0:Ku:=[aF 3 1]
def c82r1:List (Bool × SI):=[(true,ac 8 0),(true,aw 9 8),(true,aq 10 9 5),(true,aj 11 10),(true,ac 12 0),(true,aw 13 12),(true,aI 14 13 7),(true,ah 3),(true,ai 17 3 5),(true,ao 18 3 0 7),(false,ar 15 68 14),(false,ar 19 68 18),(false,cV 20 126 11 15 17 19),(true,ac 4 20)]
def c82r2:Ku:=[ah 3,ao 22 3 2 3,bc 5,ak 5 0 3 22,aE 6]
def c82r3:Ku:=[ac 23 0,aw 24 23,aq 25 24 2,aq 26 25 1,aj 27 26,ac 7 27]
def c82r4:Ku:=[ac 28 7,ah 3,⟨none,.nop,none,0⟩,ai 31 3 3,bm 32 28 31,ac 33 32,aG 33 34 4,aG 33 35 7,cO 33 36 34 35,aJ 37 33 36]
def c82r5:List WI:=[(true,false,ac 39 0),(true,false,aw 40 39),(true,false,aq 41 40 2),(true,false,aI 42 41 3),(true,false,ah 3),(true,false,ao 44 3 2 3),(true,false,ac 45 4),(true,false,ac 46 0),(true,false,aw 47 46),(true,false,aI 48 47 7),(false,false,ar 49 68 48),(true,false,bt 50 45 49),(false,true,a0 51 135 42 44 50),(true,false,ac 38 51),(true,false,am 52 38 0),(true,false,am 53 38 1),(false,true,ak 5 0 3 52),(true,false,ac 6 53)]
def c82r6:Ku:=[ac 54 6,aN 55 54]
def c82r7:Ku:=[ah 3,ao 57 3 2 3,ak 5 0 3 57]
def c82r8:List WI:=[(true,false,ac 58 0),(true,false,ac 59 0),(true,false,ao 60 5 0 3),(true,false,ah 3),(true,false,ai 62 3 5),(true,false,aw 63 58),(true,false,aq 64 63 2),(false,false,aH 64 3 60),(true,false,aw 65 59),(true,false,aq 66 65 5),(false,true,aH 66 1 62)]
def c82:SC:=(.seq (aa c82r0) (.seq (.rgX c82r1) (.seq (aa c82r2) (.seq (.seq (aa c82r3) (.seq (aa c82r4) (.cond (.t 37) (.rgW c82r5) .skip))) (.seq (.seq (aa c82r6) (.cond (.t 55) (aa c82r7) .skip)) (.rgW c82r8))))))
def v82:Kz:=([3,5],[3,5,16,21,29,30,43,56,61])
def o82:KB:=[]
def c83r0:Ku:=[af 4 0,aE 5]
def c83r1:Ku:=[ac 10 0,av 11 10,ac 6 11]
def c83r2:Ku:=[ac 12 6,af 7 0,ac 8 12]
def c83r3:Ku:=[ac 13 7,ac 14 8,aK 15 13 14]
def c83r4:Ku:=[ac 16 7,ac 17 8,aY 18 16 17,bz 19 18,bZ 20 19 1,bU 21 20,ac 9 21]
def c83r5:Ku:=[ac 22 0,ac 23 9,aA 24 22 23 1,aj 25 24,ac 26 1,ay 27 136 25 26]
def c83r6:Ku:=[ac 28 9,aD 29 28 1,ac 7 29]
def c83r7:Ku:=[ac 30 9,ac 8 30]
def c83r8:Ku:=[ac 31 7,ac 32 7,ac 33 6,aK 34 32 33,ac 35 34,aG 35 36 0,aG 35 37 7,bp 35 38 36 37 1,bA 35 39 38,aG 35 40 1,bV 35 41 39 40,aG 35 42 41,az 42 43 0,az 42 44 7,bQ 42 45 43 44 1,aX 42 46 45,a8 42 47 137 46,az 42 48 47,aG 48 49 1,bj 48 50 137 49,bD 42 51 48 50,bG 35 52 42 51,aJ 53 35 52,ac 4 31,ac 5 53]
def c83:SC:=(.seq (aa c83r0) (.seq (aa c83r1) (.seq (aa c83r2) (.seq (.blk 0 (.loop (.seq (.seq (aa c83r3) (.cond (.t 15) .skip (.exit 0))) (.blk 1 (.seq (aa c83r4) (.seq (aa c83r5) (.cond (.t 27) (aa c83r6) (aa c83r7)))))))) (.seq (aa c83r8) .ret)))))
def v83:Kz:=([],[])
def o83:KB:=[.t 4,.t 5]
def c85r0:Ku:=[af 6 0]
def c85r1:Ku:=[aj 10 2,aR 11 10 0,ac 9 11]
def c85r2:Ku:=[af 6 1]
def c85r3:Ku:=[ac 13 1,aw 14 13,aq 15 14 1,aj 16 15,aN 17 16,ac 12 17]
def c85r4:Ku:=[af 6 180]
def c85r5:Ku:=[ac 18 1,aw 19 18,aq 20 19 2,aq 21 20 2,aj 22 21,ar 23 86 22,ac 7 23]
def c85r6:Ku:=[ac 24 7,ac 25 7,av 26 25,bw 27 26 1,aA 28 24 27 2,ac 8 28]
def c85r7:Ku:=[ac 29 8,ac 30 8,aw 31 30,aq 32 31 1,aj 33 32,ac 34 8,aw 35 34,aq 36 35 1,aj 37 36,av 38 37,aj 39 2,ac 40 8,aw 41 40,aq 42 41 1,aj 43 42,av 44 43,bt 45 39 44,ba 46 38 45,bF 47 33 46 1,aw 48 29,aq 49 48 1]
def c85r8:Ku:=[aH 49 1 47]
def c85r9:Ku:=[ac 50 1,ac 51 1,ac 52 7,aw 53 50,aq 54 53 1,di 54 1,aw 55 51,aq 56 55 2,aq 57 56 2,aH 57 1 52]
def c85r10:Ku:=[ac 58 0,aw 59 58,aq 60 59 0,aq 61 60 1,aj 62 61,aj 63 3,bm 64 62 63]
def c85r11:Ku:=[ac 65 0,aw 66 65,aq 67 66 0,aq 68 67 1,⟨none,.st (.t 68) 1 (.i (-1)),none,0⟩]
def c85r12:Ku:=[ac 69 0,aw 70 69,aq 71 70 0,aq 72 71 3,aj 73 72,av 74 73,bq 75 74 1]
def c85r13:Ku:=[ac 76 0,aj 77 3,ay 78 87 76 77]
def c85r14:Ku:=[ac 79 0,ar 80 71 79]
def c85r15:Ku:=[af 6 0]
def c85:SC:=(.seq (aa c85r0) (.seq (.blk 0 (.seq (aa c85r1) (.cond (.t 9) (.seq (aa c85r2) .ret) (ab c85r3 12 c85r4)))) (.seq (aa c85r5) (.seq (aa c85r6) (.seq (.rgT c85r7 c85r8) (.seq (aa c85r9) (.seq (.seq (.reg true c85r10) (.cond (.t 64) (aa c85r11) .skip)) (.seq (.seq (aa c85r12) (.cond (.t 75) (aa c85r13) .skip)) (.seq (aa c85r14) (.seq (aa c85r15) .ret))))))))))
def v85:Kz:=([],[])
def o85:KB:=[.t 6]
def c86r0:Ku:=[aM 2]
def c86r1:Ku:=[ac 3 0,cR 4 3]
def c86r2:Ku:=[aM 2]
def c86r3:Ku:=[bT 5,ac 6 0,aP 7 5 6 120 2 32,ac 2 7]
def c86:SC:=(.seq (aa c86r0) (.seq (ab c86r1 4 c86r2) (.seq (aa c86r3) .ret)))
def v86:Kz:=([],[])
def o86:KB:=[.t 2]
def c87r0:Ku:=[aT 3 1]
def c87r1:Ku:=[ac 4 0,ac 5 0,aw 6 5,aq 7 6 0,aq 8 7 3,aj 9 8,bW 10 141 3,ay 11 140 9 10,aw 12 4,aq 13 12 0,aq 14 13 3,aH 14 1 11]
def c87:SC:=(.seq (aa c87r0) (aa c87r1))
def v87:Kz:=([],[])
def o87:KB:=[]
def c88r0:Ku:=[af 4 0]
def c88r1:Ku:=[ac 6 1,aw 7 6,aq 8 7 1,aj 9 8]
def c88r2:Ku:=[af 4 150]
def c88r3:Ku:=[ac 10 1,aw 11 10,aq 12 11 1,⟨none,.st (.t 12) 1 (.b true),none,0⟩]
def c88r4:Ku:=[ac 14 1,ac 15 1,aw 16 15,aq 17 16 2,aI 18 17 3,ar 19 89 18,ac 13 19,am 20 13 0,am 21 13 1,aw 22 14,aq 23 22 2,aH 23 3 20]
def c88r5:Ku:=[ac 24 1,aw 25 24,aI 26 25 7,ar 27 68 26,ac 5 27]
def c88r6:List WI:=[(true,false,ac 28 1),(true,false,ac 29 1),(true,false,ac 30 1),(true,false,aw 31 30),(true,false,aq 32 31 5),(true,false,aj 33 32),(true,false,ac 34 5),(true,false,ac 36 1),(true,false,aw 37 36),(true,false,aq 38 37 6),(true,false,aj 39 38),(true,false,ac 40 5),(true,false,bt 41 39 40),(false,false,ay 35 90 33 34),(true,false,aw 42 28),(true,false,aq 43 42 5),(false,true,aH 43 1 35),(true,false,aw 44 29),(true,false,aq 45 44 6),(false,true,aH 45 1 41)]
def c88r7:Ku:=[af 4 0]
def c88:SC:=(.seq (aa c88r0) (.seq (ab c88r1 9 c88r2) (.seq (aa c88r3) (.seq (aa c88r4) (.seq (aa c88r5) (.seq (.rgW c88r6) (.seq (aa c88r7) .ret)))))))
def v88:Kz:=([],[])
def o88:KB:=[.t 4]
def c89r0:Ku:=[aF 1 0,bc 2,af 3 0]
def c89r1:Ku:=[ah 1,ai 9 1 0,ah 1,ai 11 1 1,ay 12 103 9 11,aN 13 12,ac 14 13,aB 14 1,aC 14 16 1 2,aW 14 17 16,cM 14 18 17 0,au 19 14 18,ac 20 19,aB 20 1,aC 20 22 1 2,dz 20 23 22 0 2,bK 20 24 23 0,aX 20 25 24,a8 20 26 142 25,aU 20 27 26,au 28 20 27]
def c89r2:Ku:=[bB 29,ak 2 0 3 29,af 3 0]
def c89r3:Ku:=[ao 30 1 0 3,⟨none,.call 31 122 [(.t 30),(.v (.slice none 0 0))],none,0⟩,ak 2 0 3 31]
def c89r4:Ku:=[ah 1,ai 33 1 2,av 34 33,af 35 0]
def c89r5:Ku:=[aK 36 35 34]
def c89r6:Ku:=[ac 37 35,aA 38 33 35 2,aI 39 38 2,bE 5,ac 4 37,ak 5 0 2 39]
def c89r7:Ku:=[ac 40 3,ah 5,ai 42 5 1,av 43 42,aY 44 40 43,ac 3 44]
def c89r8:List (Bool × SI):=[(true,ah 2),(true,ai 46 2 2),(true,av 47 46),(true,ac 48 4),(true,aK 49 47 48),(true,ac 50 49),(true,az 50 51 4),(true,aS 50 52 51 0),(true,az 50 53 52),(true,aO 53 1),(true,aQ 53 55 1 2),(true,aG 53 56 4),(true,bS 53 57 56 1),(true,bp 53 58 55 57 2),(true,cK 53 59 58 2),(false,bj 53 60 112 59),(true,cE 53 61 60),(true,aG 53 62 61),(true,aB 62 1),(true,aC 62 64 1 2),(true,az 62 65 4),(true,dA 62 66 65 1),(true,bQ 62 67 64 66 2),(true,dC 62 68 67 2),(true,cP 62 69 5 0 2),(false,cL 62 70 113 68 69),(true,aU 62 71 70),(true,bG 53 72 62 71),(true,bD 50 73 53 72),(true,au 74 50 73)]
def c89r9:Ku:=[ao 76 5 0 2,ar 77 143 76,ac 75 77,am 78 75 0,am 79 75 1,bE 6,ak 6 0 2 78,ac 7 79]
def c89r10:Ku:=[ac 80 3,ah 6,ai 82 6 1,av 83 82,ba 84 80 83,ac 3 84]
def c89r11:Ku:=[ah 2,ai 86 2 2,ao 87 6 0 2,bX 88 120 1 2 0 2 87,aP 89 86 88 120 2 32,ah 2,ak 2 2 1 89]
def c89r12:Ku:=[aD 91 35 1,ac 35 91]
def c89r13:Ku:=[ao 92 2 0 3,ac 93 3,ak 2 0 3 92,ac 3 93]
def c89:SC:=(.seq (aa c89r0) (.seq (ab c89r1 28 c89r2) (.seq (aa c89r3) (.seq (.seq (aa c89r4) (.blk 0 (.loop (.seq (aa c89r5) (.seq (.cond (.t 36) .skip (.exit 0)) (.seq (.blk 1 (.seq (aa c89r6) (.seq (aa c89r7) (.seq (.seq (.rgX c89r8) (.cond (.t 74) (.exit 1) .skip)) (.seq (aa c89r9) (.seq (aa c89r10) (aa c89r11))))))) (aa c89r12))))))) (.seq (aa c89r13) .ret)))))
def v89:Kz:=([1,2,5,6],[1,2,5,6,8,10,15,21,32,41,45,54,63,81,85,90])
def o89:KB:=[.r 2 (some 3),.t 3]
def c90r0:Ku:=[aT 2 0,aT 3 1,aM 4]
def c90r1:Ku:=[aj 6 2,ar 7 108 6,aL 8 7 0]
def c90r2:Ku:=[aM 4]
def c90r3:Ku:=[aj 9 2,av 10 9,cC 11 145 2 3,ay 12 144 10 11,ac 5 12]
def c90r4:Ku:=[aj 13 2,ac 14 5,bF 15 13 14 2,ar 16 125 15,ac 4 16]
def c90:SC:=(.seq (aa c90r0) (.seq (ab c90r1 8 c90r2) (.seq (aa c90r3) (.seq (aa c90r4) .ret))))
def v90:Kz:=([],[])
def o90:KB:=[.t 4]
def c91r0:Ku:=[af 5 0]
def c91r1:Ku:=[ac 7 1,aw 8 7,aq 9 8 1,aj 10 9,aN 11 10,ac 6 11]
def c91r2:Ku:=[af 5 180]
def c91r3:List (Bool × SI):=[(true,ac 13 0),(true,aw 14 13),(true,aq 15 14 0),(true,aq 16 15 3),(true,aj 17 16),(true,aj 18 2),(false,ay 19 58 17 18),(true,aN 20 19),(true,ac 12 20)]
def c91r4:Ku:=[af 5 181]
def c91r5:Ku:=[ac 22 0,aw 23 22,aq 24 23 0,aq 25 24 0,aj 26 25,aZ 27 26 1048576,ac 21 27]
def c91r6:Ku:=[af 5 2]
def c91r7:RX:=.br [(true,ac 28 0),(true,ac 29 0),(true,ac 30 0),(true,aw 31 30),(true,aq 32 31 0),(true,aq 33 32 0)] (aj 34 33) (.br [(true,aD 35 34 1),(true,aw 37 28),(true,aq 38 37 0),(true,aq 39 38 0)] (aj 36 2) (.leaf [(false,aH 39 1 35),(true,aw 40 29),(true,aq 41 40 0),(true,aq 42 41 1),(false,aH 42 1 36)]) (aH 39 1 35) (.leaf [(false,aj 36 2),(true,aw 40 29),(true,aq 41 40 0),(true,aq 42 41 1),(false,aH 42 1 36)])) (aj 36 2) (.leaf [(false,aj 34 33),(true,aD 35 34 1),(true,aw 37 28),(true,aq 38 37 0),(true,aq 39 38 0),(false,aH 39 1 35),(true,aw 40 29),(true,aq 41 40 0),(true,aq 42 41 1),(false,aH 42 1 36)])
def c91r8:Ku:=[ac 43 0,ar 44 71 43]
def c91r9:Ku:=[af 5 0]
def c91:SC:=(.seq (aa c91r0) (.seq (.blk 0 (.seq (aa c91r1) (.cond (.t 6) (.seq (aa c91r2) .ret) (.seq (.rgX c91r3) (.cond (.t 12) (.seq (aa c91r4) .ret) (ab c91r5 21 c91r6)))))) (.seq (.rgZ c91r7) (.seq (aa c91r8) (.seq (aa c91r9) .ret)))))
def v91:Kz:=([],[])
def o91:KB:=[.t 5]
def GN : Sch := .br [(true, 0), (true, 1), (true, 2), (true, 3), (true, 4), (true, 5)] 6 (.br [(true, 7), (true, 9), (true, 10), (true, 11)] 8 (.leaf [(false, 12), (true, 13), (true, 14), (true, 15), (false, 16)]) 12 (.leaf [(false, 8), (true, 13), (true, 14), (true, 15), (false, 16)])) 8 (.leaf [(false, 6), (true, 7), (true, 9), (true, 10), (true, 11), (false, 12), (true, 13), (true, 14), (true, 15), (false, 16)])
theorem GO : ZOk Tryz.prog Tryz.f91.ntmps v91.1 v91.2 (Ki 7 ((Tryz.f91.body).getD .skip)) c91r7 := ZOk.mk GN (by kernel_rfl) (by kernel_rfl) (by kernel_rfl) (by kernel_rfl)
theorem s91 : jD Tryz.prog Tryz.f91.ntmps v91.1 v91.2 ((Tryz.f91.body).getD .skip) c91 := jD.mk [(7, .z c91r7)] (⟨⟨_, by kernel_rfl, GO⟩, trivial⟩) (by kernel_rfl)
theorem q91 : fF Tryz.prog Tryz.f91.ntmps v91.1 v91.2 Tryz.f91.results.toList = some o91 := by kernel_rfl
def c92r0:Ku:=[aF 2 0,af 4 0,af 5 0]
def c92r1:Ku:=[ao 8 2 0 5,ar 9 19 8,ac 6 9]
def c92r2:Ku:=[ac 10 6,aL 11 10 0]
def c92r3:Ku:=[ac 12 6,bY 4,ac 5 12]
def c92r4:Ku:=[ao 13 2 0 5,ac 14 1,ay 15 52 13 14,ac 7 15]
def c92r5:Ku:=[ac 16 7,aR 17 16 0]
def c92r6:Ku:=[bY 4,af 5 1]
def c92r7:Ku:=[ac 18 7,ac 4 18,af 5 0]
def c92:SC:=(.seq (aa c92r0) (.seq (aa c92r1) (.seq (ab c92r2 11 c92r3) (.seq (aa c92r4) (.seq (ab c92r5 17 c92r6) (.seq (aa c92r7) .ret))))))
def v92:Kz:=([2],[2])
def o92:KB:=[.t 4,.t 5]
def c93r0:Ku:=[aF 2 0,bc 4]
def c93r1:Ku:=[ah 2,ai 9 2 2,av 10 9,bw 11 10 1,ac 5 11]
def c93r2:Ku:=[bT 12,ah 2,ai 14 2 2,aP 15 12 14 120 2 32,ac 6 15]
def c93r3:Ku:=[ah 2,ai 17 2 2,ac 18 5,aA 19 17 18 2,aq 20 19 1,aj 21 20,ac 7 21]
def c93r4:Ku:=[ac 22 6,ac 23 5,ah 2,ai 25 2 2,ac 26 5,aA 27 25 26 2,aq 28 27 0,aj 29 28,ac 30 7,ac 31 7,av 32 31,ac 33 1,ac 34 7,av 35 34,bt 36 33 35,ba 37 32 36,⟨none,.mm 38 true (.i 0) (.t 37),none,0⟩,bF 39 30 38 1,dj 40 0 1 29 1 1 39,aA 41 22 23 2]
def c93r5:Ku:=[aH 41 2 40]
def c93r6:Ku:=[ac 42 6,ah 2,ak 2 2 1 42]
def c93r7:Ku:=[ao 44 2 0 3,ak 4 0 3 44]
def c93:SC:=(.seq (aa c93r0) (.seq (aa c93r1) (.seq (aa c93r2) (.seq (aa c93r3) (.seq (.rgT c93r4 c93r5) (.seq (aa c93r6) (.seq (aa c93r7) .ret)))))))
def v93:Kz:=([2,4],[2,4,8,13,16,24,43])
def o93:KB:=[.r 4 (some 3)]
def c94r0:Ku:=[aF 3 0,aF 5 2,aV 6]
def c94r1:Ku:=[bT 8,ah 3,ai 10 3 4,aP 11 8 10 50 7 88,ac 7 11]
def c94r2:Ku:=[ac 12 7,ac 13 1,ao 14 5 0 7,aA 15 12 13 7,aH 15 7 14]
def c94r3:Ku:=[ac 16 7,ah 3,ak 3 4 1 16]
def c94r4:Ku:=[ao 18 3 0 5,ak 6 0 5 18]
def c94:SC:=(.seq (aa c94r0) (.seq (aa c94r1) (.seq (aa c94r2) (.seq (aa c94r3) (.seq (aa c94r4) .ret)))))
def v94:Kz:=([3,5,6],[3,5,6,9,17])
def o94:KB:=[.r 6 (some 5)]
def c95r0:Ku:=[aM 4]
def c95r1:Ku:=[aM 5]
def c95r2:Ku:=[af 6 0]
def c95r3:Ku:=[ac 7 6,ac 8 0,av 9 8,aK 10 7 9]
def c95r4:Ku:=[ac 13 0,ac 14 6,aA 15 13 14 1,aj 16 15,ac 17 1,bC 18 16 17]
def c95r5:Ku:=[ac 19 5,ac 20 0,ac 21 6,aA 22 20 21 1,aj 23 22,cZ 24 3 1 1 0 1 23,aP 25 19 24 3 1 8,ac 5 25]
def c95r6:Ku:=[ac 11 6,aD 12 11 1,ac 6 12]
def c95r7:Ku:=[ac 26 5,ac 4 26]
def c95:SC:=(.seq (aa c95r0) (.seq (aa c95r1) (.seq (.seq (aa c95r2) (.blk 0 (.loop (.seq (.seq (aa c95r3) (.cond (.t 10) .skip (.exit 0))) (.seq (.blk 1 (.seq (aa c95r4) (.cond (.t 18) (aa c95r5) .skip))) (aa c95r6)))))) (.seq (aa c95r7) .ret))))
def v95:Kz:=([],[])
def o95:KB:=[.t 4]
def c96r0:Ku:=[aF 1 0,aV 2]
def c96r1:Ku:=[ao 9 1 0 5,ah 1,ai 11 1 1,ay 12 52 9 11,ac 3 12]
def c96r2:Ku:=[ah 1,ai 14 1 1,aR 15 14 0,ac 16 15,az 16 17 3,bh 16 18 17 0,au 19 16 18]
def c96r3:Ku:=[ao 20 1 0 5,ak 2 0 5 20]
def c96r4:Ku:=[ah 1,ai 22 1 4,ac 23 3,aA 24 22 23 7,aI 25 24 7,cB 4,ak 4 0 7 25]
def c96r5:Ku:=[ah 4,ao 27 4 2 3,ar 28 98 27,ac 5 28]
def c96r6:Ku:=[ac 29 5,ac 6 29]
def c96r7:Ku:=[af 7 0]
def c96r8:Ku:=[ac 30 7,ah 1,ai 32 1 4,av 33 32,aK 34 30 33]
def c96r9:Ku:=[ah 1,ai 38 1 4,ac 39 7,aA 40 38 39 7,aI 41 40 7,cB 8,ak 8 0 7 41]
def c96r10:Ku:=[ac 42 7,ac 43 3,bC 44 42 43,ac 45 44,a9 45 46 1 0 5,aO 45 8,aQ 45 48 8 0,bO 45 49 34 46 48,aJ 50 45 49]
def c96r11:List (Bool × SI):=[(true,ac 51 6),(true,ah 8),(true,ai 53 8 5),(true,ah 8),(true,ao 55 8 2 3),(true,ah 4),(true,ai 58 4 5),(true,ac 59 5),(false,ar 56 98 55),(false,cV 60 146 53 56 58 59),(true,bt 61 51 60),(true,ac 6 61)]
def c96r12:Ku:=[ac 35 7,aD 36 35 1,ac 7 36]
def c96r13:Ku:=[ah 4,ai 63 4 6,ac 64 6,ck 65 63 64,ah 4,ak 4 6 1 65]
def c96r14:Ku:=[ao 67 1 0 5,ac 68 3,ao 69 4 0 7,a0 70 94 67 68 69,ak 2 0 5 70]
def c96:SC:=(.seq (aa c96r0) (.seq (aa c96r1) (.seq (ab c96r2 19 c96r3) (.seq (aa c96r4) (.seq (aa c96r5) (.seq (aa c96r6) (.seq (.seq (aa c96r7) (.blk 0 (.loop (.seq (.seq (aa c96r8) (.cond (.t 34) .skip (.exit 0))) (.seq (.blk 1 (.seq (aa c96r9) (.seq (aa c96r10) (.cond (.t 50) (.rgX c96r11) .skip)))) (aa c96r12)))))) (.seq (aa c96r13) (.seq (aa c96r14) .ret)))))))))
def v96:Kz:=([1,2,4,8],[1,2,4,8,10,13,21,26,31,37,47,52,54,57,62,66])
def o96:KB:=[.r 2 (some 5)]
def c97r0:Ku:=[aF 1 0,bc 2,af 3 0]
def c97r1:Ku:=[ah 1,ai 11 1 0,aR 12 11 256,ac 13 12,aB 13 1,aC 13 15 1 0,aS 13 16 15 4096,au 17 13 16,ac 18 17,aB 18 1,aC 18 20 1 1,a8 18 21 104 20,aU 18 22 21,au 23 18 22,ac 24 23,aB 24 1,aC 24 26 1 2,aW 24 27 26,cM 24 28 27 0,au 29 24 28,ac 30 29,aB 30 1,aC 30 32 1 2,dz 30 33 32 0 2,bK 30 34 33 0,aX 30 35 34,a8 30 36 104 35,aU 30 37 36,au 38 30 37]
def c97r2:Ku:=[bB 39,ak 2 0 3 39,af 3 0]
def c97r3:Ku:=[ah 1,ai 41 1 0,ah 1,ai 43 1 1,⟨none,.bld 44 [(.int .i64 0),(.int .i64 0),(.slice none 0 0)] [(0,1,(.t 41)),(1,1,(.t 43))],none,0⟩,bc 4,ak 4 0 3 44]
def c97r4:Ku:=[af 5 0]
def c97r5:Ku:=[bL 6]
def c97r6:Ku:=[af 7 0]
def c97r7:Ku:=[ac 45 7,ah 1,ai 47 1 2,av 48 47,aK 49 45 48]
def c97r8:List (Bool × SI):=[(true,ac 52 6),(true,ac 53 52),(true,aG 53 54 7),(true,bd 53 55 54 0),(true,aG 53 56 55),(true,aB 56 1),(true,aC 56 58 1 2),(true,az 56 59 7),(true,dA 56 60 59 1),(true,bQ 56 61 58 60 2),(true,dC 56 62 61 2),(true,aB 56 1),(true,aC 56 64 1 2),(true,az 56 65 7),(true,bQ 56 66 64 65 2),(true,dC 56 67 66 2),(false,cL 56 68 147 62 67),(true,bG 53 69 56 68),(true,aJ 70 53 69),(true,ac 6 70)]
def c97r9:Ku:=[ac 71 6,aN 72 71]
def c97r10:Ku:=[ac 73 5,ah 1,ai 75 1 2,ac 76 7,aA 77 75 76 2,aq 78 77 1,aj 79 78,av 80 79,aY 81 73 80,ac 5 81]
def c97r11:Ku:=[ah 1,ai 84 1 2,ac 85 7,aA 86 84 85 2,aI 87 86 2,ar 88 148 87,ac 82 88,am 89 82 0,am 90 82 1,bE 8,ak 8 0 2 89,ac 9 90]
def c97r12:Ku:=[ah 4,ai 92 4 2,ao 93 8 0 2,bX 94 120 1 2 0 2 93,aP 95 92 94 120 2 32,ah 4,ak 4 2 1 95]
def c97r13:Ku:=[ac 97 5,ac 98 9,aY 99 97 98,ac 5 99]
def c97r14:Ku:=[ah 1,ai 101 1 2,ac 102 7,aA 103 101 102 2,aI 104 103 2,ar 105 149 104,ac 6 105]
def c97r15:Ku:=[ac 50 7,aD 51 50 1,ac 7 51]
def c97r16:Ku:=[ao 106 4 0 3,ac 107 5,ak 2 0 3 106,ac 3 107]
def c97:SC:=(.seq (aa c97r0) (.seq (ab c97r1 38 c97r2) (.seq (aa c97r3) (.seq (aa c97r4) (.seq (aa c97r5) (.seq (.seq (aa c97r6) (.blk 0 (.loop (.seq (.seq (aa c97r7) (.cond (.t 49) .skip (.exit 0))) (.seq (.blk 1 (.seq (.rgX c97r8) (.seq (.seq (aa c97r9) (.cond (.t 72) (.seq (aa c97r10) (.exit 1)) .skip)) (.seq (aa c97r11) (.seq (aa c97r12) (.seq (aa c97r13) (aa c97r14))))))) (aa c97r15)))))) (.seq (aa c97r16) .ret)))))))
def v97:Kz:=([1,2,4,8],[1,2,4,8,10,14,19,25,31,40,42,46,57,63,74,83,91,96,100])
def o97:KB:=[.r 2 (some 3),.t 3]
def c98r0:Ku:=[aF 1 0,af 2 0]
def c98r1:Ku:=[ao 3 1 0 3,ar 4 101 3,aL 5 4 0]
def c98r2:Ku:=[af 2 0]
def c98r3:Ku:=[ao 6 1 0 3,ar 7 150 6,ac 2 7]
def c98:SC:=(.seq (aa c98r0) (.seq (ab c98r1 5 c98r2) (.seq (aa c98r3) .ret)))
def v98:Kz:=([1],[1])
def o98:KB:=[.t 2]
def c99r0:Ku:=[aM 4]
def c99r1:Ku:=[aM 5]
def c99r2:Ku:=[ac 8 0,av 9 8,af 10 0]
def c99r3:Ku:=[aK 11 10 9]
def c99r4:Ku:=[aA 12 8 10 2,aI 13 12 2,cF 7,ak 7 0 2 13]
def c99r5:Ku:=[ac 14 0,ar 15 110 14,aZ 16 15 0,ac 17 16,aO 17 7,aQ 17 19 7 1,aG 17 20 1,⟨some (17,true),.bin 21 .lss (.t 19) (.t 20),none,21⟩,aJ 22 17 21]
def c99r6:Ku:=[ac 23 5,ao 24 7 0 2,dy 25 151 1 2 0 2 24,aP 26 23 25 151 2 16,ac 5 26]
def c99r7:Ku:=[aD 27 10 1,ac 10 27]
def c99r8:Ku:=[ac 28 5,ac 4 28]
def c99:SC:=(.seq (aa c99r0) (.seq (aa c99r1) (.seq (.seq (aa c99r2) (.blk 0 (.loop (.seq (aa c99r3) (.seq (.cond (.t 11) .skip (.exit 0)) (.seq (.blk 1 (.seq (aa c99r4) (.seq (aa c99r5) (.cond (.t 22) (aa c99r6) .skip)))) (aa c99r7))))))) (.seq (aa c99r8) .ret))))
def v99:Kz:=([7],[7,18])
def o99:KB:=[.t 4]
def c100r0:Ku:=[af 3 0]
def c100r1:Ku:=[ac 8 0,aw 9 8,aq 10 9 0,aq 11 10 1,aj 12 11,aR 13 12 0]
def c100r2:Ku:=[af 3 180]
def c100r3:Ku:=[ac 14 0,ac 15 0,aw 16 15,aq 17 16 0,aq 18 17 1,aj 19 18,ay 20 51 14 19,aw 21 20,aI 22 21 7,cB 4,ak 4 0 7 22]
def c100r4:Ku:=[aI 23 1 3,ar 24 62 23,ac 5 24]
def c100r5:Ku:=[ac 25 5,aL 26 25 0]
def c100r6:Ku:=[ac 27 5,ac 3 27]
def c100r7:List (Bool × SI):=[(true,aI 28 1 3),(true,ao 30 4 0 7),(false,ar 29 22 28),(false,ar 31 68 30),(true,bC 32 29 31)]
def c100r8:Ku:=[af 3 1]
def c100r9:Ku:=[ac 33 0,aw 34 33,aq 35 34 0,aq 36 35 4,aj 37 36,av 38 37,af 39 0]
def c100r10:Ku:=[aK 40 39 38]
def c100r11:Ku:=[ac 41 39,ac 6 41]
def c100r12:Ku:=[ac 42 0,aw 43 42,aq 44 43 0,aq 45 44 4,aj 46 45,ac 47 6,aA 48 46 47 7,ac 7 48]
def c100r13:Ku:=[ac 49 7,aw 50 49,aq 51 50 1,aj 52 51]
def c100r14:List WI:=[(true,false,ac 53 7),(true,false,ac 54 7),(true,false,aI 55 1 3),(true,false,ah 4),(true,false,ai 57 4 5),(true,false,aw 58 53),(true,false,aq 59 58 2),(false,false,aH 59 3 55),(true,false,aw 60 54),(true,false,aq 61 60 5),(false,true,aH 61 1 57)]
def c100r15:List (Bool × SI):=[(true,ac 62 7),(true,ac 63 7),(true,aw 64 63),(true,aq 65 64 6),(true,aj 66 65),(true,ac 67 7),(true,aw 68 67),(true,aI 69 68 7),(false,ar 70 68 69),(true,bt 71 66 70),(true,aw 72 62),(true,aq 73 72 6)]
def c100r16:Ku:=[aH 73 1 71]
def c100r17:Ku:=[aD 74 39 1,ac 39 74]
def c100r18:Ku:=[ac 75 0,ar 76 71 75]
def c100r19:Ku:=[af 3 0]
def c100:SC:=(.seq (aa c100r0) (.seq (ab c100r1 13 c100r2) (.seq (aa c100r3) (.seq (.seq (aa c100r4) (ab c100r5 26 c100r6)) (.seq (.seq (.rgX c100r7) (.cond (.t 32) (.seq (aa c100r8) .ret) .skip)) (.seq (.seq (aa c100r9) (.blk 0 (.loop (.seq (aa c100r10) (.seq (.cond (.t 40) .skip (.exit 0)) (.seq (.blk 1 (.seq (aa c100r11) (.seq (aa c100r12) (.seq (aa c100r13) (.cond (.t 52) (.seq (.rgW c100r14) (.rgY c100r15 c100r16)) .skip))))) (aa c100r17))))))) (.seq (aa c100r18) (.seq (aa c100r19) .ret))))))))
def v100:Kz:=([4],[4,56])
def o100:KB:=[.t 3]
def c101r0:Ku:=[aF 1 0,af 2 0]
def c101r1:Ku:=[ah 1,ai 5 1 0,aR 6 5 256,ac 7 6,aB 7 1,aC 7 9 1 0,aS 7 10 9 4096,au 11 7 10,ac 12 11,aB 12 1,aC 12 14 1 1,a8 12 15 104 14,aU 12 16 15,au 17 12 16,ac 18 17,aB 18 1,aC 18 20 1 2,aW 18 21 20,cM 18 22 21 0,au 23 18 22]
def c101r2:Ku:=[af 2 1]
def c101r3:Ku:=[af 3 0]
def c101r4:Ku:=[ac 24 3,ah 1,ai 26 1 2,av 27 26,aK 28 24 27]
def c101r5:List (Bool × SI):=[(true,ah 1),(true,ai 32 1 2),(true,ac 33 3),(true,aA 34 32 33 2),(true,aI 35 34 2),(false,ar 36 149 35),(true,aN 37 36),(true,ac 38 37),(true,aB 38 1),(true,aC 38 40 1 2),(true,az 38 41 3),(true,bQ 38 42 40 41 2),(true,bK 38 43 42 1),(true,aX 38 44 43),(true,aW 38 45 44),(true,aB 38 1),(true,aC 38 47 1 0),(true,bR 38 48 45 47),(true,au 49 38 48),(true,ac 50 49),(true,az 50 51 3),(true,aS 50 52 51 0),(true,az 50 53 52),(true,aO 53 1),(true,aQ 53 55 1 2),(true,aG 53 56 3),(true,bS 53 57 56 1),(true,bp 53 58 55 57 2),(true,cK 53 59 58 2),(true,aO 53 1),(true,aQ 53 61 1 2),(true,aG 53 62 3),(true,bp 53 63 61 62 2),(true,cK 53 64 63 2),(false,bO 53 65 147 59 64),(true,cE 53 66 65),(true,bD 50 67 53 66),(true,au 68 50 67)]
def c101r6:Ku:=[af 2 1]
def c101r7:Ku:=[ac 29 3,aD 30 29 1,ac 3 30]
def c101r8:Ku:=[ah 1,ai 70 1 2,av 71 70,bq 72 71 256]
def c101r9:Ku:=[af 2 2]
def c101r10:Ku:=[af 2 0]
def c101:SC:=(.seq (aa c101r0) (.seq (ab c101r1 23 c101r2) (.seq (.seq (aa c101r3) (.blk 0 (.loop (.seq (.seq (aa c101r4) (.cond (.t 28) .skip (.exit 0))) (.seq (.blk 1 (.seq (.rgX c101r5) (.cond (.t 68) (.seq (aa c101r6) .ret) .skip))) (aa c101r7)))))) (.seq (ab c101r8 72 c101r9) (.seq (aa c101r10) .ret)))))
def v101:Kz:=([1],[1,4,8,13,19,25,31,39,46,54,60,69])
def o101:KB:=[.t 2]
def c102r0:Ku:=[af 5 0]
def c102r1:Ku:=[ac 7 0,aw 8 7,aq 9 8 0,aq 10 9 1,aj 11 10,aR 12 11 0,ac 6 12]
def c102r2:Ku:=[af 5 180]
def c102r3:List (Bool × SI):=[(true,aj 14 2),(true,ac 15 0),(true,aw 16 15),(true,aq 17 16 0),(true,aq 18 17 1),(true,aj 19 18),(true,bm 20 14 19),(true,ac 21 20),(true,az 21 22 0),(true,⟨some (21,false),.nck 23 (.t 22),none,23⟩),(true,bK 21 24 23 0),(true,bK 21 25 24 3),(true,aX 21 26 25),(true,aX 21 27 2),(false,cL 21 28 58 26 27),(true,aU 21 29 28),(true,au 30 21 29),(true,ac 13 30)]
def c102r4:Ku:=[af 5 181]
def c102r5:Ku:=[ac 31 0,aj 32 2,ay 33 87 31 32]
def c102r6:Ku:=[ac 34 0,ar 35 71 34]
def c102r7:Ku:=[af 5 0]
def c102:SC:=(.seq (aa c102r0) (.seq (.blk 0 (.seq (aa c102r1) (.cond (.t 6) (.seq (aa c102r2) .ret) (.seq (.rgX c102r3) (.cond (.t 13) (.seq (aa c102r4) .ret) .skip))))) (.seq (aa c102r5) (.seq (aa c102r6) (.seq (aa c102r7) .ret)))))
def v102:Kz:=([],[])
def o102:KB:=[.t 5]
def c103r0:Ku:=[aE 4]
def c103r1:Ku:=[ac 5 0,bf 6 5 256,ac 7 6,aG 7 8 0,bI 7 9 8 4096,aJ 10 7 9,ac 11 10,aG 11 12 1,bj 11 13 142 12,aJ 14 11 13,ac 4 14]
def c103:SC:=(.seq (aa c103r0) (.seq (aa c103r1) .ret))
def v103:Kz:=([],[])
def o103:KB:=[.t 4]
def c104r0:Ku:=[aE 2]
def c104r1:Ku:=[ac 3 0,bf 4 3 0,ac 5 4,aG 5 6 0,bI 5 7 6 1099511627776,aJ 8 5 7,ac 2 8]
def c104:SC:=(.seq (aa c104r0) (.seq (aa c104r1) .ret))
def v104:Kz:=([],[])
def o104:KB:=[.t 2]
def c105r0:Ku:=[af 6 0,aE 7]
def c105r1:Ku:=[ac 12 0,av 13 12,ac 8 13]
def c105r2:Ku:=[ac 14 8,af 9 0,ac 10 14]
def c105r3:Ku:=[ac 15 9,ac 16 10,aK 17 15 16]
def c105r4:Ku:=[ac 18 9,ac 19 10,aY 20 18 19,bz 21 20,bZ 22 21 1,bU 23 22,ac 11 23]
def c105r5:Ku:=[ac 24 2,ac 25 0,ac 26 11,aA 27 25 26 7,aI 28 27 7,ac 29 1,cp 30 24 28 29,aR 31 30 0]
def c105r6:Ku:=[ac 32 11,aD 33 32 1,ac 9 33]
def c105r7:Ku:=[ac 34 11,ac 10 34]
def c105r8:Ku:=[ac 35 9,ac 36 9,ac 37 8,aK 38 36 37,ac 39 38,aG 39 40 2,aG 39 41 0,aG 39 42 9,bp 39 43 41 42 7,cK 39 44 43 7,aG 39 45 1,⟨some (39,true),.cav 46 (.t 40) [(.t 44),(.t 45)],none,46⟩,bd 39 47 46 0,aJ 48 39 47,ac 6 35,ac 7 48]
def c105:SC:=(.seq (aa c105r0) (.seq (aa c105r1) (.seq (aa c105r2) (.seq (.blk 0 (.loop (.seq (.seq (aa c105r3) (.cond (.t 17) .skip (.exit 0))) (.blk 1 (.seq (aa c105r4) (.seq (aa c105r5) (.cond (.t 31) (aa c105r6) (aa c105r7)))))))) (.seq (aa c105r8) .ret)))))
def v105:Kz:=([],[])
def o105:KB:=[.t 6,.t 7]
def c106r0:Ku:=[aF 2 0,af 4 0]
def c106r1:Ku:=[ah 2,ai 6 2 0,ac 7 1,ba 8 6 7,ac 4 8]
def c106:SC:=(.seq (aa c106r0) (.seq (aa c106r1) .ret))
def v106:Kz:=([2],[2,5])
def o106:KB:=[.t 4]
def c107r0:Ku:=[af 4 0]
def c107r1:Ku:=[ac 6 0,av 7 6,af 8 0]
def c107r2:Ku:=[aK 9 8 7]
def c107r3:Ku:=[ac 10 8,ac 5 10]
def c107r4:Ku:=[ac 11 1,ac 12 0,ac 13 5,aA 14 12 13 7,aI 15 14 7,cm 16 11 15]
def c107r5:Ku:=[ac 17 5,ac 4 17]
def c107r6:Ku:=[aD 18 8 1,ac 8 18]
def c107r7:Ku:=[bY 4]
def c107:SC:=(.seq (aa c107r0) (.seq (.seq (aa c107r1) (.blk 0 (.loop (.seq (aa c107r2) (.seq (.cond (.t 9) .skip (.exit 0)) (.seq (.blk 1 (.seq (aa c107r3) (ab c107r4 16 c107r5))) (aa c107r6))))))) (.seq (aa c107r7) .ret)))
def v107:Kz:=([],[])
def o107:KB:=[.t 4]
def c108r0:Ku:=[af 2 0]
def c108r1:Ku:=[ac 5 0,av 6 5,af 7 0]
def c108r2:Ku:=[aK 8 7 6]
def c108r3:Ku:=[ac 9 7,aA 10 5 7 2,aI 11 10 2,cF 4,ac 3 9,ak 4 0 2 11]
def c108r4:Ku:=[ah 4,ai 13 4 0,bP 14 124 13 1048576,aN 15 14,ac 16 15,aB 16 4,aC 16 18 4 1,cn 16 19 124 18 1099511627776,aU 16 20 19,au 21 16 20]
def c108r5:Ku:=[af 2 1]
def c108r6:Ku:=[ac 22 3,bq 23 22 0,ac 24 23,aO 24 4,aQ 24 26 4 0,aG 24 27 0,aG 24 28 3,bS 24 29 28 1,bp 24 30 27 29 2,cN 24 31 30 0,bA 24 32 31,⟨some (24,true),.bin 33 .sub (.t 26) (.t 32),none,33⟩,aO 24 4,aQ 24 35 4 1,aG 24 36 0,aG 24 37 3,bS 24 38 37 1,bp 24 39 36 38 2,cN 24 40 39 1,bA 24 41 40,⟨some (24,true),.bin 42 .sub (.t 35) (.t 41),none,42⟩,⟨some (24,true),.mm 43 false (.t 33) (.t 42),none,43⟩,bI 24 44 43 0,aJ 45 24 44]
def c108r7:Ku:=[af 2 1]
def c108r8:Ku:=[aD 46 7 1,ac 7 46]
def c108r9:Ku:=[af 2 0]
def c108:SC:=(.seq (aa c108r0) (.seq (.seq (aa c108r1) (.blk 0 (.loop (.seq (aa c108r2) (.seq (.cond (.t 8) .skip (.exit 0)) (.seq (.blk 1 (.seq (aa c108r3) (.seq (ab c108r4 21 c108r5) (.seq (.reg true c108r6) (.cond (.t 45) (.seq (aa c108r7) .ret) .skip))))) (aa c108r8))))))) (.seq (aa c108r9) .ret)))
def v108:Kz:=([4],[4,12,17,25,34])
def o108:KB:=[.t 2]
def c109r0:Ku:=[af 4 0]
def c109r1:Ku:=[ac 6 0,av 7 6,af 8 0]
def c109r2:Ku:=[aK 9 8 7]
def c109r3:Ku:=[ac 10 8,ac 5 10]
def c109r4:Ku:=[ac 11 1,ac 12 0,ac 13 5,aA 14 12 13 1,aj 15 14,cm 16 11 15]
def c109r5:Ku:=[ac 17 5,ac 4 17]
def c109r6:Ku:=[aD 18 8 1,ac 8 18]
def c109r7:Ku:=[bY 4]
def c109:SC:=(.seq (aa c109r0) (.seq (.seq (aa c109r1) (.blk 0 (.loop (.seq (aa c109r2) (.seq (.cond (.t 9) .skip (.exit 0)) (.seq (.blk 1 (.seq (aa c109r3) (ab c109r4 16 c109r5))) (aa c109r6))))))) (.seq (aa c109r7) .ret)))
def v109:Kz:=([],[])
def o109:KB:=[.t 4]
def c110r0:Ku:=[af 2 0]
def c110r1:Ku:=[ac 5 0,av 6 5,af 7 0]
def c110r2:Ku:=[aK 8 7 6]
def c110r3:Ku:=[ac 9 7,aA 10 5 7 2,aI 11 10 2,cF 4,ac 3 9,ak 4 0 2 11]
def c110r4:Ku:=[ah 4,ai 13 4 0,aR 14 13 0,ac 15 14,aB 15 4,aC 15 17 4 0,aS 15 18 17 1048576,au 19 15 18,ac 20 19,aB 20 4,aC 20 22 4 1,bh 20 23 22 0,au 24 20 23,ac 25 24,aB 25 4,aC 25 27 4 1,aS 25 28 27 1099511627776,au 29 25 28,ac 30 29,az 30 31 3,aS 30 32 31 0,az 30 33 32,aO 33 4,aQ 33 35 4 0,aG 33 36 0,aG 33 37 3,bS 33 38 37 1,bp 33 39 36 38 2,cN 33 40 39 0,bA 33 41 40,cD 33 42 35 41,aG 33 43 42,aB 43 4,aC 43 45 4 1,az 43 46 0,az 43 47 3,dA 43 48 47 1,bQ 43 49 46 48 2,bK 43 50 49 1,aX 43 51 50,⟨some (43,false),.bin 52 .leq (.t 45) (.t 51),none,52⟩,bG 33 53 43 52,bD 30 54 33 53,au 55 30 54]
def c110r5:Ku:=[af 2 1]
def c110r6:Ku:=[aD 56 7 1,ac 7 56]
def c110r7:Ku:=[af 2 0]
def c110:SC:=(.seq (aa c110r0) (.seq (.seq (aa c110r1) (.blk 0 (.loop (.seq (aa c110r2) (.seq (.cond (.t 8) .skip (.exit 0)) (.seq (.blk 1 (.seq (aa c110r3) (.seq (.reg true c110r4) (.cond (.t 55) (.seq (aa c110r5) .ret) .skip)))) (aa c110r6))))))) (.seq (aa c110r7) .ret)))
def v110:Kz:=([4],[4,12,16,21,26,34,44])
def o110:KB:=[.t 2]
def c111r0:Ku:=[aj 5 1,aw 6 5,aq 7 6 0,aq 8 7 3,aj 9 8,av 10 9,af 11 0]
def c111r1:Ku:=[aK 12 11 10]
def c111r2:Ku:=[aA 13 9 11 1,aj 14 13,ac 4 14]
def c111r3:Ku:=[ac 15 0,aj 16 1,ac 17 4,ay 18 51 16 17,cm 19 15 18,aN 20 19]
def c111r4:Ku:=[aD 21 11 1,ac 11 21]
def c111:SC:=(.seq (aa c111r0) (.blk 0 (.loop (.seq (aa c111r1) (.seq (.cond (.t 12) .skip (.exit 0)) (.seq (.blk 1 (.seq (aa c111r2) (.seq (aa c111r3) (.cond (.t 20) .ret .skip)))) (aa c111r4)))))))
def v111:Kz:=([],[])
def o111:KB:=[]
def c112r0:Ku:=[aF 1 0,aE 2]
def c112r1:Ku:=[ao 6 1 0 2,ar 7 131 6,ac 5 7,am 8 5 0,am 9 5 1,ac 3 8,ac 4 9]
def c112r2:Ku:=[ah 1,ai 11 1 0,ar 12 142 11,ac 13 12,aG 13 14 4,aO 13 1,aQ 13 16 1 1,cz 13 17 16,bV 13 18 14 17,aJ 19 13 18,ac 2 19]
def c112:SC:=(.seq (aa c112r0) (.seq (aa c112r1) (.seq (aa c112r2) .ret)))
def v112:Kz:=([1],[1,10,15])
def o112:KB:=[.t 2]
def c113r0:Ku:=[aF 2 0,aF 3 1,aE 4]
def c113r1:List (Bool × SI):=[(true,ah 3),(true,ai 6 3 0),(true,ah 2),(true,ai 8 2 0),(true,bM 9 6 8),(true,ac 10 9),(true,aO 10 3),(true,aQ 10 12 3 0),(true,a9 10 13 2 0 2),(false,bj 10 14 114 13),(true,cO 10 15 12 14),(true,aJ 16 10 15),(true,ac 4 16)]
def c113:SC:=(.seq (aa c113r0) (.seq (.rgX c113r1) .ret))
def v113:Kz:=([2,3],[2,3,5,7,11])
def o113:KB:=[.t 4]
def c114r0:Ku:=[aT 1 0,af 2 0]
def c114r1:Ku:=[aq 5 1 0,aj 6 5,cj 3,aH 3 1 6]
def c114r2:Ku:=[aI 7 1 2,ar 8 151 7]
def c114r3:Ku:=[bg 4,ak 4 0 10 9]
def c114r4:Ku:=[ah 4,ai 12 4 1,aD 13 12 1,aH 3 1 13]
def c114r5:Ku:=[aj 14 3,ac 2 14]
def c114:SC:=(.seq (aa c114r0) (.seq (aa c114r1) (.seq (.seq (aa c114r2) (.blk 0 (.rf (.t 8) [9,10] (aa c114r3) (.blk 1 (aa c114r4))))) (.seq (aa c114r5) .ret))))
def v114:Kz:=([4],[4,11])
def o114:KB:=[.t 2]
def c115r0:Ku:=[aF 1 0,af 2 0]
def c115r1:Ku:=[ah 1,ai 4 1 2,av 5 4,bw 6 5 1,ac 2 6]
def c115:SC:=(.seq (aa c115r0) (.seq (aa c115r1) .ret))
def v115:Kz:=([1],[1,3])
def o115:KB:=[.t 2]
def c116r0:Ku:=[aM 2]
def c116r1:Ku:=[ac 3 0,cR 4 3]
def c116r2:Ku:=[aM 2]
def c116r3:Ku:=[bT 5,ac 6 0,aP 7 5 6 50 7 88,ac 2 7]
def c116:SC:=(.seq (aa c116r0) (.seq (ab c116r1 4 c116r2) (.seq (aa c116r3) .ret)))
def v116:Kz:=([],[])
def o116:KB:=[.t 2]
def c117r0:Ku:=[aE 4]
def c117r1:Ku:=[ac 5 1,ar 6 152 5,bf 7 6 0,ac 8 7,aG 8 9 1,bj 8 10 153 9,aG 8 11 0,cD 8 12 10 11,aJ 13 8 12,ac 4 13]
def c117:SC:=(.seq (aa c117r0) (.seq (aa c117r1) .ret))
def v117:Kz:=([],[])
def o117:KB:=[.t 4]
theorem s117 : gv Tryz.prog Tryz.f117.ntmps v117.1 v117.2 ((Tryz.f117.body).getD .skip) = some c117 := by kernel_rfl
theorem q117 : fF Tryz.prog Tryz.f117.ntmps v117.1 v117.2 Tryz.f117.results.toList = some o117 := by kernel_rfl
def c118r0:Ku:=[aF 1 0,af 2 0]
def c118r1:Ku:=[ao 6 1 0 10,ar 7 154 6,ac 5 7,am 8 5 0,am 9 5 1,ac 3 8,ac 4 9]
def c118r2:Ku:=[ac 10 4,ac 2 10]
def c118:SC:=(.seq (aa c118r0) (.seq (aa c118r1) (.seq (aa c118r2) .ret)))
def v118:Kz:=([1],[1])
def o118:KB:=[.t 2]
def c119r0:Ku:=[aM 2]
def c119r1:Ku:=[ac 3 0,cR 4 3]
def c119r2:Ku:=[aM 2]
def c119r3:Ku:=[bT 5,ac 6 0,aP 7 5 6 103 5 56,ac 2 7]
def c119:SC:=(.seq (aa c119r0) (.seq (ab c119r1 4 c119r2) (.seq (aa c119r3) .ret)))
def v119:Kz:=([],[])
def o119:KB:=[.t 2]
def c120r0:Ku:=[aF 1 0,af 2 0]
def c120r1:Ku:=[ao 6 1 0 10,ar 7 154 6,ac 5 7,am 8 5 0,am 9 5 1,ac 3 8,ac 4 9]
def c120r2:Ku:=[ac 10 3,av 11 10,ac 2 11]
def c120:SC:=(.seq (aa c120r0) (.seq (aa c120r1) (.seq (aa c120r2) .ret)))
def v120:Kz:=([1],[1])
def o120:KB:=[.t 2]
def c121r0:Ku:=[aF 3 0,aF 4 1,bE 6,af 7 0]
def c121r1:Ku:=[ao 13 3 0 2,ar 14 131 13,ac 12 14,am 15 12 0,am 16 12 1,ac 8 15,ac 9 16]
def c121r2:Ku:=[ac 17 9,ah 3,ai 19 3 1,av 20 19,bC 21 17 20,ac 22 21,aB 22 3,aC 22 24 3 0,a8 22 25 155 24,aU 22 26 25,au 27 22 26,ac 28 27,az 28 29 2,a8 28 30 156 29,aU 28 31 30,au 32 28 31]
def c121r3:Ku:=[cH 33,ak 6 0 2 33,af 7 1]
def c121r4:Ku:=[ao 35 4 0 10,ar 36 154 35,ac 34 36,am 37 34 0,am 38 34 1,ac 10 37,ac 11 38]
def c121r5:Ku:=[ac 40 11,aL 41 40 0,ac 39 41]
def c121r6:Ku:=[cH 42,ac 43 11,ak 6 0 2 42,ac 7 43]
def c121r7:List (Bool × SI):=[(true,ah 4),(true,ai 46 4 0),(true,ao 47 3 0 2),(false,ar 48 114 47),(true,aK 49 46 48),(true,ac 44 49)]
def c121r8:Ku:=[cH 50,ak 6 0 2 50,af 7 71]
def c121r9:Ku:=[ah 3,ai 53 3 1,av 54 53,ac 55 10,av 56 55,aY 57 54 56,ac 58 2,bM 59 57 58,ac 51 59]
def c121r10:Ku:=[cH 60,ak 6 0 2 60,af 7 70]
def c121r11:List (Bool × SI):=[(true,ah 3),(true,ai 62 3 0),(true,ah 3),(true,ai 64 3 1),(true,ac 65 10),(false,⟨none,.bls 66 118 2 1 [(.slice none 0 0),(.slice none 0 0)] [(0,1,(.t 64)),(1,1,(.t 65))],none,0⟩),(false,ar 67 157 66),(true,dj 68 0 1 62 1 1 67)]
def c121r12:Ku:=[ak 6 0 2 68,af 7 0]
def c121:SC:=(.seq (aa c121r0) (.seq (.seq (aa c121r1) (ab c121r2 32 c121r3)) (.seq (aa c121r4) (.seq (.blk 0 (.seq (aa c121r5) (.cond (.t 39) (.seq (aa c121r6) .ret) (.seq (.rgX c121r7) (.cond (.t 44) (.seq (aa c121r8) .ret) (ab c121r9 51 c121r10)))))) (.seq (.rgY c121r11 c121r12) .ret)))))
def v121:Kz:=([3,4,6],[3,4,6,18,23,45,52,61,63])
def o121:KB:=[.r 6 (some 2),.t 7]
def c122r0:Ku:=[aF 2 0,bc 4]
def c122r1:Ku:=[ah 2,ai 6 2 0,ah 2,ai 8 2 1,ac 9 1,⟨none,.bld 10 [(.int .i64 0),(.int .i64 0),(.slice none 0 0)] [(0,1,(.t 6)),(1,1,(.t 8)),(2,1,(.t 9))],none,0⟩,ak 4 0 3 10]
def c122:SC:=(.seq (aa c122r0) (.seq (aa c122r1) .ret))
def v122:Kz:=([2,4],[2,4,5,7])
def o122:KB:=[.r 4 (some 3)]
def c123r0:Ku:=[bE 6,af 7 0]
def c123r1:Ku:=[ac 13 0,ar 14 158 13,ac 12 14,am 15 12 0,am 16 12 1,bE 8,ak 8 0 2 15,ac 9 16]
def c123r2:Ku:=[ac 17 9,aL 18 17 0,ac 19 18,az 19 20 2,a8 19 21 156 20,aU 19 22 21,au 23 19 22]
def c123r3:Ku:=[cH 24,ak 6 0 2 24,af 7 1]
def c123r4:Ku:=[ac 25 1,av 26 25,af 27 0]
def c123r5:Ku:=[aK 28 27 26]
def c123r6:Ku:=[aA 29 25 27 10,aI 30 29 10,bg 11,ak 11 0 10 30]
def c123r7:Ku:=[ao 32 8 0 2,ao 33 11 0 10,ac 34 2,a0 35 121 32 33 34,ac 31 35,am 36 31 0,am 37 31 1,ak 8 0 2 36,ac 9 37]
def c123r8:Ku:=[ac 38 9,aL 39 38 0]
def c123r9:Ku:=[cH 40,ac 41 9,ak 6 0 2 40,ac 7 41]
def c123r10:Ku:=[aD 42 27 1,ac 27 42]
def c123r11:Ku:=[ao 43 8 0 2,ak 6 0 2 43,af 7 0]
def c123:SC:=(.seq (aa c123r0) (.seq (aa c123r1) (.seq (ab c123r2 23 c123r3) (.seq (.seq (aa c123r4) (.blk 0 (.loop (.seq (aa c123r5) (.seq (.cond (.t 28) .skip (.exit 0)) (.seq (.blk 1 (.seq (aa c123r6) (.seq (aa c123r7) (ab c123r8 39 c123r9)))) (aa c123r10))))))) (.seq (aa c123r11) .ret)))))
def v123:Kz:=([6,8,11],[6,8,11])
def o123:KB:=[.r 6 (some 2),.t 7]
def c124r0:Ku:=[aE 4]
def c124r1:Ku:=[ac 5 0,bf 6 5 0,ac 7 6,aG 7 8 0,aG 7 9 1,cD 7 10 8 9,aJ 11 7 10,ac 4 11]
def c124:SC:=(.seq (aa c124r0) (.seq (aa c124r1) .ret))
def v124:Kz:=([],[])
def o124:KB:=[.t 4]
def c125r0:Ku:=[aM 2]
def c125r1:Ku:=[ac 3 0,cR 4 3]
def c125r2:Ku:=[aM 2]
def c125r3:Ku:=[bT 5,ac 6 0,aP 7 5 6 151 2 16,ac 2 7]
def c125:SC:=(.seq (aa c125r0) (.seq (ab c125r1 4 c125r2) (.seq (aa c125r3) .ret)))
def v125:Kz:=([],[])
def o125:KB:=[.t 2]
def c126r0:Ku:=[aT 4 0,aT 5 1,aT 6 2,aT 7 3,cj 8]
def c126r1:Ku:=[aj 15 4,ar 16 108 15,aL 17 16 0,ac 18 17,aX 18 19 6,a8 18 20 108 19,bi 18 21 20 0,au 22 18 21]
def c126r2:Ku:=[cQ 8 1 0]
def c126r3:Ku:=[aj 23 4,ar 24 159 23]
def c126r4:Ku:=[cF 10,ak 10 0 2 26]
def c126r5:Ku:=[aj 28 6,ah 10,ai 30 10 0,aj 31 7,a0 32 160 28 30 31,ac 27 32,am 33 27 0,am 34 27 1,ac 11 33,ac 12 34]
def c126r6:Ku:=[ac 35 11,ah 10,ai 37 10 0,bm 38 35 37]
def c126r7:Ku:=[aj 40 4,ah 10,ai 42 10 0,aj 43 5,a0 44 160 40 42 43,ac 39 44,am 45 39 0,am 46 39 1,ac 13 45,ac 14 46]
def c126r8:Ku:=[ac 47 14,ac 48 12,bt 49 47 48,aH 8 1 49]
def c126r9:Ku:=[cQ 8 1 0]
def c126:SC:=(.seq (aa c126r0) (.seq (ab c126r1 22 c126r2) (.seq (.seq (aa c126r3) (.blk 0 (.rf (.t 24) [25,26] (aa c126r4) (.blk 1 (.seq (aa c126r5) (.seq (aa c126r6) (.cond (.t 38) (.seq (aa c126r7) (.seq (aa c126r8) .ret)) .skip))))))) (.seq (aa c126r9) .ret))))
def v126:Kz:=([10],[10,29,36,41])
def o126:KB:=[.c 8 none]
def c127r0:Ku:=[aF 1 0,aE 2]
def c127r1:Ku:=[ah 1,ai 8 1 0,bP 9 72 8 1099511627776,aN 10 9,ac 11 10,aB 11 1,aC 11 13 1 1,cn 11 14 72 13 1099511627776,aU 11 15 14,au 16 11 15,ac 17 16,aB 17 1,aC 17 19 1 2,cn 17 20 72 19 1099511627776,aU 17 21 20,au 22 17 21,ac 23 22,aB 23 1,aC 23 25 1 0,aB 23 1,aC 23 27 1 1,bR 23 28 25 27,au 29 23 28,ac 30 29,aB 30 1,aC 30 32 1 1,aB 30 1,aC 30 34 1 0,dD 30 35 32 34,dE 30 36 35 16,au 37 30 36]
def c127r2:Ku:=[aE 2]
def c127r3:Ku:=[ah 1,ai 39 1 1,ah 1,ai 41 1 0,ba 42 39 41,ac 3 42]
def c127r4:Ku:=[ah 1,ai 44 1 2,ac 45 3,aY 46 44 45,bq 47 46 1099511627776,ac 48 47,aB 48 1,aC 48 50 1 3,cn 48 51 72 50 1048576,aU 48 52 51,au 53 48 52,ac 54 53,aB 54 1,aC 54 56 1 5,cn 54 57 72 56 1048576,aU 54 58 57,au 59 54 58,ac 60 59,aB 60 1,aC 60 62 1 6,cn 60 63 72 62 1048576,aU 60 64 63,au 65 60 64,ac 66 65,aB 66 1,aC 66 68 1 6,az 66 69 3,dk 66 70 68 69,aS 66 71 70 1048576,au 72 66 71]
def c127r5:Ku:=[aE 2]
def c127r6:Ku:=[ah 1,ai 74 1 4,cT 75 74,ac 76 75,aO 76 1,aQ 76 78 1 5,⟨some (76,true),.bin 79 .neq (.t 78) (.i 0),none,79⟩,aG 76 80 79,aB 80 1,aC 80 82 1 6,bi 80 83 82 0,bG 76 84 80 83,aG 76 85 84,aB 85 1,aC 85 87 1 7,bG 76 88 85 87,aG 76 89 88,aB 89 1,aC 89 91 1 8,bi 89 92 91 0,bG 76 93 89 92,aJ 94 76 93,ac 95 94,aB 95 1,aC 95 97 1 4,⟨some (95,false),.bin 98 .neq (.t 97) (.i (-1)),none,98⟩,az 95 99 98,aO 99 1,aQ 99 101 1 4,⟨some (99,true),.call 102 72 [(.t 101),(.i 1099511627776)],none,102⟩,cE 99 103 102,bD 95 104 99 103,au 105 95 104]
def c127r7:Ku:=[aE 2]
def c127r8:Ku:=[ah 1,ai 107 1 8,aL 108 107 0]
def c127r9:Ku:=[ah 1,ai 110 1 8,aZ 111 110 1,ac 112 111,aB 112 1,aC 112 114 1 8,cM 112 115 114 2,au 116 112 115,ac 117 116,aG 117 118 3,bd 117 119 118 0,aJ 120 117 119,ac 121 120,aO 121 1,aQ 121 123 1 9,cz 121 124 123,bd 121 125 124 0,aJ 126 121 125,ac 127 126,aO 127 1,aQ 127 129 1 7,aJ 130 127 129,ac 131 130,aO 131 1,aQ 131 133 1 4,⟨some (131,true),.bin 134 .geq (.t 133) (.i 0),none,134⟩,aJ 135 131 134,ac 2 135]
def c127r10:Ku:=[ah 1,ai 137 1 0,bw 138 137 1,ac 4 138]
def c127r11:Ku:=[ah 1,ai 140 1 9,av 141 140,af 142 0]
def c127r12:Ku:=[aK 143 142 141]
def c127r13:Ku:=[aA 144 140 142 5,aI 145 144 5,cd 6,ak 6 0 5 145]
def c127r14:Ku:=[ao 146 6 0 5,ar 147 161 146,aL 148 147 0,ac 149 148,aB 149 6,aC 149 151 6 0,az 149 152 4,⟨some (149,false),.bin 153 .leq (.t 151) (.t 152),none,153⟩,au 154 149 153,ac 155 154,aB 155 6,aC 155 157 6 0,aB 155 1,aC 155 159 1 1,bR 155 160 157 159,au 161 155 160]
def c127r15:Ku:=[aE 2]
def c127r16:Ku:=[ah 6,ai 163 6 0,ac 4 163]
def c127r17:Ku:=[aD 164 142 1,ac 142 164]
def c127r18:Ku:=[bL 2]
def c127:SC:=(.seq (aa c127r0) (.seq (ab c127r1 37 c127r2) (.seq (aa c127r3) (.seq (ab c127r4 72 c127r5) (.seq (ab c127r6 105 c127r7) (.seq (ab c127r8 108 c127r9) (.seq (aa c127r10) (.seq (.seq (aa c127r11) (.blk 0 (.loop (.seq (aa c127r12) (.seq (.cond (.t 143) .skip (.exit 0)) (.seq (.blk 1 (.seq (aa c127r13) (.seq (ab c127r14 161 c127r15) (aa c127r16)))) (aa c127r17))))))) (.seq (aa c127r18) .ret)))))))))
def v127:Kz:=([1,6],[1,6,7,12,18,24,26,31,33,38,40,43,49,55,61,67,73,77,81,86,90,96,100,106,109,113,122,128,132,136,139,150,156,158,162])
def o127:KB:=[.t 2]
theorem s127 : gv Tryz.prog Tryz.f127.ntmps v127.1 v127.2 ((Tryz.f127.body).getD .skip) = some c127 := by kernel_rfl
theorem q127 : fF Tryz.prog Tryz.f127.ntmps v127.1 v127.2 Tryz.f127.results.toList = some o127 := by kernel_rfl
def c128r0:Ku:=[aF 1 0,aM 2]
def c128r1:Ku:=[aM 3]
def c128r2:Ku:=[ah 1,ai 12 1 0,ah 1,ai 14 1 1,ah 1,ai 16 1 0,ba 17 14 16,ah 1,ai 19 1 2,ah 1,ai 21 1 3,ah 1,ai 23 1 4,ah 1,ai 25 1 5,ah 1,ai 27 1 6,⟨none,.bls 28 3 7 1 [(.int .i64 0),(.int .i64 0),(.int .i64 0),(.int .i64 0),(.int .i64 0),(.int .i64 0),(.int .i64 0)] [(0,1,(.t 12)),(1,1,(.t 17)),(2,1,(.t 19)),(3,1,(.t 21)),(4,1,(.t 23)),(5,1,(.t 25)),(6,1,(.t 27))],none,0⟩,av 29 28,af 30 0]
def c128r3:Ku:=[aK 31 30 29]
def c128r4:Ku:=[aA 32 28 30 1,aj 33 32,ac 5 33]
def c128r5:Ku:=[ac 34 3,ac 35 5,ay 36 162 34 35,ac 3 36]
def c128r6:Ku:=[aD 37 30 1,ac 30 37]
def c128r7:Ku:=[ah 1,ai 39 1 8,ac 6 39]
def c128r8:Ku:=[ah 1,ai 41 1 7]
def c128r9:Ku:=[ac 42 6,aD 43 42 4,ac 6 43]
def c128r10:List (Bool × SI):=[(true,ac 44 3),(true,ac 45 6),(true,bJ 46 45),(true,ah 1),(true,ai 50 1 9),(true,av 51 50),(false,cf 47 5 1 1 0 1 46),(false,aP 48 44 47 5 1 1),(false,ay 52 162 48 51),(true,ac 3 52)]
def c128r11:Ku:=[ah 1,ai 54 1 9,av 55 54,af 56 0]
def c128r12:Ku:=[aK 57 56 55]
def c128r13:Ku:=[ac 58 56,aA 59 54 56 5,aI 60 59 5,cd 8,ac 7 58,ak 8 0 5 60]
def c128r14:Ku:=[ac 61 7,aZ 62 61 0]
def c128r15:Ku:=[ac 63 3,ah 8,ai 65 8 4,ay 66 162 63 65,ac 3 66]
def c128r16:List (Bool × SI):=[(true,ao 68 8 0 5),(true,ah 1),(true,ai 70 1 0),(true,ah 1),(true,ai 72 1 9),(true,cS 73 72 0 5),(true,aq 74 73 4),(true,aj 75 74),(false,a0 76 163 68 70 75),(true,ac 67 76),(true,am 77 67 0),(true,am 78 67 1),(true,ac 9 77),(true,ac 10 78)]
def c128r17:Ku:=[ac 79 3,ac 80 9,aP 81 79 80 5 1 1,ac 3 81]
def c128r18:Ku:=[aD 82 56 1,ac 56 82]
def c128r19:Ku:=[ac 83 3,ar 84 164 83,ac 3 84]
def c128r20:Ku:=[ac 85 3,av 86 85,bz 87 86,⟨none,.call 88 165 [(.v (.slice none 0 0)),(.t 87),(.i 4)],none,0⟩,ac 89 3,aP 90 88 89 5 1 1,ac 2 90]
def c128:SC:=(.seq (aa c128r0) (.seq (aa c128r1) (.seq (.seq (aa c128r2) (.blk 0 (.loop (.seq (aa c128r3) (.seq (.cond (.t 31) .skip (.exit 0)) (.seq (.blk 1 (.seq (aa c128r4) (aa c128r5))) (aa c128r6))))))) (.seq (aa c128r7) (.seq (.seq (aa c128r8) (.cond (.t 41) (aa c128r9) .skip)) (.seq (.rgX c128r10) (.seq (.seq (aa c128r11) (.blk 2 (.loop (.seq (aa c128r12) (.seq (.cond (.t 57) .skip (.exit 2)) (.seq (.blk 3 (.seq (aa c128r13) (.seq (.seq (aa c128r14) (.cond (.t 62) (aa c128r15) .skip)) (.seq (.rgX c128r16) (aa c128r17))))) (aa c128r18))))))) (.seq (aa c128r19) (.seq (aa c128r20) .ret)))))))))
def v128:Kz:=([1,8],[1,8,11,13,15,18,20,22,24,26,38,40,49,53,64,69,71])
def o128:KB:=[.t 2]
def c129r0:Ku:=[aT 2 0,aM 4]
def c129r1:Ku:=[ac 6 1]
def c129r2:Ku:=[bg 5,ak 5 0 10 7]
def c129r3:Ku:=[aj 8 2,ao 9 5 0 10,da 10 43 1 10 0 10 9,aP 11 8 10 43 10 96,aH 2 1 11]
def c129r4:Ku:=[aj 12 2,ac 4 12]
def c129:SC:=(.seq (aa c129r0) (.seq (.seq (aa c129r1) (.blk 0 (.rf (.t 6) [7] (aa c129r2) (.blk 1 (aa c129r3))))) (.seq (aa c129r4) .ret)))
def v129:Kz:=([5],[5])
def o129:KB:=[.t 4]
def c130r0:Ku:=[aq 10 1 2,aj 11 10,av 12 11,af 13 0]
def c130r1:Ku:=[aK 14 13 12]
def c130r2:Ku:=[aA 15 11 13 2,aI 16 15 2,bE 5,ak 5 0 2 16]
def c130r3:Ku:=[ao 18 5 0 2,ar 19 131 18,ac 17 19,am 20 17 0,am 21 17 1,ac 6 20,ac 7 21]
def c130r4:Ku:=[ac 22 6,av 23 22,af 24 0]
def c130r5:Ku:=[aK 25 24 23]
def c130r6:Ku:=[aA 26 22 24 10,aI 27 26 10,bg 9,ak 9 0 10 27]
def c130r7:Ku:=[ah 9,ai 29 9 1,aj 30 2,cG 31 29 30,ac 32 31,aG 32 33 0,a9 32 34 9 0 10,⟨some (32,true),.cav 35 (.t 33) [(.t 34)],none,35⟩,cE 32 36 35,aJ 37 32 36]
def c130r8:Ku:=[aD 38 24 1,ac 24 38]
def c130r9:Ku:=[aD 39 13 1,ac 13 39]
def c130:SC:=(.seq (aa c130r0) (.blk 0 (.loop (.seq (aa c130r1) (.seq (.cond (.t 14) .skip (.exit 0)) (.seq (.blk 1 (.seq (aa c130r2) (.seq (aa c130r3) (.seq (aa c130r4) (.blk 2 (.loop (.seq (aa c130r5) (.seq (.cond (.t 25) .skip (.exit 2)) (.seq (.blk 3 (.seq (aa c130r6) (.seq (aa c130r7) (.cond (.t 37) .ret .skip)))) (aa c130r8)))))))))) (aa c130r9)))))))
def v130:Kz:=([5,9],[5,9,28])
def o130:KB:=[]
def c131r0:Ku:=[aT 1 0,⟨none,.al 2 [(.slice none 0 0)],none,0⟩,cj 3]
def c131r1:Ku:=[aI 6 1 2,ar 7 151 6]
def c131r2:Ku:=[bg 4,ak 4 0 10 8]
def c131r3:Ku:=[ac 5 9]
def c131r4:Ku:=[aj 10 2,ao 11 4 0 10,da 12 43 1 10 0 10 11,aP 13 10 12 43 10 96,ac 14 5,aH 2 1 13,aH 3 1 14]
def c131r5:List WI:=[(true,false,aj 15 2),(true,false,aj 16 3),(false,false,aH 2 1 15),(false,true,aH 3 1 16)]
def c131:SC:=(.seq (aa c131r0) (.seq (.seq (aa c131r1) (.blk 0 (.rf (.t 7) [8,9] (.seq (aa c131r2) (aa c131r3)) (.blk 1 (aa c131r4))))) (.seq (.rgW c131r5) .ret)))
def v131:Kz:=([4],[4])
def o131:KB:=[.c 2 none,.c 3 none]
def c132r0:Ku:=[aF 2 0,aF 3 1,aE 4]
def c132r1:Ku:=[ah 2,ai 6 2 0,ah 3,ai 8 3 0,bm 9 6 8,ac 10 9,aO 10 2,aQ 10 12 2 1,aO 10 3,aQ 10 14 3 1,bO 10 15 166 12 14,aJ 16 10 15,ac 4 16]
def c132:SC:=(.seq (aa c132r0) (.seq (aa c132r1) .ret))
def v132:Kz:=([2,3],[2,3,5,7,11,13])
def o132:KB:=[.t 4]
def c134r0:Ku:=[af 4 0]
def c134r1:Ku:=[ac 6 0,aj 7 1,ay 8 51 6 7,ac 5 8]
def c134r2:Ku:=[ac 9 5,⟨none,.eqf 10 false [3] (.t 9) (.v (.pointer none)),none,0⟩]
def c134r3:Ku:=[af 4 1]
def c134r4:Ku:=[aj 11 2,ac 12 0,ac 13 5,cp 14 11 12 13,ac 4 14]
def c134:SC:=(.seq (aa c134r0) (.seq (aa c134r1) (.seq (ab c134r2 10 c134r3) (.seq (aa c134r4) .ret))))
def v134:Kz:=([],[])
def o134:KB:=[.t 4]
def c135r0:Ku:=[aF 3 0,aF 4 1,bc 6,aE 7]
def c135r1:Ku:=[ao 14 3 0 3,ac 15 2,ay 16 167 14 15,ac 13 16,am 17 13 0,am 18 13 1,ak 3 0 3 17,ac 8 18]
def c135r2:List (Bool × SI):=[(true,ao 19 3 0 3),(true,ao 21 4 0 3),(false,ar 20 27 19),(false,ar 22 27 21),(true,ac 9 20),(true,ac 10 22)]
def c135r3:Ku:=[ac 23 8,aL 24 23 0,ac 25 24,az 25 26 9,aW 25 27 26,az 25 28 10,aW 25 29 28,bR 25 30 27 29,au 31 25 30,ac 32 31,az 32 33 9,az 32 34 10,az 32 35 9,aW 32 36 35,⟨some (32,false),.sl 37 (.t 34) none (some (.t 36)) none 10,none,37⟩,⟨some (32,false),.call 38 168 [(.t 33),(.t 37),(.v (.func (.func 169) #[] #[]))],none,38⟩,aU 32 39 38,au 40 32 39]
def c135r4:Ku:=[ao 41 3 0 3,ak 6 0 3 41,aE 7]
def c135r5:Ku:=[ac 42 10,ac 43 9,av 44 43,dl 45 42 44 10,av 46 45,af 47 0]
def c135r6:Ku:=[aK 48 47 46]
def c135r7:Ku:=[aA 49 45 47 10,aI 50 49 10,bg 12,ak 12 0 10 50]
def c135r8:Ku:=[ao 52 3 0 3,ao 53 12 0 10,ay 54 69 52 53,ac 51 54,am 55 51 0,am 56 51 1,ak 3 0 3 55,ac 8 56]
def c135r9:Ku:=[ac 57 8,aL 58 57 0]
def c135r10:Ku:=[ao 59 3 0 3,ak 6 0 3 59,aE 7]
def c135r11:Ku:=[aD 60 47 1,ac 47 60]
def c135r12:Ku:=[ao 61 3 0 3,ak 6 0 3 61,bL 7]
def c135:SC:=(.seq (aa c135r0) (.seq (aa c135r1) (.seq (.rgX c135r2) (.seq (ab c135r3 40 c135r4) (.seq (.seq (aa c135r5) (.blk 0 (.loop (.seq (aa c135r6) (.seq (.cond (.t 48) .skip (.exit 0)) (.seq (.blk 1 (.seq (aa c135r7) (.seq (aa c135r8) (ab c135r9 58 c135r10)))) (aa c135r11))))))) (.seq (aa c135r12) .ret))))))
def v135:Kz:=([3,4,6,12],[3,4,6,12])
def o135:KB:=[.r 6 (some 3),.t 7]
def c136r0:Ku:=[aE 4]
def c136r1:Ku:=[ac 5 0,ar 6 170 5,ac 7 6,aG 7 8 1,bj 7 9 170 8,cE 7 10 9,aJ 11 7 10,ac 12 11,az 12 13 0,az 12 14 1,cW 12 15 13 14,au 16 12 15,ac 4 16]
def c136:SC:=(.seq (aa c136r0) (.seq (aa c136r1) .ret))
def v136:Kz:=([],[])
def o136:KB:=[.t 4]
def c137r0:Ku:=[aE 2]
def c137r1:Ku:=[ac 3 0,ac 4 0,bC 5 3 4,ac 2 5]
def c137:SC:=(.seq (aa c137r0) (.seq (aa c137r1) .ret))
def v137:Kz:=([],[])
def o137:KB:=[.t 2]
def c140r0:Ku:=[aM 4]
def c140r1:Ku:=[ac 8 0,ac 9 1,ay 10 109 8 9,ac 5 10]
def c140r2:Ku:=[ac 11 5,cT 12 11]
def c140r3:Ku:=[ac 13 0,ac 4 13]
def c140r4:Ku:=[ac 14 5,aD 15 14 1,ac 6 15]
def c140r5:Ku:=[ac 16 6,ac 17 0,av 18 17,aK 19 16 18]
def c140r6:Ku:=[ac 22 0,ac 23 6,aA 24 22 23 1,aj 25 24,ac 7 25]
def c140r7:Ku:=[ac 26 1,ac 27 7,cm 28 26 27,aN 29 28]
def c140r8:Ku:=[ac 30 0,ac 31 5,ac 32 7,aA 33 30 31 1,aH 33 1 32]
def c140r9:Ku:=[ac 34 5,aD 35 34 1,ac 5 35]
def c140r10:Ku:=[ac 20 6,aD 21 20 1,ac 6 21]
def c140r11:Ku:=[ac 36 0,ac 37 5,dl 38 36 37 1,⟨none,.clr 99999 (.t 38) ([(.int .i64 0)]).toArray,none,0⟩]
def c140r12:Ku:=[ac 39 0,ac 40 5,bF 41 39 40 1,ac 4 41]
def c140:SC:=(.seq (aa c140r0) (.seq (aa c140r1) (.seq (ab c140r2 12 c140r3) (.seq (.seq (aa c140r4) (.blk 0 (.loop (.seq (.seq (aa c140r5) (.cond (.t 19) .skip (.exit 0))) (.seq (.blk 1 (.seq (aa c140r6) (.seq (aa c140r7) (.cond (.t 29) (.seq (aa c140r8) (aa c140r9)) .skip)))) (aa c140r10)))))) (.seq (aa c140r11) (.seq (aa c140r12) .ret))))))
def v140:Kz:=([],[])
def o140:KB:=[.t 4]
def c141r0:Ku:=[aE 3]
def c141r1:Ku:=[ac 4 0,aj 5 1,bm 6 4 5,ac 3 6]
def c141:SC:=(.seq (aa c141r0) (.seq (aa c141r1) .ret))
def v141:Kz:=([],[])
def o141:KB:=[.t 3]
def c142r0:Ku:=[aE 2]
def c142r1:Ku:=[ac 3 0,bf 4 3 0,ac 5 4,aG 5 6 0,bI 5 7 6 1099511627776,aJ 8 5 7,ac 2 8]
def c142:SC:=(.seq (aa c142r0) (.seq (aa c142r1) .ret))
def v142:Kz:=([],[])
def o142:KB:=[.t 2]
def c143r0:Ku:=[aF 1 0,bE 2,af 3 0]
def c143r1:Ku:=[ao 7 1 0 2,ar 8 131 7,ac 6 8,am 9 6 0,am 10 6 1,ac 4 9,ac 5 10]
def c143r2:List WI:=[(true,false,ao 11 1 0 2),(true,false,ac 12 5),(true,false,ah 1),(true,false,ai 15 1 1),(true,false,av 16 15),(true,false,ac 17 5),(true,false,ba 18 16 17),(false,false,ay 13 172 11 12),(false,false,ak 2 0 2 13),(true,false,ac 3 18)]
def c143:SC:=(.seq (aa c143r0) (.seq (aa c143r1) (.seq (.rgW c143r2) .ret)))
def v143:Kz:=([1,2],[1,2,14])
def o143:KB:=[.r 2 (some 2),.t 3]
def c144r0:Ku:=[af 4 0]
def c144r1:Ku:=[ac 8 0,af 5 0,ac 6 8]
def c144r2:Ku:=[ac 9 5,ac 10 6,aK 11 9 10]
def c144r3:Ku:=[ac 12 5,ac 13 6,aY 14 12 13,bz 15 14,bZ 16 15 1,bU 17 16,ac 7 17]
def c144r4:Ku:=[ac 18 1,ac 19 7,cm 20 18 19,aN 21 20]
def c144r5:Ku:=[ac 22 7,aD 23 22 1,ac 5 23]
def c144r6:Ku:=[ac 24 7,ac 6 24]
def c144r7:Ku:=[ac 25 5,ac 4 25]
def c144:SC:=(.seq (aa c144r0) (.seq (aa c144r1) (.seq (.blk 0 (.loop (.seq (.seq (aa c144r2) (.cond (.t 11) .skip (.exit 0))) (.blk 1 (.seq (aa c144r3) (.seq (aa c144r4) (.cond (.t 21) (aa c144r5) (aa c144r6)))))))) (.seq (aa c144r7) .ret))))
def v144:Kz:=([],[])
def o144:KB:=[.t 4]
def c145r0:Ku:=[aE 4]
def c145r1:Ku:=[aj 5 1,ac 6 0,aA 7 5 6 2,aq 8 7 1,aj 9 8,aj 10 2,cG 11 9 10,ac 4 11]
def c145:SC:=(.seq (aa c145r0) (.seq (.reg true c145r1) .ret))
def v145:Kz:=([],[])
def o145:KB:=[.t 4]
def c146r0:Ku:=[af 8 0]
def c146r1:Ku:=[ac 14 0,ar 15 110 14,aL 16 15 0,ac 17 16,az 17 18 2,a8 17 19 110 18,bi 17 20 19 0,au 21 17 20]
def c146r2:Ku:=[af 8 0]
def c146r3:Ku:=[af 9 0]
def c146r4:Ku:=[ac 22 0,av 23 22,af 24 0]
def c146r5:Ku:=[aK 25 24 23]
def c146r6:Ku:=[ac 26 24,aA 27 22 24 2,aI 28 27 2,cF 11,ac 10 26,ak 11 0 2 28]
def c146r7:Ku:=[ac 29 2,av 30 29,af 31 0]
def c146r8:Ku:=[aK 32 31 30]
def c146r9:Ku:=[ac 33 31,aA 34 29 31 2,aI 35 34 2,cF 13,ac 12 33,ak 13 0 2 35]
def c146r10:Ku:=[ah 11,ai 37 11 0,ah 13,ai 39 13 0,bm 40 37 39]
def c146r11:Ku:=[ac 41 0,ac 42 10,ac 43 1,a0 44 173 41 42 43,ac 45 2,ac 46 12,ac 47 3,a0 48 173 45 46 47,bt 49 44 48,ac 9 49]
def c146r12:Ku:=[aD 50 31 1,ac 31 50]
def c146r13:Ku:=[aD 51 24 1,ac 24 51]
def c146r14:Ku:=[ac 52 9,ac 8 52]
def c146:SC:=(.seq (aa c146r0) (.seq (ab c146r1 21 c146r2) (.seq (aa c146r3) (.seq (.seq (aa c146r4) (.blk 0 (.loop (.seq (aa c146r5) (.seq (.cond (.t 25) .skip (.exit 0)) (.seq (.blk 1 (.seq (aa c146r6) (.seq (aa c146r7) (.blk 2 (.loop (.seq (aa c146r8) (.seq (.cond (.t 32) .skip (.exit 2)) (.seq (.blk 3 (.seq (aa c146r9) (.seq (aa c146r10) (.cond (.t 40) (aa c146r11) .skip)))) (aa c146r12))))))))) (aa c146r13))))))) (.seq (aa c146r14) .ret)))))
def v146:Kz:=([11,13],[11,13,36,38])
def o146:KB:=[.t 8]
def c147r0:Ku:=[aF 2 0,aF 3 1,aE 4]
def c147r1:List (Bool × SI):=[(true,ah 3),(true,ai 6 3 0),(true,ah 2),(true,ai 8 2 0),(true,bM 9 6 8),(true,ac 10 9),(true,aO 10 3),(true,aQ 10 12 3 0),(true,a9 10 13 2 0 2),(false,bj 10 14 174 13),(true,cO 10 15 12 14),(true,aJ 16 10 15),(true,ac 4 16)]
def c147:SC:=(.seq (aa c147r0) (.seq (.rgX c147r1) .ret))
def v147:Kz:=([2,3],[2,3,5,7,11])
def o147:KB:=[.t 4]
def c148r0:Ku:=[aF 1 0,bE 2,af 3 0]
def c148r1:Ku:=[ao 7 1 0 2,ar 8 175 7,ac 6 8,am 9 6 0,am 10 6 1,ac 4 9,ac 5 10]
def c148r2:List WI:=[(true,false,ah 1),(true,false,ai 12 1 0),(true,false,ah 1),(true,false,ai 14 1 1),(true,false,ac 15 5),(true,false,bF 16 14 15 1),(true,false,ah 1),(true,false,ai 20 1 1),(true,false,av 21 20),(true,false,ac 22 5),(true,false,ba 23 21 22),(false,false,ar 17 176 16),(true,false,dj 18 0 1 12 1 1 17),(false,false,ak 2 0 2 18),(true,false,ac 3 23)]
def c148:SC:=(.seq (aa c148r0) (.seq (aa c148r1) (.seq (.rgW c148r2) .ret)))
def v148:Kz:=([1,2],[1,2,11,13,19])
def o148:KB:=[.r 2 (some 2),.t 3]
def c149r0:Ku:=[aF 1 0,aE 2]
def c149r1:Ku:=[ao 6 1 0 2,ar 7 175 6,ac 5 7,am 8 5 0,am 9 5 1,ac 3 8,ac 4 9]
def c149r2:Ku:=[ah 1,ai 11 1 0,bf 12 11 0,ac 13 12,aO 13 1,aQ 13 15 1 0,bI 13 16 15 1099511627776,aJ 17 13 16,ac 18 17,aG 18 19 4,aO 18 1,aQ 18 21 1 1,cz 18 22 21,bV 18 23 19 22,aJ 24 18 23,ac 2 24]
def c149:SC:=(.seq (aa c149r0) (.seq (aa c149r1) (.seq (aa c149r2) .ret)))
def v149:Kz:=([1],[1,10,14,20])
def o149:KB:=[.t 2]
def c150r0:Ku:=[aF 1 0,af 2 0]
def c150r1:Ku:=[ah 1,ai 6 1 1,ac 3 6]
def c150r2:Ku:=[af 4 0]
def c150r3:Ku:=[ac 7 4,ah 1,ai 9 1 2,av 10 9,aK 11 7 10]
def c150r4:Ku:=[ac 14 3,ah 1,ai 16 1 2,ac 17 4,aA 18 16 17 2,aI 19 18 2,ar 20 174 19,ck 21 14 20,ac 3 21]
def c150r5:Ku:=[ac 12 4,aD 13 12 1,ac 4 13]
def c150r6:Ku:=[ac 22 3,ac 2 22]
def c150:SC:=(.seq (aa c150r0) (.seq (aa c150r1) (.seq (.seq (aa c150r2) (.blk 0 (.loop (.seq (.seq (aa c150r3) (.cond (.t 11) .skip (.exit 0))) (.seq (.blk 1 (aa c150r4)) (aa c150r5)))))) (.seq (aa c150r6) .ret))))
def v150:Kz:=([1],[1,5,8,15])
def o150:KB:=[.t 2]
def c151r0:Ku:=[aT 1 0,cU 2]
def c151r1:Ku:=[bW 3 177 1,ac 2 3]
def c151:SC:=(.seq (aa c151r0) (.seq (aa c151r1) .ret))
def v151:Kz:=([],[])
def o151:KB:=[.t 2]
def c152r0:Ku:=[af 2 0]
def c152r1:Ku:=[ac 5 0,av 6 5,aR 7 6 1]
def c152r2:Ku:=[ac 9 0,cS 10 9 0 1,aj 11 10,ac 3 11]
def c152r3:Ku:=[af 4 1]
def c152r4:Ku:=[ac 12 4,ac 13 0,av 14 13,aK 15 12 14]
def c152r5:Ku:=[ac 18 3,ac 19 0,ac 20 4,aA 21 19 20 1,aj 22 21,bt 23 18 22,ac 3 23]
def c152r6:Ku:=[ac 16 4,aD 17 16 1,ac 4 17]
def c152r7:Ku:=[ac 24 3,ac 2 24]
def c152:SC:=(.seq (aa c152r0) (.seq (.seq (aa c152r1) (.cond (.t 7) .dead .skip)) (.seq (aa c152r2) (.seq (.seq (aa c152r3) (.blk 0 (.loop (.seq (.seq (aa c152r4) (.cond (.t 15) .skip (.exit 0))) (.seq (.blk 1 (aa c152r5)) (aa c152r6)))))) (.seq (aa c152r7) .ret)))))
def v152:Kz:=([],[])
def o152:KB:=[.t 2]
theorem s152 : gv Tryz.prog Tryz.f152.ntmps v152.1 v152.2 ((Tryz.f152.body).getD .skip) = some c152 := by kernel_rfl
theorem q152 : fF Tryz.prog Tryz.f152.ntmps v152.1 v152.2 Tryz.f152.results.toList = some o152 := by kernel_rfl
def c153r0:Ku:=[af 2 0]
def c153r1:Ku:=[ac 5 0,av 6 5,aR 7 6 1]
def c153r2:Ku:=[ac 9 0,cS 10 9 0 1,aj 11 10,ac 3 11]
def c153r3:Ku:=[af 4 1]
def c153r4:Ku:=[ac 12 4,ac 13 0,av 14 13,aK 15 12 14]
def c153r5:Ku:=[ac 18 3,ac 19 0,ac 20 4,aA 21 19 20 1,aj 22 21,ck 23 18 22,ac 3 23]
def c153r6:Ku:=[ac 16 4,aD 17 16 1,ac 4 17]
def c153r7:Ku:=[ac 24 3,ac 2 24]
def c153:SC:=(.seq (aa c153r0) (.seq (.seq (aa c153r1) (.cond (.t 7) .dead .skip)) (.seq (aa c153r2) (.seq (.seq (aa c153r3) (.blk 0 (.loop (.seq (.seq (aa c153r4) (.cond (.t 15) .skip (.exit 0))) (.seq (.blk 1 (aa c153r5)) (aa c153r6)))))) (.seq (aa c153r7) .ret)))))
def v153:Kz:=([],[])
def o153:KB:=[.t 2]
theorem s153 : gv Tryz.prog Tryz.f153.ntmps v153.1 v153.2 ((Tryz.f153.body).getD .skip) = some c153 := by kernel_rfl
theorem q153 : fF Tryz.prog Tryz.f153.ntmps v153.1 v153.2 Tryz.f153.results.toList = some o153 := by kernel_rfl
def c154r0:Ku:=[aF 1 0,aM 2,af 3 0]
def c154r1:Ku:=[ao 5 1 0 10,ar 6 179 5,aN 7 6]
def c154r2:Ku:=[aM 2,af 3 1]
def c154r3:Ku:=[ao 8 1 0 10,ar 9 180 8,ac 4 9]
def c154r4:Ku:=[ac 10 4,av 11 10,bq 12 11 2048]
def c154r5:Ku:=[aM 2,af 3 2]
def c154r6:Ku:=[ac 13 4,ac 2 13,af 3 0]
def c154:SC:=(.seq (aa c154r0) (.seq (ab c154r1 7 c154r2) (.seq (aa c154r3) (.seq (ab c154r4 12 c154r5) (.seq (aa c154r6) .ret)))))
def v154:Kz:=([1],[1])
def o154:KB:=[.t 2,.t 3]
def c155r0:Ku:=[aE 2]
def c155r1:Ku:=[ac 3 0,bf 4 3 0,ac 5 4,aG 5 6 0,bI 5 7 6 1099511627776,aJ 8 5 7,ac 2 8]
def c155:SC:=(.seq (aa c155r0) (.seq (aa c155r1) .ret))
def v155:Kz:=([],[])
def o155:KB:=[.t 2]
def c156r0:Ku:=[aE 2]
def c156r1:Ku:=[ac 3 0,bf 4 3 1,ac 5 4,aG 5 6 0,bI 5 7 6 4096,aJ 8 5 7,ac 2 8]
def c156:SC:=(.seq (aa c156r0) (.seq (aa c156r1) .ret))
def v156:Kz:=([],[])
def o156:KB:=[.t 2]
def c157r0:Ku:=[aM 2]
def c157r1:Ku:=[af 3 0]
def c157r2:Ku:=[ac 9 0,av 10 9,af 11 0]
def c157r3:Ku:=[aK 12 11 10]
def c157r4:Ku:=[aA 13 9 11 1,aj 14 13,ac 5 14]
def c157r5:Ku:=[ac 15 3,ac 16 5,av 17 16,aY 18 15 17,ac 3 18]
def c157r6:Ku:=[ac 19 3,aR 20 19 0]
def c157r7:Ku:=[aD 22 11 1,ac 11 22]
def c157r8:Ku:=[ac 23 3,dh 24 181 23,ac 6 24]
def c157r9:Ku:=[ac 25 0,av 26 25,af 27 0]
def c157r10:Ku:=[aK 28 27 26]
def c157r11:Ku:=[aA 29 25 27 1,aj 30 29,ac 8 30]
def c157r12:Ku:=[ac 31 6,ac 32 8,aP 33 31 32 5 1 1,ac 6 33]
def c157r13:Ku:=[aD 34 27 1,ac 27 34]
def c157r14:Ku:=[ac 35 6,ac 2 35]
def c157:SC:=(.seq (aa c157r0) (.seq (aa c157r1) (.seq (.seq (aa c157r2) (.blk 0 (.loop (.seq (aa c157r3) (.seq (.cond (.t 12) .skip (.exit 0)) (.seq (.blk 1 (.seq (aa c157r4) (.seq (aa c157r5) (.seq (aa c157r6) (.cond (.t 20) .dead .skip))))) (aa c157r7))))))) (.seq (aa c157r8) (.seq (.seq (aa c157r9) (.blk 2 (.loop (.seq (aa c157r10) (.seq (.cond (.t 28) .skip (.exit 2)) (.seq (.blk 3 (.seq (aa c157r11) (aa c157r12))) (aa c157r13))))))) (.seq (aa c157r14) .ret))))))
def v157:Kz:=([],[])
def o157:KB:=[.t 2]
def c158r0:Ku:=[bE 2,af 3 0]
def c158r1:Ku:=[ac 4 0,ar 5 155 4,aN 6 5]
def c158r2:Ku:=[cH 7,ak 2 0 2 7,af 3 1]
def c158r3:Ku:=[ac 8 0,dv 9 0 1 8,ak 2 0 2 9,af 3 0]
def c158:SC:=(.seq (aa c158r0) (.seq (ab c158r1 6 c158r2) (.seq (aa c158r3) .ret)))
def v158:Kz:=([2],[2])
def o158:KB:=[.r 2 (some 2),.t 3]
def c159r0:Ku:=[aT 1 0,cU 2]
def c159r1:Ku:=[bW 3 182 1,ac 2 3]
def c159:SC:=(.seq (aa c159r0) (.seq (aa c159r1) .ret))
def v159:Kz:=([],[])
def o159:KB:=[.t 2]
def c160r0:Ku:=[af 6 0,af 7 0]
def c160r1:Ku:=[af 8 0]
def c160r2:Ku:=[ac 9 0,ar 10 108 9,aZ 11 10 0]
def c160r3:Ku:=[ac 12 0,ac 13 1,ay 14 183 12 13,ac 8 14]
def c160r4:Ku:=[ac 15 8,aZ 16 15 0]
def c160r5:Ku:=[bY 6,af 7 0]
def c160r6:Ku:=[ac 17 8,ac 18 0,av 19 18,aK 20 17 19]
def c160r7:Ku:=[ac 21 0,ac 22 8,aA 23 21 22 2,aq 24 23 1,aj 25 24,ac 2 25]
def c160r8:Ku:=[ac 26 0,ac 27 8,bw 28 27 1,aA 29 26 28 2,aq 30 29 0,aj 31 30,ac 32 2,ac 6 31,ac 7 32]
def c160:SC:=(.seq (aa c160r0) (.seq (aa c160r1) (.seq (.seq (aa c160r2) (.cond (.t 11) (aa c160r3) .skip)) (.seq (ab c160r4 16 c160r5) (.seq (.seq (aa c160r6) (.cond (.t 20) (aa c160r7) .skip)) (.seq (aa c160r8) .ret))))))
def v160:Kz:=([],[])
def o160:KB:=[.t 6,.t 7]
def c161r0:Ku:=[aF 1 0,af 2 0]
def c161r1:Ku:=[ah 1,ai 4 1 0,ar 5 184 4,aN 6 5,ac 7 6,aB 7 1,aC 7 9 1 4,a8 7 10 184 9,aU 7 11 10,au 12 7 11,ac 13 12,aB 13 1,aC 13 15 1 1,⟨some (13,false),.len 16 true (.t 15),none,16⟩,aS 13 17 16 64,au 18 13 17,ac 19 18,aB 19 1,aC 19 21 1 2,⟨some (19,false),.len 22 true (.t 21),none,22⟩,aS 19 23 22 64,au 24 19 23,ac 25 24,aB 25 1,aC 25 27 1 3,az 25 28 27,aO 28 1,aQ 28 30 1 1,⟨some (28,true),.bin 31 .eql (.t 30) (.v (.string ⟨#[]⟩)),none,31⟩,aG 28 32 31,aB 32 1,aC 32 34 1 2,⟨some (32,false),.bin 35 .neq (.t 34) (.v (.string ⟨#[]⟩)),none,35⟩,bG 28 36 32 35,bD 25 37 28 36,au 38 25 37]
def c161r2:Ku:=[af 2 1]
def c161r3:Ku:=[af 2 0]
def c161:SC:=(.seq (aa c161r0) (.seq (ab c161r1 38 c161r2) (.seq (aa c161r3) .ret)))
def v161:Kz:=([1],[1,3,8,14,20,26,29,33])
def o161:KB:=[.t 2]
theorem s161 : gv Tryz.prog Tryz.f161.ntmps v161.1 v161.2 ((Tryz.f161.body).getD .skip) = some c161 := by kernel_rfl
theorem q161 : fF Tryz.prog Tryz.f161.ntmps v161.1 v161.2 Tryz.f161.results.toList = some o161 := by kernel_rfl
def c162r0:Ku:=[aM 4]
def c162r1:Ku:=[ac 7 1,bz 8 7,⟨none,.bin 9 .mul (.v (.int .u64 2)) (.t 8),none,0⟩,ac 5 9]
def c162r2:Ku:=[ac 10 1,aR 11 10 0]
def c162r3:Ku:=[ac 12 1,aD 13 12 1,dm 14 13,bz 15 14,⟨none,.bin 16 .mul (.v (.int .u64 2)) (.t 15),none,0⟩,⟨none,.bin 17 .add (.t 16) (.v (.int .u64 1)),none,0⟩,ac 5 17]
def c162r4:Ku:=[ac 18 0,ar 19 176 18,ac 6 19]
def c162r5:Ku:=[ac 20 5,dF 21 20 128]
def c162r6:Ku:=[ac 22 6,ac 23 5,dp 24 23 128,⟨none,.bin 25 .add (.v (.int .u64 128)) (.t 24),none,0⟩,bJ 26 25,cf 27 5 1 1 0 1 26,aP 28 22 27 5 1 1,ac 6 28]
def c162r7:Ku:=[ac 29 5,dG 30 29 128,ac 5 30]
def c162r8:Ku:=[ac 31 6,ac 32 5,bJ 33 32,cf 34 5 1 1 0 1 33,aP 35 31 34 5 1 1,ac 4 35]
def c162:SC:=(.seq (aa c162r0) (.seq (aa c162r1) (.seq (.seq (aa c162r2) (.cond (.t 11) (aa c162r3) .skip)) (.seq (aa c162r4) (.seq (.blk 0 (.loop (.seq (.seq (aa c162r5) (.cond (.t 21) .skip (.exit 0))) (.blk 1 (.seq (aa c162r6) (aa c162r7)))))) (.seq (aa c162r8) .ret))))))
def v162:Kz:=([],[])
def o162:KB:=[.t 4]
theorem s162 : gv Tryz.prog Tryz.f162.ntmps v162.1 v162.2 ((Tryz.f162.body).getD .skip) = some c162 := by kernel_rfl
theorem q162 : fF Tryz.prog Tryz.f162.ntmps v162.1 v162.2 Tryz.f162.results.toList = some o162 := by kernel_rfl
def c163r0:Ku:=[aF 3 0,aM 6,af 7 0]
def c163r1:Ku:=[ao 10 3 0 5,ar 11 161 10,ac 8 11]
def c163r2:Ku:=[ac 12 8,aL 13 12 0]
def c163r3:Ku:=[ac 14 8,aM 6,ac 7 14]
def c163r4:Ku:=[ac 15 1,ar 16 184 15,aN 17 16,ac 18 17,az 18 19 2,a8 18 20 184 19,aU 18 21 20,au 22 18 21]
def c163r5:Ku:=[aM 6,af 7 1]
def c163r6:Ku:=[ah 3,ai 24 3 0,ac 25 1,ba 26 24 25,dh 27 162 26,ac 9 27]
def c163r7:Ku:=[ac 28 9,ah 3,ai 30 3 4,ac 31 2,ba 32 30 31,ay 33 162 28 32,ac 9 33]
def c163r8:Ku:=[ah 3,ai 35 3 3]
def c163r9:Ku:=[ac 36 9,⟨none,.bls 37 5 1 1 [(.int .u8 0)] [(0,1,(.v (.int .u8 1)))],none,0⟩,aP 38 36 37 5 1 1,ac 9 38]
def c163r10:Ku:=[ac 39 9,⟨none,.bls 40 5 1 1 [(.int .u8 0)] [(0,1,(.v (.int .u8 0)))],none,0⟩,aP 41 39 40 5 1 1,ac 9 41]
def c163r11:Ku:=[ac 42 9,ah 3,ai 44 3 1,ay 45 185 42 44,ac 9 45]
def c163r12:Ku:=[ac 46 9,ah 3,ai 48 3 2,ay 49 185 46 48,ac 6 49,af 7 0]
def c163:SC:=(.seq (aa c163r0) (.seq (aa c163r1) (.seq (ab c163r2 13 c163r3) (.seq (ab c163r4 22 c163r5) (.seq (aa c163r6) (.seq (aa c163r7) (.seq (.seq (aa c163r8) (.cond (.t 35) (aa c163r9) (aa c163r10))) (.seq (aa c163r11) (.seq (aa c163r12) .ret)))))))))
def v163:Kz:=([3],[3,23,29,34,43,47])
def o163:KB:=[.t 6,.t 7]
theorem s163 : gv Tryz.prog Tryz.f163.ntmps v163.1 v163.2 ((Tryz.f163.body).getD .skip) = some c163 := by kernel_rfl
theorem q163 : fF Tryz.prog Tryz.f163.ntmps v163.1 v163.2 Tryz.f163.results.toList = some o163 := by kernel_rfl
def c164r0:Ku:=[aM 2]
def c164r1:Ku:=[bT 3,ac 4 0,aP 5 3 4 5 1 1,ac 6 0,ar 7 187 6,ar 8 186 7,aP 9 5 8 5 1 1,ac 2 9]
def c164:SC:=(.seq (aa c164r0) (.seq (aa c164r1) .ret))
def v164:Kz:=([],[])
def o164:KB:=[.t 2]
theorem s164 : gv Tryz.prog Tryz.f164.ntmps v164.1 v164.2 ((Tryz.f164.body).getD .skip) = some c164 := by kernel_rfl
theorem q164 : fF Tryz.prog Tryz.f164.ntmps v164.1 v164.2 Tryz.f164.results.toList = some o164 := by kernel_rfl
def c165r0:Ku:=[aM 6]
def c165r1:Ku:=[ac 10 0,ar 11 176 10,ac 7 11]
def c165r2:Ku:=[ac 12 2,aR 13 12 1,ac 14 13,az 14 15 2,aS 14 16 15 8,au 17 14 16]
def c165r3:Ku:=[ac 18 7,ac 6 18]
def c165r4:Ku:=[ac 19 2,af 20 0]
def c165r5:Ku:=[aK 21 20 19]
def c165r6:Ku:=[ac 22 20,ac 8 22]
def c165r7:Ku:=[ac 23 1,ac 9 23]
def c165r8:Ku:=[ac 24 2,bw 25 24 1,ac 26 8,ba 27 25 26,af 28 0]
def c165r9:Ku:=[aK 29 28 27]
def c165r10:Ku:=[ac 30 9,dG 31 30 256,ac 9 31]
def c165r11:Ku:=[aD 32 28 1,ac 28 32]
def c165r12:Ku:=[ac 33 7,ac 34 9,dp 35 34 256,bJ 36 35,cf 37 5 1 1 0 1 36,aP 38 33 37 5 1 1,ac 7 38]
def c165r13:Ku:=[aD 39 20 1,ac 20 39]
def c165r14:Ku:=[ac 40 7,ac 6 40]
def c165:SC:=(.seq (aa c165r0) (.seq (aa c165r1) (.seq (ab c165r2 17 c165r3) (.seq (.seq (aa c165r4) (.blk 0 (.loop (.seq (aa c165r5) (.seq (.cond (.t 21) .skip (.exit 0)) (.seq (.blk 1 (.seq (aa c165r6) (.seq (aa c165r7) (.seq (.seq (aa c165r8) (.blk 2 (.loop (.seq (aa c165r9) (.seq (.cond (.t 29) .skip (.exit 2)) (.seq (.blk 3 (aa c165r10)) (aa c165r11))))))) (aa c165r12))))) (aa c165r13))))))) (.seq (aa c165r14) .ret)))))
def v165:Kz:=([],[])
def o165:KB:=[.t 6]
theorem s165 : gv Tryz.prog Tryz.f165.ntmps v165.1 v165.2 ((Tryz.f165.body).getD .skip) = some c165 := by kernel_rfl
theorem q165 : fF Tryz.prog Tryz.f165.ntmps v165.1 v165.2 Tryz.f165.results.toList = some o165 := by kernel_rfl
def c166r0:Ku:=[aE 4]
def c166r1:Ku:=[ac 5 0,dq 6 5,ac 7 1,dq 8 7,bm 9 6 8,ac 4 9]
def c166:SC:=(.seq (aa c166r0) (.seq (aa c166r1) .ret))
def v166:Kz:=([],[])
def o166:KB:=[.t 4]
def c167r0:Ku:=[aT 2 0,aT 3 1,bc 4,af 5 0]
def c167r1:Ku:=[aI 6 2 3,aj 7 3,cC 8 189 2 3,a0 9 188 6 7 8,am 10 9 0,am 11 9 1,ak 4 0 3 10,ac 5 11]
def c167:SC:=(.seq (aa c167r0) (.seq (aa c167r1) .ret))
def v167:Kz:=([4],[4])
def o167:KB:=[.r 4 (some 3),.t 5]
def c168r0:Ku:=[aE 6]
def c168r1:Ku:=[ac 10 0,av 11 10,ac 12 1,av 13 12,bC 14 11 13]
def c168r2:Ku:=[aE 6]
def c168r3:Ku:=[ac 15 0,av 16 15,af 17 0]
def c168r4:Ku:=[aK 18 17 16]
def c168r5:Ku:=[ac 19 17,aA 20 15 17 10,aI 21 20 10,bg 8,ac 7 19,ak 8 0 10 21]
def c168r6:Ku:=[ac 22 1,ac 23 7,aA 24 22 23 10,aI 25 24 10,bg 9,ak 9 0 10 25]
def c168r7:Ku:=[ac 26 2,ao 27 8 0 10,ao 28 9 0 10,cp 29 26 27 28,aN 30 29]
def c168r8:Ku:=[aE 6]
def c168r9:Ku:=[aD 31 17 1,ac 17 31]
def c168r10:Ku:=[bL 6]
def c168:SC:=(.seq (aa c168r0) (.seq (ab c168r1 14 c168r2) (.seq (.seq (aa c168r3) (.blk 0 (.loop (.seq (aa c168r4) (.seq (.cond (.t 18) .skip (.exit 0)) (.seq (.blk 1 (.seq (aa c168r5) (.seq (aa c168r6) (ab c168r7 30 c168r8)))) (aa c168r9))))))) (.seq (aa c168r10) .ret))))
def v168:Kz:=([8,9],[8,9])
def o168:KB:=[.t 6]
def c169r0:Ku:=[aF 2 0,aF 3 1,aE 4]
def c169r1:Ku:=[ah 2,ai 7 2 9,ah 3,ai 9 3 9,ay 10 191 7 9,aN 11 10]
def c169r2:Ku:=[aE 4]
def c169r3:Ku:=[⟨none,.mv 5 (.v (.func (.func 192) #[] #[])),none,0⟩]
def c169r4:List (Bool × SI):=[(true,ac 12 5),(true,ao 13 2 0 10),(true,ac 15 5),(true,ao 16 3 0 10),(false,cm 14 12 13),(false,cm 17 15 16),(true,⟨none,.eqf 18 false [0,0,0,0,0,0,0,0,0] (.t 14) (.t 17),none,0⟩),(true,ac 4 18)]
def c169:SC:=(.seq (aa c169r0) (.seq (ab c169r1 11 c169r2) (.seq (aa c169r3) (.seq (.rgX c169r4) .ret))))
def v169:Kz:=([2,3],[2,3,6,8])
def o169:KB:=[.t 4]
def c170r0:Ku:=[aE 2]
def c170r1:Ku:=[ac 3 0,ac 4 0,bC 5 3 4,ac 2 5]
def c170:SC:=(.seq (aa c170r0) (.seq (aa c170r1) .ret))
def v170:Kz:=([],[])
def o170:KB:=[.t 2]
def c172r0:Ku:=[aF 2 0,bE 4]
def c172r1:List (Bool × SI):=[(true,ah 2),(true,ai 6 2 0),(true,ah 2),(true,ai 8 2 1),(true,ac 9 1),(true,bF 10 8 9 1),(false,ar 11 194 10),(true,dj 12 0 1 6 1 1 11)]
def c172r2:Ku:=[ak 4 0 2 12]
def c172:SC:=(.seq (aa c172r0) (.seq (.rgY c172r1 c172r2) .ret))
def v172:Kz:=([2,4],[2,4,5,7])
def o172:KB:=[.r 4 (some 2)]
def c173r0:Ku:=[af 6 0]
def c173r1:Ku:=[ac 7 1,aD 8 7 1,ac 9 0,av 10 9,aK 11 8 10]
def c173r2:Ku:=[ac 12 0,ac 13 1,aD 14 13 1,aA 15 12 14 2,aq 16 15 1,aj 17 16,ac 6 17]
def c173r3:Ku:=[ac 18 2,ac 6 18]
def c173:SC:=(.seq (aa c173r0) (.seq (ab c173r1 11 c173r2) (.seq (aa c173r3) .ret)))
def v173:Kz:=([],[])
def o173:KB:=[.t 6]
def c174r0:Ku:=[aF 1 0,af 2 0]
def c174r1:Ku:=[ao 6 1 0 2,ar 7 175 6,ac 5 7,am 8 5 0,am 9 5 1,ac 3 8,ac 4 9]
def c174r2:Ku:=[ac 10 3,av 11 10,aZ 12 11 0]
def c174r3:Ku:=[ah 1,ai 14 1 0,ac 2 14]
def c174r4:Ku:=[ac 15 3,ac 16 3,av 17 16,bw 18 17 1,aA 19 15 18 10,aq 20 19 1,aj 21 20,aD 22 21 1,ac 2 22]
def c174:SC:=(.seq (aa c174r0) (.seq (aa c174r1) (.seq (ab c174r2 12 c174r3) (.seq (aa c174r4) .ret))))
def v174:Kz:=([1],[1,13])
def o174:KB:=[.t 2]
def c175r0:Ku:=[aF 1 0,aM 2,af 3 0]
def c175r1:Ku:=[aM 4]
def c175r2:Ku:=[af 5 0]
def c175r3:Ku:=[ah 1,ai 11 1 1,ac 12 5,ay 13 195 11 12,ac 9 13,am 14 9 0,am 15 9 1,am 16 9 2,bg 6,ak 6 0 10 14,ac 7 15,ac 8 16]
def c175r4:Ku:=[ac 17 8,aL 18 17 0,ac 19 18,aB 19 6,aC 19 21 6 0,aB 19 1,aC 19 23 1 0,cW 19 24 21 23,au 25 19 24,ac 26 25,az 26 27 4,aW 26 28 27,aS 26 29 28 0,az 26 30 29,aO 30 6,aQ 30 32 6 0,aG 30 33 4,aG 30 34 4,cz 30 35 34,bS 30 36 35 1,bp 30 37 33 36 10,cN 30 38 37 1,bA 30 39 38,cD 30 40 32 39,bD 26 41 30 40,au 42 26 41]
def c175r5:Ku:=[ac 43 4,ac 44 5,ac 2 43,ac 3 44]
def c175r6:Ku:=[ac 45 4,ao 46 6 0 10,da 47 43 1 10 0 10 46,aP 48 45 47 43 10 96,ac 4 48]
def c175r7:Ku:=[ac 49 7,ac 5 49]
def c175:SC:=(.seq (aa c175r0) (.seq (aa c175r1) (.seq (aa c175r2) (.blk 0 (.loop (.blk 1 (.seq (aa c175r3) (.seq (.seq (.reg true c175r4) (.cond (.t 42) (.seq (aa c175r5) .ret) .skip)) (.seq (aa c175r6) (aa c175r7))))))))))
def v175:Kz:=([1,6],[1,6,10,20,22,31])
def o175:KB:=[.t 2,.t 3]
def c176r0:Ku:=[aM 2]
def c176r1:Ku:=[ac 3 0,dH 4 3 5 1 1,ac 2 4]
def c176:SC:=(.seq (aa c176r0) (.seq (aa c176r1) .ret))
def v176:Kz:=([],[])
def o176:KB:=[.t 2]
theorem s176 : gv Tryz.prog Tryz.f176.ntmps v176.1 v176.2 ((Tryz.f176.body).getD .skip) = some c176 := by kernel_rfl
theorem q176 : fF Tryz.prog Tryz.f176.ntmps v176.1 v176.2 Tryz.f176.results.toList = some o176 := by kernel_rfl
def c177r0:Ku:=[aq 8 1 0,aj 9 8,af 3 0,ac 4 9]
def c177r1:Ku:=[aq 11 1 1,aj 12 11,ac 13 3,ay 14 178 12 13,ac 10 14,am 15 10 0,am 16 10 1,am 17 10 2,bg 5,ak 5 0 10 15,ac 6 16,ac 7 17]
def c177r2:Ku:=[ac 18 7,aL 19 18 0,ac 20 19,aB 20 5,aC 20 22 5 0,az 20 23 4,cW 20 24 22 23,au 25 20 24,ac 26 25,az 26 27 0,cP 26 28 5 0 10,az 26 29 6,⟨some (26,false),.cav 30 (.t 27) [(.t 28),(.t 29)],none,30⟩,aU 26 31 30,au 32 26 31]
def c177r3:Ku:=[ac 33 6,ah 5,ai 35 5 1,aD 36 35 1,ac 3 33,ac 4 36]
def c177:SC:=(.seq (.reg true c177r0) (.blk 0 (.loop (.blk 1 (.seq (aa c177r1) (.seq (.seq (aa c177r2) (.cond (.t 32) .ret .skip)) (.reg true c177r3)))))))
def v177:Kz:=([5],[5,21,34])
def o177:KB:=[]
def c178r0:Ku:=[bg 4,af 5 0,af 6 0]
def c178r1:Ku:=[ac 12 0,ac 13 1,cr 14 196 12 13 4,ac 11 14,am 15 11 0,am 16 11 1,ac 7 15,ac 6 16]
def c178r2:Ku:=[ac 17 6,aL 18 17 0]
def c178r3:Ku:=[bu 19,ac 20 6,ak 4 0 10 19,af 5 0,ac 6 20]
def c178r4:Ku:=[ac 21 7,⟨none,.bin 22 .lss (.t 21) (.v (.int .u64 5)),none,0⟩,ac 23 22,az 23 24 7,dI 23 25 24 2044,au 26 23 25]
def c178r5:Ku:=[bu 27,ak 4 0 10 27,af 5 0,af 6 11]
def c178r6:Ku:=[ac 28 0,ac 29 1,aD 30 29 4,dl 31 28 30 1,ac 8 31]
def c178r7:Ku:=[ac 32 8,av 33 32,bz 34 33,ac 35 7,aK 36 34 35]
def c178r8:Ku:=[bu 37,ak 4 0 10 37,af 5 0,af 6 10]
def c178r9:Ku:=[ac 39 8,ac 40 7,bF 41 39 40 1,ar 42 197 41,ac 38 42,am 43 38 0,am 44 38 1,ac 9 43,ac 6 44]
def c178r10:Ku:=[ac 45 6,aL 46 45 0]
def c178r11:Ku:=[bu 47,ac 48 6,ak 4 0 10 47,af 5 0,ac 6 48]
def c178r12:Ku:=[ac 50 9,ar 51 198 50,ac 49 51,am 52 49 0,am 53 49 1,ak 4 0 10 52,ac 10 53]
def c178r13:Ku:=[ac 54 10,aN 55 54,ac 56 55,cP 56 57 4 0 10,a8 56 58 118 57,bi 56 59 58 0,au 60 56 59]
def c178r14:Ku:=[bu 61,ak 4 0 10 61,af 5 0,af 6 11]
def c178r15:Ku:=[ao 62 4 0 10,ac 63 1,aD 64 63 4,ac 65 7,bU 66 65,aY 67 64 66,ak 4 0 10 62,ac 5 67,af 6 0]
def c178:SC:=(.seq (aa c178r0) (.seq (aa c178r1) (.seq (ab c178r2 18 c178r3) (.seq (ab c178r4 26 c178r5) (.seq (aa c178r6) (.seq (ab c178r7 36 c178r8) (.seq (aa c178r9) (.seq (ab c178r10 46 c178r11) (.seq (aa c178r12) (.seq (ab c178r13 60 c178r14) (.seq (aa c178r15) .ret)))))))))))
def v178:Kz:=([4],[4])
def o178:KB:=[.r 4 (some 10),.t 5,.t 6]
def c179r0:Ku:=[aF 1 0,aE 2]
def c179r1:Ku:=[ah 1,ai 8 1 0,ah 1,ai 10 1 1,ah 1,ai 12 1 2,⟨none,.bls 13 3 3 1 [(.int .i64 0),(.int .i64 0),(.int .i64 0)] [(0,1,(.t 8)),(1,1,(.t 10)),(2,1,(.t 12))],none,0⟩,⟨none,.call 14 117 [(.i 1099511627776),(.t 13)],none,0⟩,aN 15 14,ac 16 15,aB 16 1,aC 16 18 1 3,aB 16 1,aC 16 20 1 5,aB 16 1,aC 16 22 1 6,⟨some (16,false),.bls 23 3 3 1 [(.int .i64 0),(.int .i64 0),(.int .i64 0)] [(0,1,(.t 18)),(1,1,(.t 20)),(2,1,(.t 22))],none,23⟩,⟨some (16,false),.call 24 117 [(.i 1048576),(.t 23)],none,24⟩,aU 16 25 24,au 26 16 25]
def c179r2:Ku:=[aE 2]
def c179r3:Ku:=[ah 1,ai 28 1 1,ah 1,ai 30 1 0,ba 31 28 30,ac 3 31]
def c179r4:Ku:=[ac 33 3,aR 34 33 0,ac 35 34,az 35 36 3,dE 35 37 36 16,au 38 35 37,ac 39 38,aB 39 1,aC 39 41 1 2,az 39 42 3,dk 39 43 41 42,aS 39 44 43 1099511627776,au 45 39 44,ac 46 45,aB 46 1,aC 46 48 1 6,az 46 49 3,dk 46 50 48 49,aS 46 51 50 1048576,au 52 46 51,ac 32 52]
def c179r5:Ku:=[aE 2]
def c179r6:Ku:=[ah 1,ai 55 1 4,⟨none,.bin 56 .lss (.t 55) (.i (-1)),none,0⟩,ac 57 56,aB 57 1,aC 57 59 1 4,aS 57 60 59 1099511627776,au 61 57 60,ac 53 61]
def c179r7:Ku:=[aE 2]
def c179r8:Ku:=[ah 1,ai 64 1 4,cT 65 64,ac 66 65,aO 66 1,aQ 66 68 1 5,aO 66 1,aQ 66 70 1 6,⟨some (66,true),.bin 71 .add (.t 68) (.t 70),none,71⟩,⟨some (66,true),.bin 72 .neq (.t 71) (.i 0),none,72⟩,aG 66 73 72,aB 73 1,aC 73 75 1 7,bG 66 76 73 75,aG 66 77 76,aB 77 1,aC 77 79 1 8,bi 77 80 79 0,bG 66 81 77 80,aJ 82 66 81,ac 62 82]
def c179r9:Ku:=[aE 2]
def c179r10:Ku:=[ah 1,ai 84 1 8]
def c179r11:Ku:=[aZ 86 84 0,ac 85 86]
def c179r12:Ku:=[ah 1,ai 88 1 0,ac 4 88]
def c179r13:Ku:=[ah 1,ai 90 1 9,av 91 90,af 92 0]
def c179r14:Ku:=[aK 93 92 91]
def c179r15:Ku:=[aA 94 90 92 5,aI 95 94 5,cd 6,ak 6 0 5 95]
def c179r16:Ku:=[ao 96 6 0 5,ar 97 199 96,aL 98 97 0,ac 99 98,aB 99 6,aC 99 101 6 0,az 99 102 4,cW 99 103 101 102,au 104 99 103,ac 105 104,aB 105 6,aC 105 107 6 0,aB 105 1,aC 105 109 1 1,bR 105 110 107 109,au 111 105 110]
def c179r17:Ku:=[aE 2]
def c179r18:Ku:=[ah 6,ai 113 6 0,aD 114 113 1,ac 4 114]
def c179r19:Ku:=[aD 115 92 1,ac 92 115]
def c179r20:Ku:=[bL 2]
def c179r21:Ku:=[aZ 117 84 1,ac 116 117]
def c179r22:Ku:=[aZ 118 84 2,ac 116 118]
def c179r23:Ku:=[ac 119 3,aZ 120 119 0,ac 121 120,aO 121 1,aQ 121 123 1 9,cz 121 124 123,bd 121 125 124 0,aJ 126 121 125,ac 127 126,aO 127 1,aQ 127 129 1 7,aJ 130 127 129,ac 2 130]
def c179r24:Ku:=[aE 2]
def c179:SC:=(.seq (aa c179r0) (.seq (ab c179r1 26 c179r2) (.seq (aa c179r3) (.seq (.blk 0 (.seq (aa c179r4) (.cond (.t 32) (.seq (aa c179r5) .ret) (.seq (aa c179r6) (.cond (.t 53) (.seq (aa c179r7) .ret) (ab c179r8 62 c179r9)))))) (.seq (.seq (aa c179r10) (.blk 1 (.seq (aa c179r11) (.cond (.t 85) (.seq (aa c179r12) (.seq (.seq (aa c179r13) (.blk 2 (.loop (.seq (aa c179r14) (.seq (.cond (.t 93) .skip (.exit 2)) (.seq (.blk 3 (.seq (aa c179r15) (.seq (ab c179r16 111 c179r17) (aa c179r18)))) (aa c179r19))))))) (.seq (aa c179r20) .ret))) (.seq (.seq (aa c179r21) (.cond (.t 116) .skip (aa c179r22))) (.cond (.t 116) (.seq (aa c179r23) .ret) .skip)))))) (.seq (aa c179r24) .ret))))))
def v179:Kz:=([1,6],[1,6,7,9,11,17,19,21,27,29,40,47,54,58,63,67,69,74,78,83,87,89,100,106,108,112,122,128])
def o179:KB:=[.t 2]
theorem s179 : gv Tryz.prog Tryz.f179.ntmps v179.1 v179.2 ((Tryz.f179.body).getD .skip) = some c179 := by kernel_rfl
theorem q179 : fF Tryz.prog Tryz.f179.ntmps v179.1 v179.2 Tryz.f179.results.toList = some o179 := by kernel_rfl
def c180r0:Ku:=[aF 1 0,aM 2]
def c180r1:Ku:=[aM 3]
def c180r2:Ku:=[ah 1,ai 13 1 0,ah 1,ai 15 1 1,ah 1,ai 17 1 0,ba 18 15 17,ah 1,ai 20 1 2,ah 1,ai 22 1 3,ah 1,ai 24 1 4,ah 1,ai 26 1 5,ah 1,ai 28 1 6,⟨none,.bld 29 [(.int .i64 0),(.int .i64 0),(.int .i64 0),(.int .i64 0),(.int .i64 0),(.int .i64 0),(.int .i64 0)] [(0,1,(.t 13)),(1,1,(.t 18)),(2,1,(.t 20)),(3,1,(.t 22)),(4,1,(.t 24)),(5,1,(.t 26)),(6,1,(.t 28))],none,0⟩,af 30 0]
def c180r3:Ku:=[aR 31 30 7]
def c180r4:Ku:=[⟨none,.ixV 32 (.t 29) (.t 30) 7 1 none,none,0⟩,ac 5 32]
def c180r5:Ku:=[ac 33 3,ac 34 5,ay 35 200 33 34,ac 3 35]
def c180r6:Ku:=[aD 36 30 1,ac 30 36]
def c180r7:Ku:=[ah 1,ai 38 1 8,bJ 39 38,ac 6 39]
def c180r8:Ku:=[ah 1,ai 41 1 7]
def c180r9:Ku:=[ac 42 6,⟨none,.bin 43 .or (.t 42) (.v (.int .u8 4)),none,0⟩,ac 6 43]
def c180r10:List (Bool × SI):=[(true,ac 44 3),(true,ac 45 6),(true,ah 1),(true,ai 49 1 9),(true,av 50 49),(false,cf 46 5 1 1 0 1 45),(false,aP 47 44 46 5 1 1),(false,ay 51 200 47 50),(true,ac 3 51)]
def c180r11:Ku:=[ah 1,ai 53 1 9,av 54 53,bq 55 54 0]
def c180r12:Ku:=[ah 1,ai 57 1 9,cS 58 57 0 5,aq 59 58 4,aj 60 59,ac 7 60]
def c180r13:Ku:=[ac 61 3,ac 62 7,ay 63 200 61 62,ac 3 63]
def c180r14:Ku:=[ah 1,ai 65 1 9,av 66 65,af 67 0]
def c180r15:Ku:=[aK 68 67 66]
def c180r16:Ku:=[aA 69 65 67 5,aI 70 69 5,cd 9,ak 9 0 5 70]
def c180r17:Ku:=[ao 72 9 0 5,ah 1,ai 74 1 0,ac 75 7,a0 76 201 72 74 75,ac 71 76,am 77 71 0,am 78 71 1,ac 10 77,ac 11 78]
def c180r18:Ku:=[ac 79 3,ac 80 10,aP 81 79 80 5 1 1,ac 3 81]
def c180r19:Ku:=[aD 82 67 1,ac 67 82]
def c180r20:Ku:=[ac 83 3,ar 84 202 83,ac 3 84]
def c180r21:Ku:=[ac 85 3,av 86 85,bz 87 86,⟨none,.call 88 203 [(.v (.slice none 0 0)),(.t 87),(.i 4)],none,0⟩,ac 89 3,aP 90 88 89 5 1 1,ac 2 90]
def c180:SC:=(.seq (aa c180r0) (.seq (aa c180r1) (.seq (.seq (aa c180r2) (.blk 0 (.loop (.seq (aa c180r3) (.seq (.cond (.t 31) .skip (.exit 0)) (.seq (.blk 1 (.seq (aa c180r4) (aa c180r5))) (aa c180r6))))))) (.seq (aa c180r7) (.seq (.seq (aa c180r8) (.cond (.t 41) (aa c180r9) .skip)) (.seq (.rgX c180r10) (.seq (.seq (aa c180r11) (.cond (.t 55) (.seq (aa c180r12) (.seq (aa c180r13) (.seq (aa c180r14) (.blk 2 (.loop (.seq (aa c180r15) (.seq (.cond (.t 68) .skip (.exit 2)) (.seq (.blk 3 (.seq (aa c180r16) (.seq (aa c180r17) (aa c180r18)))) (aa c180r19))))))))) .skip)) (.seq (aa c180r20) (.seq (aa c180r21) .ret)))))))))
def v180:Kz:=([1,9],[1,9,12,14,16,19,21,23,25,27,37,40,48,52,56,64,73])
def o180:KB:=[.t 2]
theorem s180 : gv Tryz.prog Tryz.f180.ntmps v180.1 v180.2 ((Tryz.f180.body).getD .skip) = some c180 := by kernel_rfl
theorem q180 : fF Tryz.prog Tryz.f180.ntmps v180.1 v180.2 Tryz.f180.results.toList = some o180 := by kernel_rfl
def c181r0:Ku:=[aM 4]
def c181r1:Ku:=[ac 5 1,aR 6 5 0]
def c181r2:Ku:=[ac 8 1,ac 9 0,⟨none,.cpc 10 (.t 9),none,0⟩,ac 11 0,av 12 11,ba 13 10 12,ba 14 8 13,ac 1 14]
def c181r3:Ku:=[ac 15 1,bq 16 15 0]
def c181r4:Ku:=[ac 17 0,ac 18 0,⟨none,.cpc 19 (.t 18),none,0⟩,bF 20 17 19 1,ac 21 1,⟨none,.apz 22 5 1 1 (.t 20) (.t 21),none,0⟩,ac 23 0,av 24 23,bF 25 22 24 1,ac 0 25]
def c181r5:Ku:=[ac 26 0,ac 4 26]
def c181:SC:=(.seq (aa c181r0) (.seq (.seq (aa c181r1) (.cond (.t 6) .dead .skip)) (.seq (.seq (aa c181r2) (.seq (aa c181r3) (.cond (.t 16) (aa c181r4) .skip))) (.seq (aa c181r5) .ret))))
def v181:Kz:=([],[])
def o181:KB:=[.t 4]
def c182r0:Ku:=[aj 4 1,av 5 4,bw 6 5 1,ac 3 6]
def c182r1:Ku:=[ac 7 3,bf 8 7 0]
def c182r2:Ku:=[ac 11 0,ac 12 3,aj 13 1,ac 14 3,aA 15 13 14 2,aI 16 15 2,cp 17 11 12 16,aN 18 17]
def c182r3:Ku:=[ac 9 3,bw 10 9 1,ac 3 10]
def c182:SC:=(.seq (aa c182r0) (.blk 0 (.loop (.seq (.seq (aa c182r1) (.cond (.t 8) .skip (.exit 0))) (.seq (.blk 1 (.seq (aa c182r2) (.cond (.t 18) .ret .skip))) (aa c182r3))))))
def v182:Kz:=([],[])
def o182:KB:=[]
def c183r0:Ku:=[aT 2 0,aT 3 1,af 4 0]
def c183r1:Ku:=[aj 5 2,av 6 5,cC 7 204 2 3,ay 8 144 6 7,ac 4 8]
def c183:SC:=(.seq (aa c183r0) (.seq (aa c183r1) .ret))
def v183:Kz:=([],[])
def o183:KB:=[.t 4]
def c184r0:Ku:=[aE 2]
def c184r1:Ku:=[ac 3 0,bf 4 3 0,ac 5 4,aG 5 6 0,bI 5 7 6 1099511627776,aJ 8 5 7,ac 2 8]
def c184:SC:=(.seq (aa c184r0) (.seq (aa c184r1) .ret))
def v184:Kz:=([],[])
def o184:KB:=[.t 2]
theorem s184 : gv Tryz.prog Tryz.f184.ntmps v184.1 v184.2 ((Tryz.f184.body).getD .skip) = some c184 := by kernel_rfl
theorem q184 : fF Tryz.prog Tryz.f184.ntmps v184.1 v184.2 Tryz.f184.results.toList = some o184 := by kernel_rfl
def c185r0:Ku:=[aM 4]
def c185r1:Ku:=[ac 5 0,ac 6 1,dr 7 6,ay 8 162 5 7,ac 9 1,aP 10 8 9 5 1 1,ac 4 10]
def c185:SC:=(.seq (aa c185r0) (.seq (aa c185r1) .ret))
def v185:Kz:=([],[])
def o185:KB:=[.t 4]
theorem s185 : gv Tryz.prog Tryz.f185.ntmps v185.1 v185.2 ((Tryz.f185.body).getD .skip) = some c185 := by kernel_rfl
theorem q185 : fF Tryz.prog Tryz.f185.ntmps v185.1 v185.2 Tryz.f185.results.toList = some o185 := by kernel_rfl
def c186r0:Ku:=[aM 2]
def c186r1:Ku:=[ac 3 0,cX 4 3 16777216,bJ 5 4,ac 6 0,cX 7 6 65536,bJ 8 7,ac 9 0,cX 10 9 256,bJ 11 10,ac 12 0,bJ 13 12,⟨none,.bls 14 5 4 1 [(.int .u8 0),(.int .u8 0),(.int .u8 0),(.int .u8 0)] [(0,1,(.t 5)),(1,1,(.t 8)),(2,1,(.t 11)),(3,1,(.t 13))],none,0⟩,ac 2 14]
def c186:SC:=(.seq (aa c186r0) (.seq (aa c186r1) .ret))
def v186:Kz:=([],[])
def o186:KB:=[.t 2]
theorem s186 : gv Tryz.prog Tryz.f186.ntmps v186.1 v186.2 ((Tryz.f186.body).getD .skip) = some c186 := by kernel_rfl
theorem q186 : fF Tryz.prog Tryz.f186.ntmps v186.1 v186.2 Tryz.f186.results.toList = some o186 := by kernel_rfl
def c187r0:Ku:=[cv 2 0]
def c187r1:Ku:=[cv 3 4294967295]
def c187r2:Ku:=[af 4 0]
def c187r3:Ku:=[ac 5 4,ac 6 0,av 7 6,aK 8 5 7]
def c187r4:Ku:=[ac 11 3,ac 12 0,ac 13 4,aA 14 12 13 1,aj 15 14,⟨none,.cvI 16 .u32 (.t 15),none,0⟩,cI 17 11 16,bP 18 205 17 8,ac 3 18]
def c187r5:Ku:=[ac 9 4,aD 10 9 1,ac 4 10]
def c187r6:Ku:=[ac 19 3,⟨none,.bin 20 .xor (.t 19) (.v (.int .u32 4294967295)),none,0⟩,ac 2 20]
def c187:SC:=(.seq (aa c187r0) (.seq (aa c187r1) (.seq (.seq (aa c187r2) (.blk 0 (.loop (.seq (.seq (aa c187r3) (.cond (.t 8) .skip (.exit 0))) (.seq (.blk 1 (aa c187r4)) (aa c187r5)))))) (.seq (aa c187r6) .ret))))
def v187:Kz:=([],[])
def o187:KB:=[.t 2]
theorem s187 : gv Tryz.prog Tryz.f187.ntmps v187.1 v187.2 ((Tryz.f187.body).getD .skip) = some c187 := by kernel_rfl
theorem q187 : fF Tryz.prog Tryz.f187.ntmps v187.1 v187.2 Tryz.f187.results.toList = some o187 := by kernel_rfl
def c188r0:Ku:=[aF 3 0,bc 6,af 7 0]
def c188r1:Ku:=[ao 9 3 0 3,ar 10 62 9,ac 8 10]
def c188r2:Ku:=[ac 11 8,aL 12 11 0]
def c188r3:Ku:=[bB 13,ac 14 8,ak 6 0 3 13,ac 7 14]
def c188r4:Ku:=[ao 15 3 0 3,ac 16 1,ay 17 206 15 16,aN 18 17]
def c188r5:Ku:=[bB 19,ak 6 0 3 19,af 7 90]
def c188r6:Ku:=[ac 20 2,dt 21 20,ak 6 0 3 21,af 7 0]
def c188:SC:=(.seq (aa c188r0) (.seq (.seq (aa c188r1) (ab c188r2 12 c188r3)) (.seq (ab c188r4 18 c188r5) (.seq (aa c188r6) .ret))))
def v188:Kz:=([3,6],[3,6])
def o188:KB:=[.r 6 (some 3),.t 7]
def c189r0:Ku:=[bc 2]
def c189r1:Ku:=[aM 3]
def c189r2:Ku:=[aq 6 0 2,aj 7 6,av 8 7,af 9 0]
def c189r3:Ku:=[aK 10 9 8]
def c189r4:Ku:=[aA 11 7 9 2,aI 12 11 2,bE 5,ak 5 0 2 12]
def c189r5:Ku:=[ah 5,ai 14 5 0,aj 15 1,aK 16 14 15]
def c189r6:Ku:=[ac 17 3,ao 18 5 0 2,aj 19 1,ay 20 190 18 19,bX 21 120 1 2 0 2 20,aP 22 17 21 120 2 32,ac 3 22]
def c189r7:Ku:=[aD 23 9 1,ac 9 23]
def c189r8:Ku:=[ac 24 3,av 25 24,aZ 26 25 0]
def c189r9:Ku:=[aj 27 1,dv 28 0 1 27,bX 29 120 1 2 0 2 28,ac 3 29]
def c189r10:Ku:=[aI 30 0 3,ac 31 3,ay 32 122 30 31,ak 2 0 3 32]
def c189:SC:=(.seq (aa c189r0) (.seq (aa c189r1) (.seq (.seq (aa c189r2) (.blk 0 (.loop (.seq (aa c189r3) (.seq (.cond (.t 10) .skip (.exit 0)) (.seq (.blk 1 (.seq (aa c189r4) (.seq (aa c189r5) (.cond (.t 16) (aa c189r6) .skip)))) (aa c189r7))))))) (.seq (.seq (aa c189r8) (.cond (.t 26) (aa c189r9) .skip)) (.seq (aa c189r10) .ret)))))
def v189:Kz:=([2,5],[2,5,13])
def o189:KB:=[.r 2 (some 3)]
def c190r0:Ku:=[aT 2 0,aT 3 1,dx 4]
def c190r1:Ku:=[cj 5,cQ 5 1 0]
def c190r2:Ku:=[aI 8 2 2,ar 9 151 8]
def c190r3:Ku:=[bg 6,ak 6 0 10 10]
def c190r4:Ku:=[ac 7 11]
def c190r5:Ku:=[ah 6,ai 13 6 1,aj 14 3,cG 15 13 14]
def c190r6:Ku:=[ac 16 7,aH 5 1 16]
def c190r7:Ku:=[aI 17 2 2,aj 18 5,ay 19 172 17 18,aH 4 2 19]
def c190:SC:=(.seq (aa c190r0) (.seq (aa c190r1) (.seq (.seq (aa c190r2) (.blk 0 (.rf (.t 9) [10,11] (.seq (aa c190r3) (aa c190r4)) (.blk 1 (.seq (.seq (aa c190r5) (.cond (.t 15) (.exit 0) .skip)) (aa c190r6)))))) (.seq (aa c190r7) .ret))))
def v190:Kz:=([6],[6,12])
def o190:KB:=[.c 4 (some 2)]
def c191r0:Ku:=[aE 4]
def c191r1:Ku:=[ac 6 0,av 7 6,ac 8 1,av 9 8,bC 10 7 9]
def c191r2:Ku:=[aE 4]
def c191r3:Ku:=[ac 11 0,av 12 11,af 13 0]
def c191r4:Ku:=[aK 14 13 12]
def c191r5:Ku:=[ac 15 13,ac 5 15]
def c191r6:Ku:=[ac 16 0,ac 17 5,aA 18 16 17 5,aI 19 18 5,ac 20 1,ac 21 5,aA 22 20 21 5,aI 23 22 5,⟨none,.eqf 24 true [0,2,2,1,0] (.t 19) (.t 23),none,0⟩]
def c191r7:Ku:=[aE 4]
def c191r8:Ku:=[aD 25 13 1,ac 13 25]
def c191r9:Ku:=[bL 4]
def c191:SC:=(.seq (aa c191r0) (.seq (ab c191r1 10 c191r2) (.seq (.seq (aa c191r3) (.blk 0 (.loop (.seq (aa c191r4) (.seq (.cond (.t 14) .skip (.exit 0)) (.seq (.blk 1 (.seq (aa c191r5) (.seq (.reg true c191r6) (.cond (.t 24) (.seq (aa c191r7) .ret) .skip)))) (aa c191r8))))))) (.seq (aa c191r9) .ret))))
def v191:Kz:=([],[])
def o191:KB:=[.t 4]
def c192r0:Ku:=[aF 1 0,⟨none,.alR 2 [(.int .i64 0),(.int .i64 0),(.int .i64 0),(.int .i64 0),(.int .i64 0),(.int .i64 0),(.int .i64 0),(.int .i64 0),(.int .i64 0)],none,0⟩]
def c192r1:Ku:=[ah 1,ai 5 1 8,⟨none,.bin 6 .mul (.t 5) (.i 2),none,0⟩,ac 3 6]
def c192r2:Ku:=[ah 1,ai 8 1 7]
def c192r3:Ku:=[ac 9 3,aD 10 9 1,ac 3 10]
def c192r4:Ku:=[ah 1,ai 12 1 0,ah 1,ai 14 1 1,ah 1,ai 16 1 2,ah 1,ai 18 1 3,ah 1,ai 20 1 4,ah 1,ai 22 1 5,ah 1,ai 24 1 6,ah 1,ai 26 1 8,ac 27 3,ah 1,ai 29 1 8,⟨none,.bin 30 .mul (.t 29) (.i 2),none,0⟩,ba 31 27 30,⟨none,.bld 32 [(.int .i64 0),(.int .i64 0),(.int .i64 0),(.int .i64 0),(.int .i64 0),(.int .i64 0),(.int .i64 0),(.int .i64 0),(.int .i64 0)] [(0,1,(.t 12)),(1,1,(.t 14)),(2,1,(.t 16)),(3,1,(.t 18)),(4,1,(.t 20)),(5,1,(.t 22)),(6,1,(.t 24)),(7,1,(.t 26)),(8,1,(.t 31))],none,0⟩,ak 2 0 9 32]
def c192:SC:=(.seq (aa c192r0) (.seq (aa c192r1) (.seq (.seq (aa c192r2) (.cond (.t 8) (aa c192r3) .skip)) (.seq (aa c192r4) .ret))))
def v192:Kz:=([1,2],[1,2,4,7,11,13,15,17,19,21,23,25,28])
def o192:KB:=[.r 2 (some 9)]
def c194r0:Ku:=[aM 2]
def c194r1:Ku:=[ac 3 0,cR 4 3]
def c194r2:Ku:=[aM 2]
def c194r3:Ku:=[bT 5,ac 6 0,aP 7 5 6 5 1 1,ac 2 7]
def c194:SC:=(.seq (aa c194r0) (.seq (ab c194r1 4 c194r2) (.seq (aa c194r3) .ret)))
def v194:Kz:=([],[])
def o194:KB:=[.t 2]
theorem s194 : gv Tryz.prog Tryz.f194.ntmps v194.1 v194.2 ((Tryz.f194.body).getD .skip) = some c194 := by kernel_rfl
theorem q194 : fF Tryz.prog Tryz.f194.ntmps v194.1 v194.2 Tryz.f194.results.toList = some o194 := by kernel_rfl
def c195r0:Ku:=[bg 4,af 5 0,af 6 0]
def c195r1:Ku:=[ac 14 0,ac 15 1,cr 16 207 14 15 4,ac 13 16,am 17 13 0,am 18 13 1,ac 7 17,ac 8 18]
def c195r2:Ku:=[ac 19 8,aL 20 19 0]
def c195r3:Ku:=[bu 21,ac 22 8,ak 4 0 10 21,af 5 0,ac 6 22]
def c195r4:Ku:=[ac 23 7,⟨none,.bin 24 .lss (.t 23) (.v (.int .u64 5)),none,0⟩,ac 25 24,az 25 26 7,dI 25 27 26 2044,au 28 25 27]
def c195r5:Ku:=[bu 29,ak 4 0 10 29,af 5 0,af 6 11]
def c195r6:Ku:=[ac 30 1,aD 31 30 4,ac 32 7,bU 33 32,aY 34 31 33,ac 9 34]
def c195r7:Ku:=[ac 35 9,ac 36 0,av 37 36,bM 38 35 37]
def c195r8:Ku:=[bu 39,ak 4 0 10 39,af 5 0,af 6 10]
def c195r9:Ku:=[ac 41 0,ac 42 1,aD 43 42 4,ac 44 9,dJ 45 41 43 44 1,ar 46 208 45,ac 40 46,am 47 40 0,am 48 40 1,ac 10 47,ac 8 48]
def c195r10:Ku:=[ac 49 8,aL 50 49 0]
def c195r11:Ku:=[bu 51,ac 52 8,ak 4 0 10 51,af 5 0,ac 6 52]
def c195r12:Ku:=[ac 54 10,ar 55 209 54,ac 53 55,am 56 53 0,am 57 53 1,bg 11,ak 11 0 10 56,ac 12 57]
def c195r13:Ku:=[ac 58 12,aN 59 58,ac 60 59,cP 60 61 11 0 10,a8 60 62 73 61,bi 60 63 62 0,au 64 60 63]
def c195r14:Ku:=[bu 65,ak 4 0 10 65,af 5 0,af 6 11]
def c195r15:Ku:=[ao 66 11 0 10,ac 67 9,ak 4 0 10 66,ac 5 67,af 6 0]
def c195:SC:=(.seq (aa c195r0) (.seq (aa c195r1) (.seq (ab c195r2 20 c195r3) (.seq (ab c195r4 28 c195r5) (.seq (aa c195r6) (.seq (ab c195r7 38 c195r8) (.seq (aa c195r9) (.seq (ab c195r10 50 c195r11) (.seq (aa c195r12) (.seq (ab c195r13 64 c195r14) (.seq (aa c195r15) .ret)))))))))))
def v195:Kz:=([4,11],[4,11])
def o195:KB:=[.r 4 (some 10),.t 5,.t 6]
def c196r0:Ku:=[bN 6 0,af 7 0]
def c196r1:Ku:=[ac 12 2,aR 13 12 1,ac 14 13,az 14 15 2,aS 14 16 15 8,au 17 14 16,ac 18 17,az 18 19 1,bh 18 20 19 0,au 21 18 20]
def c196r2:Ku:=[bN 6 0,af 7 1]
def c196r3:Ku:=[ac 22 0,ac 23 1,ay 24 210 22 23,ac 8 24]
def c196r4:Ku:=[ac 25 8,av 26 25,ac 27 2,aK 28 26 27]
def c196r5:Ku:=[bN 6 0,af 7 10]
def c196r6:Ku:=[bN 9 0]
def c196r7:Ku:=[ac 29 8,ac 30 2,bF 31 29 30 1,av 32 31,af 33 0]
def c196r8:Ku:=[aK 34 33 32]
def c196r9:Ku:=[aA 35 31 33 1,aj 36 35,ac 11 36]
def c196r10:Ku:=[ac 37 9,⟨none,.bin 38 .shl (.t 37) (.v (.int .u64 8)),none,0⟩,ac 39 11,bz 40 39,⟨none,.bin 41 .or (.t 38) (.t 40),none,0⟩,ac 9 41]
def c196r11:Ku:=[aD 42 33 1,ac 33 42]
def c196r12:Ku:=[ac 43 9,ac 6 43,af 7 0]
def c196:SC:=(.seq (aa c196r0) (.seq (ab c196r1 21 c196r2) (.seq (aa c196r3) (.seq (ab c196r4 28 c196r5) (.seq (aa c196r6) (.seq (.seq (aa c196r7) (.blk 0 (.loop (.seq (aa c196r8) (.seq (.cond (.t 34) .skip (.exit 0)) (.seq (.blk 1 (.seq (aa c196r9) (aa c196r10))) (aa c196r11))))))) (.seq (aa c196r12) .ret)))))))
def v196:Kz:=([],[])
def o196:KB:=[.t 6,.t 7]
def c197r0:Ku:=[aM 2,af 3 0]
def c197r1:Ku:=[ac 7 0,av 8 7,bw 9 8 4,ac 4 9]
def c197r2:Ku:=[ac 10 4,aR 11 10 0]
def c197r3:Ku:=[aM 2,af 3 10]
def c197r4:Ku:=[ac 13 0,ac 14 4,cr 15 196 13 14 4,ac 12 15,am 16 12 0,am 17 12 1,ac 5 16,ac 6 17]
def c197r5:Ku:=[ac 18 6,aL 19 18 0,ac 20 19,az 20 21 5,az 20 22 0,az 20 23 4,⟨some (20,false),.sl 24 (.t 22) none (some (.t 23)) none 1,none,24⟩,a8 20 25 211 24,⟨some (20,false),.cvI 26 .u64 (.t 25),none,26⟩,cA 20 27 21 26,au 28 20 27]
def c197r6:Ku:=[aM 2,af 3 20]
def c197r7:Ku:=[ac 29 0,ac 30 4,bF 31 29 30 1,dH 32 31 5 1 1,ac 2 32,af 3 0]
def c197:SC:=(.seq (aa c197r0) (.seq (aa c197r1) (.seq (ab c197r2 11 c197r3) (.seq (.seq (aa c197r4) (ab c197r5 28 c197r6)) (.seq (aa c197r7) .ret)))))
def v197:Kz:=([],[])
def o197:KB:=[.t 2,.t 3]
def c198r0:Ku:=[aT 1 0,bg 2,⟨none,.al 3 [(.bool false)],none,0⟩]
def c198r1:Ku:=[cj 4,cQ 4 1 0]
def c198r2:Ku:=[⟨none,.st (.t 3) 1 (.b true),none,0⟩]
def c198r3:Ku:=[⟨none,.mkf 15 (.func 212) [(.t 1),(.t 4),(.t 3)],none,0⟩,ac 5 15]
def c198r4:Ku:=[dQ 6]
def c198r5:Ku:=[af 16 0]
def c198r6:Ku:=[aR 17 16 7]
def c198r7:Ku:=[ac 18 16,ac 7 18]
def c198r8:Ku:=[ac 19 7,ac 20 5,dt 21 20,cY 22 6 19 7 1,aH 22 1 21]
def c198r9:Ku:=[aD 23 16 1,ac 16 23]
def c198r10:Ku:=[aj 24 3,aN 25 24,ac 26 25,aX 26 27 4,aX 26 28 1,aW 26 29 28,⟨some (26,false),.bin 30 .geq (.t 27) (.t 29),none,30⟩,au 31 26 30,ac 32 31,aX 32 33 1,aX 32 34 4,bQ 32 35 33 34 1,aX 32 36 35,⟨some (32,false),.bin 37 .geq (.t 36) (.v (.int .u8 8)),none,37⟩,au 38 32 37,ac 39 38,cw 39 40 6 0 7 1,aX 39 41 40,bh 39 42 41 0,au 43 39 42,ac 44 43,cw 44 45 6 0 7 1,aX 44 46 45,aS 44 47 46 1099511627776,au 48 44 47,ac 49 48,cw 49 50 6 1 7 1,aX 49 51 50,bh 49 52 51 0,au 53 49 52,ac 54 53,cw 54 55 6 1 7 1,aX 54 56 55,dE 54 57 56 16,au 58 54 57]
def c198r11:Ku:=[bu 59,ak 2 0 10 59,di 3 1]
def c198r12:Ku:=[aj 60 1,aj 61 4,aA 62 60 61 1,aj 63 62,ac 8 63]
def c198r13:Ku:=[aj 64 4,aD 65 64 1,aH 4 1 65]
def c198r14:Ku:=[bo 66 6 0 7 1,aj 67 66,bo 68 6 0 7 1,aj 69 68,bo 70 6 1 7 1,aj 71 70,aY 72 69 71,bo 73 6 2 7 1,aj 74 73,bo 75 6 3 7 1,aj 76 75,bo 77 6 4 7 1,aj 78 77,bo 79 6 5 7 1,aj 80 79,bo 81 6 6 7 1,aj 82 81,ac 83 8,⟨none,.bin 84 .and (.t 83) (.v (.int .u8 4)),none,0⟩,⟨none,.bin 85 .neq (.t 84) (.v (.int .u8 0)),none,0⟩,ac 86 8,⟨none,.bin 87 .andNot (.t 86) (.v (.int .u8 4)),none,0⟩,bU 88 87,⟨none,.bld 89 [(.int .i64 0),(.int .i64 0),(.int .i64 0),(.int .i64 0),(.int .i64 0),(.int .i64 0),(.int .i64 0),(.bool false),(.int .i64 0),(.slice none 0 0)] [(0,1,(.t 67)),(1,1,(.t 72)),(2,1,(.t 74)),(3,1,(.t 76)),(4,1,(.t 78)),(5,1,(.t 80)),(6,1,(.t 82)),(7,1,(.t 85)),(8,1,(.t 88))],none,0⟩,ak 2 0 10 89]
def c198r15:Ku:=[ac 90 5,dt 91 90,ac 9 91]
def c198r16:Ku:=[aj 92 3,aN 93 92,ac 94 93,az 94 95 9,bh 94 96 95 0,au 97 94 96,ac 98 97,az 98 99 9,aS 98 100 99 16,au 101 98 100]
def c198r17:Ku:=[bu 102,ak 2 0 10 102,di 3 1]
def c198r18:Ku:=[af 10 0]
def c198r19:Ku:=[ac 103 9,bq 104 103 0]
def c198r20:Ku:=[ac 105 5,dt 106 105,ac 10 106]
def c198r21:Ku:=[af 11 0]
def c198r22:Ku:=[ac 107 11,ac 108 9,aK 109 107 108,ac 110 109,bA 110 111 3,aJ 112 110 111]
def c198r23:Ku:=[aj 116 1,aj 117 4,ah 2,ai 119 2 0,ac 120 10,cV 121 214 116 117 119 120,ac 115 121,am 122 115 0,am 123 115 1,am 124 115 2,cd 12,ak 12 0 5 122,ac 13 123,ac 14 124]
def c198r24:Ku:=[aj 125 3,ac 126 125,aG 126 127 14,bd 126 128 127 0,aJ 129 126 128,ac 130 129,aG 130 131 11,⟨some (130,true),.bin 132 .gtr (.t 131) (.i 0),none,132⟩,aG 130 133 132,aB 133 12,aC 133 135 12 4,az 133 136 10,⟨some (133,false),.bin 137 .eql (.t 135) (.t 136),none,137⟩,bG 130 138 133 137,aJ 139 130 138,aH 3 1 139]
def c198r25:Ku:=[ac 140 13,aH 4 1 140]
def c198r26:Ku:=[ah 2,ai 142 2 9,ao 143 12 0 5,dR 144 103 1 5 0 5 143,aP 145 142 144 103 5 56,ah 2,ak 2 9 1 145]
def c198r27:Ku:=[ac 113 11,aD 114 113 1,ac 11 114]
def c198r28:List WI:=[(true,false,ao 147 2 0 10),(true,false,aj 148 3),(true,false,ac 149 148),(true,false,bA 149 150 4),(true,false,bA 149 151 1),(true,false,cz 149 152 151),(true,false,bV 149 153 150 152),(true,false,aJ 154 149 153),(false,false,ak 2 0 10 147),(false,true,aH 3 1 154)]
def c198:SC:=(.seq (aa c198r0) (.seq (aa c198r1) (.seq (aa c198r2) (.seq (aa c198r3) (.seq (aa c198r4) (.seq (.seq (aa c198r5) (.blk 0 (.loop (.seq (aa c198r6) (.seq (.cond (.t 17) .skip (.exit 0)) (.seq (.blk 1 (.seq (aa c198r7) (aa c198r8))) (aa c198r9))))))) (.seq (ab c198r10 58 c198r11) (.seq (aa c198r12) (.seq (aa c198r13) (.seq (aa c198r14) (.seq (aa c198r15) (.seq (ab c198r16 101 c198r17) (.seq (aa c198r18) (.seq (.seq (aa c198r19) (.cond (.t 104) (aa c198r20) .skip)) (.seq (.seq (aa c198r21) (.blk 2 (.loop (.seq (.seq (aa c198r22) (.cond (.t 112) .skip (.exit 2))) (.seq (.blk 3 (.seq (aa c198r23) (.seq (aa c198r24) (.seq (aa c198r25) (aa c198r26))))) (aa c198r27)))))) (.seq (.rgW c198r28) .ret))))))))))))))))
def v198:Kz:=([2,12],[2,12,118,134,141,146])
def o198:KB:=[.r 2 (some 10),.c 3 none]
def c199r0:Ku:=[aF 1 0,af 2 0]
def c199r1:Ku:=[ah 1,ai 5 1 0,ar 6 215 5,aN 7 6,ac 3 7]
def c199r2:Ku:=[ah 1,ai 9 1 4,ar 10 215 9,aN 11 10,ac 3 11]
def c199r3:Ku:=[ah 1,ai 13 1 1,dr 14 13,ah 1,ai 16 1 2,dr 17 16,ck 18 14 17,bq 19 18 64,ac 3 19]
def c199r4:Ku:=[af 2 1]
def c199r5:Ku:=[ah 1,ai 22 1 3,ac 23 22,aO 23 1,aQ 23 25 1 1,⟨some (23,true),.bin 26 .eql (.t 25) (.v (.string ⟨#[]⟩)),none,26⟩,aG 23 27 26,aB 27 1,aC 27 29 1 2,⟨some (27,false),.bin 30 .neq (.t 29) (.v (.string ⟨#[]⟩)),none,30⟩,bG 23 31 27 30,aJ 32 23 31,ac 20 32]
def c199r6:Ku:=[af 2 1]
def c199r7:Ku:=[af 2 0]
def c199:SC:=(.seq (aa c199r0) (.seq (.blk 0 (.seq (.seq (aa c199r1) (.cond (.t 3) .skip (.seq (aa c199r2) (.cond (.t 3) .skip (aa c199r3))))) (.cond (.t 3) (.seq (aa c199r4) .ret) (ab c199r5 20 c199r6)))) (.seq (aa c199r7) .ret)))
def v199:Kz:=([1],[1,4,8,12,15,21,24,28])
def o199:KB:=[.t 2]
theorem s199 : gv Tryz.prog Tryz.f199.ntmps v199.1 v199.2 ((Tryz.f199.body).getD .skip) = some c199 := by kernel_rfl
theorem q199 : fF Tryz.prog Tryz.f199.ntmps v199.1 v199.2 Tryz.f199.results.toList = some o199 := by kernel_rfl
def c200r0:Ku:=[aM 4]
def c200r1:Ku:=[ac 7 1,bz 8 7,⟨none,.bin 9 .shl (.t 8) (.v (.int .u64 1)),none,0⟩,ac 10 1,bZ 11 10 63,bz 12 11,cI 13 9 12,ac 5 13]
def c200r2:Ku:=[ac 14 0,ar 15 194 14,ac 6 15]
def c200r3:Ku:=[ac 16 5,dF 17 16 128]
def c200r4:Ku:=[ac 20 6,ac 21 5,bJ 22 21,⟨none,.bin 23 .or (.t 22) (.v (.int .u8 128)),none,0⟩,cf 24 5 1 1 0 1 23,aP 25 20 24 5 1 1,ac 6 25]
def c200r5:Ku:=[ac 18 5,bZ 19 18 7,ac 5 19]
def c200r6:Ku:=[ac 26 6,ac 27 5,bJ 28 27,cf 29 5 1 1 0 1 28,aP 30 26 29 5 1 1,ac 4 30]
def c200:SC:=(.seq (aa c200r0) (.seq (aa c200r1) (.seq (aa c200r2) (.seq (.blk 0 (.loop (.seq (.seq (aa c200r3) (.cond (.t 17) .skip (.exit 0))) (.seq (.blk 1 (aa c200r4)) (aa c200r5))))) (.seq (aa c200r6) .ret)))))
def v200:Kz:=([],[])
def o200:KB:=[.t 4]
theorem s200 : gv Tryz.prog Tryz.f200.ntmps v200.1 v200.2 ((Tryz.f200.body).getD .skip) = some c200 := by kernel_rfl
theorem q200 : fF Tryz.prog Tryz.f200.ntmps v200.1 v200.2 Tryz.f200.results.toList = some o200 := by kernel_rfl
def c201r0:Ku:=[aF 3 0,aM 6,af 7 0]
def c201r1:Ku:=[ao 11 3 0 5,ar 12 199 11,ac 8 12]
def c201r2:Ku:=[ac 13 8,aL 14 13 0]
def c201r3:Ku:=[ac 15 8,aM 6,ac 7 15]
def c201r4:Ku:=[ac 16 1,ar 17 215 16,aN 18 17,ac 19 18,az 19 20 2,a8 19 21 215 20,aU 19 22 21,au 23 19 22]
def c201r5:Ku:=[aM 6,af 7 1]
def c201r6:Ku:=[⟨none,.mv 9 (.v (.int .u8 0)),none,0⟩]
def c201r7:Ku:=[ah 3,ai 25 3 3]
def c201r8:Ku:=[⟨none,.mv 9 (.v (.int .u8 1)),none,0⟩]
def c201r9:List (Bool × SI):=[(true,ah 3),(true,ai 27 3 0),(true,ac 28 1),(true,ba 29 27 28),(true,ah 3),(true,ai 32 3 4),(true,ac 33 2),(true,ba 34 32 33),(false,dh 30 200 29),(false,ay 35 200 30 34),(true,ac 10 35)]
def c201r10:List (Bool × SI):=[(true,ac 36 10),(true,ac 37 9),(true,ah 3),(true,ai 41 3 1),(true,ah 3),(true,ai 44 3 2),(false,cf 38 5 1 1 0 1 37),(false,aP 39 36 38 5 1 1),(false,ay 42 216 39 41),(false,ay 45 216 42 44),(true,ac 6 45),(true,af 7 0)]
def c201:SC:=(.seq (aa c201r0) (.seq (.seq (aa c201r1) (ab c201r2 14 c201r3)) (.seq (ab c201r4 23 c201r5) (.seq (aa c201r6) (.seq (.seq (aa c201r7) (.cond (.t 25) (aa c201r8) .skip)) (.seq (.rgX c201r9) (.seq (.rgX c201r10) .ret)))))))
def v201:Kz:=([3],[3,24,26,31,40,43])
def o201:KB:=[.t 6,.t 7]
theorem s201 : gv Tryz.prog Tryz.f201.ntmps v201.1 v201.2 ((Tryz.f201.body).getD .skip) = some c201 := by kernel_rfl
theorem q201 : fF Tryz.prog Tryz.f201.ntmps v201.1 v201.2 Tryz.f201.results.toList = some o201 := by kernel_rfl
def c202r0:Ku:=[aM 2]
def c202r1:Ku:=[ac 3 0,dH 4 3 5 1 1,ac 5 0,ar 6 211 5,bz 7 6,cr 8 203 4 7 4,ac 2 8]
def c202:SC:=(.seq (aa c202r0) (.seq (aa c202r1) .ret))
def v202:Kz:=([],[])
def o202:KB:=[.t 2]
theorem s202 : gv Tryz.prog Tryz.f202.ntmps v202.1 v202.2 ((Tryz.f202.body).getD .skip) = some c202 := by kernel_rfl
theorem q202 : fF Tryz.prog Tryz.f202.ntmps v202.1 v202.2 Tryz.f202.results.toList = some o202 := by kernel_rfl
def c203r0:Ku:=[aM 6]
def c203r1:Ku:=[ac 9 0,ar 10 194 9,ac 7 10]
def c203r2:Ku:=[ac 11 2,aR 12 11 1,ac 13 12,az 13 14 2,aS 13 15 14 8,au 16 13 15]
def c203r3:Ku:=[ac 17 7,ac 6 17]
def c203r4:Ku:=[ac 18 2,bw 19 18 1,⟨none,.bin 20 .mul (.i 8) (.t 19),none,0⟩,ac 8 20]
def c203r5:Ku:=[ac 21 8,bf 22 21 0]
def c203r6:Ku:=[ac 25 7,ac 26 1,ac 27 8,⟨none,.bin 28 .shr (.t 26) (.t 27),none,0⟩,bJ 29 28,cf 30 5 1 1 0 1 29,aP 31 25 30 5 1 1,ac 7 31]
def c203r7:Ku:=[ac 23 8,bw 24 23 8,ac 8 24]
def c203r8:Ku:=[ac 32 7,ac 6 32]
def c203:SC:=(.seq (aa c203r0) (.seq (aa c203r1) (.seq (ab c203r2 16 c203r3) (.seq (.seq (aa c203r4) (.blk 0 (.loop (.seq (.seq (aa c203r5) (.cond (.t 22) .skip (.exit 0))) (.seq (.blk 1 (aa c203r6)) (aa c203r7)))))) (.seq (aa c203r8) .ret)))))
def v203:Kz:=([],[])
def o203:KB:=[.t 6]
theorem s203 : gv Tryz.prog Tryz.f203.ntmps v203.1 v203.2 ((Tryz.f203.body).getD .skip) = some c203 := by kernel_rfl
theorem q203 : fF Tryz.prog Tryz.f203.ntmps v203.1 v203.2 Tryz.f203.results.toList = some o203 := by kernel_rfl
def c204r0:Ku:=[aE 4]
def c204r1:Ku:=[aj 5 1,ac 6 0,aA 7 5 6 2,aq 8 7 0,aj 9 8,aj 10 2,bM 11 9 10,ac 4 11]
def c204:SC:=(.seq (aa c204r0) (.seq (.reg true c204r1) .ret))
def v204:Kz:=([],[])
def o204:KB:=[.t 4]
def c205r0:Ku:=[cv 4 0]
def c205r1:Ku:=[af 5 0]
def c205r2:Ku:=[ac 6 5,ac 7 1,aK 8 6 7]
def c205r3:Ku:=[ac 11 0,ar 12 217 11,ac 0 12]
def c205r4:Ku:=[ac 9 5,aD 10 9 1,ac 5 10]
def c205r5:Ku:=[ac 13 0,ac 4 13]
def c205:SC:=(.seq (aa c205r0) (.seq (.seq (aa c205r1) (.blk 0 (.loop (.seq (.seq (aa c205r2) (.cond (.t 8) .skip (.exit 0))) (.seq (.blk 1 (aa c205r3)) (aa c205r4)))))) (.seq (aa c205r5) .ret)))
def v205:Kz:=([],[])
def o205:KB:=[.t 4]
theorem s205 : gv Tryz.prog Tryz.f205.ntmps v205.1 v205.2 ((Tryz.f205.body).getD .skip) = some c205 := by kernel_rfl
theorem q205 : fF Tryz.prog Tryz.f205.ntmps v205.1 v205.2 Tryz.f205.results.toList = some o205 := by kernel_rfl
def c206r0:Ku:=[aF 2 0,aE 4]
def c206r1:Ku:=[ah 2,ai 6 2 1,ac 7 1,⟨none,.bin 8 .leq (.t 6) (.t 7),none,0⟩,ac 9 8,aG 9 10 1,a9 9 11 2 0 3,bj 9 12 63 11,cD 9 13 10 12,aJ 14 9 13,ac 4 14]
def c206:SC:=(.seq (aa c206r0) (.seq (aa c206r1) .ret))
def v206:Kz:=([2],[2,5])
def o206:KB:=[.t 4]
def c207r0:Ku:=[bN 6 0,af 7 0]
def c207r1:Ku:=[ac 10 2,aR 11 10 1,ac 12 11,az 12 13 2,aS 12 14 13 8,au 15 12 14,ac 16 15,az 16 17 1,bh 16 18 17 0,au 19 16 18]
def c207r2:Ku:=[bN 6 0,af 7 1]
def c207r3:Ku:=[ac 20 1,ac 21 0,av 22 21,bM 23 20 22,ac 24 23,az 24 25 0,aW 24 26 25,az 24 27 1,dD 24 28 26 27,az 24 29 2,cW 24 30 28 29,au 31 24 30]
def c207r4:Ku:=[bN 6 0,af 7 10]
def c207r5:Ku:=[bN 8 0]
def c207r6:Ku:=[ac 32 2,af 33 0]
def c207r7:Ku:=[aK 34 33 32]
def c207r8:Ku:=[ac 35 33,ac 9 35]
def c207r9:Ku:=[ac 36 8,⟨none,.bin 37 .mul (.t 36) (.v (.int .u64 256)),none,0⟩,ac 38 0,ac 39 1,ac 40 9,aY 41 39 40,aA 42 38 41 1,aj 43 42,bz 44 43,aY 45 37 44,ac 8 45]
def c207r10:Ku:=[aD 46 33 1,ac 33 46]
def c207r11:Ku:=[ac 47 8,ac 6 47,af 7 0]
def c207:SC:=(.seq (aa c207r0) (.seq (ab c207r1 19 c207r2) (.seq (ab c207r3 31 c207r4) (.seq (aa c207r5) (.seq (.seq (aa c207r6) (.blk 0 (.loop (.seq (aa c207r7) (.seq (.cond (.t 34) .skip (.exit 0)) (.seq (.blk 1 (.seq (aa c207r8) (aa c207r9))) (aa c207r10))))))) (.seq (aa c207r11) .ret))))))
def v207:Kz:=([],[])
def o207:KB:=[.t 6,.t 7]
def c208r0:Ku:=[aM 2,af 3 0]
def c208r1:Ku:=[ac 7 0,av 8 7,bw 9 8 4,ac 4 9]
def c208r2:Ku:=[ac 10 4,aR 11 10 0]
def c208r3:Ku:=[aM 2,af 3 10]
def c208r4:Ku:=[ac 12 0,ac 13 4,bF 14 12 13 1,ar 15 187 14,ar 16 186 15,ac 5 16]
def c208r5:Ku:=[af 6 0]
def c208r6:Ku:=[ac 17 6,aR 18 17 4]
def c208r7:Ku:=[ac 21 0,ac 22 4,ac 23 6,aY 24 22 23,aA 25 21 24 1,aj 26 25,ac 27 5,ac 28 6,aA 29 27 28 1,aj 30 29,bC 31 26 30]
def c208r8:Ku:=[aM 2,af 3 20]
def c208r9:Ku:=[ac 19 6,aD 20 19 1,ac 6 20]
def c208r10:Ku:=[bT 32,ac 33 0,ac 34 4,bF 35 33 34 1,aP 36 32 35 5 1 1,ac 2 36,af 3 0]
def c208:SC:=(.seq (aa c208r0) (.seq (aa c208r1) (.seq (ab c208r2 11 c208r3) (.seq (aa c208r4) (.seq (.seq (aa c208r5) (.blk 0 (.loop (.seq (.seq (aa c208r6) (.cond (.t 18) .skip (.exit 0))) (.seq (.blk 1 (.seq (.reg true c208r7) (.cond (.t 31) (.seq (aa c208r8) .ret) .skip))) (aa c208r9)))))) (.seq (aa c208r10) .ret))))))
def v208:Kz:=([],[])
def o208:KB:=[.t 2,.t 3]
def c209r0:Ku:=[bg 2,aE 3]
def c209r1:Ku:=[bg 4]
def c209r2:Ku:=[af 5 0]
def c209r3:Ku:=[⟨none,.bld 21 [(.int .i64 0),(.int .i64 0),(.int .i64 0),(.int .i64 0),(.int .i64 0),(.int .i64 0),(.int .i64 0)] [],none,0⟩,dQ 6,aH 6 7 21]
def c209r4:Ku:=[af 22 0]
def c209r5:Ku:=[aR 23 22 7]
def c209r6:Ku:=[ac 24 22,ac 7 24]
def c209r7:Ku:=[ac 26 0,ac 27 5,ay 28 218 26 27,ac 25 28,am 29 25 0,am 30 25 1,am 31 25 2,ac 8 29,ac 9 30,ac 10 31]
def c209r8:Ku:=[ac 32 10,aL 33 32 0]
def c209r9:Ku:=[ao 34 4 0 10,ak 2 0 10 34,aE 3]
def c209r10:Ku:=[ac 35 7,ac 36 8,cY 37 6 35 7 1,aH 37 1 36]
def c209r11:Ku:=[ac 38 9,ac 5 38]
def c209r12:Ku:=[aD 39 22 1,ac 22 39]
def c209r13:Ku:=[ac 41 0,ac 42 5,cr 43 207 41 42 1,ac 40 43,am 44 40 0,am 45 40 1,ac 11 44,ac 12 45]
def c209r14:Ku:=[ac 46 12,aL 47 46 0,ac 48 47,az 48 49 11,dI 48 50 49 7,au 51 48 50]
def c209r15:Ku:=[ao 52 4 0 10,ak 2 0 10 52,aE 3]
def c209r16:Ku:=[ac 54 0,ac 55 5,aD 56 55 1,ay 57 218 54 56,ac 53 57,am 58 53 0,am 59 53 1,am 60 53 2,ac 13 58,ac 5 59,ac 12 60]
def c209r17:Ku:=[ac 61 12,aL 62 61 0,ac 63 62,az 63 64 13,bh 63 65 64 0,au 66 63 65,ac 67 66,az 67 68 13,aS 67 69 68 16,au 70 67 69,ac 71 70,cw 71 72 6 1 7 1,aX 71 73 72,bh 71 74 73 0,au 75 71 74,ac 76 75,cw 76 77 6 1 7 1,aX 76 78 77,aS 76 79 78 16,au 80 76 79,ac 81 80,cw 81 82 6 0 7 1,aX 81 83 82,bh 81 84 83 0,au 85 81 84,ac 86 85,cw 86 87 6 0 7 1,aX 86 88 87,aS 86 89 88 1099511627776,au 90 86 89]
def c209r18:Ku:=[ao 91 4 0 10,ak 2 0 10 91,aE 3]
def c209r19:Ku:=[bo 92 6 0 7 1,aj 93 92,bo 94 6 0 7 1,aj 95 94,bo 96 6 1 7 1,aj 97 96,aY 98 95 97,bo 99 6 2 7 1,aj 100 99,bo 101 6 3 7 1,aj 102 101,bo 103 6 4 7 1,aj 104 103,bo 105 6 5 7 1,aj 106 105,bo 107 6 6 7 1,aj 108 107,ac 109 11,dF 110 109 4,ac 111 11,dp 112 111 4,bU 113 112,⟨none,.bld 114 [(.int .i64 0),(.int .i64 0),(.int .i64 0),(.int .i64 0),(.int .i64 0),(.int .i64 0),(.int .i64 0),(.bool false),(.int .i64 0),(.slice none 0 0)] [(0,1,(.t 93)),(1,1,(.t 98)),(2,1,(.t 100)),(3,1,(.t 102)),(4,1,(.t 104)),(5,1,(.t 106)),(6,1,(.t 108)),(7,1,(.t 110)),(8,1,(.t 113))],none,0⟩,ak 4 0 10 114]
def c209r20:Ku:=[af 14 0]
def c209r21:Ku:=[ac 115 13,bq 116 115 0]
def c209r22:Ku:=[ac 118 0,ac 119 5,ay 120 218 118 119,ac 117 120,am 121 117 0,am 122 117 1,am 123 117 2,ac 15 121,ac 16 122,ac 17 123]
def c209r23:Ku:=[ac 124 17,aL 125 124 0]
def c209r24:Ku:=[ao 126 4 0 10,ak 2 0 10 126,aE 3]
def c209r25:Ku:=[ac 127 15,ac 14 127]
def c209r26:Ku:=[ac 128 16,ac 5 128]
def c209r27:Ku:=[ac 129 13,af 130 0]
def c209r28:Ku:=[aK 131 130 129]
def c209r29:Ku:=[ac 133 0,ac 134 5,ah 4,ai 136 4 0,ac 137 14,cV 138 219 133 134 136 137,ac 132 138,am 139 132 0,am 140 132 1,am 141 132 2,cd 18,ak 18 0 5 139,ac 19 140,ac 20 141]
def c209r30:Ku:=[ac 142 20,aL 143 142 0]
def c209r31:Ku:=[ao 144 4 0 10,ak 2 0 10 144,aE 3]
def c209r32:Ku:=[ah 4,ai 146 4 9,ao 147 18 0 5,dR 148 103 1 5 0 5 147,aP 149 146 148 103 5 56,ah 4,ak 4 9 1 149]
def c209r33:Ku:=[ac 151 19,ac 5 151]
def c209r34:Ku:=[aD 152 130 1,ac 130 152]
def c209r35:List WI:=[(true,false,ao 153 4 0 10),(true,false,ac 154 5),(true,false,ac 155 0),(true,false,av 156 155),(true,false,bm 157 154 156),(true,false,ac 158 157),(true,false,aG 158 159 13),(true,false,bd 158 160 159 0),(true,false,aG 158 161 160),(true,false,aB 161 4),(true,false,aC 161 163 4 9),(true,false,dz 161 164 163 0 5),(true,false,bK 161 165 164 4),(true,false,aX 161 166 165),(true,false,az 161 167 14),(true,false,⟨some (161,false),.bin 168 .eql (.t 166) (.t 167),none,168⟩),(true,false,bG 158 169 161 168),(true,false,aJ 170 158 169),(false,false,ak 2 0 10 153),(true,false,ac 3 170)]
def c209:SC:=(.seq (aa c209r0) (.seq (aa c209r1) (.seq (aa c209r2) (.seq (aa c209r3) (.seq (.seq (aa c209r4) (.blk 0 (.loop (.seq (aa c209r5) (.seq (.cond (.t 23) .skip (.exit 0)) (.seq (.blk 1 (.seq (aa c209r6) (.seq (aa c209r7) (.seq (ab c209r8 33 c209r9) (.seq (aa c209r10) (aa c209r11)))))) (aa c209r12))))))) (.seq (aa c209r13) (.seq (ab c209r14 51 c209r15) (.seq (aa c209r16) (.seq (ab c209r17 90 c209r18) (.seq (aa c209r19) (.seq (aa c209r20) (.seq (.seq (aa c209r21) (.cond (.t 116) (.seq (aa c209r22) (.seq (ab c209r23 125 c209r24) (.seq (aa c209r25) (aa c209r26)))) .skip)) (.seq (.seq (aa c209r27) (.blk 2 (.loop (.seq (aa c209r28) (.seq (.cond (.t 131) .skip (.exit 2)) (.seq (.blk 3 (.seq (aa c209r29) (.seq (ab c209r30 143 c209r31) (.seq (aa c209r32) (aa c209r33))))) (aa c209r34))))))) (.seq (.rgW c209r35) .ret))))))))))))))
def v209:Kz:=([2,4,18],[2,4,18,135,145,150,162])
def o209:KB:=[.r 2 (some 10),.t 3]
def c210r0:Ku:=[aM 4]
def c210r1:Ku:=[ac 5 0,ac 6 1,ac 7 0,av 8 7,bt 9 6 8,dl 10 5 9 1,ac 4 10]
def c210:SC:=(.seq (aa c210r0) (.seq (aa c210r1) .ret))
def v210:Kz:=([],[])
def o210:KB:=[.t 4]
def c211r0:Ku:=[cv 2 0]
def c211r1:Ku:=[cJ 7 220,ac 3 7]
def c211r2:Ku:=[cv 4 4294967295]
def c211r3:Ku:=[ac 8 0,av 9 8,af 10 0]
def c211r4:Ku:=[aK 11 10 9]
def c211r5:Ku:=[aA 12 8 10 1,aj 13 12,ac 6 13]
def c211r6:Ku:=[ac 14 3,ac 15 4,ac 16 6,cp 17 14 15 16,ac 4 17]
def c211r7:Ku:=[aD 18 10 1,ac 10 18]
def c211r8:Ku:=[ac 19 4,⟨none,.un 20 .xor (.t 19),none,0⟩,ac 2 20]
def c211:SC:=(.seq (aa c211r0) (.seq (aa c211r1) (.seq (aa c211r2) (.seq (.seq (aa c211r3) (.blk 0 (.loop (.seq (aa c211r4) (.seq (.cond (.t 11) .skip (.exit 0)) (.seq (.blk 1 (.seq (aa c211r5) (aa c211r6))) (aa c211r7))))))) (.seq (aa c211r8) .ret)))))
def v211:Kz:=([],[])
def o211:KB:=[.t 2]
theorem s211 : gv Tryz.prog Tryz.f211.ntmps v211.1 v211.2 ((Tryz.f211.body).getD .skip) = some c211 := by kernel_rfl
theorem q211 : fF Tryz.prog Tryz.f211.ntmps v211.1 v211.2 Tryz.f211.results.toList = some o211 := by kernel_rfl
def c212r0:Ku:=[af 3 0]
def c212r1:Ku:=[aj 8 0,aj 9 1,ay 10 213 8 9,ac 7 10,am 11 7 0,am 12 7 1,am 13 7 2,ac 4 11,ac 5 12,ac 6 13]
def c212r2:Ku:=[ac 14 6,aL 15 14 0]
def c212r3:Ku:=[di 2 1]
def c212r4:Ku:=[af 3 0]
def c212r5:Ku:=[ac 16 5,aH 1 1 16]
def c212r6:Ku:=[ac 17 4,ac 3 17]
def c212:SC:=(.seq (aa c212r0) (.seq (aa c212r1) (.seq (.seq (aa c212r2) (.cond (.t 15) (.seq (aa c212r3) (.seq (aa c212r4) .ret)) .skip)) (.seq (aa c212r5) (.seq (aa c212r6) .ret)))))
def v212:Kz:=([],[])
def o212:KB:=[.t 3]
def c213r0:Ku:=[af 4 0,af 5 0,af 6 0]
def c213r1:Ku:=[ac 10 1,aR 11 10 0]
def c213r2:Ku:=[af 4 0,af 5 0,af 6 1]
def c213r3:Ku:=[bN 7 0]
def c213r4:Ku:=[ac 12 0,ac 13 1,ay 14 210 12 13,av 15 14,af 16 0]
def c213r5:Ku:=[aK 17 16 15]
def c213r6:Ku:=[ac 18 16,aA 19 14 16 1,aj 20 19,ac 8 18,ac 9 20]
def c213r7:Ku:=[ac 21 8,aZ 22 21 9,ac 23 22,aG 23 24 9,⟨some (23,true),.bin 25 .gtr (.t 24) (.v (.int .u8 1)),none,25⟩,aJ 26 23 25,ac 27 26,az 27 28 8,aS 27 29 28 0,az 27 30 29,aG 30 31 9,⟨some (30,true),.bin 32 .eql (.t 31) (.v (.int .u8 0)),none,32⟩,bD 27 33 30 32,au 34 27 33]
def c213r8:Ku:=[af 4 0,af 5 0,af 6 11]
def c213r9:Ku:=[ac 35 7,ac 36 9,⟨none,.bin 37 .and (.t 36) (.v (.int .u8 127)),none,0⟩,bz 38 37,ac 39 8,⟨none,.bin 40 .mul (.i 7) (.t 39),none,0⟩,⟨none,.bin 41 .shl (.t 38) (.t 40),none,0⟩,⟨none,.bin 42 .or (.t 35) (.t 41),none,0⟩,ac 7 42]
def c213r10:Ku:=[ac 43 9,⟨none,.bin 44 .lss (.t 43) (.v (.int .u8 128)),none,0⟩]
def c213r11:Ku:=[ac 45 7,bZ 46 45 1,bU 47 46,ac 48 7,⟨none,.bin 49 .and (.t 48) (.v (.int .u64 1)),none,0⟩,bU 50 49,dm 51 50,cI 52 47 51,ac 53 1,ac 54 8,aY 55 53 54,aD 56 55 1,ac 4 52,ac 5 56,af 6 0]
def c213r12:Ku:=[aD 57 16 1,ac 16 57]
def c213r13:Ku:=[af 4 0,af 5 0,af 6 10]
def c213:SC:=(.seq (aa c213r0) (.seq (ab c213r1 11 c213r2) (.seq (aa c213r3) (.seq (.seq (aa c213r4) (.blk 0 (.loop (.seq (aa c213r5) (.seq (.cond (.t 17) .skip (.exit 0)) (.seq (.blk 1 (.seq (aa c213r6) (.seq (ab c213r7 34 c213r8) (.seq (aa c213r9) (ab c213r10 44 c213r11))))) (aa c213r12))))))) (.seq (aa c213r13) .ret)))))
def v213:Kz:=([],[])
def o213:KB:=[.t 4,.t 5,.t 6]
def c214r0:Ku:=[cd 8,af 9 0,af 10 0]
def c214r1:Ku:=[ac 13 2,ar 14 215 13,aN 15 14,ac 16 15,az 16 17 3,a8 16 18 215 17,aU 16 19 18,au 20 16 19,ac 21 20,az 21 22 1,bh 21 23 22 0,au 24 21 23,ac 25 24,az 25 26 1,az 25 27 0,aW 25 28 27,bR 25 29 26 28,au 30 25 29]
def c214r2:Ku:=[dK 31,ak 8 0 5 31,af 9 0,af 10 1]
def c214r3:Ku:=[ac 32 0,ac 33 1,⟨none,.bld 34 [(.slice none 0 0),(.int .i64 0),(.int .i64 0)] [(0,1,(.t 32)),(1,1,(.t 33))],none,0⟩,aT 35 34,ac 11 35]
def c214r4:Ku:=[⟨none,.mv 12 (.v (.func (.func 221) #[] #[])),none,0⟩]
def c214r5:Ku:=[ac 36 2,ac 37 11,dL 38 224 37 213,ay 39 223 36 38,ah 8,ak 8 0 1 39]
def c214r6:Ku:=[ac 41 3,ac 42 11,dL 43 224 42 213,ay 44 223 41 43,ah 8,ak 8 4 1 44]
def c214r7:Ku:=[ac 46 11,dL 47 225 46 226,ah 8,ak 8 3 1 47]
def c214r8:Ku:=[ac 49 11,ac 50 12,ay 51 227 49 50,ac 52 11,ac 53 12,ay 54 227 52 53,ah 8,ak 8 1 1 51,ah 8,ak 8 2 1 54]
def c214r9:Ku:=[ac 57 11,aw 58 57,aq 59 58 2,aj 60 59,aZ 61 60 0]
def c214r10:Ku:=[ac 62 11,ao 63 8 0 5,ar 64 199 63,aw 65 62,aq 66 65 2,aH 66 1 64]
def c214r11:Ku:=[ac 67 11,aw 68 67,aq 69 68 2,aj 70 69,aL 71 70 0]
def c214r12:List WI:=[(true,false,dK 72),(true,false,ac 73 11),(true,false,aw 74 73),(true,false,aq 75 74 2),(true,false,aj 76 75),(false,false,ak 8 0 5 72),(true,false,af 9 0),(true,false,ac 10 76)]
def c214r13:List WI:=[(true,false,ao 77 8 0 5),(true,false,ac 78 11),(true,false,aw 79 78),(true,false,aq 80 79 1),(true,false,aj 81 80),(false,false,ak 8 0 5 77),(true,false,ac 9 81),(true,false,af 10 0)]
def c214:SC:=(.seq (aa c214r0) (.seq (ab c214r1 30 c214r2) (.seq (aa c214r3) (.seq (aa c214r4) (.seq (aa c214r5) (.seq (aa c214r6) (.seq (aa c214r7) (.seq (aa c214r8) (.seq (.seq (aa c214r9) (.cond (.t 61) (aa c214r10) .skip)) (.seq (.seq (aa c214r11) (.cond (.t 71) (.seq (.rgW c214r12) .ret) .skip)) (.seq (.rgW c214r13) .ret)))))))))))
def v214:Kz:=([8],[8,40,45,48,55,56])
def o214:KB:=[.r 8 (some 5),.t 9,.t 10]
def c215r0:Ku:=[aE 2]
def c215r1:Ku:=[ac 3 0,bf 4 3 0,ac 5 4,aG 5 6 0,bI 5 7 6 1099511627776,aJ 8 5 7,ac 2 8]
def c215:SC:=(.seq (aa c215r0) (.seq (aa c215r1) .ret))
def v215:Kz:=([],[])
def o215:KB:=[.t 2]
theorem s215 : gv Tryz.prog Tryz.f215.ntmps v215.1 v215.2 ((Tryz.f215.body).getD .skip) = some c215 := by kernel_rfl
theorem q215 : fF Tryz.prog Tryz.f215.ntmps v215.1 v215.2 Tryz.f215.results.toList = some o215 := by kernel_rfl
def c216r0:Ku:=[aM 4]
def c216r1:Ku:=[ac 5 0,ac 6 1,dr 7 6,ay 8 200 5 7,ac 9 1,aP 10 8 9 5 1 1,ac 4 10]
def c216:SC:=(.seq (aa c216r0) (.seq (aa c216r1) .ret))
def v216:Kz:=([],[])
def o216:KB:=[.t 4]
theorem s216 : gv Tryz.prog Tryz.f216.ntmps v216.1 v216.2 ((Tryz.f216.body).getD .skip) = some c216 := by kernel_rfl
theorem q216 : fF Tryz.prog Tryz.f216.ntmps v216.1 v216.2 Tryz.f216.results.toList = some o216 := by kernel_rfl
def c217r0:Ku:=[cv 2 0]
def c217r1:Ku:=[ac 3 0,⟨none,.bin 4 .rem (.t 3) (.v (.int .u32 2)),none,0⟩,⟨none,.bin 5 .eql (.t 4) (.v (.int .u32 1)),none,0⟩]
def c217r2:Ku:=[ac 6 0,cX 7 6 2,⟨none,.bin 8 .xor (.t 7) (.v (.int .u32 3988292384)),none,0⟩,ac 2 8]
def c217r3:Ku:=[ac 9 0,cX 10 9 2,ac 2 10]
def c217:SC:=(.seq (aa c217r0) (.seq (ab c217r1 5 c217r2) (.seq (aa c217r3) .ret)))
def v217:Kz:=([],[])
def o217:KB:=[.t 2]
theorem s217 : gv Tryz.prog Tryz.f217.ntmps v217.1 v217.2 ((Tryz.f217.body).getD .skip) = some c217 := by kernel_rfl
theorem q217 : fF Tryz.prog Tryz.f217.ntmps v217.1 v217.2 Tryz.f217.results.toList = some o217 := by kernel_rfl
def c218r0:Ku:=[af 4 0,af 5 0,af 6 0]
def c218r1:Ku:=[ac 12 1,aR 13 12 0]
def c218r2:Ku:=[af 4 0,af 5 0,af 6 1]
def c218r3:Ku:=[bN 7 0]
def c218r4:Ku:=[bN 8 1]
def c218r5:Ku:=[af 9 0]
def c218r6:Ku:=[ac 16 1,ac 17 0,av 18 17,cG 19 16 18,ac 20 19,az 20 21 9,az 20 22 0,aW 20 23 22,az 20 24 1,dD 20 25 23 24,⟨some (20,false),.bin 26 .geq (.t 21) (.t 25),none,26⟩,au 27 20 26]
def c218r7:Ku:=[af 4 0,af 5 0,af 6 10]
def c218r8:Ku:=[ac 28 0,ac 29 1,ac 30 9,aY 31 29 30,aA 32 28 31 1,aj 33 32,ac 10 33]
def c218r9:Ku:=[ac 34 9,aZ 35 34 9,ac 36 35,aG 36 37 10,⟨some (36,true),.bin 38 .gtr (.t 37) (.v (.int .u8 1)),none,38⟩,aJ 39 36 38,ac 40 39,az 40 41 9,aS 40 42 41 0,az 40 43 42,aG 43 44 10,⟨some (43,true),.bin 45 .eql (.t 44) (.v (.int .u8 0)),none,45⟩,bD 40 46 43 45,au 47 40 46]
def c218r10:Ku:=[af 4 0,af 5 0,af 6 11]
def c218r11:Ku:=[ac 48 7,ac 49 8,ac 50 10,⟨none,.bin 51 .rem (.t 50) (.v (.int .u8 128)),none,0⟩,bz 52 51,⟨none,.bin 53 .mul (.t 49) (.t 52),none,0⟩,aY 54 48 53,ac 7 54]
def c218r12:Ku:=[ac 55 8,⟨none,.bin 56 .mul (.t 55) (.v (.int .u64 128)),none,0⟩,ac 8 56]
def c218r13:Ku:=[ac 57 10,⟨none,.bin 58 .lss (.t 57) (.v (.int .u8 128)),none,0⟩]
def c218r14:Ku:=[ac 59 7,dG 60 59 2,bU 61 60,ac 11 61]
def c218r15:Ku:=[ac 62 7,dp 63 62 2,⟨none,.bin 64 .eql (.t 63) (.v (.int .u64 1)),none,0⟩]
def c218r16:Ku:=[ac 65 11,dm 66 65,bw 67 66 1,ac 11 67]
def c218r17:Ku:=[ac 68 11,ac 69 1,ac 70 9,aY 71 69 70,aD 72 71 1,ac 4 68,ac 5 72,af 6 0]
def c218r18:Ku:=[ac 14 9,aD 15 14 1,ac 9 15]
def c218:SC:=(.seq (aa c218r0) (.seq (ab c218r1 13 c218r2) (.seq (aa c218r3) (.seq (aa c218r4) (.seq (aa c218r5) (.blk 0 (.loop (.seq (.blk 1 (.seq (ab c218r6 27 c218r7) (.seq (aa c218r8) (.seq (ab c218r9 47 c218r10) (.seq (aa c218r11) (.seq (aa c218r12) (.seq (aa c218r13) (.cond (.t 58) (.seq (aa c218r14) (.seq (.seq (aa c218r15) (.cond (.t 64) (aa c218r16) .skip)) (.seq (aa c218r17) .ret))) .skip)))))))) (aa c218r18)))))))))
def v218:Kz:=([],[])
def o218:KB:=[.t 4,.t 5,.t 6]
def c219r0:Ku:=[cd 8,af 9 0,af 10 0]
def c219r1:Ku:=[dK 25,cd 11,ak 11 0 5 25]
def c219r2:Ku:=[ac 26 2,ar 27 184 26,aN 28 27,ac 29 28,az 29 30 3,a8 29 31 184 30,aU 29 32 31,au 33 29 32,ac 34 33,az 34 35 1,bh 34 36 35 0,au 37 34 36,ac 38 37,az 38 39 1,az 38 40 0,aW 38 41 40,bR 38 42 39 41,au 43 38 42]
def c219r3:Ku:=[ao 44 11 0 5,ak 8 0 5 44,af 9 0,af 10 1]
def c219r4:Ku:=[ac 46 0,ac 47 1,ay 48 218 46 47,ac 45 48,am 49 45 0,am 50 45 1,am 51 45 2,ac 12 49,ac 13 50,ac 14 51]
def c219r5:Ku:=[ac 52 14,aL 53 52 0]
def c219r6:Ku:=[ao 54 11 0 5,ac 55 14,ak 8 0 5 54,af 9 0,ac 10 55]
def c219r7:Ku:=[ac 57 0,ac 58 13,ay 59 218 57 58,ac 56 59,am 60 56 0,am 61 56 1,am 62 56 2,ac 15 60,ac 16 61,ac 17 62]
def c219r8:Ku:=[ac 63 17,aL 64 63 0]
def c219r9:Ku:=[ao 65 11 0 5,ac 66 17,ak 8 0 5 65,af 9 0,ac 10 66]
def c219r10:Ku:=[ac 67 16,ac 68 0,av 69 68,cG 70 67 69]
def c219r11:Ku:=[ao 71 11 0 5,ak 8 0 5 71,af 9 0,af 10 10]
def c219r12:Ku:=[ac 72 0,ac 73 16,aA 74 72 73 1,aj 75 74,⟨none,.bin 76 .gtr (.t 75) (.v (.int .u8 1)),none,0⟩]
def c219r13:Ku:=[ao 77 11 0 5,ak 8 0 5 77,af 9 0,af 10 11]
def c219r14:Ku:=[ac 79 0,ac 80 16,aD 81 80 1,cr 82 228 79 81 64,ac 78 82,am 83 78 0,am 84 78 1,am 85 78 2,ac 18 83,ac 19 84,ac 20 85]
def c219r15:Ku:=[ac 86 20,aL 87 86 0]
def c219r16:Ku:=[ao 88 11 0 5,ac 89 20,ak 8 0 5 88,af 9 0,ac 10 89]
def c219r17:Ku:=[ac 91 0,ac 92 19,cr 93 228 91 92 64,ac 90 93,am 94 90 0,am 95 90 1,am 96 90 2,ac 21 94,ac 22 95,ac 23 96]
def c219r18:Ku:=[ac 97 23,aL 98 97 0]
def c219r19:Ku:=[ao 99 11 0 5,ac 100 23,ak 8 0 5 99,af 9 0,ac 10 100]
def c219r20:RX:=.br [(true,ac 101 2),(true,ac 102 12),(true,ac 104 18),(true,ac 105 21),(true,ac 106 0),(true,ac 107 16),(true,aA 108 106 107 1),(true,aj 109 108),(true,⟨none,.bin 110 .eql (.t 109) (.v (.int .u8 1)),none,0⟩),(true,ac 111 3),(true,ac 112 15)] (ay 103 229 101 102) (.br [] (ay 113 229 111 112) (.leaf [(true,dM 114 0 1 103 1 1 104 2 1 105 3 1 110 4 1 113),(false,dN 24),(false,aH 24 5 114)]) (dN 24) (.leaf [(false,ay 113 229 111 112),(true,dM 114 0 1 103 1 1 104 2 1 105 3 1 110 4 1 113),(false,aH 24 5 114)])) (dN 24) (.leaf [(false,ay 103 229 101 102),(false,ay 113 229 111 112),(true,dM 114 0 1 103 1 1 104 2 1 105 3 1 110 4 1 113),(false,aH 24 5 114)])
def c219r21:Ku:=[aI 115 24 5,ar 116 161 115,aL 117 116 0]
def c219r22:Ku:=[ao 118 11 0 5,ak 8 0 5 118,af 9 0,af 10 1]
def c219r23:Ku:=[aI 119 24 5,ac 120 22,ak 8 0 5 119,ac 9 120,af 10 0]
def c219:SC:=(.seq (aa c219r0) (.seq (aa c219r1) (.seq (ab c219r2 43 c219r3) (.seq (aa c219r4) (.seq (ab c219r5 53 c219r6) (.seq (aa c219r7) (.seq (ab c219r8 64 c219r9) (.seq (ab c219r10 70 c219r11) (.seq (ab c219r12 76 c219r13) (.seq (aa c219r14) (.seq (ab c219r15 87 c219r16) (.seq (aa c219r17) (.seq (ab c219r18 98 c219r19) (.seq (.rgZ c219r20) (.seq (ab c219r21 117 c219r22) (.seq (aa c219r23) .ret))))))))))))))))
def v219:Kz:=([8,11],[8,11])
def o219:KB:=[.r 8 (some 5),.t 9,.t 10]
def c220r0:Ku:=[cU 0]
def c220r1:Ku:=[⟨none,.al 1 [(.int .u32 0),(.int .u32 0),(.int .u32 0),(.int .u32 0),(.int .u32 0),(.int .u32 0),(.int .u32 0),(.int .u32 0),(.int .u32 0),(.int .u32 0),(.int .u32 0),(.int .u32 0),(.int .u32 0),(.int .u32 0),(.int .u32 0),(.int .u32 0)],none,0⟩]
def c220r2:Ku:=[af 3 0]
def c220r3:Ku:=[aR 4 3 16]
def c220r4:Ku:=[ac 5 3,ac 2 5]
def c220r5:Ku:=[ac 6 2,ac 7 2,⟨none,.cvI 8 .u32 (.t 7),none,0⟩,ar 9 230 8,cY 10 1 6 16 1,aH 10 1 9]
def c220r6:Ku:=[aD 11 3 1,ac 3 11]
def c220r7:Ku:=[bW 12 231 1,ac 0 12]
def c220:SC:=(.seq (aa c220r0) (.seq (aa c220r1) (.seq (.seq (aa c220r2) (.blk 0 (.loop (.seq (aa c220r3) (.seq (.cond (.t 4) .skip (.exit 0)) (.seq (.blk 1 (.seq (aa c220r4) (aa c220r5))) (aa c220r6))))))) (.seq (aa c220r7) .ret))))
def v220:Kz:=([],[])
def o220:KB:=[.t 0]
theorem s220 : gv Tryz.prog Tryz.f220.ntmps v220.1 v220.2 ((Tryz.f220.body).getD .skip) = some c220 := by kernel_rfl
theorem q220 : fF Tryz.prog Tryz.f220.ntmps v220.1 v220.2 Tryz.f220.results.toList = some o220 := by kernel_rfl
def c221r0:Ku:=[bH 4,af 5 0,af 6 0]
def c221r1:Ku:=[ac 7 0,ac 8 1,cr 9 222 7 8 64,am 10 9 0,am 11 9 1,am 12 9 2,ac 4 10,ac 5 11,ac 6 12]
def c221:SC:=(.seq (aa c221r0) (.seq (aa c221r1) .ret))
def v221:Kz:=([],[])
def o221:KB:=[.t 4,.t 5,.t 6]
def c222r0:Ku:=[bH 6,af 7 0,af 8 0]
def c222r1:Ku:=[ac 11 0,ac 12 1,ay 13 213 11 12,ac 10 13,am 14 10 0,am 15 10 1,am 16 10 2,ac 9 14,ac 7 15,ac 8 16]
def c222r2:Ku:=[ac 18 8,aL 19 18 0,ac 17 19]
def c222r3:Ku:=[ac 20 8,bH 6,af 7 0,ac 8 20]
def c222r4:Ku:=[ac 22 9,aR 23 22 0,ac 21 23]
def c222r5:Ku:=[bH 6,af 7 0,af 8 11]
def c222r6:Ku:=[ac 25 9,ac 26 2,bM 27 25 26,ac 24 27]
def c222r7:Ku:=[bH 6,af 7 0,af 8 2]
def c222r8:Ku:=[ac 29 9,ac 30 0,av 31 30,ac 32 7,ba 33 31 32,bM 34 29 33,ac 28 34]
def c222r9:Ku:=[bH 6,af 7 0,af 8 10]
def c222r10:Ku:=[ac 35 0,ac 36 7,ac 37 7,ac 38 9,aY 39 37 38,dJ 40 35 36 39 1,dq 41 40,ac 42 7,ac 43 9,aY 44 42 43,ac 6 41,ac 7 44,af 8 0]
def c222:SC:=(.seq (aa c222r0) (.seq (aa c222r1) (.seq (.blk 0 (.seq (aa c222r2) (.cond (.t 17) (.seq (aa c222r3) .ret) (.seq (aa c222r4) (.cond (.t 21) (.seq (aa c222r5) .ret) (.seq (aa c222r6) (.cond (.t 24) (.seq (aa c222r7) .ret) (ab c222r8 28 c222r9)))))))) (.seq (aa c222r10) .ret))))
def v222:Kz:=([],[])
def o222:KB:=[.t 6,.t 7,.t 8]
def c223r0:Ku:=[af 4 0]
def c223r1:Ku:=[ac 5 1,⟨none,.bin 6 .lss (.t 5) (.i (-1099511627776)),none,0⟩,ac 7 6,az 7 8 1,aS 7 9 8 1099511627776,au 10 7 9]
def c223r2:Ku:=[bY 4]
def c223r3:Ku:=[ac 11 0,ac 12 1,aY 13 11 12,ac 4 13]
def c223:SC:=(.seq (aa c223r0) (.seq (ab c223r1 10 c223r2) (.seq (aa c223r3) .ret)))
def v223:Kz:=([],[])
def o223:KB:=[.t 4]
def c224r0:Ku:=[af 4 0]
def c224r1:Ku:=[af 5 0]
def c224r2:Ku:=[ac 6 0,aw 7 6,aq 8 7 2,aj 9 8,aZ 10 9 0]
def c224r3:List WI:=[(true,false,ac 12 0),(true,false,ac 13 0),(true,false,ac 14 1),(true,false,ac 15 0),(true,false,aw 16 15),(true,false,aq 17 16 0),(true,false,aj 18 17),(true,false,ac 19 0),(true,false,aw 20 19),(true,false,aq 21 20 1),(true,false,aj 22 21),(false,true,cp 23 14 18 22),(true,false,ac 11 23),(true,false,am 24 11 0),(true,false,am 25 11 1),(true,false,am 26 11 2),(true,false,ac 5 24),(true,false,aw 27 12),(true,false,aq 28 27 1),(false,true,aH 28 1 25),(true,false,aw 29 13),(true,false,aq 30 29 2),(false,true,aH 30 1 26)]
def c224r4:Ku:=[ac 31 5,ac 4 31]
def c224:SC:=(.seq (aa c224r0) (.seq (aa c224r1) (.seq (.seq (aa c224r2) (.cond (.t 10) (.rgW c224r3) .skip)) (.seq (aa c224r4) .ret))))
def v224:Kz:=([],[])
def o224:KB:=[.t 4]
def c225r0:Ku:=[aE 4]
def c225r1:Ku:=[aE 5]
def c225r2:Ku:=[ac 6 0,aw 7 6,aq 8 7 2,aj 9 8,aZ 10 9 0]
def c225r3:List WI:=[(true,false,ac 12 0),(true,false,ac 13 0),(true,false,ac 14 1),(true,false,ac 15 0),(true,false,aw 16 15),(true,false,aq 17 16 0),(true,false,aj 18 17),(true,false,ac 19 0),(true,false,aw 20 19),(true,false,aq 21 20 1),(true,false,aj 22 21),(false,true,cp 23 14 18 22),(true,false,ac 11 23),(true,false,am 24 11 0),(true,false,am 25 11 1),(true,false,am 26 11 2),(true,false,ac 5 24),(true,false,aw 27 12),(true,false,aq 28 27 1),(false,true,aH 28 1 25),(true,false,aw 29 13),(true,false,aq 30 29 2),(false,true,aH 30 1 26)]
def c225r4:Ku:=[ac 31 5,ac 4 31]
def c225:SC:=(.seq (aa c225r0) (.seq (aa c225r1) (.seq (.seq (aa c225r2) (.cond (.t 10) (.rgW c225r3) .skip)) (.seq (aa c225r4) .ret))))
def v225:Kz:=([],[])
def o225:KB:=[.t 4]
def c226r0:Ku:=[aE 4,af 5 0,af 6 0]
def c226r1:Ku:=[ac 8 1,ac 9 0,av 10 9,cG 11 8 10,ac 7 11]
def c226r2:Ku:=[aE 4,af 5 0,af 6 10]
def c226r3:Ku:=[ac 13 0,ac 14 1,aA 15 13 14 1,aj 16 15,⟨none,.bin 17 .gtr (.t 16) (.v (.int .u8 1)),none,0⟩,ac 12 17]
def c226r4:Ku:=[aE 4,af 5 0,af 6 11]
def c226r5:Ku:=[ac 18 0,ac 19 1,aA 20 18 19 1,aj 21 20,⟨none,.bin 22 .eql (.t 21) (.v (.int .u8 1)),none,0⟩,ac 23 1,aD 24 23 1,ac 4 22,ac 5 24,af 6 0]
def c226:SC:=(.seq (aa c226r0) (.seq (.blk 0 (.seq (aa c226r1) (.cond (.t 7) (.seq (aa c226r2) .ret) (ab c226r3 12 c226r4)))) (.seq (aa c226r5) .ret)))
def v226:Kz:=([],[])
def o226:KB:=[.t 4,.t 5,.t 6]
def c227r0:Ku:=[bH 4]
def c227r1:Ku:=[bH 5]
def c227r2:Ku:=[ac 6 0,aw 7 6,aq 8 7 2,aj 9 8,aZ 10 9 0]
def c227r3:List WI:=[(true,false,ac 12 0),(true,false,ac 13 0),(true,false,ac 14 1),(true,false,ac 15 0),(true,false,aw 16 15),(true,false,aq 17 16 0),(true,false,aj 18 17),(true,false,ac 19 0),(true,false,aw 20 19),(true,false,aq 21 20 1),(true,false,aj 22 21),(false,true,cp 23 14 18 22),(true,false,ac 11 23),(true,false,am 24 11 0),(true,false,am 25 11 1),(true,false,am 26 11 2),(true,false,ac 5 24),(true,false,aw 27 12),(true,false,aq 28 27 1),(false,true,aH 28 1 25),(true,false,aw 29 13),(true,false,aq 30 29 2),(false,true,aH 30 1 26)]
def c227r4:Ku:=[ac 31 5,ac 4 31]
def c227:SC:=(.seq (aa c227r0) (.seq (aa c227r1) (.seq (.seq (aa c227r2) (.cond (.t 10) (.rgW c227r3) .skip)) (.seq (aa c227r4) .ret))))
def v227:Kz:=([],[])
def o227:KB:=[.t 4]
def c228r0:Ku:=[bH 6,af 7 0,af 8 0]
def c228r1:Ku:=[ac 13 0,ac 14 1,ay 15 218 13 14,ac 12 15,am 16 12 0,am 17 12 1,am 18 12 2,ac 9 16,ac 10 17,ac 11 18]
def c228r2:Ku:=[ac 19 11,aL 20 19 0]
def c228r3:Ku:=[ac 21 11,bH 6,af 7 0,ac 8 21]
def c228r4:Ku:=[ac 22 9,aR 23 22 0]
def c228r5:Ku:=[bH 6,af 7 0,af 8 11]
def c228r6:Ku:=[ac 24 9,ac 25 2,bM 26 24 25]
def c228r7:Ku:=[bH 6,af 7 0,af 8 2]
def c228r8:Ku:=[ac 27 0,av 28 27,ac 29 10,ba 30 28 29,ac 31 9,aK 32 30 31]
def c228r9:Ku:=[bH 6,af 7 0,af 8 10]
def c228r10:Ku:=[ac 33 0,ac 34 10,ac 35 10,ac 36 9,aY 37 35 36,dJ 38 33 34 37 1,dq 39 38,ac 40 10,ac 41 9,aY 42 40 41,ac 6 39,ac 7 42,af 8 0]
def c228:SC:=(.seq (aa c228r0) (.seq (aa c228r1) (.seq (ab c228r2 20 c228r3) (.seq (ab c228r4 23 c228r5) (.seq (ab c228r6 26 c228r7) (.seq (ab c228r8 32 c228r9) (.seq (aa c228r10) .ret)))))))
def v228:Kz:=([],[])
def o228:KB:=[.t 6,.t 7,.t 8]
def c229r0:Ku:=[af 4 0]
def c229r1:Ku:=[ac 5 1,⟨none,.bin 6 .lss (.t 5) (.i (-1099511627776)),none,0⟩,ac 7 6,az 7 8 1,aS 7 9 8 1099511627776,au 10 7 9,ac 11 10,az 11 12 0,az 11 13 1,dk 11 14 12 13,a8 11 15 184 14,aU 11 16 15,au 17 11 16]
def c229r2:Ku:=[bY 4]
def c229r3:Ku:=[ac 18 0,ac 19 1,aY 20 18 19,ac 4 20]
def c229:SC:=(.seq (aa c229r0) (.seq (ab c229r1 17 c229r2) (.seq (aa c229r3) .ret)))
def v229:Kz:=([],[])
def o229:KB:=[.t 4]
def c230r0:Ku:=[cv 2 0]
def c230r1:Ku:=[af 3 0]
def c230r2:Ku:=[aR 4 3 4]
def c230r3:Ku:=[ac 5 0,bZ 6 5 1,ac 7 0,dO 8 7 1,dm 9 8,⟨none,.bin 10 .and (.v (.int .u32 3988292384)) (.t 9),none,0⟩,cI 11 6 10,ac 0 11]
def c230r4:Ku:=[aD 12 3 1,ac 3 12]
def c230r5:Ku:=[ac 13 0,ac 2 13]
def c230:SC:=(.seq (aa c230r0) (.seq (.seq (aa c230r1) (.blk 0 (.loop (.seq (aa c230r2) (.seq (.cond (.t 4) .skip (.exit 0)) (.seq (.blk 1 (aa c230r3)) (aa c230r4))))))) (.seq (aa c230r5) .ret)))
def v230:Kz:=([],[])
def o230:KB:=[.t 2]
theorem s230 : gv Tryz.prog Tryz.f230.ntmps v230.1 v230.2 ((Tryz.f230.body).getD .skip) = some c230 := by kernel_rfl
theorem q230 : fF Tryz.prog Tryz.f230.ntmps v230.1 v230.2 Tryz.f230.results.toList = some o230 := by kernel_rfl
def c231r0:Ku:=[cv 5 0]
def c231r1:Ku:=[ac 6 0,ac 7 1,⟨none,.cvI 8 .u32 (.t 7),none,0⟩,cI 9 6 8,ac 0 9]
def c231r2:Ku:=[ac 10 0,dO 11 10 15,cY 12 2 11 16 1,aj 13 12,ac 14 0,bZ 15 14 4,cI 16 13 15,ac 0 16]
def c231r3:Ku:=[ac 17 0,dO 18 17 15,cY 19 2 18 16 1,aj 20 19,ac 21 0,bZ 22 21 4,cI 23 20 22,ac 5 23]
def c231:SC:=(.seq (aa c231r0) (.seq (aa c231r1) (.seq (aa c231r2) (.seq (aa c231r3) .ret))))
def v231:Kz:=([],[])
def o231:KB:=[.t 5]
theorem s231 : gv Tryz.prog Tryz.f231.ntmps v231.1 v231.2 ((Tryz.f231.body).getD .skip) = some c231 := by kernel_rfl
theorem q231 : fF Tryz.prog Tryz.f231.ntmps v231.1 v231.2 Tryz.f231.results.toList = some o231 := by kernel_rfl
theorem F176:Fun Tryz.prog 176 5 v176 c176 o176:=Fun.mk' Tryz.func176 Tryz.ntmps176 (by kernel_rfl) (by kernel_rfl) s176 q176
theorem F194:Fun Tryz.prog 194 8 v194 c194 o194:=Fun.mk' Tryz.func194 Tryz.ntmps194 (by kernel_rfl) (by kernel_rfl) s194 q194
def UE(x:UInt8)(cs:Kt):Prop:=cs=[.int .u8 (x.toNat:Int)]
theorem UE1:∀ (x:UInt8) cs,UE x cs→∀ u∈cs,u.oneCell'=true:=fun x cs h u hu=>by
 rw[h]at hu;simp at hu;subst hu;rfl
abbrev SB(G:Ks)(v:Value)(l:KD):Prop:=SlV G UE 1 v l
abbrev o9(zs:KD)(L':Kv)(r:Value):Prop:=ya UE 5 1 zs L' r
theorem SB.le{G G':Ks}{v:Value}{l:KD}(h:SB G v l)(hg:Gle G G'):SB G' v l:=SlV.le h hg KO
def sF(l:KD):Kt:=l.map fun b=>.int .u8 (b.toNat:Int)
theorem ob:∀ (l:KD),Cells UE 1 l (sF l)
 | []=>.nil
 | b :: l=>.cons (cs:=[.int .u8 (b.toNat:Int)]) rfl rfl (ob l)
theorem om(s:ByteArray):byteCells s=sF s.data.toList:=rfl
theorem yN{P:Program}{h:H}{d:Nat}{l:Ku}{e:Env}{K:KH}{u:Value}{b:Nat}{zs:KD}{zc:Kt}{L1 L2:Kv}{x:UInt8}{y:Int}(hL:h.L=.row (.slice (some ⟨b,0,none⟩) 1 1) 5 1 1 [.int .u8 y] :: L1++.row u 5 1 zs.length zc :: L2)(hy:y=(x.toNat:Int))
  (hc:Cells UE 1 zs zc) (hz:zs.length≤10000000)
  (hk:∀ A' c' zc',Cells UE 1 (zs++[x]) zc'→kR P l d e K (.slice A' (zs++[x]).length c') ⟨h.G,.row (.slice (some ⟨b,0,none⟩) 1 1) 5 1 1 [.int .u8 y] :: L1++.row (.slice A' (zs++[x]).length c') 5 1 (zs++[x]).length zc' :: L2,h.D⟩) :
  apX P u (.slice (some ⟨b,0,none⟩) 1 1) 5 1 1 d l e h K:=by
 subst hy;refine⟨.row (.slice (some ⟨b,0,none⟩) 1 1) 5 1 1 [.int .u8 (x.toNat:Int)] :: L1,zs.length,zc,L2,1,[.int .u8 (x.toNat:Int)],.inl hL,kO (h:=h) (by rw[hL];exact .head _) (UE1 x _ rfl) rfl,by unfold maxLen;omega,fun A' c'=>?_⟩;have:=hk A' c' (zc++[.int .u8 (x.toNat:Int)]) (hc.app (.one (show UE x [.int .u8 (x.toNat:Int)]from rfl) rfl))
 simp only[length_append,List.length_cons,List.length_nil,Nat.zero_add]at this;exact this
theorem Fy{P:Program}{h:H}{d:Nat}{l:Ku}{e:Env}{K:KH}{u:Value}{s:ByteArray}{zs:KD}{zc:Kt}{L1 L2:Kv}(hr:Az h.L u 5 1 L1 zs.length zc L2)(hc:Cells UE 1 zs zc)(hz:zs.length+s.size≤10000000)
  (hk:∀ A' c' zc',Cells UE 1 (zs++s.data.toList) zc'→kR P l d e K (.slice A' (zs++s.data.toList).length c') { h with L:=L1++.row (.slice A' (zs++s.data.toList).length c') 5 1 (zs++s.data.toList).length zc' :: L2 }) :
  apX P u (.string s) 5 1 1 d l e h K:=by
 refine⟨L1,zs.length,zc,L2,s.size,sF s.data.toList,hr,⟨fun u hu=>?_,?_,.inr (.inr ⟨s,rfl,rfl,om s,rfl⟩)⟩,by unfold maxLen;omega,fun A' c'=>?_⟩
 ·simp[sF]at hu;obtain⟨_,_,rfl⟩:=hu;rfl
 ·simp[sF]
 ·have:=hk A' c' (zc++sF s.data.toList) (hc.app (ob _));rw[length_append]at this;exact this
theorem nU(k:IntKind)(a b:Int):fq .mul (.int k a) (.int k b)=some (.int k (k.wrap (a * b))):=by simp[fq]
theorem p8(k:IntKind)(a b:Int):fq .add (.int k a) (.int k b)=some (.int k (k.wrap (a+b))):=by simp[fq]
theorem n8(k:IntKind)(a b:Nat)(hb:b≠0)(ha:(a:Int)≤k.max)(hk:k.signed=false):fq .quo (.int k a) (.int k b)=some (.int k ((a / b:Nat):Int)):=by
 have h1:¬ (b:Int)=0:=by omega
 have h2:k.wrap (((a / b:Nat):Int))=((a / b:Nat):Int):=by
  have hq:=Nat.div_le_self a b;generalize a / b=q at hq ⊢;cases k <;> simp[IntKind.signed]at hk <;> simp[IntKind.max,IntKind.signed,IntKind.bits]at ha <;> simp only[IntKind.wrap,IntKind.signed,IntKind.bits] <;> simp <;> omega
 simp only[fq];rw[if_pos trivial,if_neg h1];have:(a:Int).tdiv (b:Int)=((a / b:Nat):Int):=by rw[Int.tdiv_eq_ediv_of_nonneg (by omega)];rfl
 rw[this,h2]
theorem mL(k:IntKind)(a b:Nat)(hb:b≠0):fq .rem (.int k a) (.int k b)=some (.int k ((a % b:Nat):Int)):=by
 have h1:¬ (b:Int)=0:=by omega
 simp only[fq];rw[if_pos trivial,if_neg h1];have:(a:Int).tmod (b:Int)=((a % b:Nat):Int):=by rw[Int.tmod_eq_emod_of_nonneg (by omega)];rfl
 rw[this]
theorem fx{P:Program}{f:FuncId}{args:Array Value}{h:H}{M:H→Prop}{R:Value→H→Prop}(hE:iy P f)(hg:fc h M)(hc:∀ h',M h'→eS P f args h' R):eS P f args h R :=
 ⟨hE,fun β w hs=>by
  obtain⟨h1,m,s1,t1,d1,r1⟩:=hg β w hs
  exact((hc h1 m).2 β w s1).mono fun _ _ ⟨v,h2,a,⟨b1,b2⟩,c,d,r⟩=>⟨v,h2,a,⟨b1.trans d1,r1.trans b2⟩,c,t1.trans d,r⟩⟩
theorem SB.nil{G:Ks}:SB G (.slice none 0 0) []:=⟨none,0,rfl,Nat.le_refl _,Nat.zero_le _,fun i x hx=>by simp at hx⟩
theorem rX(l:KD)(v:Value)(G:Ks)(hl:SB G v l)(hb:l.length≤1000000):
  FnO Tryz.prog 176 #[v] G [] (fun _ L' r=>o9 l L' r):=by
 refine F176.fnO (by simp) dS (dY ?_);unfold c176;intros;refine gR 0 0 c176r0.eq_1 ?_;intros;refine gR 3 5 c176r1.eq_1 ?_;refine j5 (.inr ⟨⟨none,rfl⟩,rfl,rfl,rfl,rfl⟩) hl rfl UE1 (by unfold maxLen;omega) fun ys A c hc=>?_
 simp only[Nat.zero_add];refine sI ?_;intros;refine dT ?_;refine ea (ee _ rfl KJ (dW dS) ?_);exact⟨ys,hc,rfl⟩
theorem o6(l:KD)(v:Value)(G:Ks)(hl:SB G v l)(hb:l.length≤1000000):
  FnO Tryz.prog 194 #[v] G [] (fun _ L' r=>o9 l L' r):=by
 refine F194.fnO (by simp) dS (dY ?_);have hl0:=hl;obtain⟨A,c,rfl,hc,hm,hA⟩:=hl;unfold c194;intros;refine gR 0 0 c194r0.eq_1 ?_;intros;refine gR 3 4 c194r1.eq_1 ?_;intros;refine gC ?_;refine gb (fun ht=>?_) (fun ht=>?_)
 ·intros;refine gR 0 0 c194r2.eq_1 ?_;intros;refine dT ?_;have hA0:l=[]:=by
   match l,hA with
   | [],_=>rfl
   | x :: xs,hA=>obtain⟨a,_,ha,_⟩:=hA 0 x rfl;subst ha;cases ht
  subst hA0;refine dU (eA none 5 1) ?_;refine ea (ee _ rfl KJ (dW dS) ?_);exact⟨[],.nil,rfl⟩
 ·intros;refine gR 5 8 c194r3.eq_1 ?_;intro b hb';refine j5 (.inr ⟨⟨_,rfl⟩,rfl,rfl,rfl,rfl⟩) hl0 rfl UE1 (by unfold maxLen;omega) fun ys A c hc=>?_
  simp only[Nat.zero_add];refine sI ?_;intros;refine dT ?_;refine ea (ee _ rfl KJ (dW dS) ?_);exact⟨ys,hc,rfl⟩
theorem F200:Fun Tryz.prog 200 31 v200 c200 o200:=Fun.mk' Tryz.func200 Tryz.ntmps200 (by kernel_rfl) (by kernel_rfl) s200 q200
theorem F162:Fun Tryz.prog 162 36 v162 c162 o162:=Fun.mk' Tryz.func162 Tryz.ntmps162 (by kernel_rfl) (by kernel_rfl) s162 q162
def zig(n:Int):Nat:=if 0≤n then(2 * n).toNat else(-2 * n - 1).toNat
def pk:Nat→Nat→KD
 | 0,z=>[UInt8.ofNat z]
 | f+1,z=>if z < 128 then[UInt8.ofNat z]else UInt8.ofNat (128+z % 128) :: pk f (z / 128)
def pvB(n:Int):KD:=pk 9 (zig n)
theorem pD:∀ f z,(pk f z).length≤f+1∧1≤(pk f z).length
 | 0,z=>by simp[pk]
 | f+1,z=>by
  unfold pk;split
  ·simp
  ·have:=pD f (z / 128);simp;omega
theorem gF(n:Int):(pvB n).length≤10:=(pD 9 _).1
theorem qC{n:Int}(h:I64 n):zig n < 18446744073709551616:=by
 unfold zig I64 at *;split <;> omega
theorem sr{f z:Nat}(h:z < 128):pk f z=[UInt8.ofNat z]:=by
 cases f with
 | zero=>rfl
 | succ f=>exact if_pos h
def Eo(p:KD)(z0:Nat)(zs:KD)(z:Nat):Prop:=∃ f,f≤9∧zs.length+f=p.length+9∧z < 2 * 128 ^ f∧zs++pk f z=p++pk 9 z0
theorem ru(p:KD){z0:Nat}(h:z0 < 18446744073709551616):Eo p z0 p z0:=⟨9,Nat.le_refl _,rfl,by omega,rfl⟩
theorem tC{p zs:KD}{z0 z:Nat}(h:Eo p z0 zs z)(hz:z < 128):zs++[UInt8.ofNat z]=p++pk 9 z0:=by
 obtain⟨f,_,_,_,h⟩:=h;rw[← h,sr hz]
theorem qJ{p zs:KD}{z0 z:Nat}(h:Eo p z0 zs z)(hz:¬ z < 128):Eo p z0 (zs++[UInt8.ofNat (128+z % 128)]) (z / 128):=by
 obtain⟨f,h1,h2,h3,h4⟩:=h;cases f with
 | zero=>simp at h3;omega
 | succ f =>
  refine⟨f,by omega,by simp;omega,by rw[Nat.pow_succ]at h3;omega,?_⟩;rw[← h4,pk,if_neg hz];simp
theorem tQ{p zs:KD}{z0 z:Nat}(h:Eo p z0 zs z):zs.length≤p.length+9:=by
 obtain⟨f,h1,h2,_⟩:=h;omega
theorem EZ(z:Nat):fq .or (.int .u8 (IntKind.u8.wrap (z:Int))) (.int .u8 128)=some (.int .u8 ((UInt8.ofNat (128+z % 128)).toNat:Int)):=by
 have key:∀ b:Fin 256,(BitVec.ofInt 8 ((b.val:Nat):Int) ||| BitVec.ofInt 8 128).toNat=128+b.val % 128:=by decide +kernel
 have h1:IntKind.u8.wrap (z:Int)=((z % 256:Nat):Int):=by rw[IntKind.wrap_u8];omega
 have h2:=key ⟨z % 256,Nat.mod_lt _ (by omega)⟩;rw[h1];simp only[fq];rw[if_pos trivial];have h3:(BitVec.ofInt IntKind.u8.bits ((z % 256:Nat):Int) ||| BitVec.ofInt IntKind.u8.bits 128).toNat=128+z % 128:=by
  refine h2.trans ?_;dsimp only;omega
 rw[h3];simp[IntKind.wrap_u8]
theorem oD(z:Nat):IntKind.u8.wrap (z:Int)=((UInt8.ofNat z).toNat:Int):=by
 rw[IntKind.wrap_u8];simp
theorem Hm(z:Nat):fq .shr (.int .u64 (z:Int)) (.int .u64 7)=some (.int .u64 ((z / 128:Nat):Int)):=by
 simp[fq,IntKind.bits];rw[Int.fdiv_eq_ediv_of_nonneg _ (by omega)]
theorem IB(n:Int):fq .shl (.int .u64 (IntKind.u64.wrap n)) (.int .u64 1)=some (.int .u64 (IntKind.u64.wrap (IntKind.u64.wrap n * 2))):=by
 simp[fq,IntKind.bits]
def sgn(n:Int):Int:=if 0≤n then 0 else -1
theorem EE{n:Int}(h:I64 n):fq .shr (.int .i64 n) (.int .u64 63)=some (.int .i64 (sgn n)):=by
 have h1:n.fdiv 9223372036854775808=sgn n:=by
  rw[Int.fdiv_eq_ediv_of_nonneg _ (by omega)];unfold sgn I64 at *;split <;> omega
 simp[fq,IntKind.bits,h1]
theorem CC{n:Int}(h:I64 n):fq .xor (.int .u64 (IntKind.u64.wrap (IntKind.u64.wrap n * 2))) (.int .u64 (IntKind.u64.wrap (sgn n)))=some (.int .u64 (zig n:Int)):=by
 have hz:=qC h;have key:(BitVec.ofInt 64 (IntKind.u64.wrap (IntKind.u64.wrap n * 2)) ^^^ BitVec.ofInt 64 (IntKind.u64.wrap (sgn n))).toNat=zig n:=by
  unfold I64 at h;by_cases h0:0≤n
  ·have e1:IntKind.u64.wrap (IntKind.u64.wrap n * 2)=2 * n:=by rw[IntKind.wrap_u64,IntKind.wrap_u64];omega
   have e2:IntKind.u64.wrap (sgn n)=0:=by rw[sgn,if_pos h0];rfl
   rw[e1,e2];have:BitVec.ofInt 64 0=0#64:=rfl;rw[this,BitVec.xor_zero,BitVec.toNat_ofInt];simp[zig,h0];omega
  ·have e1:IntKind.u64.wrap (IntKind.u64.wrap n * 2)=(2 * n) % 18446744073709551616:=by rw[IntKind.wrap_u64,IntKind.wrap_u64];omega
   have e2:IntKind.u64.wrap (sgn n)=18446744073709551615:=by rw[sgn,if_neg h0];rfl
   rw[e1,e2];have:BitVec.ofInt 64 18446744073709551615=BitVec.allOnes 64:=by decide
   rw[this,BitVec.xor_allOnes,BitVec.toNat_not,BitVec.toNat_ofInt];simp[zig,h0];omega
 simp only[fq];rw[if_pos trivial];have e3:(BitVec.ofInt IntKind.u64.bits (IntKind.u64.wrap (IntKind.u64.wrap n * 2)) ^^^ BitVec.ofInt IntKind.u64.bits (IntKind.u64.wrap (sgn n))).toNat=zig n:=key;rw[e3,IntKind.wrap_u64];congr 2;omega
theorem jE(l:KD)(n:Int)(hn:I64 n)(v:Value)(G:Ks)(hl:SB G v l)(hb:l.length≤100000):
  FnO Tryz.prog 200 #[v,.int .i64 n] G [] (fun _ L' r=>o9 (l++pvB n) L' r):=by
 refine F200.fnO (by simp) dS (dY ?_);have hl0:=hl;obtain⟨A,c,rfl,hc,hm,hA⟩:=hl;unfold c200;intros;refine gR 0 0 c200r0.eq_1 ?_;intros;refine gr 7 14 ?_;(refine sJ4 c200r1.eq_1 @IB (EE hn) (CC hn) ?_);intros;refine gR 14 16 c200r2.eq_1 ?_;refine(o6 l _ G hl0 (by omega) _ []).mono ?_;rintro r h' ⟨G1,L',rfl,hg1,ys,hys,rfl⟩;refine sI ?_;intros;refine dT ?_
 refine ej (fun e h=>∃ (z:Nat) (zs:KD) (zc:Kt) (u:Value),(Eo l (zig n) zs z∧Cells UE 1 zs zc)∧e 5=.int .u64 (z:Int)∧e 6=u∧h.G=G1∧h.D=[]∧[Item.row u 5 1 zs.length zc].Sublist h.L) (fun e h=>iv (e 5)) ?_ ?_
 ·exact⟨zig n,l,ys,_,⟨ru l (qC hn),hys⟩,eE,eE,rfl,rfl,List.Sublist.refl _⟩
 ·rintro e ⟨G',L,D⟩ ⟨z,zs,zc,u,⟨hp,hcs⟩,e5,e6,hG,hD,hL⟩;dsimp only at hG hD hL;subst hG hD;refine dU (dX hL) ?_;refine dV [5,6] ?_;refine sJ2 @e5 @e6 ?_;have hlen:=tQ hp;intros;refine gR 16 17 c200r3.eq_1 ?_;intros;refine gC ?_;refine gb (fun ht=>?_) (fun ht=>?_)
  ·have hz:¬ z < 128:=by simp at ht;omega
   intros;refine gR2 20 26 c200r4.eq_1 @EZ ?_;intro bk hbk;refine yN (L1:=[]) (L2:=[]) rfl rfl hcs (by omega) fun A' c' zc' hzc=>?_
   refine sI ?_;intros;refine gR2 18 20 c200r5.eq_1 @Hm ?_;intros;refine dT ?_;refine eF ⟨⟨z / 128,_,zc',_,⟨qJ hp hz,hzc⟩,eE,eE,rfl,rfl,.cons _ KJ⟩,?_⟩;refine sI ?_;simp[iv];omega
  ·have hz:z < 128:=by simp at ht;omega
   refine eg ?_;refine sI ?_;intros;refine gR2 26 31 c200r6.eq_1 @oD ?_;intro bk hbk;refine yN (L1:=[]) (L2:=[]) rfl rfl hcs (by omega) fun A' c' zc' hzc=>?_
   refine sI ?_;intros;refine dT ?_;rw[tC hp hz]at hzc ⊢;refine ea (ee _ rfl (.cons _ KJ) (dW dS) ?_);exact⟨zc',hzc,rfl⟩
theorem iN(l:KD)(n:Int)(hn:I64 n)(v:Value)(G:Ks)(hl:SB G v l)(hb:l.length≤100000):
  FnO Tryz.prog 162 #[v,.int .i64 n] G [] (fun _ L' r=>o9 (l++pvB n) L' r):=by
 refine F162.fnO (by simp) dS (dY ?_);have hl0:=hl;have hn0:=hn;unfold I64 at hn;obtain⟨A,c,rfl,hc,hm,hA⟩:=hl;unfold c162;intros;refine gR 0 0 c162r0.eq_1 ?_;intros;refine gR2 7 10 c162r1.eq_1 @nU ?_
 have hrest:∀ (e:Env),e 0=.slice A l.length c→e 5=.int .u64 (zig n:Int)→go none Tryz.prog 36 v162.1 v162.2 (fI o162 fun v h=>o9 (l++pvB n) h.L v) [Td.s ((SC.reg false c162r4).seq ((SC.blk 0 (((SC.reg false c162r5).seq (SC.cond (O.t 21) SC.skip (SC.exit 0))).seq (SC.blk 1 ((SC.reg false c162r6).seq (SC.reg false c162r7)))).loop).seq ((SC.reg false c162r8).seq SC.ret)))] e ⟨G,[],[]⟩:=fun e e0 e5=>by
  refine dV [0,5] ?_;refine sJ2 @e0 @e5 ?_;intros;refine gR 18 20 c162r4.eq_1 ?_;refine(rX l _ G hl0 (by omega) _ []).mono ?_;rintro r h' ⟨G1,L',rfl,hg1,ys,hys,rfl⟩;refine sI ?_;intros;refine dT ?_
  refine ej (fun e h=>∃ (z:Nat) (zs:KD) (zc:Kt) (u:Value),(Eo l (zig n) zs z∧Cells UE 1 zs zc∧z < 18446744073709551616)∧e 5=.int .u64 (z:Int)∧e 6=u∧h.G=G1∧h.D=[]∧[Item.row u 5 1 zs.length zc].Sublist h.L) (fun e h=>iv (e 5)) ?_ ?_
  ·exact⟨zig n,l,ys,_,⟨ru l (qC hn0),hys,qC hn0⟩,eE,eE,rfl,rfl,List.Sublist.refl _⟩
  ·rintro e ⟨G',L,D⟩ ⟨z,zs,zc,u,⟨hp,hcs,hzb⟩,e5,e6,hG,hD,hL⟩;dsimp only at hG hD hL;subst hG hD;refine dU (dX hL) ?_;refine dV [5,6] ?_;refine sJ2 @e5 @e6 ?_;have hlen:=tQ hp;intros;refine gR 20 21 c162r5.eq_1 ?_;intros;refine gC ?_;refine gb (fun ht=>?_) (fun ht=>?_)
   ·have hz:¬ z < 128:=by simp at ht;omega
    have hpm:=qJ hp hz;have hdz:z / 128 < z:=by omega
    have hq:fq .quo (.int .u64 (z:Int)) (.int .u64 128)=some (.int .u64 ((z / 128:Nat):Int)):=n8 .u64 z 128 (by decide) (by simp[IntKind.max,IntKind.signed,IntKind.bits];omega) rfl;generalize z / 128=q at hq hpm hdz;have hr:fq .rem (.int .u64 (z:Int)) (.int .u64 128)=some (.int .u64 ((z:Int) % 128)):=mL .u64 z 128 (by decide)
    have hw:IntKind.u8.wrap (IntKind.u64.wrap (128+(z:Int) % 128))=((UInt8.ofNat (128+z % 128)).toNat:Int):=by
     rw[← oD,IntKind.wrap_u64];congr 1;omega
    intros;refine gr 22 29 ?_;refine sJ3 c162r6.eq_1 @hr @p8 ?_;intro bk hbk;refine yN (L1:=[]) (L2:=[]) rfl hw hcs (by omega) fun A' c' zc' hzc=>?_
    refine sI ?_;intros;refine gR2 29 31 c162r7.eq_1 @hq ?_;intros;refine dT ?_;refine eF ⟨⟨q,_,zc',_,⟨hpm,hzc,by omega⟩,eE,eE,rfl,rfl,.cons _ KJ⟩,?_⟩;refine sI ?_;omega
   ·have hz:z < 128:=by simp at ht;omega
    refine eg ?_;refine sI ?_;intros;refine gR2 31 36 c162r8.eq_1 @oD ?_;intro bk hbk;refine yN (L1:=[]) (L2:=[]) rfl rfl hcs (by omega) fun A' c' zc' hzc=>?_
    refine sI ?_;intros;refine dT ?_;rw[tC hp hz]at hzc ⊢;refine ea (ee _ rfl (.cons _ KJ) (dW dS) ?_);exact⟨zc',hzc,rfl⟩
 intros;refine gR 10 11 c162r2.eq_1 ?_;intros;refine gC ?_;refine gb (fun ht=>?_) (fun ht=>?_)
 ·have hz:IntKind.u64.wrap (IntKind.u64.wrap (2 * IntKind.u64.wrap (IntKind.i64.wrap (0 - IntKind.i64.wrap (n+1))))+1)=(zig n:Int):=by
   have h0:n < 0:=by simpa using ht
   have e1:IntKind.i64.wrap (n+1)=n+1:=by rw[ei] <;> omega
   have e2:IntKind.i64.wrap (0 - (n+1))=0 - (n+1):=by rw[ei] <;> omega
   rw[e1,e2];simp only[IntKind.wrap_u64,zig,if_neg (show ¬ 0≤n by omega)];omega
  intros;refine gr 12 18 ?_;refine sJ4 c162r3.eq_1 @nU @p8 @hz ?_;intro _
  (repeat first | refine eK ?_ | refine jg ?_)
  refine hrest _ ?_ ?_ <;> (refine sI ?_;try with_reducible exact True.intro)
 ·have hz:IntKind.u64.wrap (2 * IntKind.u64.wrap n)=(zig n:Int):=by
   have h0:¬ n < 0:=by simpa using ht
   simp only[IntKind.wrap_u64,zig,if_pos (show 0≤n by omega)];omega
  (repeat first | refine eK ?_ | refine jg ?_)
  refine hrest _ ?_ ?_ <;> (refine sJ @hz ?_;try with_reducible exact True.intro)
theorem F215:Fun Tryz.prog 215 9 v215 c215 o215:=Fun.mk' Tryz.func215 Tryz.ntmps215 (by kernel_rfl) (by kernel_rfl) s215 q215
theorem F184:Fun Tryz.prog 184 9 v184 c184 o184:=Fun.mk' Tryz.func184 Tryz.ntmps184 (by kernel_rfl) (by kernel_rfl) s184 q184
theorem F216:Fun Tryz.prog 216 11 v216 c216 o216:=Fun.mk' Tryz.func216 Tryz.ntmps216 (by kernel_rfl) (by kernel_rfl) s216 q216
theorem F185:Fun Tryz.prog 185 11 v185 c185 o185:=Fun.mk' Tryz.func185 Tryz.ntmps185 (by kernel_rfl) (by kernel_rfl) s185 q185
theorem F199:Fun Tryz.prog 199 33 v199 c199 o199:=Fun.mk' Tryz.func199 Tryz.ntmps199 (by kernel_rfl) (by kernel_rfl) s199 q199
theorem F161:Fun Tryz.prog 161 39 v161 c161 o161:=Fun.mk' Tryz.func161 Tryz.ntmps161 (by kernel_rfl) (by kernel_rfl) s161 q161
def inO(n:Int):Bool:=decide (0≤n) && decide (n≤1099511627776)
theorem uH(n:Int)(G:Ks):FnS Tryz.prog 215 #[.int .i64 n] G (.bool (inO n)):=by
 refine F215.fnS (by simp) (dY ?_);unfold c215;intros;refine gR 0 0 c215r0.eq_1 ?_;intros;refine gR 3 9 c215r1.eq_1 ?_;refine gd (fun h1=>?_) (fun h1=>?_)
 ·refine sI ?_;intros;refine rW ?_;have:0≤n:=by simpa using h1
  simp[inO,this]
 ·refine sI ?_;intros;refine rW ?_;have:¬ 0≤n:=by simpa using h1
  simp[inO,this]
theorem s8(n:Int)(G:Ks):FnS Tryz.prog 184 #[.int .i64 n] G (.bool (inO n)):=by
 refine F184.fnS (by simp) (dY ?_);unfold c184;intros;refine gR 0 0 c184r0.eq_1 ?_;intros;refine gR 3 9 c184r1.eq_1 ?_;refine gd (fun h1=>?_) (fun h1=>?_)
 ·refine sI ?_;intros;refine rW ?_;have:0≤n:=by simpa using h1
  simp[inO,this]
 ·refine sI ?_;intros;refine rW ?_;have:¬ 0≤n:=by simpa using h1
  simp[inO,this]
def ptB(s:ByteArray):KD:=pvB s.size++s.data.toList
theorem pb(s:ByteArray):(ptB s).length≤10+s.size:=by
 have:=gF s.size;simp[ptB];omega
theorem oU(l:KD)(s:ByteArray)(v:Value)(G:Ks)(hl:SB G v l)(hb:l.length≤100000)(hs:s.size≤100000):
  FnO Tryz.prog 216 #[v,.string s] G [] (fun _ L' r=>o9 (l++ptB s) L' r):=by
 refine F216.fnO (by simp) dS (dY ?_);unfold c216;intros;refine gR 0 0 c216r0.eq_1 ?_;intros;refine gR 5 11 c216r1.eq_1 ?_;refine(jE l s.size (by unfold I64;omega) v G hl hb _ []).mono ?_;rintro r h' ⟨G1,L',rfl,hg1,ys,hys,rfl⟩;refine sI ?_;have hpl:=gF s.size;refine Fy (L1:=[]) (.inl rfl) hys (by rw[length_append];omega) fun A' c' zc' hzc=>?_
 refine sI ?_;intros;refine dT ?_;refine ea (ee _ rfl KJ (dW dS) ?_);rw[List.append_assoc]at hzc ⊢;exact⟨zc',hzc,rfl⟩
theorem nw(l:KD)(s:ByteArray)(v:Value)(G:Ks)(hl:SB G v l)(hb:l.length≤100000)(hs:s.size≤100000):
  FnO Tryz.prog 185 #[v,.string s] G [] (fun _ L' r=>o9 (l++ptB s) L' r):=by
 refine F185.fnO (by simp) dS (dY ?_);unfold c185;intros;refine gR 0 0 c185r0.eq_1 ?_;intros;refine gR 5 11 c185r1.eq_1 ?_;refine(iN l s.size (by unfold I64;omega) v G hl hb _ []).mono ?_;rintro r h' ⟨G1,L',rfl,hg1,ys,hys,rfl⟩;refine sI ?_;have hpl:=gF s.size;refine Fy (L1:=[]) (.inl rfl) hys (by rw[length_append];omega) fun A' c' zc' hzc=>?_
 refine sI ?_;intros;refine dT ?_;refine ea (ee _ rfl KJ (dW dS) ?_);rw[List.append_assoc]at hzc ⊢;exact⟨zc',hzc,rfl⟩
structure Rec where
 off:Int
 key:ByteArray
 val:ByteArray
 dead:Bool
 stamp:Int
def gT(x:Rec):Kt:=[.int .i64 x.off,.string x.key,.string x.val,.bool x.dead,.int .i64 x.stamp]
def RR(x:Rec)(cs:Kt):Prop:=cs=gT x∧(I64 x.off∧I64 x.stamp)∧x.key.size≤maxLen∧x.val.size≤maxLen
def isE(s:ByteArray):Bool:=s.toList == ByteArray.toList ⟨#[]⟩
def kb(x:Rec):Int:=if inO x.off=true∧inO x.stamp=true∧x.key.size≤64∧x.val.size≤64∧¬ (x.dead=true∧(isE x.key=true∨isE x.val=false))then 0 else 1
theorem vT(a:ByteArray):fq .eql (.string a) (.string ⟨#[]⟩)=some (.bool (isE a)):=rfl
theorem vF(a:ByteArray):fq .neq (.string a) (.string ⟨#[]⟩)=some (.bool (!isE a)):=rfl
theorem iF{x:Rec}(h:inO x.off=false∨inO x.stamp=false∨64 < x.key.size∨64 < x.val.size∨(x.dead=true∧(isE x.key=true∨isE x.val=false))):kb x=1:=by
 refine if_neg fun⟨h1,h2,h3,h4,h5⟩=>?_
 rcases h with h | h | h | h | h
 ·rw[h1]at h;cases h
 ·rw[h2]at h;cases h
 ·omega
 ·omega
 ·exact h5 h
theorem oc(x:Rec)(G:Ks):FnS Tryz.prog 161 #[.agg (gT x).toArray] G (.int .i64 (kb x)):=by
 refine F161.fnS (by simp) (dY ?_);unfold c161 gT;intros;refine gR 0 0 c161r0.eq_1 ?_;have hbad:∀ (fr:KA) (e:Env) (L:Kv),kb x=1→go none Tryz.prog 39 v161.1 v161.2 (fI o161 fun v h=>v=.int .i64 (kb x)) (Td.s ((SC.reg false c161r2).seq .ret) :: fr) e ⟨G,L,[]⟩:=fun fr e L hx=>by
  intros;refine gR 0 0 c161r2.eq_1 ?_;intros;refine rW ?_;rw[hx]
 have hgood:∀ (e:Env) (L:Kv),kb x=0→go none Tryz.prog 39 v161.1 v161.2 (fI o161 fun v h=>v=.int .i64 (kb x)) [Td.s ((SC.reg false c161r3).seq .ret)] e ⟨G,L,[]⟩:=fun e L hx=>by
  intros;refine gR 0 0 c161r3.eq_1 ?_;intros;refine rW ?_;rw[hx]
 intros;refine gR 4 38 c161r1.eq_1 ?_;refine fK (s8 x.off G _ _) ?_;refine gd (fun h1=>?_) (fun h1=>?_)
 ·refine sI ?_;intros;refine gC ?_;exact hbad _ _ _ (iF (.inl (by simpa using h1)))
 refine sI ?_;refine fK (s8 x.stamp G _ _) ?_;refine gd (fun h2=>?_) (fun h2=>?_)
 ·refine sI ?_;intros;refine gC ?_;exact hbad _ _ _ (iF (.inr (.inl (by simpa using h2))))
 refine sI ?_;refine gd (fun h3=>?_) (fun h3=>?_)
 ·refine sI ?_;intros;refine gC ?_;exact hbad _ _ _ (iF (.inr (.inr (.inl (by simp at h3;omega)))))
 refine sI ?_;refine gd (fun h4=>?_) (fun h4=>?_)
 ·refine sI ?_;intros;refine gC ?_;exact hbad _ _ _ (iF (.inr (.inr (.inr (.inl (by simp at h4;omega))))))
 refine sI ?_;have h1':inO x.off=true:=by simpa using h1
 have h2':inO x.stamp=true:=by simpa using h2
 have h3':x.key.size≤64:=by simp at h3;omega
 have h4':x.val.size≤64:=by simp at h4;omega
 refine gd (fun h5=>?_) (fun h5=>?_)
 ·refine sJ @vT ?_;refine gd (fun h6=>?_) (fun h6=>?_)
  ·refine sI ?_;intros;refine gC ?_;exact hbad _ _ _ (iF (.inr (.inr (.inr (.inr ⟨h5,.inl h6⟩)))))
  refine sJ @vF ?_;intros;refine gC ?_;refine gb (fun h7=>?_) (fun h7=>?_)
  ·exact hbad _ _ _ (iF (.inr (.inr (.inr (.inr ⟨h5,.inr (by simpa using h7)⟩)))))
  ·(repeat first | refine eK ?_ | refine jg ?_)
   refine hgood _ _ (if_pos ⟨h1',h2',h3',h4',fun h=>?_⟩);rcases h.2 with h | h
   ·rw[h6]at h;cases h
   ·simp[h]at h7
 ·refine sI ?_;intros;refine gC ?_
  (repeat first | refine eK ?_ | refine jg ?_)
  exact hgood _ _ (if_pos ⟨h1',h2',h3',h4',fun h=>by rw[h5]at h;cases h.1⟩)
theorem pu(x:Rec)(G:Ks):FnS Tryz.prog 199 #[.agg (gT x).toArray] G (.int .i64 (kb x)):=by
 refine F199.fnS (by simp) (dY ?_);unfold c199 gT;intros;refine gR 0 0 c199r0.eq_1 ?_;have hbad:∀ (fr:KA) (e:Env) (L:Kv),kb x=1→go none Tryz.prog 33 v199.1 v199.2 (fI o199 fun v h=>v=.int .i64 (kb x)) (Td.s ((SC.reg false c199r4).seq .ret) :: fr) e ⟨G,L,[]⟩:=fun fr e L hx=>by
  intros;refine gR 0 0 c199r4.eq_1 ?_;intros;refine rW ?_;rw[hx]
 intros;refine gR 5 8 c199r1.eq_1 ?_;refine fK (uH x.off G _ _) ?_;intros;refine gC ?_;refine gb (fun h1=>?_) (fun h1=>?_)
 ·(repeat first | refine eK ?_ | refine jg ?_)
  intros;refine gC ?_;refine gb (fun _=>?_) (fun h=>by rw[h1]at h;cases h);exact hbad _ _ _ (iF (.inl (by simpa using h1)))
 intros;refine gR 9 12 c199r2.eq_1 ?_;refine fK (uH x.stamp G _ _) ?_;intros;refine gC ?_;refine gb (fun h2=>?_) (fun h2=>?_)
 ·(repeat first | refine eK ?_ | refine jg ?_)
  intros;refine gC ?_;refine gb (fun _=>?_) (fun h=>by rw[h2]at h;cases h);exact hbad _ _ _ (iF (.inr (.inl (by simpa using h2))))
 have h1':inO x.off=true:=by simpa using h1
 have h2':inO x.stamp=true:=by simpa using h2
 intros;refine gR 13 20 c199r3.eq_1 ?_;intros;refine gC ?_;refine gbD (fun h3=>?_) (fun h3=>?_)
 ·by_cases h4:64 < x.key.size
  ·exact hbad _ _ _ (iF (.inr (.inr (.inl h4))))
  ·exact hbad _ _ _ (iF (.inr (.inr (.inr (.inl (by omega))))))
 have h3':x.key.size≤64:=by omega
 have h4':x.val.size≤64:=by omega
 have hbad2:∀ (fr:KA) (e:Env) (L:Kv),kb x=1→go none Tryz.prog 33 v199.1 v199.2 (fI o199 fun v h=>v=.int .i64 (kb x)) (Td.s ((SC.reg false c199r6).seq .ret) :: fr) e ⟨G,L,[]⟩:=fun fr e L hx=>by
  intros;refine gR 0 0 c199r6.eq_1 ?_;intros;refine rW ?_;rw[hx]
 have hgood:∀ (e:Env) (L:Kv),kb x=0→go none Tryz.prog 33 v199.1 v199.2 (fI o199 fun v h=>v=.int .i64 (kb x)) [Td.s ((SC.reg false c199r7).seq .ret)] e ⟨G,L,[]⟩:=fun e L hx=>by
  intros;refine gR 0 0 c199r7.eq_1 ?_;intros;refine rW ?_;rw[hx]
 intros;refine gR 22 33 c199r5.eq_1 ?_;refine gd (fun h5=>?_) (fun h5=>?_)
 ·refine sJ @vT ?_;refine gd (fun h6=>?_) (fun h6=>?_)
  ·refine sI ?_;intros;refine gC ?_;exact hbad2 _ _ _ (iF (.inr (.inr (.inr (.inr ⟨h5,.inl h6⟩)))))
  refine sJ @vF ?_;intros;refine gC ?_;refine gb (fun h7=>?_) (fun h7=>?_)
  ·exact hbad2 _ _ _ (iF (.inr (.inr (.inr (.inr ⟨h5,.inr (by simpa using h7)⟩)))))
  ·(repeat first | refine eK ?_ | refine jg ?_)
   refine hgood _ _ (if_pos ⟨h1',h2',h3',h4',fun h=>?_⟩);rcases h.2 with h | h
   ·rw[h6]at h;cases h
   ·simp[h]at h7
 ·refine sI ?_;intros;refine gC ?_
  (repeat first | refine eK ?_ | refine jg ?_)
  exact hgood _ _ (if_pos ⟨h1',h2',h3',h4',fun h=>by rw[h5]at h;cases h.1⟩)
theorem F201:Fun Tryz.prog 201 46 v201 c201 o201:=Fun.mk' Tryz.func201 Tryz.ntmps201 (by kernel_rfl) (by kernel_rfl) s201 q201
theorem F163:Fun Tryz.prog 163 50 v163 c163 o163:=Fun.mk' Tryz.func163 Tryz.ntmps163 (by kernel_rfl) (by kernel_rfl) s163 q163
def prB(x:Rec)(base stamp:Int):KD:=pvB (x.off - base)++pvB (x.stamp - stamp)++[if x.dead=true then 1 else 0]++ptB x.key++ptB x.val
def ot(x:Rec)(base stamp:Int):KD × Int:=if kb x≠0 then([],kb x)else if ¬ (inO base=true∧inO stamp=true)then([],1)else(prB x base stamp,0)
def yR(p:KD × Int)(L':Kv)(r:Value):Prop:=∃ u,r=.tuple #[u,.int .i64 p.2]∧o9 p.1 L' u
theorem fQ{x:Rec}(h:kb x=0):(inO x.off=true∧inO x.stamp=true)∧x.key.size≤64∧x.val.size≤64:=by
 by_cases h0:inO x.off=true∧inO x.stamp=true∧x.key.size≤64∧x.val.size≤64∧¬ (x.dead=true∧(isE x.key=true∨isE x.val=false))
 ·exact⟨⟨h0.1,h0.2.1⟩,h0.2.2.1,h0.2.2.2.1⟩
 ·rw[kb,if_neg h0]at h;cases h
theorem Df(x:Rec)(base stamp:Int)(G:Ks):FnO Tryz.prog 163 #[.agg (gT x).toArray,.int .i64 base,.int .i64 stamp] G [] (fun _ L' r=>yR (ot x base stamp) L' r):=by
 refine F163.fnO (by simp) dS (dY ?_);unfold c163;have hck:=oc x;unfold gT at hck ⊢;intros;refine gR 0 0 c163r0.eq_1 ?_;intros;refine gR 10 12 c163r1.eq_1 ?_;refine fK (hck G _ _) ?_;intros;refine gR 12 13 c163r2.eq_1 ?_;intros;refine gC ?_;refine gb (fun h1=>?_) (fun h1=>?_)
 ·intros;refine gR 14 15 c163r3.eq_1 ?_;intros;refine dT ?_;refine dU (eA none 5 1) ?_;refine ea (ee _ rfl (.cons_cons _ KL) (dW dS) ?_);rw[ot,if_pos (by simpa using h1)];exact⟨_,rfl,[],.nil,rfl⟩
 have h1:kb x=0:=by simpa using h1
 have hbad:∀ (fr:KA) (e:Env) (L:Kv),ot x base stamp=([],1)→go none Tryz.prog 50 v163.1 v163.2 (fI o163 fun v h=>yR (ot x base stamp) h.L v) (Td.s ((SC.reg false c163r5).seq .ret) :: fr) e ⟨G,L,[]⟩:=fun fr e L hx=>by
  intros;refine gR 0 0 c163r5.eq_1 ?_;intros;refine dT ?_;refine dU (eA none 5 1) ?_;refine ea (ee _ rfl (.cons_cons _ KL) (dW dS) ?_);rw[hx];exact⟨_,rfl,[],.nil,rfl⟩
 have hpb:∀ (h:¬ (inO base=true∧inO stamp=true)),ot x base stamp=([],1):=fun h=>by rw[ot,if_neg (by simp[h1]),if_pos h]
 intros;refine gR 15 22 c163r4.eq_1 ?_;refine fK (s8 base G _ _) ?_;refine gd (fun h2=>?_) (fun h2=>?_)
 ·refine sI ?_;intros;refine gC ?_;exact hbad _ _ _ (hpb fun h=>by rw[h.1]at h2;cases h2)
 refine sI ?_;refine fK (s8 stamp G _ _) ?_;intros;refine gC ?_;refine gb (fun h3=>?_) (fun h3=>?_)
 ·exact hbad _ _ _ (hpb fun h=>by rw[h.2]at h3;cases h3)
 have h2:inO base=true:=by simpa using h2
 have h3:inO stamp=true:=by simpa using h3
 obtain⟨⟨ho,hst⟩,hk,hv⟩:=fQ h1;have hput:ot x base stamp=(prB x base stamp,0):=by rw[ot,if_neg (by simp[h1]),if_neg (by simp[h2,h3])]
 simp[inO]at h2 h3 ho hst;have w1:IntKind.i64.wrap (x.off - base)=x.off - base:=by rw[ei] <;> omega
 have w2:IntKind.i64.wrap (x.stamp - stamp)=x.stamp - stamp:=by rw[ei] <;> omega
 have i1:I64 (x.off - base):=by unfold I64;omega
 have i2:I64 (x.stamp - stamp):=by unfold I64;omega
 have l1:=gF (x.off - base);have l2:=gF (x.stamp - stamp)
 (repeat first | refine eK ?_ | refine jg ?_)
 intros;refine gR2 24 28 c163r6.eq_1 @w1 ?_;refine(iN [] (x.off - base) i1 _ G SB.nil (by simp) _ []).mono ?_;rintro r h' ⟨G1,L',rfl,hg1,ys,hys,rfl⟩;simp only[List.nil_append]at hys ⊢;refine sI ?_;intros;refine gR2 28 34 c163r7.eq_1 @w2 ?_;refine fx F162.enters (eh [] _ (by decide) hys) ?_;rintro h' ⟨G2,rfl,hg2,hv2⟩;refine(iN _ (x.stamp - stamp) i2 _ G2 hv2 (by omega) _ []).mono ?_
 rintro r h' ⟨G3,L',rfl,hg3,ys3,hys3,rfl⟩;refine sI ?_;have hrest:∀ (e:Env) (L:Kv) (u:Value) (zc:Kt) (b:UInt8),b=(if x.dead=true then 1 else 0)→Cells UE 1 (pvB (x.off - base)++pvB (x.stamp - stamp)++[b]) zc→e 9=u →
   go none Tryz.prog 50 v163.1 v163.2 (fI o163 fun v h=>yR (ot x base stamp) h.L v) [Td.s ((SC.reg false c163r11).seq ((SC.reg false c163r12).seq .ret))] e ⟨G3,[.row u 5 1 (pvB (x.off - base)++pvB (x.stamp - stamp)++[b]).length zc,.reg 3 [.int .i64 x.off,.string x.key,.string x.val,.bool x.dead,.int .i64 x.stamp]],[]⟩:=fun e L u zc b hb hzc e9=>by
  refine dV [9] ?_;refine sJ @e9 ?_;intros;refine gR 42 46 c163r11.eq_1 ?_;refine fx F185.enters (eh [] _ (by decide) hzc) ?_;rintro h' ⟨G4,rfl,hg4,hv4⟩;refine(nw _ x.key _ G4 hv4 (by simp;omega) (by omega) _ []).mono ?_;rintro r h' ⟨G5,L',rfl,hg5,ys5,hys5,rfl⟩;refine sI ?_;have l3:=pb x.key;intros;refine gR 46 50 c163r12.eq_1 ?_;refine fx F185.enters (eh [] _ (by decide) hys5) ?_
  rintro h' ⟨G6,rfl,hg6,hv6⟩;refine(nw _ x.val _ G6 hv6 (by simp;omega) (by omega) _ []).mono ?_;rintro r h' ⟨G7,L',rfl,hg7,ys7,hys7,rfl⟩;refine sI ?_;intros;refine dT ?_;refine ea (ee _ rfl (.cons_cons _ KL) (dW dS) ?_);rw[hput];subst hb;exact⟨_,rfl,ys7,hys7,rfl⟩
 intros;refine gR 0 0 c163r8.eq_1 ?_;intros;refine gC ?_;refine gb (fun h5=>?_) (fun h5=>?_)
 ·intros;refine gR 36 39 c163r9.eq_1 ?_;intro bk hbk;refine yN (L1:=[]) (L2:=[_]) (x:=1) rfl rfl hys3 (by simp;omega) fun A' c' zc' hzc=>?_
  refine sI ?_;intro _;refine dU (dX (.cons _ KJ)) ?_
  (repeat first | refine eK ?_ | refine jg ?_)
  refine hrest _ [] _ _ 1 (by rw[if_pos h5]) hzc ?_
  (refine sI ?_;try with_reducible exact True.intro)
 ·intros;refine gR 39 42 c163r10.eq_1 ?_;intro bk hbk;refine yN (L1:=[]) (L2:=[_]) (x:=0) rfl rfl hys3 (by simp;omega) fun A' c' zc' hzc=>?_
  refine sI ?_;intro _;refine dU (dX (.cons _ KJ)) ?_
  (repeat first | refine eK ?_ | refine jg ?_)
  refine hrest _ [] _ _ 0 (by rw[if_neg (by rw[h5];simp)]) hzc ?_
  (refine sI ?_;try with_reducible exact True.intro)
theorem Gk(x:Rec)(base stamp:Int)(G:Ks):FnO Tryz.prog 201 #[.agg (gT x).toArray,.int .i64 base,.int .i64 stamp] G [] (fun _ L' r=>yR (ot x base stamp) L' r):=by
 refine F201.fnO (by simp) dS (dY ?_);unfold c201;have hck:=pu x;unfold gT at hck ⊢;intros;refine gR 0 0 c201r0.eq_1 ?_;intros;refine gR 11 13 c201r1.eq_1 ?_;refine fK (hck G _ _) ?_;intros;refine gR 13 14 c201r2.eq_1 ?_;intros;refine gC ?_;refine gb (fun h1=>?_) (fun h1=>?_)
 ·intros;refine gR 15 16 c201r3.eq_1 ?_;intros;refine dT ?_;refine dU (eA none 5 1) ?_;refine ea (ee _ rfl (.cons_cons _ KL) (dW dS) ?_);rw[ot,if_pos (by simpa using h1)];exact⟨_,rfl,[],.nil,rfl⟩
 have h1:kb x=0:=by simpa using h1
 have hbad:∀ (fr:KA) (e:Env) (L:Kv),ot x base stamp=([],1)→go none Tryz.prog 46 v201.1 v201.2 (fI o201 fun v h=>yR (ot x base stamp) h.L v) (Td.s ((SC.reg false c201r5).seq .ret) :: fr) e ⟨G,L,[]⟩:=fun fr e L hx=>by
  intros;refine gR 0 0 c201r5.eq_1 ?_;intros;refine dT ?_;refine dU (eA none 5 1) ?_;refine ea (ee _ rfl (.cons_cons _ KL) (dW dS) ?_);rw[hx];exact⟨_,rfl,[],.nil,rfl⟩
 have hpb:∀ (h:¬ (inO base=true∧inO stamp=true)),ot x base stamp=([],1):=fun h=>by rw[ot,if_neg (by simp[h1]),if_pos h]
 (repeat first | refine eK ?_ | refine jg ?_)
 intros;refine gR 16 23 c201r4.eq_1 ?_;refine fK (uH base G _ _) ?_;refine gd (fun h2=>?_) (fun h2=>?_)
 ·refine sI ?_;intros;refine gC ?_;exact hbad _ _ _ (hpb fun h=>by rw[h.1]at h2;cases h2)
 refine sI ?_;refine fK (uH stamp G _ _) ?_;intros;refine gC ?_;refine gb (fun h3=>?_) (fun h3=>?_)
 ·exact hbad _ _ _ (hpb fun h=>by rw[h.2]at h3;cases h3)
 have h2:inO base=true:=by simpa using h2
 have h3:inO stamp=true:=by simpa using h3
 obtain⟨⟨ho,hst⟩,hk,hv⟩:=fQ h1;have hput:ot x base stamp=(prB x base stamp,0):=by rw[ot,if_neg (by simp[h1]),if_neg (by simp[h2,h3])]
 simp[inO]at h2 h3 ho hst;have w1:IntKind.i64.wrap (x.off - base)=x.off - base:=by rw[ei] <;> omega
 have w2:IntKind.i64.wrap (x.stamp - stamp)=x.stamp - stamp:=by rw[ei] <;> omega
 have i1:I64 (x.off - base):=by unfold I64;omega
 have i2:I64 (x.stamp - stamp):=by unfold I64;omega
 have l1:=gF (x.off - base);have l2:=gF (x.stamp - stamp)
 (repeat first | refine eK ?_ | refine jg ?_)
 have hrest:∀ (e:Env) (b:UInt8),b=(if x.dead=true then 1 else 0)→e 1=.int .i64 base→e 2=.int .i64 stamp→e 9=.int .u8 (b.toNat:Int) →
   go none Tryz.prog 46 v201.1 v201.2 (fI o201 fun v h=>yR (ot x base stamp) h.L v) [Td.s ((SC.rgX c201r9).seq ((SC.rgX c201r10).seq .ret))] e ⟨G,[.reg 3 [.int .i64 x.off,.string x.key,.string x.val,.bool x.dead,.int .i64 x.stamp]],[]⟩:=fun e b hb e1 e2 e9=>by
  refine dV [1,2,9] ?_;refine sJ3 @e1 @e2 @e9 ?_;intros;refine dT ?_;refine lk _ KJ (by decide) ?_;refine sJ3 c201r9.eq_1 @w1 @w2 ?_;refine(jE [] (x.off - base) i1 _ G SB.nil (by simp) _ []).mono ?_;rintro r h' ⟨G1,L',rfl,hg1,ys,hys,rfl⟩;simp only[List.nil_append]at hys ⊢;refine⟨ef hg1 (.cons _ KJ),?_⟩;refine sI ?_;refine fx F200.enters (eh [] _ (by decide) hys) ?_;rintro h' ⟨G2,rfl,hg2,hv2⟩
  refine(jE _ (x.stamp - stamp) i2 _ G2 hv2 (by omega) _ []).mono ?_;rintro r h' ⟨G3,L',rfl,hg3,ys3,hys3,rfl⟩;refine⟨ef (hg1.trans (hg2.trans hg3)) (.cons _ KJ),?_⟩;refine sI ?_;intros;refine dT ?_;refine lk _ (.cons _ KJ) (by decide) ?_;refine sJ c201r10.eq_1 ?_;intro bk hbk;refine⟨ef KO (.cons _ (.cons _ KJ)),?_⟩;refine sI ?_
  refine yN (L1:=[]) (L2:=[_]) (x:=b) rfl rfl hys3 (by simp;omega) fun A' c' zc' hzc=>?_
  refine sI ?_;refine⟨ef KO (.cons _ (.cons _ KJ)),?_⟩;refine sI ?_;refine fx F216.enters (eh [_] _ (by decide) hzc) ?_;rintro h' ⟨G4,rfl,hg4,hv4⟩;refine(oU _ x.key _ G4 hv4 (by simp;omega) (by omega) _ []).mono ?_;rintro r h' ⟨G5,L',rfl,hg5,ys5,hys5,rfl⟩;refine⟨ef (hg4.trans hg5) (.cons _ (.cons _ KJ)),?_⟩;refine sI ?_;have l3:=pb x.key;refine fx F216.enters (eh [] _ (by decide) hys5) ?_
  rintro h' ⟨G6,rfl,hg6,hv6⟩;refine(oU _ x.val _ G6 hv6 (by simp;omega) (by omega) _ []).mono ?_;rintro r h' ⟨G7,L',rfl,hg7,ys7,hys7,rfl⟩;refine⟨ef (hg4.trans (hg5.trans (hg6.trans hg7))) (.cons _ (.cons _ KJ)),?_⟩;refine sI ?_;intros;refine dT ?_;refine ea (ee _ rfl (.cons_cons _ KL) (dW dS) ?_);rw[hput];subst hb;exact⟨_,rfl,ys7,hys7,rfl⟩
 intros;refine gR 0 0 c201r6.eq_1 ?_;intros;refine gR 0 0 c201r7.eq_1 ?_;intros;refine gC ?_;refine gb (fun h5=>?_) (fun h5=>?_)
 ·intros;refine gR 0 0 c201r8.eq_1 ?_
  (repeat first | (with_reducible intro _) | refine eK ?_ | refine jg ?_)
  refine hrest _ 1 (by rw[if_pos h5]) ?_ ?_ ?_ <;> (refine sI ?_;try with_reducible exact True.intro);rfl
 ·(repeat first | refine eK ?_ | refine jg ?_)
  refine hrest _ 0 (by rw[if_neg (by rw[h5];simp)]) ?_ ?_ ?_ <;> (refine sI ?_;try with_reducible exact True.intro);rfl
theorem F117:Fun Tryz.prog 117 14 v117 c117 o117:=Fun.mk' Tryz.func117 Tryz.ntmps117 (by kernel_rfl) (by kernel_rfl) s117 q117
theorem F152:Fun Tryz.prog 152 25 v152 c152 o152:=Fun.mk' Tryz.func152 Tryz.ntmps152 (by kernel_rfl) (by kernel_rfl) s152 q152
theorem F153:Fun Tryz.prog 153 25 v153 c153 o153:=Fun.mk' Tryz.func153 Tryz.ntmps153 (by kernel_rfl) (by kernel_rfl) s153 q153
theorem F72:Fun Tryz.prog 72 12 v72 c72 o72:=Fun.mk' Tryz.func72 Tryz.ntmps72 (by kernel_rfl) (by kernel_rfl) s72 q72
def IE(x:Int)(cs:Kt):Prop:=cs=[.int .i64 x]∧I64 x
def rng(m n:Int):Bool:=decide (0≤n) && decide (n≤m)
theorem nC(n m:Int)(G:Ks):FnS Tryz.prog 72 #[.int .i64 n,.int .i64 m] G (.bool (rng m n)):=by
 refine F72.fnS (by simp) (dY ?_);unfold c72;intros;refine gR 0 0 c72r0.eq_1 ?_;intros;refine gR 5 12 c72r1.eq_1 ?_;refine gd (fun h1=>?_) (fun h1=>?_)
 ·refine sI ?_;intros;refine rW ?_;have:0≤n:=by simpa using h1
  simp[rng,this]
 ·refine sI ?_;intros;refine rW ?_;have:¬ 0≤n:=by simpa using h1
  simp[rng,this]
theorem EN{l:KG}{k:Nat}{x y:Int}(h0:l[0]?=some y)(hx:l[k]?=some x)(f:Int→Int→Int)(hk:0 < k):((l.drop 1).take k).foldl f y=f (((l.drop 1).take (k - 1)).foldl f y) x:=by
 have hl:=List.getElem?_eq_some_iff.1 hx;obtain⟨k,rfl⟩:∃ j,k=j+1:=⟨k - 1,by omega⟩;have h1:(l.drop 1)[k]?=some x:=by rw[List.getElem?_drop,Nat.add_comm];exact hx
 have h2:=List.getElem?_eq_some_iff.1 h1;rw[List.take_succ_eq_append_getElem h2.1,h2.2];simp
theorem FT(l:KG)(y:Int)(h0:l[0]?=some y)(v:Value)(G:Ks)(hl:SlV G IE 1 v l):FnS Tryz.prog 152 #[v] G (.int .i64 ((l.drop 1).foldl min y)):=by
 refine F152.fnS (by simp) (dY ?_);obtain⟨A,c,rfl,hc,hm,hA⟩:=hl;have hpos:=(List.getElem?_eq_some_iff.1 h0).1;unfold c152;intros;refine gR 0 0 c152r0.eq_1 ?_;intros;refine gR 5 7 c152r1.eq_1 ?_;intros;refine gC ?_;refine gb (fun h1=>by simp at h1;omega) (fun h1=>?_)
 (repeat first | refine eK ?_ | refine jg ?_)
 intros;refine gR 9 12 c152r2.eq_1 ?_;refine hA.x_l1 h0 rfl rfl ?_;rintro a1 ha1 u1 ⟨hu,-⟩;cases hu;refine sI ?_;intros;refine gR 0 0 c152r3.eq_1 ?_;intros;refine dT ?_;refine ej (fun e h=>∃ k:Nat,(0 < k∧k≤l.length)∧e 4=.int .i64 k∧e 0=.slice A l.length c∧e 3=.int .i64 (((l.drop 1).take (k - 1)).foldl min y)∧h=⟨G,[],[]⟩) (fun e h=>l.length - iv (e 4)) ?_ ?_
 ·exact⟨1,⟨by omega,by omega⟩,by refine sI ?_;rfl,eE,by refine sI ?_;rfl,rfl⟩
 ·rintro e h ⟨k,⟨hk0,hk⟩,e4,e0,e3,rfl⟩;refine dV [0,3,4] ?_;refine sJ3 @e0 @e3 @e4 ?_;intros;refine gR 12 15 c152r4.eq_1 ?_;intros;refine gC ?_;refine gb (fun ht=>?_) (fun ht=>?_)
  ·have hkl:k < l.length:=by simpa using ht
   have hw3:=eW k c (by omega) hm;obtain⟨x,hx⟩:∃ x,l[k]?=some x:=⟨l[k],getElem?_eq_getElem (by omega)⟩
   (repeat first | refine eK ?_ | refine jg ?_)
   intros;refine gR 18 24 c152r5.eq_1 ?_;refine hA.x_l1 hx rfl rfl ?_;rintro a1 ha1 u1 ⟨hu,-⟩;cases hu;refine sI ?_;intros;refine gR2 16 18 c152r6.eq_1 @hw3 ?_;intros;refine dT ?_;refine eF ⟨⟨k+1,⟨by omega,by omega⟩,eE,eE,by rw[Nat.add_sub_cancel,EN h0 hx min hk0];(refine sI ?_;try with_reducible exact True.intro),rfl⟩,?_⟩;refine sI ?_;omega
  ·have hkl:k=l.length:=by simp at ht;omega
   subst hkl;refine eg ?_;refine sI ?_;intros;refine gR 24 25 c152r7.eq_1 ?_;intros;refine rW ?_;rw[List.take_of_length_le (by simp)]
theorem Gl(l:KG)(y:Int)(h0:l[0]?=some y)(v:Value)(G:Ks)(hl:SlV G IE 1 v l):FnS Tryz.prog 153 #[v] G (.int .i64 ((l.drop 1).foldl max y)):=by
 refine F153.fnS (by simp) (dY ?_);obtain⟨A,c,rfl,hc,hm,hA⟩:=hl;have hpos:=(List.getElem?_eq_some_iff.1 h0).1;unfold c153;intros;refine gR 0 0 c153r0.eq_1 ?_;intros;refine gR 5 7 c153r1.eq_1 ?_;intros;refine gC ?_;refine gb (fun h1=>by simp at h1;omega) (fun h1=>?_)
 (repeat first | refine eK ?_ | refine jg ?_)
 intros;refine gR 9 12 c153r2.eq_1 ?_;refine hA.x_l1 h0 rfl rfl ?_;rintro a1 ha1 u1 ⟨hu,-⟩;cases hu;refine sI ?_;intros;refine gR 0 0 c153r3.eq_1 ?_;intros;refine dT ?_;refine ej (fun e h=>∃ k:Nat,(0 < k∧k≤l.length)∧e 4=.int .i64 k∧e 0=.slice A l.length c∧e 3=.int .i64 (((l.drop 1).take (k - 1)).foldl max y)∧h=⟨G,[],[]⟩) (fun e h=>l.length - iv (e 4)) ?_ ?_
 ·exact⟨1,⟨by omega,by omega⟩,by refine sI ?_;rfl,eE,by refine sI ?_;rfl,rfl⟩
 ·rintro e h ⟨k,⟨hk0,hk⟩,e4,e0,e3,rfl⟩;refine dV [0,3,4] ?_;refine sJ3 @e0 @e3 @e4 ?_;intros;refine gR 12 15 c153r4.eq_1 ?_;intros;refine gC ?_;refine gb (fun ht=>?_) (fun ht=>?_)
  ·have hkl:k < l.length:=by simpa using ht
   have hw3:=eW k c (by omega) hm;obtain⟨x,hx⟩:∃ x,l[k]?=some x:=⟨l[k],getElem?_eq_getElem (by omega)⟩
   (repeat first | refine eK ?_ | refine jg ?_)
   intros;refine gR 18 24 c153r5.eq_1 ?_;refine hA.x_l1 hx rfl rfl ?_;rintro a1 ha1 u1 ⟨hu,-⟩;cases hu;refine sI ?_;intros;refine gR2 16 18 c153r6.eq_1 @hw3 ?_;intros;refine dT ?_;refine eF ⟨⟨k+1,⟨by omega,by omega⟩,eE,eE,by rw[Nat.add_sub_cancel,EN h0 hx max hk0];(refine sI ?_;try with_reducible exact True.intro),rfl⟩,?_⟩;refine sI ?_;omega
  ·have hkl:k=l.length:=by simp at ht;omega
   subst hkl;refine eg ?_;refine sI ?_;intros;refine gR 24 25 c153r7.eq_1 ?_;intros;refine rW ?_;rw[List.take_of_length_le (by simp)]
theorem xU(m:Int):∀ (l:KG) (y:Int),m≤l.foldl min y↔m≤y∧∀ x∈l,m≤x
 | [],y=>by simp
 | x :: l,y=>by
  have h1:m≤min y x↔m≤y∧m≤x:=by omega
  rw[List.foldl_cons,xU m l,h1,and_assoc];simp
theorem wn(m:Int):∀ (l:KG) (y:Int),l.foldl max y≤m↔y≤m∧∀ x∈l,x≤m
 | [],y=>by simp
 | x :: l,y=>by
  have h1:max y x≤m↔y≤m∧x≤m:=by omega
  rw[List.foldl_cons,wn m l,h1,and_assoc];simp
theorem uz(m:Int)(l:KG)(y:Int):(decide (0≤l.foldl min y) && decide (l.foldl max y≤m))=(y :: l).all (rng m):=by
 rw[Bool.eq_iff_iff];simp only[Bool.and_eq_true,decide_eq_true_eq,xU,wn,List.all_eq_true,rng,List.mem_cons];constructor
 ·rintro⟨⟨h1,h2⟩,h3,h4⟩ x (rfl | hx)
  ·exact⟨h1,h3⟩
  ·exact⟨h2 x hx,h4 x hx⟩
 ·intro h;exact⟨⟨(h y (.inl rfl)).1,fun x hx=>(h x (.inr hx)).1⟩,(h y (.inl rfl)).2,fun x hx=>(h x (.inr hx)).2⟩
theorem xD(m:Int)(y:Int)(l:KG)(v:Value)(G:Ks)(hl:SlV G IE 1 v (y :: l)):FnS Tryz.prog 117 #[.int .i64 m,v] G (.bool ((y :: l).all (rng m))):=by
 refine F117.fnS (by simp) (dY ?_);rw[← uz];unfold c117;intros;refine gR 0 0 c117r0.eq_1 ?_;intros;refine gR 5 14 c117r1.eq_1 ?_;refine fK (FT (y :: l) y rfl v G hl _ _) ?_;refine gd (fun h1=>?_) (fun h1=>?_)
 ·refine sI ?_;refine fK (Gl (y :: l) y rfl v G hl _ _) ?_;intros;refine rW ?_;have h1:0≤l.foldl min y:=by simpa using h1
  simp[h1]
 ·refine sI ?_;intros;refine rW ?_;have h1:¬ 0≤l.foldl min y:=by simpa using h1
  simp[h1]
theorem F179:Fun Tryz.prog 179 131 v179 c179 o179:=Fun.mk' Tryz.func179 Tryz.ntmps179 (by kernel_rfl) (by kernel_rfl) s179 q179
structure Batch where
 base:Int
 last:Int
 src:Int
 epoch:Int
 pid:Int
 gen:Int
 seq:Int
 txn:Bool
 ctl:Int
 recs:List Rec
def fu(x:Batch)(v:Value):Kt:=[.int .i64 x.base,.int .i64 x.last,.int .i64 x.src,.int .i64 x.epoch,.int .i64 x.pid,.int .i64 x.gen,.int .i64 x.seq,.bool x.txn,.int .i64 x.ctl,v]
def BE(G:Ks)(x:Batch)(cs:Kt):Prop :=
 ∃ A c,cs=fu x (.slice A x.recs.length c)∧(x.recs.length≤c∧c≤maxLen∧SlA G RR 5 A x.recs)∧I64 x.base∧I64 x.last∧I64 x.src∧I64 x.epoch∧I64 x.pid∧I64 x.gen∧I64 x.seq∧I64 x.ctl
theorem BE.le{G G':Ks}(hg:Gle G G'){x:Batch}{cs:Kt}(h:BE G x cs):BE G' x cs:=by
 obtain⟨A,c,h1,⟨h2,h3,h4⟩,h5⟩:=h;exact⟨A,c,h1,⟨h2,h3,h4.le hg KO⟩,h5⟩
def tE(last:Int):Int→List Rec→Bool
 | _,[]=>true
 | next,r :: rs=>decide (kb r=0) && decide (next≤r.off) && decide (r.off≤last) && tE last (r.off+1) rs
def iS(b:Batch):Prop :=
 (rng 1099511627776 b.base=true∧rng 1099511627776 b.last=true∧rng 1099511627776 b.src=true)∧(rng 1048576 b.epoch=true∧rng 1048576 b.gen=true∧rng 1048576 b.seq=true) ∧
  (b.base≤b.last∧b.last - b.base < 16∧b.src+(b.last - b.base)≤1099511627776∧b.seq+(b.last - b.base)≤1048576)∧(-1≤b.pid∧b.pid≤1099511627776)∧(b.pid=-1→b.gen=0∧b.seq=0∧b.txn=false∧b.ctl=0) ∧
  ((b.ctl=0∧tE b.last b.base b.recs=true)∨((b.ctl=1∨b.ctl=2)∧b.last - b.base=0∧b.recs=[]∧b.txn=true))
instance decForm (b:Batch):Decidable (iS b):=by
 unfold iS
 infer_instance
theorem mw(m:Int)(y:Int)(l:KG)(v:Value)(n:Nat)(ys:Kt)(hc:Cells IE 1 (y :: l) ys)(G:Ks)(L:Kv)(D:KF):
  eS Tryz.prog 117 #[.int .i64 m,v] ⟨G,.row v 3 1 n ys :: L,D⟩ fun r h'=>r=.bool ((y :: l).all (rng m))∧h'=⟨G,.row v 3 1 n ys :: L,D⟩ :=
 FX (E:=IE) (xs:=y :: l) (R:=fun r=>r=.bool ((y :: l).all (rng m))) F117.enters (by decide) hc fun G' hg hx=>by
  have:=xD m y l v G' hx L D;simpa using this
theorem BG{a b c:Int}(ha:I64 a)(hb:I64 b)(hc:I64 c):Cells IE 1 [a,b,c] [.int .i64 a,.int .i64 b,.int .i64 c] :=
 .cons (cs:=[.int .i64 a]) ⟨rfl,ha⟩ rfl (.cons (cs:=[.int .i64 b]) ⟨rfl,hb⟩ rfl (.one (cs:=[.int .i64 c]) ⟨rfl,hc⟩ rfl))
theorem vB(x:Batch)(cs:Kt)(G:Ks)(hx:BE G x cs):FnS Tryz.prog 179 #[.agg cs.toArray] G (.bool (decide (iS x))):=by
 obtain⟨A,c,rfl,⟨hc,hm,hA⟩,i1,i2,i3,i4,i5,i6,i7,i8⟩:=hx;refine F179.fnS (by simp) (dY ?_);unfold c179 fu;intros;refine gR 0 0 c179r0.eq_1 ?_;have hbad:∀ (fr:KA) (e:Env) (L:Kv),¬ iS x→go none Tryz.prog 131 v179.1 v179.2 (fI o179 fun v h=>v=.bool (decide (iS x))) (Td.s ((SC.reg false c179r2).seq .ret) :: fr) e ⟨G,L,[]⟩:=fun fr e L hx=>by
  intros;refine gR 0 0 c179r2.eq_1 ?_;intros;refine rW ?_;rw[decide_eq_false hx]
 intros;refine gR 8 26 c179r1.eq_1 ?_;intro b1 hb1;refine fK (mw 1099511627776 _ _ _ _ _ (BG i1 i2 i3) _ _ _) ?_;refine gd (fun h1=>?_) (fun h1=>?_)
 ·refine sI ?_;intros;refine gC ?_;refine hbad _ _ _ fun h=>?_
  simp[h.1.1,h.1.2.1,h.1.2.2]at h1
 refine sI ?_;intro b2 hb2;refine fK (mw 1048576 _ _ _ _ _ (BG i4 i6 i7) _ _ _) ?_;intros;refine gC ?_;refine gb (fun h2=>?_) (fun h2=>?_)
 ·refine hbad _ _ _ fun h=>?_
  simp[h.2.1.1,h.2.1.2.1,h.2.1.2.2]at h2
 have h1:rng 1099511627776 x.base=true∧rng 1099511627776 x.last=true∧rng 1099511627776 x.src=true:=by simpa using h1
 have h2:rng 1048576 x.epoch=true∧rng 1048576 x.gen=true∧rng 1048576 x.seq=true:=by simpa using h2
 have h1':=h1;have h2':=h2;simp[rng]at h1' h2';have w1:IntKind.i64.wrap (x.last - x.base)=x.last - x.base:=by rw[ei] <;> omega
 (repeat first | refine eK ?_ | refine jg ?_)
 intros;refine gR2 28 32 c179r3.eq_1 @w1 ?_;have hb5:∀ (fr:KA) (e:Env) (L:Kv),¬ iS x→go none Tryz.prog 131 v179.1 v179.2 (fI o179 fun v h=>v=.bool (decide (iS x))) (Td.s ((SC.reg false c179r5).seq .ret) :: fr) e ⟨G,L,[]⟩:=fun fr e L hx=>by
  intros;refine gR 0 0 c179r5.eq_1 ?_;intros;refine rW ?_;rw[decide_eq_false hx]
 have hb7:∀ (fr:KA) (e:Env) (L:Kv),¬ iS x→go none Tryz.prog 131 v179.1 v179.2 (fI o179 fun v h=>v=.bool (decide (iS x))) (Td.s ((SC.reg false c179r7).seq .ret) :: fr) e ⟨G,L,[]⟩:=fun fr e L hx=>by
  intros;refine gR 0 0 c179r7.eq_1 ?_;intros;refine rW ?_;rw[decide_eq_false hx]
 have hb9:∀ (fr:KA) (e:Env) (L:Kv),¬ iS x→go none Tryz.prog 131 v179.1 v179.2 (fI o179 fun v h=>v=.bool (decide (iS x))) (Td.s ((SC.reg false c179r9).seq .ret) :: fr) e ⟨G,L,[]⟩:=fun fr e L hx=>by
  intros;refine gR 0 0 c179r9.eq_1 ?_;intros;refine rW ?_;rw[decide_eq_false hx]
 have hb17:∀ (fr:KA) (e:Env) (L:Kv),¬ iS x→go none Tryz.prog 131 v179.1 v179.2 (fI o179 fun v h=>v=.bool (decide (iS x))) (Td.s ((SC.reg false c179r17).seq .ret) :: fr) e ⟨G,L,[]⟩:=fun fr e L hx=>by
  intros;refine gR 0 0 c179r17.eq_1 ?_;intros;refine rW ?_;rw[decide_eq_false hx]
 have w2:∀ (h:0≤x.last - x.base),IntKind.i64.wrap (x.src+(x.last - x.base))=x.src+(x.last - x.base):=fun h=>by rw[ei] <;> omega
 have w3:∀ (h:0≤x.last - x.base),IntKind.i64.wrap (x.seq+(x.last - x.base))=x.seq+(x.last - x.base):=fun h=>by rw[ei] <;> omega
 have w4:IntKind.i64.wrap (x.gen+x.seq)=x.gen+x.seq:=by rw[ei] <;> omega
 intros;refine gR 33 53 c179r4.eq_1 ?_;refine gd (fun h3=>?_) (fun h3=>?_)
 ·refine sI ?_;intros;refine gC ?_;exact hb5 _ _ _ fun h=>by have:=KM h3;have:=h.2.2.1.1;omega
 have h3:=KN h3;refine sI ?_;refine gd (fun h4=>?_) (fun h4=>?_)
 ·refine sI ?_;intros;refine gC ?_;exact hb5 _ _ _ fun h=>by have:=KM h4;have:=h.2.2.1.2.1;omega
 have h4:=KN h4
 (refine sJ (w2 (by omega)) ?_)
 refine gd (fun h5=>?_) (fun h5=>?_)
 ·refine sI ?_;intros;refine gC ?_;exact hb5 _ _ _ fun h=>by have:=KM h5;have:=h.2.2.1.2.2.1;omega
 have h5:=KN h5
 (refine sJ (w3 (by omega)) ?_)
 intros;refine gC ?_;refine gb (fun h6=>?_) (fun h6=>?_)
 ·exact hb5 _ _ _ fun h=>by have:=KM h6;have:=h.2.2.1.2.2.2;omega
 have h6:=KN h6;intros;refine gR 55 62 c179r6.eq_1 ?_;refine gd (fun h7=>?_) (fun h7=>?_)
 ·refine sI ?_;intros;refine gC ?_;exact hb7 _ _ _ fun h=>by have:=KM h7;have:=h.2.2.2.1.1;omega
 have h7:=KN h7;refine sI ?_;intros;refine gC ?_;refine gb (fun h8=>?_) (fun h8=>?_)
 ·exact hb7 _ _ _ fun h=>by have:=KM h8;have:=h.2.2.2.1.2;omega
 have h8:=KN h8;intros;refine gR 64 83 c179r8.eq_1 ?_;have hrest:∀ (e:Env),(x.pid=-1→x.gen=0∧x.seq=0∧x.txn=false∧x.ctl=0)→e 3=.int .i64 (x.last - x.base) →
   go none Tryz.prog 131 v179.1 v179.2 (fI o179 fun v h=>v=.bool (decide (iS x))) [Td.s (((SC.reg false c179r10).seq (SC.blk 1 ((SC.reg false c179r11).seq (SC.cond (O.t 85) ((SC.reg false c179r12).seq (((SC.reg false c179r13).seq (SC.blk 2 ((SC.reg false c179r14).seq ((SC.cond (O.t 93) SC.skip (SC.exit 2)).seq ((SC.blk 3 ((SC.reg false c179r15).seq (((SC.reg false c179r16).seq (SC.cond (O.t 111) ((SC.reg false c179r17).seq SC.ret) SC.skip)).seq (SC.reg false c179r18)))).seq (SC.reg false c179r19)))).loop)).seq ((SC.reg false c179r20).seq SC.ret))) (((SC.reg false c179r21).seq (SC.cond (O.t 116) SC.skip (SC.reg false c179r22))).seq (SC.cond (O.t 116) ((SC.reg false c179r23).seq SC.ret) SC.skip)))))).seq ((SC.reg false c179r24).seq SC.ret))] e ⟨G,[.reg 1 [.int .i64 x.base,.int .i64 x.last,.int .i64 x.src,.int .i64 x.epoch,.int .i64 x.pid,.int .i64 x.gen,.int .i64 x.seq,.bool x.txn,.int .i64 x.ctl,.slice A x.recs.length c]],[]⟩:=fun e hpid e3=>by
  refine dV [3] ?_;refine sJ @e3 ?_;intros;refine gR 0 0 c179r10.eq_1 ?_;intros;refine gR 86 87 c179r11.eq_1 ?_;intros;refine gC ?_;have hmk:((x.ctl=0∧tE x.last x.base x.recs=true)∨((x.ctl=1∨x.ctl=2)∧x.last - x.base=0∧x.recs=[]∧x.txn=true))→iS x:=fun h=>⟨h1,h2,⟨by omega,by omega,by omega,by omega⟩,⟨by omega,by omega⟩,hpid,h⟩
  refine gbD (fun k1=>?_) (fun k1=>?_)
  ·intros;refine gR 88 89 c179r12.eq_1 ?_;intros;refine gR 0 0 c179r13.eq_1 ?_;intros;refine dT ?_
   refine ej (fun e h=>∃ (k:Nat) (nx:Int),(k≤x.recs.length∧tE x.last x.base x.recs=tE x.last nx (x.recs.drop k))∧e 92=.int .i64 k∧e 91=.int .i64 x.recs.length∧e 90=.slice A x.recs.length c∧e 4=.int .i64 nx∧h.G=G∧h.D=[]∧[.reg 1 [.int .i64 x.base,.int .i64 x.last,.int .i64 x.src,.int .i64 x.epoch,.int .i64 x.pid,.int .i64 x.gen,.int .i64 x.seq,.bool x.txn,.int .i64 x.ctl,.slice A x.recs.length c]].Sublist h.L) (fun e h=>x.recs.length - iv (e 92)) ?_ ?_
   ·exact⟨0,x.base,⟨Nat.zero_le _,rfl⟩,eE,eE,eE,eE,rfl,rfl,List.Sublist.refl _⟩
   ·rintro e ⟨G',L,D⟩ ⟨k,nx,⟨hk,hrow⟩,e92,e91,e90,e4,hG,hD,hL⟩;dsimp only at hG hD hL;subst hG hD;refine dU (dX hL) ?_;refine dV [4,90,91,92] ?_;refine sJ4 @e4 @e90 @e91 @e92 ?_;intros;refine gR 0 0 c179r14.eq_1 ?_;intros;refine gC ?_;refine gb (fun ht=>?_) (fun ht=>?_)
    ·have hkl:k < x.recs.length:=by simpa using ht
     have hw3:=eW k c (by omega) hm;obtain⟨r,hr⟩:∃ r,x.recs[k]?=some r:=⟨x.recs[k],getElem?_eq_getElem (by omega)⟩;have hdr:x.recs.drop k=r :: x.recs.drop (k+1):=by
      have:=List.getElem?_eq_some_iff.1 hr;rw[List.drop_eq_getElem_cons hkl,this.2]
     rw[hdr]at hrow;simp only[tE]at hrow;have hno:tE x.last x.base x.recs=false→¬ iS x:=fun h h'=>by
      rcases h'.2.2.2.2.2 with h9 | h9
      ·rw[h]at h9;cases h9.2
      ·omega
     intros;refine gR 94 96 c179r15.eq_1 ?_;refine hA.x_ld hr rfl rfl ?_;rintro a1 ha1 cs ⟨rfl,⟨j1,j2⟩,j3,j4⟩;unfold gT;refine sI ?_;have hck:=pu r;unfold gT at hck;intros;refine gR 96 111 c179r16.eq_1 ?_;refine fK (hck G' _ _) ?_;refine gd (fun k2=>?_) (fun k2=>?_)
     ·refine sI ?_;intros;refine gC ?_;exact hb17 _ _ _ (hno (by rw[hrow];simp at k2;simp[k2]))
     have k2:kb r=0:=by simpa using k2
     refine sI ?_;refine gd (fun k3=>?_) (fun k3=>?_)
     ·refine sI ?_;intros;refine gC ?_;exact hb17 _ _ _ (hno (by rw[hrow];have:=KM k3;simp;omega))
     have k3:=KN k3;refine sI ?_;intros;refine gC ?_;refine gb (fun k4=>?_) (fun k4=>?_)
     ·exact hb17 _ _ _ (hno (by rw[hrow];have:=KM k4;simp;omega))
     have k4:=KN k4;have hoff:=(fQ k2).1.1;simp[inO]at hoff;have w5:IntKind.i64.wrap (r.off+1)=r.off+1:=by rw[ei] <;> omega
     (repeat first | refine eK ?_ | refine jg ?_)
     intros;refine gR2 113 115 c179r18.eq_1 @w5 ?_;intros;refine gR2 115 116 c179r19.eq_1 @hw3 ?_;intros;refine dT ?_;refine eF ⟨⟨k+1,r.off+1,⟨by omega,by rw[hrow];simp[k2];omega⟩,eE,eE,eE,eE,rfl,rfl,.cons _ KJ⟩,?_⟩;refine sI ?_;omega
    ·have hkl:k=x.recs.length:=by simp at ht;omega
     subst hkl;refine eg ?_;refine sI ?_;intros;refine gR 0 0 c179r20.eq_1 ?_;intros;refine rW ?_;rw[List.drop_length]at hrow;rw[decide_eq_true (hmk (.inl ⟨k1,hrow⟩))]
  ·have hb24:∀ (fr:KA) (e:Env) (L:Kv),¬ iS x→go none Tryz.prog 131 v179.1 v179.2 (fI o179 fun v h=>v=.bool (decide (iS x))) (Td.s ((SC.reg false c179r24).seq .ret) :: fr) e ⟨G,L,[]⟩:=fun fr e L hx=>by
    intros;refine gR 0 0 c179r24.eq_1 ?_;intros;refine rW ?_;rw[decide_eq_false hx]
   have hfin:∀ (fr:KA) (e:Env),(x.ctl=1∨x.ctl=2)→e 3=.int .i64 (x.last - x.base)→go none Tryz.prog 131 v179.1 v179.2 (fI o179 fun v h=>v=.bool (decide (iS x))) (Td.s ((SC.reg false c179r23).seq .ret) :: fr) e ⟨G,[.reg 1 [.int .i64 x.base,.int .i64 x.last,.int .i64 x.src,.int .i64 x.epoch,.int .i64 x.pid,.int .i64 x.gen,.int .i64 x.seq,.bool x.txn,.int .i64 x.ctl,.slice A x.recs.length c]],[]⟩:=fun fr e hc12 e3=>by
    refine dV [3] ?_;refine sJ @e3 ?_;have hnf:∀ (_:¬ (x.last - x.base=0∧x.recs=[]∧x.txn=true)),decide (iS x)=false:=fun hn=>decide_eq_false fun h=>by
     rcases h.2.2.2.2.2 with h9 | h9
     ·exact k1 h9.1
     ·exact hn h9.2
    intros;refine gR 119 131 c179r23.eq_1 ?_;refine gdD (fun k2=>?_) (fun k2=>?_)
    ·refine sI ?_;refine gd (fun k3=>?_) (fun k3=>?_)
     ·have k3:x.recs=[]:=by have:=KM k3;exact List.eq_nil_of_length_eq_zero (by omega)
      refine sI ?_;intros;refine rW ?_;cases ht:x.txn with
      | false=>rw[hnf fun h=>by rw[ht]at h;cases h.2.2]
      | true=>rw[decide_eq_true (hmk (.inr ⟨hc12,k2,k3,ht⟩))]
     ·have k3:=KN k3;refine sI ?_;intros;refine rW ?_;rw[hnf fun h=>k3 (by rw[h.2.1];rfl)]
    ·refine sI ?_;intros;refine rW ?_;rw[hnf fun h=>k2 h.1]
   intros;refine gR 117 118 c179r21.eq_1 ?_;intros;refine gC ?_;refine gb (fun k2=>?_) (fun k2=>?_)
   ·(repeat first | refine eK ?_ | refine jg ?_)
    intros;refine gC ?_;refine gb (fun _=>?_) (fun h=>by rw[k2]at h;cases h);refine hfin _ _ (.inl (KM k2)) ?_
    (refine sI ?_;try with_reducible exact True.intro)
   ·have k2:=KN k2;intros;refine gR 118 119 c179r22.eq_1 ?_;intros;refine gC ?_;refine gb (fun k3=>?_) (fun k3=>?_)
    ·refine hfin _ _ (.inr (KM k3)) ?_
     (refine sI ?_;try with_reducible exact True.intro)
    ·have k3:=KN k3
     (repeat first | refine eK ?_ | refine jg ?_)
     refine hb24 _ _ _ fun h=>?_
     rcases h.2.2.2.2.2 with h9 | h9
     ·exact k1 h9.1
     ·rcases h9.1 with h9 | h9
      ·exact k2 h9
      ·exact k3 h9
 refine gdD (fun h9=>?_) (fun h9=>?_)
 ·refine sJ @w4 ?_;refine gd (fun h10=>?_) (fun h10=>?_)
  ·refine sI ?_;intros;refine gC ?_;exact hb9 _ _ _ fun h=>by have:=KM h10;have:=h.2.2.2.2.1 h9;omega
  have h10:=KN h10;refine sI ?_;refine gd (fun h11=>?_) (fun h11=>?_)
  ·refine sI ?_;intros;refine gC ?_;exact hb9 _ _ _ fun h=>by have:=(h.2.2.2.2.1 h9).2.2.1;rw[h11]at this;cases this
  refine sI ?_;intros;refine gC ?_;refine gb (fun h12=>?_) (fun h12=>?_)
  ·exact hb9 _ _ _ fun h=>by have:=KM h12;have:=(h.2.2.2.2.1 h9).2.2.2;omega
  have h12:=KN h12
  (repeat first | refine eK ?_ | refine jg ?_)
  refine dU (dX (.cons _ (.cons _ KJ))) ?_;refine hrest _ (fun _=>⟨by omega,by omega,h11,by omega⟩) ?_
  (refine sI ?_;try with_reducible exact True.intro)
 ·refine sI ?_;intros;refine gC ?_
  (repeat first | refine eK ?_ | refine jg ?_)
  refine dU (dX (.cons _ (.cons _ KJ))) ?_;refine hrest _ (fun h=>absurd h h9) ?_
  (refine sI ?_;try with_reducible exact True.intro)
abbrev KE:=List Batch
theorem F127:Fun Tryz.prog 127 165 v127 c127 o127:=Fun.mk' Tryz.func127 Tryz.ntmps127 (by kernel_rfl) (by kernel_rfl) s127 q127
theorem se{m n:Int}(h:(!rng m n)=true):¬ rng m n=true:=by simpa using h
theorem sX{m n:Int}(h:(!rng m n)=false):0≤n∧n≤m:=by simpa [rng]using h
theorem rN{m n:Int}(h:0≤n∧n≤m):rng m n=true:=by simp[rng,h]
theorem DI(x:Batch)(cs:Kt)(G:Ks)(hx:BE G x cs):FnS Tryz.prog 127 #[.agg cs.toArray] G (.bool (decide (iS x))):=by
 obtain⟨A,c,rfl,⟨hc,hm,hA⟩,i1,i2,i3,i4,i5,i6,i7,i8⟩:=hx;refine F127.fnS (by simp) (dY ?_);unfold c127 fu;intros;refine gR 0 0 c127r0.eq_1 ?_;have hb2:∀ (fr:KA) (e:Env) (L:Kv),¬ iS x→go none Tryz.prog 165 v127.1 v127.2 (fI o127 fun v h=>v=.bool (decide (iS x))) (Td.s ((SC.reg false c127r2).seq .ret) :: fr) e ⟨G,L,[]⟩:=fun fr e L hx=>by
  intros;refine gR 0 0 c127r2.eq_1 ?_;intros;refine rW ?_;rw[decide_eq_false hx]
 have hb5:∀ (fr:KA) (e:Env) (L:Kv),¬ iS x→go none Tryz.prog 165 v127.1 v127.2 (fI o127 fun v h=>v=.bool (decide (iS x))) (Td.s ((SC.reg false c127r5).seq .ret) :: fr) e ⟨G,L,[]⟩:=fun fr e L hx=>by
  intros;refine gR 0 0 c127r5.eq_1 ?_;intros;refine rW ?_;rw[decide_eq_false hx]
 have hb7:∀ (fr:KA) (e:Env) (L:Kv),¬ iS x→go none Tryz.prog 165 v127.1 v127.2 (fI o127 fun v h=>v=.bool (decide (iS x))) (Td.s ((SC.reg false c127r7).seq .ret) :: fr) e ⟨G,L,[]⟩:=fun fr e L hx=>by
  intros;refine gR 0 0 c127r7.eq_1 ?_;intros;refine rW ?_;rw[decide_eq_false hx]
 have hb15:∀ (fr:KA) (e:Env) (L:Kv),¬ iS x→go none Tryz.prog 165 v127.1 v127.2 (fI o127 fun v h=>v=.bool (decide (iS x))) (Td.s ((SC.reg false c127r15).seq .ret) :: fr) e ⟨G,L,[]⟩:=fun fr e L hx=>by
  intros;refine gR 0 0 c127r15.eq_1 ?_;intros;refine rW ?_;rw[decide_eq_false hx]
 intros;refine gR 8 37 c127r1.eq_1 ?_;refine fK (nC x.base _ G _ _) ?_;refine gd (fun h1=>?_) (fun h1=>?_)
 ·refine sI ?_;intros;refine gC ?_;exact hb2 _ _ _ fun h=>by exact se h1 h.1.1
 have h1:=sX h1;refine sI ?_;refine fK (nC x.last _ G _ _) ?_;refine gd (fun h2=>?_) (fun h2=>?_)
 ·refine sI ?_;intros;refine gC ?_;exact hb2 _ _ _ fun h=>by exact se h2 h.1.2.1
 have h2:=sX h2;refine sI ?_;refine fK (nC x.src _ G _ _) ?_;refine gd (fun h3=>?_) (fun h3=>?_)
 ·refine sI ?_;intros;refine gC ?_;exact hb2 _ _ _ fun h=>by exact se h3 h.1.2.2
 have h3:=sX h3;have w1:IntKind.i64.wrap (x.last - x.base)=x.last - x.base:=by rw[ei] <;> omega
 refine sI ?_;refine gd (fun h4=>?_) (fun h4=>?_)
 ·refine sI ?_;intros;refine gC ?_;exact hb2 _ _ _ fun h=>by have:=KM h4;have:=h.2.2.1.1;omega
 have h4:=KN h4;refine sJ @w1 ?_;intros;refine gC ?_;refine gb (fun h5=>?_) (fun h5=>?_)
 ·exact hb2 _ _ _ fun h=>by have:=KM h5;have:=h.2.2.1.2.1;omega
 have h5:=KN h5
 (repeat first | refine eK ?_ | refine jg ?_)
 intros;refine gR2 39 43 c127r3.eq_1 @w1 ?_;have w2:IntKind.i64.wrap (x.src+(x.last - x.base))=x.src+(x.last - x.base):=by rw[ei] <;> omega
 intros;refine gR2 44 72 c127r4.eq_1 @w2 ?_;refine gd (fun h6=>?_) (fun h6=>?_)
 ·refine sI ?_;intros;refine gC ?_;exact hb5 _ _ _ fun h=>by have:=KM h6;have:=h.2.2.1.2.2.1;omega
 have h6:=KN h6;refine sI ?_;refine fK (nC x.epoch _ G _ _) ?_;refine gd (fun h7=>?_) (fun h7=>?_)
 ·refine sI ?_;intros;refine gC ?_;exact hb5 _ _ _ fun h=>by exact se h7 h.2.1.1
 have h7:=sX h7;refine sI ?_;refine fK (nC x.gen _ G _ _) ?_;refine gd (fun h8=>?_) (fun h8=>?_)
 ·refine sI ?_;intros;refine gC ?_;exact hb5 _ _ _ fun h=>by exact se h8 h.2.1.2.1
 have h8:=sX h8;refine sI ?_;refine fK (nC x.seq _ G _ _) ?_;refine gd (fun h9=>?_) (fun h9=>?_)
 ·refine sI ?_;intros;refine gC ?_;exact hb5 _ _ _ fun h=>by exact se h9 h.2.1.2.2
 have h9:=sX h9;have w3:IntKind.i64.wrap (x.seq+(x.last - x.base))=x.seq+(x.last - x.base):=by rw[ei] <;> omega
 refine sJ @w3 ?_;intros;refine gC ?_;refine gb (fun k1=>?_) (fun k1=>?_)
 ·exact hb5 _ _ _ fun h=>by have:=KM k1;have:=h.2.2.1.2.2.2;omega
 have k1:=KN k1
 (repeat first | refine eK ?_ | refine jg ?_)
 have hrest:∀ (e:Env),(x.pid=-1→x.gen=0∧x.seq=0∧x.txn=false∧x.ctl=0)→(-1≤x.pid∧x.pid≤1099511627776)→e 3=.int .i64 (x.last - x.base) →
   go none Tryz.prog 165 v127.1 v127.2 (fI o127 fun v h=>v=.bool (decide (iS x))) [Td.s (((SC.reg false c127r8).seq (SC.cond (O.t 108) ((SC.reg false c127r9).seq SC.ret) SC.skip)).seq ((SC.reg false c127r10).seq (((SC.reg false c127r11).seq (SC.blk 0 ((SC.reg false c127r12).seq ((SC.cond (O.t 143) SC.skip (SC.exit 0)).seq ((SC.blk 1 ((SC.reg false c127r13).seq (((SC.reg false c127r14).seq (SC.cond (O.t 161) ((SC.reg false c127r15).seq SC.ret) SC.skip)).seq (SC.reg false c127r16)))).seq (SC.reg false c127r17)))).loop)).seq ((SC.reg false c127r18).seq SC.ret))))] e ⟨G,[.reg 1 [.int .i64 x.base,.int .i64 x.last,.int .i64 x.src,.int .i64 x.epoch,.int .i64 x.pid,.int .i64 x.gen,.int .i64 x.seq,.bool x.txn,.int .i64 x.ctl,.slice A x.recs.length c]],[]⟩:=fun e hpid hpr e3=>by
  refine dV [3] ?_;refine sJ @e3 ?_;have hmk:((x.ctl=0∧tE x.last x.base x.recs=true)∨((x.ctl=1∨x.ctl=2)∧x.last - x.base=0∧x.recs=[]∧x.txn=true))→iS x:=fun h=>⟨⟨rN h1,rN h2,rN h3⟩,⟨rN h7,rN h8,rN h9⟩,⟨by omega,by omega,by omega,by omega⟩,hpr,hpid,h⟩
  intros;refine gR 107 108 c127r8.eq_1 ?_;intros;refine gC ?_;refine gb (fun k2=>?_) (fun k2=>?_)
  ·have k2:=KM k2;have hnf:∀ (_:¬ ((x.ctl=1∨x.ctl=2)∧x.last - x.base=0∧x.recs=[]∧x.txn=true)),decide (iS x)=false:=fun hn=>decide_eq_false fun h=>by
    rcases h.2.2.2.2.2 with h9 | h9
    ·exact k2 h9.1
    ·exact hn h9
   have hp0:0≤x.pid:=by
    by_cases hp:x.pid=-1
    ·exact absurd (hpid hp).2.2.2 k2
    ·omega
   intros;refine gR 110 136 c127r9.eq_1 ?_;have hfin:∀ (l:Ku),True:=fun _=>trivial
   refine gdD (fun k3=>?_) (fun k3=>?_)
   ·refine sI ?_;refine gdD (fun a1=>?_) (fun a1=>?_)
    ·refine sI ?_;refine gd (fun a2=>?_) (fun a2=>?_)
     ·have a2:x.recs=[]:=by have:=KM a2;exact List.eq_nil_of_length_eq_zero (by omega)
      refine sI ?_;refine gd (fun a3=>?_) (fun a3=>?_)
      ·refine sI ?_;intros;refine rW ?_;rw[decide_eq_true hp0,decide_eq_true (hmk (.inr ⟨.inl k3,a1,a2,a3⟩))]
      ·refine sI ?_;intros;refine rW ?_;rw[hnf fun h=>by rw[a3]at h;cases h.2.2.2]
     ·have a2:=KN a2;refine sI ?_;intros;refine rW ?_;rw[hnf fun h=>a2 (by rw[h.2.2.1];rfl)]
    ·refine sI ?_;intros;refine rW ?_;rw[hnf fun h=>a1 h.2.1]
   ·refine sI ?_;refine gdD (fun k4=>?_) (fun k4=>?_)
    ·refine sI ?_;refine gdD (fun a1=>?_) (fun a1=>?_)
     ·refine sI ?_;refine gd (fun a2=>?_) (fun a2=>?_)
      ·have a2:x.recs=[]:=by have:=KM a2;exact List.eq_nil_of_length_eq_zero (by omega)
       refine sI ?_;refine gd (fun a3=>?_) (fun a3=>?_)
       ·refine sI ?_;intros;refine rW ?_;rw[decide_eq_true hp0,decide_eq_true (hmk (.inr ⟨.inr k4,a1,a2,a3⟩))]
       ·refine sI ?_;intros;refine rW ?_;rw[hnf fun h=>by rw[a3]at h;cases h.2.2.2]
      ·have a2:=KN a2;refine sI ?_;intros;refine rW ?_;rw[hnf fun h=>a2 (by rw[h.2.2.1];rfl)]
     ·refine sI ?_;intros;refine rW ?_;rw[hnf fun h=>a1 h.2.1]
    ·refine sI ?_;intros;refine rW ?_;rw[hnf fun h=>by rcases h.1 with h | h;exact k3 h;exact k4 h]
  ·have k2:x.ctl=0:=by simpa using k2
   have w4:IntKind.i64.wrap (x.base - 1)=x.base - 1:=by rw[ei] <;> omega
   (repeat first | refine eK ?_ | refine jg ?_)
   intros;refine gR2 137 139 c127r10.eq_1 @w4 ?_;intros;refine gR 0 0 c127r11.eq_1 ?_;intros;refine dT ?_
   refine ej (fun e h=>∃ (k:Nat) (nx:Int),(k≤x.recs.length∧tE x.last x.base x.recs=tE x.last nx (x.recs.drop k))∧e 142=.int .i64 k∧e 141=.int .i64 x.recs.length∧e 140=.slice A x.recs.length c∧e 4=.int .i64 (nx - 1)∧h.G=G∧h.D=[]∧[.reg 1 [.int .i64 x.base,.int .i64 x.last,.int .i64 x.src,.int .i64 x.epoch,.int .i64 x.pid,.int .i64 x.gen,.int .i64 x.seq,.bool x.txn,.int .i64 x.ctl,.slice A x.recs.length c]].Sublist h.L) (fun e h=>x.recs.length - iv (e 142)) ?_ ?_
   ·exact⟨0,x.base,⟨Nat.zero_le _,rfl⟩,eE,eE,eE,eE,rfl,rfl,List.Sublist.refl _⟩
   ·rintro e ⟨G',L,D⟩ ⟨k,nx,⟨hk,hrow⟩,e142,e141,e140,e4,hG,hD,hL⟩;dsimp only at hG hD hL;subst hG hD;refine dU (dX hL) ?_;refine dV [4,140,141,142] ?_;refine sJ4 @e4 @e140 @e141 @e142 ?_;intros;refine gR 0 0 c127r12.eq_1 ?_;intros;refine gC ?_;refine gb (fun ht=>?_) (fun ht=>?_)
    ·have hkl:k < x.recs.length:=by simpa using ht
     have hw3:=eW k c (by omega) hm;obtain⟨r,hr⟩:∃ r,x.recs[k]?=some r:=⟨x.recs[k],getElem?_eq_getElem (by omega)⟩;have hdr:x.recs.drop k=r :: x.recs.drop (k+1):=by
      have:=List.getElem?_eq_some_iff.1 hr;rw[List.drop_eq_getElem_cons hkl,this.2]
     rw[hdr]at hrow;simp only[tE]at hrow;have hno:tE x.last x.base x.recs=false→¬ iS x:=fun h h'=>by
      rcases h'.2.2.2.2.2 with h9 | h9
      ·rw[h]at h9;cases h9.2
      ·omega
     intros;refine gR 144 146 c127r13.eq_1 ?_;refine hA.x_ld hr rfl rfl ?_;rintro a1 ha1 cs ⟨rfl,⟨j1,j2⟩,j3,j4⟩;unfold gT;refine sI ?_;have hck:=oc r;unfold gT at hck;intros;refine gR 146 161 c127r14.eq_1 ?_;refine fK (hck G' _ _) ?_;refine gd (fun k3=>?_) (fun k3=>?_)
     ·refine sI ?_;intros;refine gC ?_;exact hb15 _ _ _ (hno (by rw[hrow];simp at k3;simp[k3]))
     have k3:kb r=0:=by simpa using k3
     refine sI ?_;refine gd (fun k4=>?_) (fun k4=>?_)
     ·refine sI ?_;intros;refine gC ?_;exact hb15 _ _ _ (hno (by rw[hrow];have:=KM k4;simp;omega))
     have k4:=KN k4;refine sI ?_;intros;refine gC ?_;refine gb (fun k5=>?_) (fun k5=>?_)
     ·exact hb15 _ _ _ (hno (by rw[hrow];have:=KM k5;simp;omega))
     have k5:=KN k5;have hoff:r.off=r.off+1 - 1:=by omega
     (repeat first | refine eK ?_ | refine jg ?_)
     intros;refine gR 163 164 c127r16.eq_1 ?_;intros;refine gR2 164 165 c127r17.eq_1 @hw3 ?_;intros;refine dT ?_;refine eF ⟨⟨k+1,r.off+1,⟨by omega,by rw[hrow];simp[k3];omega⟩,eE,eE,eE,by rw[← hoff];(refine sI ?_;try with_reducible exact True.intro),rfl,rfl,.cons _ KJ⟩,?_⟩;refine sI ?_;omega
    ·have hkl:k=x.recs.length:=by simp at ht;omega
     subst hkl;refine eg ?_;refine sI ?_;intros;refine gR 0 0 c127r18.eq_1 ?_;intros;refine rW ?_;rw[List.drop_length]at hrow;rw[decide_eq_true (hmk (.inl ⟨k2,hrow⟩))]
 intros;refine gR 74 105 c127r6.eq_1 ?_;refine gdD (fun q1=>?_) (fun q1=>?_)
 ·refine sI ?_;refine gd (fun q2=>?_) (fun q2=>?_)
  ·refine sI ?_;intros;refine gC ?_;exact hb7 _ _ _ fun h=>by have:=KM q2;exact this (h.2.2.2.2.1 q1).1
  have q2:=KN q2;refine sI ?_;refine gd (fun q3=>?_) (fun q3=>?_)
  ·refine sI ?_;intros;refine gC ?_;exact hb7 _ _ _ fun h=>by have:=KM q3;exact this (h.2.2.2.2.1 q1).2.1
  have q3:=KN q3;refine sI ?_;refine gd (fun q4=>?_) (fun q4=>?_)
  ·refine sI ?_;intros;refine gC ?_;exact hb7 _ _ _ fun h=>by have:=(h.2.2.2.2.1 q1).2.2.1;rw[q4]at this;cases this
  refine sI ?_;refine gd (fun q5=>?_) (fun q5=>?_)
  ·refine sI ?_;intros;refine gC ?_;exact hb7 _ _ _ fun h=>by have:=KM q5;exact this (h.2.2.2.2.1 q1).2.2.2
  have q5:=KN q5;refine sI ?_;refine gd (fun q6=>?_) (fun q6=>?_)
  ·exact absurd q1 (KM q6)
  refine sI ?_;intros;refine gC ?_
  (repeat first | refine eK ?_ | refine jg ?_)
  refine hrest _ (fun _=>⟨by omega,by omega,q4,by omega⟩) (by omega) ?_
  (refine sI ?_;try with_reducible exact True.intro)
 ·refine sI ?_;refine gd (fun q6=>?_) (fun q6=>?_)
  ·refine sI ?_;refine fK (nC x.pid _ G _ _) ?_;intros;refine gC ?_;refine gb (fun q7=>?_) (fun q7=>?_)
   ·refine hb7 _ _ _ fun h=>se q7 (rN ?_)
    have:=h.2.2.2.1;omega
   have q7:=sX q7
   (repeat first | refine eK ?_ | refine jg ?_)
   refine hrest _ (fun h=>absurd h q1) (by omega) ?_
   (refine sI ?_;try with_reducible exact True.intro)
  ·exact absurd (KN q6) (by simpa using q1)
abbrev W32:=BitVec 32
def vW(v:W32):Value:=.int .u32 (v.toNat:Int)
def uI:W32:=3988292384#32
def stp(v:W32):W32:=(v >>> 1) ^^^ (if v.getLsbD 0=true then uI else 0#32)
def m5:Nat→W32→W32
 | 0,v=>v
 | n+1,v=>stp (m5 n v)
theorem CG(a b:W32):stp (a ^^^ b)=stp a ^^^ stp b:=by
 unfold stp;rw[BitVec.ushiftRight_xor_distrib,BitVec.getLsbD_xor];generalize a >>> 1=x;generalize b >>> 1=y;cases a.getLsbD 0 <;> cases b.getLsbD 0 <;> simp
 ·rw[BitVec.xor_assoc]
 ·rw[BitVec.xor_assoc,BitVec.xor_assoc,BitVec.xor_comm uI y]
 ·rw[BitVec.xor_assoc,BitVec.xor_comm uI (y ^^^ uI),BitVec.xor_assoc,BitVec.xor_self,BitVec.xor_zero]
theorem tO(a b:W32):∀ n,m5 n (a ^^^ b)=m5 n a ^^^ m5 n b
 | 0=>rfl
 | n+1=>by rw[m5,tO a b n,CG];rfl
theorem tw{v:W32}(h:v.getLsbD 0=false):stp v=v >>> 1:=by rw[stp,if_neg (by rw[h];simp),BitVec.xor_zero]
theorem uk{v:W32}:∀ n,(∀ i,i < n→v.getLsbD i=false)→m5 n v=v >>> n
 | 0,_=>by simp[m5]
 | n+1,h=>by
  rw[m5,uk n fun i hi=>h i (by omega),tw (by rw[BitVec.getLsbD_ushiftRight];exact h _ (by omega))];rw[BitVec.shiftRight_add]
theorem tf(v:W32):m5 4 v=m5 4 (v &&& 15#32) ^^^ (v >>> 4):=by
 have h1:v=(v &&& 15#32) ^^^ (v &&& ~~~15#32):=by
  apply BitVec.eq_of_getLsbD_eq;intro i hi;simp only[BitVec.getLsbD_xor,BitVec.getLsbD_and,BitVec.getLsbD_not];cases v.getLsbD i <;> cases (15#32).getLsbD i <;> simp[hi]
 have h2:m5 4 (v &&& ~~~15#32)=v >>> 4:=by
  rw[uk 4]
  ·apply BitVec.eq_of_getLsbD_eq;intro i hi;simp only[BitVec.getLsbD_ushiftRight,BitVec.getLsbD_and,BitVec.getLsbD_not];by_cases h:4+i < 32
   ·have:(15#32).getLsbD (4+i)=false:=by
     rw[BitVec.getLsbD_ofNat];have:Nat.testBit 15 (4+i)=false:=Nat.testBit_lt_two_pow (Nat.lt_of_lt_of_le (by decide:15 < 2 ^ 4) (Nat.pow_le_pow_right (by decide) (by omega)));simp[this]
    rw[this];simp only[h,decide_true,Bool.not_false,Bool.and_true]
   ·rw[BitVec.getLsbD_of_ge v (4+i) (by omega)];simp
  ·intro i hi;have:(15#32).getLsbD i=true:=by
    match i,hi with
    | 0,_=>rfl
    | 1,_=>rfl
    | 2,_=>rfl
    | 3,_=>rfl
   rw[BitVec.getLsbD_and,BitVec.getLsbD_not,this];simp
 conv=>lhs;rw[h1,tO,h2]
theorem ti(v:W32):∀ m n,m5 (m+n) v=m5 m (m5 n v)
 | 0,n=>by rw[Nat.zero_add];rfl
 | m+1,n=>by rw[Nat.succ_add,m5,ti v m n];rfl
def ofB(b:UInt8):W32:=BitVec.ofNat 32 b.toNat
def upd(v:W32)(c:UInt8):W32:=m5 8 (v ^^^ ofB c)
def uZ(v:W32):W32:=m5 4 (v &&& 15#32) ^^^ (v >>> 4)
theorem EU(v:W32)(c:UInt8):upd v c=uZ (uZ (v ^^^ ofB c)):=by
 rw[uZ,← tf,uZ,← tf,← ti];rfl
def zU(l:KD):W32 := ~~~ (l.foldl upd 4294967295#32)
theorem ofW(a:W32):BitVec.ofInt 32 (a.toNat:Int)=a:=by
 rw[BitVec.ofInt_natCast,BitVec.ofNat_toNat];simp
theorem xf(a:W32):IntKind.u32.wrap (a.toNat:Int)=(a.toNat:Int):=by
 have:=a.isLt;simp only[IntKind.wrap,IntKind.bits,IntKind.signed];simp;omega
theorem jR(a b:W32):fq .xor (vW a) (vW b)=some (vW (a ^^^ b)):=by
 simp only[fq,vW];rw[if_pos trivial];have:(BitVec.ofInt IntKind.u32.bits (a.toNat:Int) ^^^ BitVec.ofInt IntKind.u32.bits (b.toNat:Int)).toNat=(a ^^^ b).toNat:=by
  show(BitVec.ofInt 32 (a.toNat:Int) ^^^ BitVec.ofInt 32 (b.toNat:Int)).toNat=_;rw[ofW,ofW]
 rw[this,xf]
theorem pT(a b:W32):fq .and (vW a) (vW b)=some (vW (a &&& b)):=by
 simp only[fq,vW];rw[if_pos trivial];have:(BitVec.ofInt IntKind.u32.bits (a.toNat:Int) &&& BitVec.ofInt IntKind.u32.bits (b.toNat:Int)).toNat=(a &&& b).toNat:=by
  show(BitVec.ofInt 32 (a.toNat:Int) &&& BitVec.ofInt 32 (b.toNat:Int)).toNat=_;rw[ofW,ofW]
 rw[this,xf]
theorem tY(a:W32)(k:Nat)(hk:k≤32):fq .shr (vW a) (.int .u64 (k:Int))=some (vW (a >>> k)):=by
 simp only[fq,vW];rw[if_pos (by omega)];congr 2;have h1:min ((k:Int)).toNat IntKind.u32.bits=k:=by simp[IntKind.bits];omega
 rw[h1,BitVec.toNat_ushiftRight,Nat.shiftRight_eq_div_pow];rw[Int.fdiv_eq_ediv_of_nonneg _ (by exact_mod_cast Nat.zero_le _)]
 exact_mod_cast rfl
theorem FD(c:UInt8):Value.int .u32 (IntKind.u32.wrap (c.toNat:Int))=vW (ofB c):=by
 have h:=c.toNat_lt;have h2:(ofB c).toNat=c.toNat:=by simp[ofB]
 have:=xf (ofB c);rw[h2]at this;rw[vW,h2,this]
theorem F230:Fun Tryz.prog 230 14 v230 c230 o230:=Fun.mk' Tryz.func230 Tryz.ntmps230 (by kernel_rfl) (by kernel_rfl) s230 q230
theorem F217:Fun Tryz.prog 217 11 v217 c217 o217:=Fun.mk' Tryz.func217 Tryz.ntmps217 (by kernel_rfl) (by kernel_rfl) s217 q217
theorem F205:Fun Tryz.prog 205 14 v205 c205 o205:=Fun.mk' Tryz.func205 Tryz.ntmps205 (by kernel_rfl) (by kernel_rfl) s205 q205
theorem EM(v:W32):v.getLsbD 0=true↔v.toNat % 2=1:=by
 rw[BitVec.getLsbD,Nat.testBit_zero];simp
theorem rC(v:W32):fq .quo (vW v) (.int .u32 2)=some (vW (v >>> 1)):=by
 have h:=v.isLt;refine(n8 .u32 v.toNat 2 (by decide) (by simp[IntKind.max,IntKind.signed,IntKind.bits];omega) rfl).trans ?_;rw[vW,BitVec.toNat_ushiftRight,Nat.shiftRight_eq_div_pow]
theorem wV(v:W32):fq .rem (vW v) (.int .u32 2)=some (.int .u32 ((v.toNat % 2:Nat):Int)):=mL .u32 v.toNat 2 (by decide)
theorem AX(v:W32):fq .xor (vW v) (.int .u32 3988292384)=some (vW (v ^^^ uI)):=jR v uI
theorem AT(n:Nat):fq .eql (.int .u32 (n:Int)) (.int .u32 1)=some (.bool (decide (n=1))):=by
 simp only[fq];rw[if_pos trivial];congr 2;simp;omega
theorem BY(v:W32)(G:Ks):FnS Tryz.prog 217 #[vW v] G (vW (stp v)):=by
 refine F217.fnS (by simp) (dY ?_);unfold c217;intros;refine gR 0 0 c217r0.eq_1 ?_;have hr:=wV v;generalize hn:v.toNat % 2=n at hr;intros;refine gr 3 5 ?_;refine sJ3 c217r1.eq_1 @hr @AT ?_;intros;refine gC ?_;refine gb (fun h1=>?_) (fun h1=>?_)
 ·intros;refine gr 6 9 ?_;refine sJ3 c217r2.eq_1 @rC @AX ?_;intros;refine rW ?_;rw[stp,if_pos ((EM v).2 (by rw[hn];simpa using h1))]
 ·(repeat first | refine eK ?_ | refine jg ?_)
  intros;refine gR2 9 11 c217r3.eq_1 @rC ?_;intros;refine rW ?_;rw[stp,if_neg (fun h=>by have:=(EM v).1 h;rw[hn]at this;simp[this]at h1),BitVec.xor_zero]
theorem ze(v:W32)(n:Nat)(hn:n≤1000)(G:Ks):FnS Tryz.prog 205 #[vW v,.int .i64 (n:Int)] G (vW (m5 n v)):=by
 refine F205.fnS (by simp) (dY ?_);unfold c205;intros;refine gR 0 0 c205r0.eq_1 ?_;intros;refine gR 0 0 c205r1.eq_1 ?_;intros;refine dT ?_;refine ej (fun e h=>∃ k:Nat,k≤n∧e 5=.int .i64 k∧e 1=.int .i64 n∧e 0=vW (m5 k v)∧h=⟨G,[],[]⟩) (fun e h=>n - iv (e 5)) ?_ ?_
 ·exact⟨0,Nat.zero_le _,eE,eE,by refine sI ?_;rfl,rfl⟩
 ·rintro e h ⟨k,hk,e5,e1,e0,rfl⟩;refine dV [0,1,5] ?_;refine sJ3 @e0 @e1 @e5 ?_;intros;refine gR 6 8 c205r2.eq_1 ?_;intros;refine gC ?_;refine gb (fun h1=>?_) (fun h1=>?_)
  ·have hkn:k < n:=by simpa using h1
   have hw3:=eW k n (by omega) (by unfold maxLen;omega);intros;refine gR 11 13 c205r3.eq_1 ?_;refine fK (BY (m5 k v) G _ _) ?_;intros;refine gR2 9 11 c205r4.eq_1 @hw3 ?_;intros;refine dT ?_;refine eF ⟨⟨k+1,by omega,eE,eE,by refine sI ?_;rfl,rfl⟩,?_⟩;refine sI ?_;omega
  ·have hkn:k=n:=by simp at h1;omega
   subst hkn;refine eg ?_;refine sI ?_;intros;refine gR 13 14 c205r5.eq_1 ?_;intros;refine rV ?_;simp only[push_cast,Nat.reduceBEq]
theorem F220:Fun Tryz.prog 220 13 v220 c220 o220:=Fun.mk' Tryz.func220 Tryz.ntmps220 (by kernel_rfl) (by kernel_rfl) s220 q220
theorem F231:Fun Tryz.prog 231 24 v231 c231 o231:=Fun.mk' Tryz.func231 Tryz.ntmps231 (by kernel_rfl) (by kernel_rfl) s231 q231
theorem F211:Fun Tryz.prog 211 21 v211 c211 o211:=Fun.mk' Tryz.func211 Tryz.ntmps211 (by kernel_rfl) (by kernel_rfl) s211 q211
theorem F187:Fun Tryz.prog 187 21 v187 c187 o187:=Fun.mk' Tryz.func187 Tryz.ntmps187 (by kernel_rfl) (by kernel_rfl) s187 q187
theorem zQ(v:W32):fq .and (vW v) (.int .u32 1)=some (vW (v &&& 1#32)):=pT v 1#32
theorem rJ(v:W32):fq .and (vW v) (.int .u32 15)=some (vW (v &&& 15#32)):=pT v 15#32
theorem zf(v:W32):fq .and (.int .u32 3988292384) (vW v)=some (vW (uI &&& v)):=pT uI v
theorem zB(v:W32):fq .shr (vW v) (.int .u64 1)=some (vW (v >>> 1)):=tY v 1 (by omega)
theorem tI(v:W32):fq .shr (vW v) (.int .u64 4)=some (vW (v >>> 4)):=tY v 4 (by omega)
theorem Dk(v:W32):unV .neg (vW v)=some (vW (-v)):=by
 have:=v.isLt;simp only[unV,vW];congr 2;rw[BitVec.toNat_neg];simp only[IntKind.wrap,IntKind.bits,IntKind.signed];simp;omega
theorem Ce(v:W32):unV .xor (vW v)=some (vW (~~~v)):=by
 simp only[unV,vW];have:(BitVec.ofInt IntKind.u32.bits (if IntKind.u32.signed=true then -1 else IntKind.u32.max) ^^^ BitVec.ofInt IntKind.u32.bits (v.toNat:Int)).toNat=(~~~v).toNat:=by
  show(BitVec.ofInt 32 4294967295 ^^^ BitVec.ofInt 32 (v.toNat:Int)).toNat=_;have h1:BitVec.ofInt 32 4294967295=BitVec.allOnes 32:=by decide
  rw[ofW,h1,BitVec.allOnes_xor]
 rw[this,xf]
theorem zG(v:W32):fq .xor (vW v) (.int .u32 4294967295)=some (vW (~~~v)):=by
 have h:=jR v 4294967295#32;have h1:(4294967295#32:W32)=BitVec.allOnes 32:=by decide
 rw[h1,BitVec.xor_allOnes]at h;exact h
theorem Cr(v:W32):(v >>> 1) ^^^ (uI &&& -(v &&& 1#32))=stp v:=by
 have h1:v &&& 1#32=if v.getLsbD 0=true then 1#32 else 0#32:=by
  apply BitVec.eq_of_toNat_eq;rw[BitVec.toNat_and];have:(1#32).toNat=1:=rfl;rw[this,Nat.and_one_is_mod];by_cases h:v.getLsbD 0=true
  ·rw[if_pos h,(EM v).1 h];rfl
  ·rw[if_neg h];have h3:¬ v.toNat % 2=1:=fun h9=>h ((EM v).2 h9)
   have h2:v.toNat % 2=0:=by omega
   rw[h2];rfl
 rw[h1,stp];by_cases h:v.getLsbD 0=true
 ·rw[if_pos h,if_pos h];have:uI &&& -1#32=uI:=by decide
  rw[this]
 ·rw[if_neg h,if_neg h];have:uI &&& -0#32=0#32:=by decide
  rw[this]
theorem Ct(v:W32)(G:Ks):FnS Tryz.prog 230 #[vW v] G (vW (m5 4 v)):=by
 refine F230.fnS (by simp) (dY ?_);unfold c230;intros;refine gR 0 0 c230r0.eq_1 ?_;intros;refine gR 0 0 c230r1.eq_1 ?_;intros;refine dT ?_;refine ej (fun e h=>∃ k:Nat,k≤4∧e 3=.int .i64 k∧e 0=vW (m5 k v)∧h=⟨G,[],[]⟩) (fun e h=>4 - iv (e 3)) ?_ ?_
 ·exact⟨0,Nat.zero_le _,eE,by refine sI ?_;rfl,rfl⟩
 ·rintro e h ⟨k,hk,e3,e0,rfl⟩;refine dV [0,3] ?_;refine sJ2 @e0 @e3 ?_;intros;refine gR 0 0 c230r2.eq_1 ?_;intros;refine gC ?_;refine gb (fun h1=>?_) (fun h1=>?_)
  ·have hkn:k < 4:=by simp at h1;omega
   have hw3:=eW k 4 (by omega) (by unfold maxLen;omega);intros;refine gr 5 12 ?_;refine sJ7 c230r3.eq_1 @zB @zQ @Dk @zf @jR @Cr ?_;intros;refine gR2 12 13 c230r4.eq_1 @hw3 ?_;intros;refine dT ?_;refine eF ⟨⟨k+1,by omega,eE,by refine sI ?_;rfl,rfl⟩,?_⟩;refine sI ?_;omega
  ·have hkn:k=4:=by simp at h1;omega
   subst hkn;refine eg ?_;refine sI ?_;intros;refine gR 13 14 c230r5.eq_1 ?_;intros;refine rV ?_;simp only[push_cast,Nat.reduceBEq]
def yg(G:Ks)(v:Value):Prop:=∃ b,v=.pointer (some ⟨b,0,none⟩)∧∀ i:Nat,i < 16→fB G ⟨b,i,none⟩=some (vW (m5 4 (BitVec.ofNat 32 i)))
theorem yg.le{G G':Ks}{v:Value}(h:yg G v)(hg:Gle G G'):yg G' v:=by
 obtain⟨b,h1,h2⟩:=h;exact⟨b,h1,fun i hi=>em hg (h2 i hi)⟩
theorem F4(v:W32):(v &&& 15#32).toNat < 16∧BitVec.ofNat 32 (v &&& 15#32).toNat=v &&& 15#32:=by
 refine⟨?_,by simp⟩;rw[BitVec.toNat_and];exact Nat.lt_of_le_of_lt Nat.and_le_right (by decide)
theorem Jy{b n:Nat}{v:W32}(h:v.toNat < n):vh n 1 (.pointer (some ⟨b,0,none⟩)) (vW v)=some (.pointer (some ⟨b,v.toNat,none⟩)):=by
 simp only[vh,vW];rw[if_pos ⟨by omega,by omega⟩];simp[eV]
theorem Fh(v:W32)(c:UInt8)(p:Value)(G:Ks)(hp:yg G p):FnS Tryz.prog 231 #[vW v,.int .u8 (c.toNat:Int),p] G (vW (upd v c)):=by
 obtain⟨b,rfl,ht⟩:=hp;refine F231.fnS (by simp) (dY ?_);unfold c231;intros;refine gR 0 0 c231r0.eq_1 ?_;intros;refine gr 6 10 ?_;refine sJ3 c231r1.eq_1 @FD @jR ?_;rw[EU];generalize v ^^^ ofB c=x;obtain⟨g1,g2⟩:=F4 x
 intros;refine gr 10 17 ?_;(try simp -implicitDefEqProofs only[mg,mf,push_cast,Nat.reduceBEq,Nat.reduceAdd,Nat.reduceSub,Nat.reduceMul,Nat.reduceLT,Nat.reduceLeDiff,Nat.reduceEqDiff,reduceIte,Bool.not_true,Bool.not_false,true_and,and_true,Option.map_some,Option.bind_some,Int.toNat_natCast,c231r2,rJ,Jy g1]);refine⟨_,⟨_,rfl,.g (ht _ g1)⟩,?_⟩;rw[g2];refine sJ2 @tI @jR ?_;rw[← uZ];generalize uZ x=y
 obtain⟨k1,k2⟩:=F4 y;intros;refine gr 17 24 ?_;(try simp -implicitDefEqProofs only[mg,mf,push_cast,Nat.reduceBEq,Nat.reduceAdd,Nat.reduceSub,Nat.reduceMul,Nat.reduceLT,Nat.reduceLeDiff,Nat.reduceEqDiff,reduceIte,Bool.not_true,Bool.not_false,true_and,and_true,Option.map_some,Option.bind_some,Int.toNat_natCast,c231r3,rJ,Jy k1]);refine⟨_,⟨_,rfl,.g (ht _ k1)⟩,?_⟩;rw[k2];refine sJ2 @tI @jR ?_
 intros;refine rW ?_;rfl
theorem yF{cs:Kt}{o:Nat}(x:Value)(h:o < cs.length):eo cs o [x]=cs.set o x:=by
 rw[eo,List.set_eq_take_append_cons_drop,if_pos h];simp
theorem yX(G:Ks):FnD Tryz.prog 220 #[] G (fun G' r=>∃ p,r=.func (.func 231) #[] #[p]∧yg G' p):=by
 refine F220.fnD (by simp) (dY ?_);unfold c220;intros;refine gR 0 0 c220r0.eq_1 ?_;intros;refine gR 0 0 c220r1.eq_1 ?_;intro b hb;refine sI ?_;intros;refine gR 0 0 c220r2.eq_1 ?_;intros;refine dT ?_
 refine ej (fun e h=>∃ (k:Nat) (cs:Kt),(k≤16∧cs.length=16∧∀ i,i < k→cs[i]?=some (vW (m5 4 (BitVec.ofNat 32 i))))∧e 3=.int .i64 k∧e 1=.pointer (some ⟨b,0,none⟩)∧h=⟨G,[.blk b cs],[]⟩) (fun e h=>16 - iv (e 3)) ?_ ?_
 ·exact⟨0,_,⟨Nat.zero_le _,rfl,fun i hi=>by omega⟩,eE,eE,rfl⟩
 ·rintro e h ⟨k,cs,⟨hk,hl,ht⟩,e3,e1,rfl⟩;refine dV [1,3] ?_;refine sJ2 @e1 @e3 ?_;intros;refine gR 0 0 c220r3.eq_1 ?_;intros;refine gC ?_;refine gb (fun h1=>?_) (fun h1=>?_)
  ·have hkn:k < 16:=by simp at h1;omega
   have hw3:=eW k 16 (by omega) (by unfold maxLen;omega);have hkw:Value.int .u32 (IntKind.u32.wrap (k:Int))=vW (BitVec.ofNat 32 k):=by
    have h2:(BitVec.ofNat 32 k).toNat=k:=by simp;omega
    have:=xf (BitVec.ofNat 32 k);rw[h2]at this;rw[vW,h2,this]
   intros;refine gR 5 6 c220r4.eq_1 ?_;intros;refine gR2 6 11 c220r5.eq_1 @hkw ?_;refine fK (Ct (BitVec.ofNat 32 k) G _ _) ?_;refine⟨by omega,?_⟩;refine ek (xs:=[vW (m5 4 (BitVec.ofNat 32 k))]) [] [] rfl (by simp;omega) ⟨rfl,rfl⟩ ?_;rw[yF _ (by omega),show 0+k * 1=k by omega];refine sI ?_;intros;refine gR2 11 12 c220r6.eq_1 @hw3 ?_;intros;refine dT ?_
   refine eF ⟨⟨k+1,_,⟨by omega,by simp[hl],fun i hi=>?_⟩,eE,eE,rfl⟩,?_⟩
   ·rw[List.getElem?_set];by_cases hik:k=i
    ·rw[if_pos hik,if_pos (by omega),← hik]
    ·rw[if_neg hik];exact ht i (by omega)
   ·refine sI ?_;omega
  ·have hkn:k=16:=by simp at h1;omega
   subst hkn;refine eg ?_;refine sI ?_;intros;refine gR 12 13 c220r7.eq_1 ?_;intros;refine dT ?_;refine eI (eP [] []) ?_;rintro h' ⟨G2,rfl,hg2,hc⟩;intros;refine rW ?_;exact⟨_,rfl,b,rfl,fun i hi=>by simpa [eV]using hc i _ (ht i hi)⟩
theorem qv{l:KD}{k:Nat}{x:UInt8}(hx:l[k]?=some x)(v:W32):(l.take (k+1)).foldl upd v=upd ((l.take k).foldl upd v) x:=by
 have hk:=List.getElem?_eq_some_iff.1 hx;rw[List.take_succ_eq_append_getElem hk.1,hk.2];simp
theorem BQ(l:KD)(v:Value)(G:Ks)(hl:SB G v l):FnD Tryz.prog 211 #[v] G (fun _ r=>r=vW (zU l)):=by
 refine F211.fnD (by simp) (dY ?_);obtain⟨A,c,rfl,hc,hm,hA⟩:=hl;unfold c211;intros;refine gR 0 0 c211r0.eq_1 ?_;intros;refine gR 7 8 c211r1.eq_1 ?_;refine(yX G _ []).mono ?_;rintro r h' ⟨G1,rfl,hg1,p,rfl,hp⟩;refine sI ?_;have hA1:=hA.le hg1 (E':=UE) KO;intros;refine gR 0 0 c211r2.eq_1 ?_;intros;refine gR 0 0 c211r3.eq_1 ?_;intros;refine dT ?_
 refine ej (fun e h=>∃ k:Nat,k≤l.length∧e 10=.int .i64 k∧e 9=.int .i64 l.length∧e 8=.slice A l.length c∧e 3=.func (.func 231) #[] #[p]∧e 4=vW ((l.take k).foldl upd 4294967295#32)∧h=⟨G1,[],[]⟩) (fun e h=>l.length - iv (e 10)) ?_ ?_
 ·exact⟨0,Nat.zero_le _,eE,eE,eE,eE,by refine sI ?_;rfl,rfl⟩
 ·rintro e h ⟨k,hk,e10,e9,e8,e3,e4,rfl⟩;refine dV [3,4,8,9,10] ?_;refine sJ5 @e3 @e4 @e8 @e9 @e10 ?_;intros;refine gR 0 0 c211r4.eq_1 ?_;intros;refine gC ?_;refine gb (fun h1=>?_) (fun h1=>?_)
  ·have hkn:k < l.length:=by simpa using h1
   have hw3:=eW k c (by omega) hm;obtain⟨x,hx⟩:∃ x,l[k]?=some x:=⟨l[k],getElem?_eq_getElem (by omega)⟩;intros;refine gR 12 14 c211r5.eq_1 ?_;refine hA1.x_l1 hx rfl rfl ?_;rintro a1 ha1 u1 hu;cases hu;refine sI ?_;intros;refine gR 14 18 c211r6.eq_1 ?_;refine .inl ⟨_,_,rfl,(Fh _ x p G1 hp _ _).mono ?_⟩;rintro _ _ ⟨rfl,rfl⟩;refine sI ?_;intros;refine gR2 18 19 c211r7.eq_1 @hw3 ?_
   intros;refine dT ?_;refine eF ⟨⟨k+1,by omega,eE,eE,eE,eE,by rw[qv hx];(refine sI ?_;try with_reducible exact True.intro),rfl⟩,?_⟩;refine sI ?_;omega
  ·have hkn:k=l.length:=by simp at h1;omega
   subst hkn;refine eg ?_;refine sI ?_;intros;refine gR2 19 21 c211r8.eq_1 @Ce ?_;intros;refine rW ?_;rw[take_length];rfl
theorem ym(l:KD)(v:Value)(G:Ks)(hl:SB G v l):FnS Tryz.prog 187 #[v] G (vW (zU l)):=by
 refine F187.fnS (by simp) (dY ?_);obtain⟨A,c,rfl,hc,hm,hA⟩:=hl;unfold c187;intros;refine gR 0 0 c187r0.eq_1 ?_;intros;refine gR 0 0 c187r1.eq_1 ?_;intros;refine gR 0 0 c187r2.eq_1 ?_;intros;refine dT ?_;refine ej (fun e h=>∃ k:Nat,k≤l.length∧e 4=.int .i64 k∧e 0=.slice A l.length c∧e 3=vW ((l.take k).foldl upd 4294967295#32)∧h=⟨G,[],[]⟩) (fun e h=>l.length - iv (e 4)) ?_ ?_
 ·exact⟨0,Nat.zero_le _,eE,eE,by refine sI ?_;rfl,rfl⟩
 ·rintro e h ⟨k,hk,e4,e0,e3,rfl⟩;refine dV [0,3,4] ?_;refine sJ3 @e0 @e3 @e4 ?_;intros;refine gR 5 8 c187r3.eq_1 ?_;intros;refine gC ?_;refine gb (fun h1=>?_) (fun h1=>?_)
  ·have hkn:k < l.length:=by simpa using h1
   have hw3:=eW k c (by omega) hm;obtain⟨x,hx⟩:∃ x,l[k]?=some x:=⟨l[k],getElem?_eq_getElem (by omega)⟩;intros;refine gR 11 19 c187r4.eq_1 ?_;refine hA.x_l1 hx rfl rfl ?_;rintro a1 ha1 u1 hu;cases hu;refine sJ2 @FD @jR ?_;refine fK (ze _ 8 (by omega) G _ _) ?_;intros;refine gR2 9 11 c187r5.eq_1 @hw3 ?_;intros;refine dT ?_;refine eF ⟨⟨k+1,by omega,eE,eE,by rw[qv hx];refine sI ?_;rfl,rfl⟩,?_⟩
   refine sI ?_;omega
  ·have hkn:k=l.length:=by simp at h1;omega
   subst hkn;refine eg ?_;refine sI ?_;intros;refine gR2 19 21 c187r6.eq_1 @zG ?_;intros;refine rW ?_;rw[take_length];rfl
theorem F203:Fun Tryz.prog 203 33 v203 c203 o203:=Fun.mk' Tryz.func203 Tryz.ntmps203 (by kernel_rfl) (by kernel_rfl) s203 q203
theorem F165:Fun Tryz.prog 165 41 v165 c165 o165:=Fun.mk' Tryz.func165 Tryz.ntmps165 (by kernel_rfl) (by kernel_rfl) s165 q165
theorem F186:Fun Tryz.prog 186 15 v186 c186 o186:=Fun.mk' Tryz.func186 Tryz.ntmps186 (by kernel_rfl) (by kernel_rfl) s186 q186
theorem F202:Fun Tryz.prog 202 9 v202 c202 o202:=Fun.mk' Tryz.func202 Tryz.ntmps202 (by kernel_rfl) (by kernel_rfl) s202 q202
theorem F164:Fun Tryz.prog 164 10 v164 c164 o164:=Fun.mk' Tryz.func164 Tryz.ntmps164 (by kernel_rfl) (by kernel_rfl) s164 q164
def kj(n k:Nat):KD:=(List.range k).map fun i=>UInt8.ofNat (n / 256 ^ (k - 1 - i))
theorem fW(n k:Nat):(kj n k).length=k:=by simp[kj]
theorem qy{n k i:Nat}(h:i < k):(kj n k).take (i+1)=(kj n k).take i++[UInt8.ofNat (n / 256 ^ (k - 1 - i))]:=by
 have hl:i < (kj n k).length:=by rw[fW];exact h
 rw[List.take_succ_eq_append_getElem hl];congr 2;simp[kj]
def ig(l:KD):KD:=l++kj (zU l).toNat 4
theorem Av(n s:Nat)(hs:s≤64):fq .shr (.int .u64 (n:Int)) (.int .i64 (s:Int))=some (.int .u64 ((n / 2 ^ s:Nat):Int)):=by
 simp only[fq];rw[if_pos (by omega)];congr 2;have h1:min ((s:Int)).toNat IntKind.u64.bits=s:=by simp[IntKind.bits];omega
 rw[h1,Int.fdiv_eq_ediv_of_nonneg _ (by exact_mod_cast Nat.zero_le _)]
 exact_mod_cast rfl
theorem vQ(l:KD)(n k:Nat)(hn:n < 18446744073709551616)(hk:1≤k∧k≤8)(v:Value)(G:Ks)(hl:SB G v l)(hb:l.length≤100000):
  FnO Tryz.prog 203 #[v,.int .u64 (n:Int),.int .i64 (k:Int)] G [] (fun _ L' r=>o9 (l++kj n k) L' r):=by
 refine F203.fnO (by simp) dS (dY ?_);have hl0:=hl;obtain⟨A,c,rfl,hc,hm,hA⟩:=hl;unfold c203;intros;refine gR 0 0 c203r0.eq_1 ?_;intros;refine gR 9 11 c203r1.eq_1 ?_;refine(o6 l _ G hl0 (by omega) _ []).mono ?_;rintro r h' ⟨G1,L',rfl,hg1,ys,hys,rfl⟩;refine sI ?_;intros;refine gR 11 16 c203r2.eq_1 ?_;refine gd (fun h1=>by simp at h1;omega) (fun h1=>?_);refine sI ?_;intros;refine gC ?_
 refine gb (fun h2=>by simp at h2;omega) (fun h2=>?_);have w1:IntKind.i64.wrap ((k:Int) - 1)=(k:Int) - 1:=by rw[ei] <;> omega
 have w2:IntKind.i64.wrap (8 * ((k:Int) - 1))=8 * (k:Int) - 8:=by rw[ei] <;> omega
 (repeat first | refine eK ?_ | refine jg ?_)
 intros;refine gr 18 21 ?_;refine sJ3 c203r4.eq_1 @w1 @w2 ?_;intros;refine dT ?_;refine ej (fun e h=>∃ (i:Nat) (zc:Kt) (u:Value),(i≤k∧Cells UE 1 (l++(kj n k).take i) zc)∧e 8=.int .i64 (8 * (k:Int) - 8 - 8 * i)∧e 1=.int .u64 (n:Int)∧e 7=u∧h.G=G1∧h.D=[]∧[Item.row u 5 1 (l++(kj n k).take i).length zc].Sublist h.L) (fun e h=>iv1 (e 8)) ?_ ?_
 ·exact⟨0,ys,r,⟨Nat.zero_le _,by simpa using hys⟩,by refine sI ?_;simp,eE,eE,rfl,rfl,by simp⟩
 ·rintro e ⟨G',L,D⟩ ⟨i,zc,u,⟨hi,hcs⟩,e8,e1,e7,hG,hD,hL⟩;dsimp only at hG hD hL;subst hG hD;refine dU (dX hL) ?_;refine dV [1,7,8] ?_;refine sJ3 @e1 @e7 @e8 ?_;intros;refine gR 21 22 c203r5.eq_1 ?_;intros;refine gC ?_;refine gb (fun ht=>?_) (fun ht=>?_)
  ·have hik:i < k:=by have:=KM ht;omega
   have htk:=qy (n:=n) hik;have hsh:fq .shr (.int .u64 (n:Int)) (.int .i64 (8 * (k:Int) - 8 - 8 * i))=some (.int .u64 ((n / 256 ^ (k - 1 - i):Nat):Int)):=by
    have e1:8 * (k:Int) - 8 - 8 * i=((8 * (k - 1 - i):Nat):Int):=by omega
    rw[e1,Av n _ (by omega),Nat.pow_mul]
   generalize n / 256 ^ (k - 1 - i)=q at htk hsh;have w3:IntKind.i64.wrap (8 * (k:Int) - 8 - 8 * i - 8)=8 * (k:Int) - 8 - 8 * ((i+1:Nat):Int):=by rw[ei] <;> omega
   have hll:(l++(kj n k).take i).length≤200000:=by simp[fW];omega
   intros;refine gr 25 32 ?_;refine sJ3 c203r6.eq_1 @hsh @oD ?_;intro bk hbk;refine yN (L1:=[]) (L2:=[]) rfl rfl hcs (by omega) fun A' c' zc' hzc=>?_
   rw[List.append_assoc,← htk]at hzc ⊢;refine sI ?_;intros;refine gR2 23 25 c203r7.eq_1 @w3 ?_;intros;refine dT ?_;refine eF ⟨⟨i+1,zc',_,⟨by omega,hzc⟩,eE,eE,eE,rfl,rfl,.cons _ KJ⟩,?_⟩;refine sJ @EY ?_;omega
  ·have hik:i=k:=by have:=KN ht;omega
   subst hik;refine eg ?_;refine sI ?_;intros;refine gR 32 33 c203r8.eq_1 ?_;intros;refine dT ?_;rw[List.take_of_length_le (by rw[fW];exact Nat.le_refl _)]at hcs ⊢;refine ea (ee _ rfl KJ (dW dS) ?_);exact⟨zc,hcs,rfl⟩
theorem y7(l:KD)(n k:Nat)(hn:n < 18446744073709551616)(hk:1≤k∧k≤8)(v:Value)(G:Ks)(hl:SB G v l)(hb:l.length≤100000):
  FnO Tryz.prog 165 #[v,.int .u64 (n:Int),.int .i64 (k:Int)] G [] (fun _ L' r=>o9 (l++kj n k) L' r):=by
 refine F165.fnO (by simp) dS (dY ?_);have hl0:=hl;obtain⟨A,c,rfl,hc,hm,hA⟩:=hl;unfold c165;intros;refine gR 0 0 c165r0.eq_1 ?_;intros;refine gR 10 12 c165r1.eq_1 ?_;refine(rX l _ G hl0 (by omega) _ []).mono ?_;rintro r h' ⟨G1,L',rfl,hg1,ys,hys,rfl⟩;refine sI ?_;intros;refine gR 12 17 c165r2.eq_1 ?_;refine gd (fun h1=>by simp at h1;omega) (fun h1=>?_);refine sI ?_;intros;refine gC ?_
 refine gb (fun h2=>by simp at h2;omega) (fun h2=>?_);have w1:IntKind.i64.wrap ((k:Int) - 1)=(k:Int) - 1:=by rw[ei] <;> omega
 (repeat first | refine eK ?_ | refine jg ?_)
 intros;refine gR 0 0 c165r4.eq_1 ?_;intros;refine dT ?_;refine ej (fun e h=>∃ (i:Nat) (zc:Kt) (u:Value),(i≤k∧Cells UE 1 (l++(kj n k).take i) zc)∧e 20=.int .i64 i∧e 19=.int .i64 k∧e 1=.int .u64 (n:Int)∧e 2=.int .i64 k∧e 7=u∧h.G=G1∧h.D=[]∧[Item.row u 5 1 (l++(kj n k).take i).length zc].Sublist h.L) (fun e h=>k - iv (e 20)) ?_ ?_
 ·exact⟨0,ys,r,⟨Nat.zero_le _,by simpa using hys⟩,eE,eE,eE,eE,eE,rfl,rfl,by simp⟩
 ·rintro e ⟨G',L,D⟩ ⟨i,zc,u,⟨hi,hcs⟩,e20,e19,e1,e2,e7,hG,hD,hL⟩;dsimp only at hG hD hL;subst hG hD;refine dU (dX hL) ?_;refine dV [1,2,7,19,20] ?_;refine sJ5 @e1 @e2 @e7 @e19 @e20 ?_;intros;refine gR 0 0 c165r5.eq_1 ?_;intros;refine gC ?_;refine gb (fun ht=>?_) (fun ht=>?_)
  ·have hik:i < k:=by have:=KM ht;omega
   have hw3:=eW i k hik (by unfold maxLen;omega);have w2:IntKind.i64.wrap ((k:Int) - 1 - i)=((k - 1 - i:Nat):Int):=by rw[ei] <;> omega
   have htk:=qy (n:=n) hik;have hll:(l++(kj n k).take i).length≤200000:=by simp[fW];omega
   generalize hmm:k - 1 - i=m at htk w2
   (repeat first | refine eK ?_ | refine jg ?_)
   intros;refine gR 22 23 c165r6.eq_1 ?_;intros;refine gR 23 24 c165r7.eq_1 ?_;intros;refine gr 24 27 ?_;refine sJ3 c165r8.eq_1 @w1 @w2 ?_;intros;refine dT ?_
   refine ej (fun e h=>∃ j:Nat,j≤m∧e 28=.int .i64 j∧e 27=.int .i64 m∧(∃ q:Nat,q=n / 256 ^ j∧e 9=.int .u64 (q:Int))∧e 1=.int .u64 (n:Int)∧e 2=.int .i64 k∧e 7=u∧e 19=.int .i64 k∧e 20=.int .i64 i∧h=⟨G',[.row u 5 1 (l++(kj n k).take i).length zc],[]⟩) (fun e h=>m - iv (e 28)) ?_ ?_
   ·exact⟨0,Nat.zero_le _,eE,eE,⟨n,by simp,eE⟩,eE,eE,eE,eE,eE,rfl⟩
   ·rintro e h ⟨j,hj,e28,e27,⟨q,hq,e9⟩,e1,e2,e7,e19,e20,rfl⟩;refine dV [1,2,7,9,19,20,27,28] ?_
    (try simp -implicitDefEqProofs only[mg,mf,push_cast,Nat.reduceBEq,Nat.reduceAdd,Nat.reduceSub,Nat.reduceMul,Nat.reduceLT,Nat.reduceLeDiff,Nat.reduceEqDiff,reduceIte,Bool.not_true,Bool.not_false,true_and,and_true,Option.map_some,Option.bind_some,Int.toNat_natCast,e1,e2,e7,e9,e19,e20,e27,e28])
    intros;refine gR 0 0 c165r9.eq_1 ?_;intros;refine gC ?_;have hqn:q≤n:=by rw[hq];exact Nat.div_le_self _ _
    refine gb (fun ht=>?_) (fun ht=>?_)
    ·have hjm:j < m:=by have:=KM ht;omega
     have hw4:=eW j m hjm (by unfold maxLen;omega);have hqq:fq .quo (.int .u64 (q:Int)) (.int .u64 256)=some (.int .u64 ((q / 256:Nat):Int)):=n8 .u64 q 256 (by decide) (by simp[IntKind.max,IntKind.signed,IntKind.bits];omega) rfl;have hq2:q / 256=n / 256 ^ (j+1):=by rw[hq,Nat.div_div_eq_div_mul,Nat.pow_succ]
     generalize q / 256=q2 at hqq hq2
     (repeat first | refine eK ?_ | refine jg ?_)
     intros;refine gR2 30 32 c165r10.eq_1 @hqq ?_;intros;refine gR2 32 33 c165r11.eq_1 @hw4 ?_;intros;refine dT ?_;refine eF ⟨⟨j+1,by omega,eE,eE,⟨q2,hq2,eE⟩,eE,eE,eE,eE,eE,rfl⟩,?_⟩;refine sI ?_;omega
    ·have hjm:j=m:=by have:=KN ht;omega
     subst hjm;rw[← hq]at htk;have hr:fq .rem (.int .u64 (q:Int)) (.int .u64 256)=some (.int .u64 ((q % 256:Nat):Int)):=mL .u64 q 256 (by decide);have hw:IntKind.u8.wrap ((q % 256:Nat):Int)=((UInt8.ofNat q).toNat:Int):=by rw[oD];simp
     generalize q % 256=q3 at hr hw;refine eg ?_;refine sI ?_;intros;refine gR2 33 39 c165r12.eq_1 @hr ?_;intro bk hbk;refine yN (L1:=[]) (L2:=[]) rfl hw hcs (by omega) fun A' c' zc' hzc=>?_
     rw[List.append_assoc,← htk]at hzc ⊢;refine sI ?_;intros;refine gR2 39 40 c165r13.eq_1 @hw3 ?_;intros;refine dT ?_;refine eF ⟨⟨i+1,zc',_,⟨by omega,hzc⟩,eE,eE,eE,eE,eE,rfl,rfl,.cons _ KJ⟩,?_⟩;refine sI ?_;omega
  ·have hik:i=k:=by have:=KN ht;omega
   subst hik;refine eg ?_;refine sI ?_;intros;refine gR 40 41 c165r14.eq_1 ?_;intros;refine dT ?_;rw[List.take_of_length_le (by rw[fW];exact Nat.le_refl _)]at hcs ⊢;refine ea (ee _ rfl KJ (dW dS) ?_);exact⟨zc,hcs,rfl⟩
end Go.Proofs.YtpmofpekcbghnaaGreat

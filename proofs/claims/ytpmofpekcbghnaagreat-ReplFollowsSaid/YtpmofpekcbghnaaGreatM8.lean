/- Parts of a proof, 30 texts in one file. No condition. -/
import Derived.Shelf.Spec.SlicesInsertGrow
import Derived.Test.YtpmofpekcbghnaaGreatM1
import Derived.Test.YtpmofpekcbghnaaGreatM2
import Derived.Test.YtpmofpekcbghnaaGreatM3
import Derived.Test.YtpmofpekcbghnaaGreatM4
import Derived.Test.YtpmofpekcbghnaaGreatM5
import Derived.Test.YtpmofpekcbghnaaGreatM6
import Derived.Test.YtpmofpekcbghnaaGreatM7
set_option linter.unusedSimpArgs false
set_option linter.unusedVariables false
namespace Go.Proofs.YtpmofpekcbghnaaGreat
open Go Go.Kx
open List (getElem?_eq_getElem mem_of_getElem? length_append append_nil append_assoc length_cons take_length)
theorem F51:Fun Tryz.prog 51 26 v51 c51 o51:=Fun.mkA Tryz.func51 Tryz.ntmps51
theorem F61:Fun Tryz.prog 61 4 v61 c61 o61:=Fun.mkA Tryz.func61 Tryz.ntmps61
theorem F111:Fun Tryz.prog 111 22 v111 c111 o111:=Fun.mkA Tryz.func111 Tryz.ntmps111
def PtL(p:Pt)(x:Nat)(A:Ka)(c:Nat)(B:Ka)(d:Nat)(ys zs:J6):J8:=[.blk x (d7 p A c B d),.row (.slice B p.reps.length d) 50 7 p.reps.length zs,.row (.slice A p.isr.length c) 3 1 p.isr.length ys]
def PtG(G:J5)(p:Pt)(x:Nat)(A:Ka)(c:Nat)(B:Ka)(d:Nat):Prop :=
 (∀ j u,(d7 p A c B d)[j]?=some u→eZ G ⟨x,j,none⟩=some u)∧SlV G IE 1 (.slice A p.isr.length c) p.isr∧SlV G (RE G) 7 (.slice B p.reps.length d) p.reps
theorem PtG.le{G G':J5}(hg:Gle G G'){p:Pt}{x:Nat}{A:Ka}{c:Nat}{B:Ka}{d:Nat}(h:PtG G p x A c B d):PtG G' p x A c B d :=
 ⟨fun j u hu=>dN hg (h.1 j u hu),h.2.1.le hg Kp,SlR.le hg h.2.2⟩
theorem em{p:Pt}{x:Nat}{A:Ka}{c:Nat}{B:Ka}{d:Nat}{ys zs:J6}:dR (PtL p x A c B d ys zs):=dF (dz (dz dw))
theorem xf{p:Pt}{x:Nat}{A:Ka}{c:Nat}{B:Ka}{d:Nat}{ys zs:J6}{G:J5}{L:J8}{D:Kh}(hy:Cells IE 1 p.isr ys)(hz:Cells (RE G) 7 p.reps zs):
  Cy G (PtL p x A c B d ys zs) L D (fun G'=>PtG G' p x A c B d) :=
 jx (M1:=fun G'=>∀ j u,(d7 p A c B d)[j]?=some u→eZ G' (Addr.add ⟨x,0,none⟩ j)=some u) (fun L=>js) fun G1 hg1 h1 =>
  jx (M1:=fun G'=>SlV G' (RE G1) 7 (.slice B p.reps.length d) p.reps) (fun L=>kF (by decide) (eN hz fun _ _ h=>RE.le hg1 h)) fun G2 hg2 h2 =>
   jx (M1:=fun G'=>SlV G' IE 1 (.slice A p.isr.length c) p.isr) (fun L=>kF (by decide) hy) fun G3 hg3 h3 =>
    mD ⟨fun j u hu=>by
     have:=dN (hg2.trans hg3) (h1 j u hu)
     rwa [gL]at this,h3,h2.le hg3 fun _ _ h=>RE.le (hg2.trans hg3) h⟩
def rR(l:List Rp):Prop:=(fE l).Pairwise (· < ·)∧∀ r∈l,idI r.id=true
def uO(B:Ka):Kk→Ka
 | none=>none
 | some k=>B.map (·.add (k * 7))
theorem zM(p:Pt)(x:Nat)(A:Ka)(c:Nat)(B:Ka)(d:Nat)(n:Int)(G:J5)(hp:PtG G p x A c B d)(hn:I64 n)(hid:rR p.reps):
  FnS Tryz.prog 51 #[.pointer (some ⟨x,0,none⟩),.int .i64 n] G (.pointer (uO B (atR p.reps n))):=by
 obtain⟨h1,h2,h3⟩:=hp;have hbs:=rh p.reps n _ G h3 hn hid.1 hid.2;obtain⟨B0,d0,he,hd0,hmx,hA⟩:=h3;cases he;refine F51.fnS (by simp) (dI ?_);unfold c51;intros;refine gR 0 0 c51r0.eq_1 ?_;intros;refine gR 7 17 c51r1.eq_1 ?_;refine⟨_,⟨_,rfl,.g (h1 4 _ rfl)⟩,?_⟩;refine sI ?_;refine(hbs _ _).mono ?_;rintro r h' ⟨⟨j,rfl,hj,hk⟩,rfl⟩;refine sI ?_;intros;try refine dx ?_
 intros;try refine dx ?_
 intros;refine gR 17 18 c51r2.eq_1 ?_;intros;refine gC ?_;refine gb (fun k1=>?_) (fun k1=>?_)
 ·have k1:atR p.reps n=none:=by simpa using k1
  intros;refine gR 0 0 c51r3.eq_1 ?_;intros;refine rW ?_;rw[k1];rfl
 ·obtain⟨k,hk1⟩:∃ k,atR p.reps n=some k:=Option.isSome_iff_exists.1 (by simpa using k1);have:=hk k hk1;subst this;obtain⟨r,hr,-⟩:=g9 hk1;have hkl:=(List.getElem?_eq_some_iff.1 hr).1;obtain⟨a,cs,ha,-⟩:=hA j r hr;subst ha;intros;refine gN ?_;intros;refine gR 19 26 c51r4.eq_1 ?_;refine⟨_,⟨_,rfl,.g (h1 4 _ rfl)⟩,?_⟩;refine sI ?_;refine⟨by omega,a,rfl,?_⟩;refine sI ?_;intros;refine rW ?_;rw[hk1];rfl
def AtX(B:Ka)(l:List Rp)(_:J5)(n:Int)(args:Array Value):Prop:=args=#[.pointer (uO B (atR l n))]
theorem mo(p:Pt)(x b:Nat)(A:Ka)(c:Nat)(B:Ka)(d:Nat)(G0:J5)(hp:PtG G0 p x A c B d)(hid:rR p.reps)(hb:eZ G0 ⟨b,0,none⟩=some (.pointer (some ⟨x,0,none⟩))):
  kC Tryz.prog 111 #[.pointer (some ⟨b,0,none⟩)] p.isr (AtX B p.reps) G0:=by
 intro yl I Ix G L hG hn hI hIx hmo h0 hy L2 D;have hargs:(#[.func (.yield yl) #[] #[]]++#[.pointer (some ⟨b,0,none⟩)]:Array Value)=#[.func (.yield yl) #[] #[],.pointer (some ⟨b,0,none⟩)]:=rfl;rw[hargs];have hp:=hp.le hG;have hb:=dN hG hb;obtain⟨A0,c0,he,hc0,hmx,hA⟩:=id hp.2.1;cases he
 refine(F111.calls (R:=fun _ h=>Gle G h.G∧(I p.isr.length h.G h.L∨∃ i,i < p.isr.length∧Ix i h.G h.L)) (by simp) hn (dI ?_) L2 D).mono ?_
 ·unfold c111;intros;refine gR 5 9 c111r0.eq_1 ?_;refine⟨_,⟨_,rfl,.g hb⟩,?_⟩;refine sI ?_;refine⟨_,⟨_,rfl,.g (hp.1 3 _ rfl)⟩,?_⟩;refine sI ?_;intros;refine dy ?_
  refine dV (fun e h=>∃ (t:Nat) (G':J5) (L':J8),(t≤p.isr.length∧Gle G G'∧dR L'∧I t G' L')∧e 11=.int .i64 t∧e 10=.int .i64 p.isr.length∧e 9=.slice A p.isr.length c∧e 0=.func (.yield yl) #[] #[]∧e 1=.pointer (some ⟨b,0,none⟩)∧h=⟨G',L',[]⟩) (fun e h=>p.isr.length - iv (e 11)) ?_ ?_
  ·exact⟨0,G,L,⟨Nat.zero_le _,.refl G,hn,h0⟩,eE,eE,eE,eE,eE,rfl⟩
  ·rintro e h ⟨t,G',L',⟨ht,hgg,hn',hI'⟩,e11,e10,e9,e0,e1,rfl⟩;refine dC [0,1,9,10,11] ?_;refine sJ5 @e0 @e1 @e9 @e10 @e11 ?_;intros;refine gR 0 0 c111r1.eq_1 ?_;intros;refine gC ?_;refine gb (fun k1=>?_) (fun k1=>?_)
   ·have htl:t < p.isr.length:=by have:=Kn k1;omega
    have hw:=fi t c (by omega) hmx;obtain⟨n,hx⟩:∃ n,p.isr[t]?=some n:=⟨p.isr[t],getElem?_eq_getElem (by omega)⟩;have hb':=dN hgg hb;have hp':=hp.le hgg;have hAg:=hA.le (E':=IE) hgg Kp;intros;refine gN ?_;intros;refine gR 13 15 c111r2.eq_1 ?_;refine hAg.x_l1 hx rfl rfl ?_;rintro a1 ha1 u1 ⟨hu,hni⟩;cases hu;refine sI ?_;intros;refine gR 15 20 c111r3.eq_1 ?_;refine⟨_,⟨_,rfl,.g hb'⟩,?_⟩
    refine sI ?_;refine fK (zM p x A c B d n _ hp' hni hid _ _) ?_;refine .inr ⟨yl,rfl,?_⟩;refine(pH hy hx hgg rfl hI').mono ?_;rintro v h' ⟨G2,L3,rfl,hg2,hn2,hr⟩;rcases hr with⟨rfl,hr⟩ | ⟨rfl,hr⟩
    ·refine sI ?_;intros;refine gC ?_;intros;refine gN ?_;intros;refine gR2 21 22 c111r4.eq_1 @hw ?_;intros;refine dy ?_;refine ej ⟨⟨t+1,G2,L3,⟨by omega,hgg.trans hg2,hn2,hr⟩,eE,eE,eE,eE,eE,rfl⟩,?_⟩;refine sI ?_;omega
    ·refine sI ?_;intros;refine gC ?_;intros;refine dy ?_;refine dG (dL L3 rfl Kl hn2 ?_);exact⟨hgg.trans hg2,.inr ⟨t,htl,hr⟩⟩
   ·have htl:t=p.isr.length:=by have:=Ko k1;omega
    subst htl;refine dS ?_;refine sI ?_;refine fU ?_;exact⟨[],rfl,⟨G',L',[]⟩,dE Kl,hn',hgg,.inl hI'⟩
 ·rintro v h' ⟨G',L',rfl,hn',hgg,hr⟩;exact⟨G',L',rfl,hgg,hn',hr⟩
theorem pJ(p:Pt)(x:Nat)(G:J5):
  FnD Tryz.prog 61 #[.pointer (some ⟨x,0,none⟩)] G (fun G' r=>∃ b,r=.func (.func 111) #[] #[.pointer (some ⟨b,0,none⟩)]∧eZ G' ⟨b,0,none⟩=some (.pointer (some ⟨x,0,none⟩))):=by
 refine F61.fnD (by simp) (dI ?_);unfold c61;intros;refine gR 0 0 c61r0.eq_1 ?_;intro b1 hb1;intros;refine dy ?_;refine ei js ?_;rintro h' ⟨G1,rfl,hg1,hc1⟩;have e1:=hc1 0 _ rfl;rw[eA]at e1;intros;refine gR 3 4 c61r1.eq_1 ?_;intros;refine rW ?_;exact⟨b1,rfl,e1⟩
theorem F71:Fun Tryz.prog 71 60 v71 c71 o71:=Fun.mkA Tryz.func71 Tryz.ntmps71
def smW(r:Rp):Prop:=smL r.log.segs∧r.log.segs.length≤1000000∧r.eps.length≤1000000
theorem qH{l:List Rp}(h:∀ r∈l,smR r):∀ r∈l,smW r:=fun r hr=>by
 obtain⟨h1,h2,h3⟩:=h r hr;exact⟨h1,by omega,by omega⟩
theorem sH(p:Pt)(x:Nat)(A:Ka)(c:Nat)(B:Ka)(d:Nat)(ys zs:J6)(n:Int)(h:H)(L:J8)(hL:h.L.Perm (PtL p x A c B d ys zs++L))(hy:Cells IE 1 p.isr ys)(hz:Cells (RE h.G) 7 p.reps zs)(hn:I64 n)(hid:rR p.reps):
  eh Tryz.prog 51 #[.pointer (some ⟨x,0,none⟩),.int .i64 n] h fun r h'=>r=.pointer (uO B (atR p.reps n))∧h'=h :=
 iY em F51.enters hL (xf hy hz) fun G' hg hp=>zM p x A c B d n G' hp hn hid L h.D
theorem wG:∀ (bs:Kg) (nx:Int),(0≤nx∧nx≤1099511627777)→(∀ x∈bs,fx x=0)→0≤eF nx bs∧eF nx bs≤1099511627777
 | [],nx,h,_=>h
 | b :: bs,nx,h,hb=>by
  have:=fO.1 (tg (hb b (.head _))).2;exact wG bs (b.last+1) (by omega) fun x hx=>hb x (.tail _ hx)
theorem iI(l:Lg):0≤ec l∧ec l≤1099511627777:=by
 unfold ec;split
 ·rename_i h;obtain⟨s,e1,e2,e3,e4,e5⟩:=ky h;have h1:=fO.1 (FA (fB h).1);have h2:=fO.1 (eB.1 e5.1.1).2;obtain⟨r,hs⟩:=eG s;have h3:=wG (ef s) s.base (by omega) hs.ok;rw[e4];have h4:gY s=eF s.base (ef s):=rfl;omega
 ·omega
theorem m5(l:List Rp)(k:Nat)(r:Rp):∀ (is:Ki) (m:Int),fe l k r m is≤m
 | [],m=>Int.le_refl _
 | n :: is,m=>by
  have h1:=m5 l k r is (kE l k r m n);have h2:kE l k r m n≤m:=by
   unfold kE;split
   ·split
    ·exact Int.le_refl _
    ·exact Int.min_le_left ..
   ·exact Int.le_refl _
  exact Int.le_trans h1 h2
theorem mU(p:Pt)(k:Nat)(y:Rp)(x:Nat)(A:Ka)(c:Nat)(B:Ka)(d:Nat)(ys zs:J6):PtL (fV p k y) x A c B d ys zs=PtL p x A c B d ys zs:=by
 simp[PtL,d7,fV]
theorem Bd(a b:List Ep)(ae be:Int)(va vb:Value)(G:J5)(ha:SEp G va a)(hb:SEp G vb b)(hla:a.length≤1000000)(hlb:b.length≤1000000):
  FnS Tryz.prog 126 #[va,.int .i64 ae,vb,.int .i64 be] G (.int .i64 (lX a b ae be)):=fun L D=>(yJ a b ae be va vb G ha hb hla hlb L D).mono fun r h' ⟨⟨m,h1,h2⟩,h3⟩=>⟨by rw[h1,oV h2],h3⟩
theorem AR{G:J5}{l:List Rp}{g d:Nat}{k:Nat}{r:Rp}(h:SlV G (RE G) 7 (.slice (some ⟨g,0,none⟩) l.length d) l)(hr:l[k]?=some r):
  ∃ A c B d,RE G r (fF r A c B d)∧(∀ L D,LdN ⟨G,L,D⟩ (.pointer (some ⟨g,k * 7,none⟩)) (some 7) (.agg (fF r A c B d).toArray))∧∀ L D o u,(fF r A c B d)[o]?=some u→LdN ⟨G,L,D⟩ (.pointer (some ⟨g,k * 7+o,none⟩)) none u:=by
 obtain⟨A0,d0,he,-,-,hA⟩:=h;cases he;obtain⟨a,cs,ha,h1,h2,h4⟩:=hA k r hr;cases ha;have h4:∀ (j:Nat) (u:Value),cs[j]?=some u→eZ G ⟨g,k * 7+j,none⟩=some u:=fun j u hu=>by have:=h4 j u hu;rwa [gL]at this
 have h20:=h2;obtain⟨A,c,B,d,rfl,-⟩:=h2;exact⟨A,c,B,d,h20,fun L D=>⟨_,_,rfl,rfl,h1,fun j u hu=>by rw[eA];exact .g (h4 j u hu)⟩,fun L D o u hu=>⟨_,rfl,.g (h4 o u hu)⟩⟩
theorem sF{α β:Type}(f:β→α→β)(b:β){l:List α}{k:Nat}{x:α}(h:l[k]?=some x):(l.take (k+1)).foldl f b=f ((l.take k).foldl f b) x:=by
 rw[List.take_add_one,h];simp
theorem lj(p:Pt)(x:Nat)(A:Ka)(c:Nat)(B:Ka)(d:Nat)(ys zs:J6)(G:J5)(hy:Cells IE 1 p.isr ys)(hz:Cells (RE G) 7 p.reps zs)(hid:rR p.reps)(hin:∀ n∈p.isr,n∈fE p.reps)(hsm:∀ r∈p.reps,smW r)(hI:qZ p):
  FnO Tryz.prog 71 #[.pointer (some ⟨x,0,none⟩)] G (PtL p x A c B d ys zs) (fun G' L' r=>r=.tuple #[]∧∃ zs',L'=PtL (dY p) x A c B d ys zs'∧Cells (RE G') 7 (dY p).reps zs'):=by
 refine F71.fnO (by simp) em (dI ?_);unfold c71;intros;refine gR 5 12 c71r0.eq_1 ?_;refine⟨_,dH (cs:=d7 p A c B d) (.head _) rfl,?_⟩;refine sI ?_;refine(sH p x A c B d ys zs p.leader _ [] (by simp) hy hz hI.2.1 hid).mono ?_;rintro _ _ ⟨rfl,rfl⟩;refine sI ?_;intro b2 hb2;refine dM [] _ rfl (by simp) ⟨rfl,rfl⟩ ?_;refine sI ?_;intros;try refine dx ?_
 have hsame:dY p=p→∀ e L,go none Tryz.prog 60 v71.1 v71.2 (gl o71 fun v h=>v=.tuple #[]∧∃ zs',h.L=PtL (dY p) x A c B d ys zs'∧Cells (RE h.G) 7 (dY p).reps zs') (.s .ret :: L) e ⟨G,.blk b2 [.pointer (uO B (atR p.reps p.leader))] :: PtL p x A c B d ys zs,[]⟩:=fun hr e L=>by
  refine dG (dL (PtL p x A c B d ys zs) rfl (.cons _ Kl) em ⟨rfl,zs,?_,?_⟩)
  ·rw[hr]
  ·rw[hr];exact hz
 intros;refine gR 12 21 c71r1.eq_1 ?_;refine⟨_,dH (cs:=d7 p A c B d) (.tail _ (.head _)) rfl,?_⟩;refine sI ?_;refine gdD (fun k1=>?_) (fun k1=>?_)
 ·refine sI ?_;intros;refine gC ?_;exact hsame (by unfold dY;rw[if_pos k1]) _ _
 refine sI ?_;refine⟨_,dH (.head _) rfl,?_⟩;refine sJ @Aq ?_;cases hk:atR p.reps p.leader with
 | none =>
  rw[hk]at hsame;have hpt:uO B none=none:=rfl;refine sJ @hpt ?_;intros;refine gC ?_;refine hsame ?_ _ _;unfold dY;rw[if_neg k1,hk]
 | some k =>
  obtain⟨r,hr,-⟩:=g9 hk;clear hsame;have hst:dY p=fV p k { r with high:=max r.high (fe p.reps k r (ec r.log) p.isr) }:=by
   unfold dY;rw[if_neg k1,hk];dsimp only;rw[hr];rfl
  rw[hst];clear hst;have hkl:=(List.getElem?_eq_some_iff.1 hr).1;intros;refine ei (kI (.tail _ (.tail _ (.head _))) (by omega)) ?_;rintro h' ⟨rfl,g,c9,he,-,-⟩;cases he;have hpt:uO (some ⟨g,0,none⟩) (some k)=some ⟨g,k * 7,none⟩:=congrArg some (gL _ _);rw[hpt];intros;refine gC ?_;intros;refine gN ?_;obtain⟨cs,hre,hcl,hld⟩:=hz.get hr;have hre0:=hre;have hsr:=hsm r (mem_of_getElem? hr)
  have hend:=jl r cs G hre hsr.1 (by have:=hsr.2.1;omega);obtain⟨A1,c1,B1,d1,rfl,-⟩:=hre;intros;refine gR 22 26 c71r2.eq_1 ?_;refine⟨_,dH (.head _) rfl,?_⟩;refine sI ?_;refine⟨_,gT (.tail _ (.tail _ (.head _))) hcl hld,?_⟩;unfold fF at hend ⊢;refine sI ?_;refine fK (hend _ _) ?_;intro b3 hb3;refine dM [] _ rfl (by simp) ⟨rfl,rfl⟩ ?_;refine sI ?_;intros;try refine dx ?_
  intros;try refine dx ?_
  intros;refine gR 26 27 c71r3.eq_1 ?_;refine(pJ p x G _ _).mono ?_;rintro rr h' ⟨G1,rfl,hg1,b4,rfl,hb4⟩;refine sI ?_;intros;have hz1:=eN hz fun _ _ h=>RE.le hg1 h
  refine dA (h':=⟨G1,PtL p x A c (some ⟨g,0,none⟩) d ys zs++[.blk b3 [.int .i64 (ec r.log)],.blk b2 [.pointer (some ⟨g,k * 7,none⟩)]],[]⟩) (ee (List.perm_append_comm (l₁:=[_,_]))) ?_;refine Cv em (xf hy hz1) fun G2 hg2 hpt2=>?_
  refine Bp ?_;have hb42:=dN hg2 hb4;have hit:=mo p x b4 A c _ d G2 hpt2 hid hb42;refine rA (α:=Int) (fun t G' L'=>L'=[.blk b3 [.int .i64 (fe p.reps k r (ec r.log) (p.isr.take t))],.blk b2 [.pointer (some ⟨g,k * 7,none⟩)]]) (fun _ _ _ _=>False) (eE) F111.enters (dF (dF dw)) (fun _ _ _ _ _ h=>h) hit (fun G x args h=>by cases h;rfl) rfl ?_ ?_ ?_
  ·rintro yl t n args G' L' hx hgl rfl rfl _;obtain⟨i,y,hi,hiy,hyn⟩:=qK (hin n (mem_of_getElem? hx));have hpti:uO (some ⟨g,0,none⟩) (some i)=some ⟨g,i * 7,none⟩:=congrArg some (gL _ _);have hleast:fe p.reps k r (ec r.log) (p.isr.take (t+1))=kE p.reps k r (fe p.reps k r (ec r.log) (p.isr.take t)) n:=sF _ _ hx;rw[hi,hpti];generalize fe p.reps k r (ec r.log) (p.isr.take t)=lt at *
   generalize fe p.reps k r (ec r.log) (p.isr.take (t+1))=lt' at *;refine sI ?_;intros;refine gR 0 0 c71r4.eq_1 ?_;intro bb;refine fU (rX ?_);intros;try refine dx ?_
   intros;refine gR 29 31 c71r5.eq_1 ?_;refine⟨_,dH (.tail _ (.head _)) rfl,?_⟩;refine sJ @Eg ?_;intros;refine gC ?_;refine gb (fun k2=>?_) (fun k2=>?_)
   ·have k2:¬ i=k:=fun h=>by subst h;simp at k2
    have hstep:lt'=min lt (lX y.eps r.eps (ec y.log) (ec r.log)):=by
     rw[hleast];unfold kE;rw[hi];dsimp only;rw[if_neg k2,hiy];rfl
    have hsv:=(hpt2.le hgl).2.2;have hsy:=hsm y (mem_of_getElem? hiy);obtain⟨A2,c2,B2,d2,hre2,hl2,hf2⟩:=AR hsv hiy;obtain⟨A3,c3,B3,d3,hre3,hl3,hf3⟩:=AR hsv hr;have hendy:=jl y _ G' hre2 hsy.1 (by have:=hsy.2.1;omega);have hendr:=jl r _ G' hre3 hsr.1 (by have:=hsr.2.1;omega)
    have hmeet:FnS Tryz.prog 126 #[.slice B2 y.eps.length d2,.int .i64 (ec y.log),.slice B3 r.eps.length d3,.int .i64 (ec r.log)] G' (.int .i64 (lX y.eps r.eps (ec y.log) (ec r.log))):=by
     obtain⟨_,_,_,_,he2,_,hs2,_⟩:=hre2;obtain⟨_,_,_,_,he3,_,hs3,_⟩:=hre3;unfold fF at he2 he3;cases he2;cases he3;exact Bd _ _ _ _ _ _ _ hs2 hs3 (by have:=hsy.2.2;omega) (by have:=hsr.2.2;omega)
    unfold fF at hendy hendr hl2 hl3;intros;refine dy ?_;refine D5 _ Kl (by decide) ?_;refine sJ c71r6.eq_1 ?_;refine⟨_,dH (.head _) rfl,?_⟩;refine sI ?_;refine⟨_,hf2 _ _ 5 _ rfl,?_⟩;refine sI ?_;refine⟨_,hl2 _ _,?_⟩;refine sI ?_;refine⟨_,dH (.tail _ (.head _)) rfl,?_⟩;refine sI ?_;refine⟨_,hf3 _ _ 5 _ rfl,?_⟩;refine sI ?_;refine⟨_,dH (.tail _ (.head _)) rfl,?_⟩;refine sI ?_;refine⟨_,hl3 _ _,?_⟩
    refine sI ?_;refine fK (hendy _ _) ?_;refine fK (hendr _ _) ?_;refine fK (hmeet _ _) ?_;rw[← hstep];refine sJ c71r7.eq_1 ?_;refine dM [] _ rfl (by simp) ⟨rfl,rfl⟩ ?_;refine sI ?_;intros;refine gN ?_;refine fU (qf _ Kl (dF (dF dw)) rfl)
   ·have k2:i=k:=by simp at k2;omega
    subst k2;have hstep:lt'=lt:=by
     rw[hleast];unfold kE;rw[hi];dsimp only;rw[if_pos rfl]
    subst hstep;intros;refine gN ?_;refine fU (qf _ Kl (dF (dF dw)) rfl)
  ·rintro G' L' dd hgl rfl _;refine kl ?_;refine fU ⟨_,_,_,rfl,?_⟩;rw[take_length];have hlt:=m5 p.reps k r p.isr (ec r.log);have hel:=iI r.log;generalize fe p.reps k r (ec r.log) p.isr=lt at *
   have hrow:Item.row (.slice (some ⟨g,0,none⟩) p.reps.length d) 50 7 p.reps.length zs∈PtL p x A c (some ⟨g,0,none⟩) d ys zs++[.blk b3 [.int .i64 lt],.blk b2 [.pointer (some ⟨g,k * 7,none⟩)]]:=.tail _ (.head _);have hz6:=hld 6 _ rfl;refine(?_:go none Tryz.prog 60 v71.1 v71.2 _ [.s (SC.rgT c71r8 c71r9)] _ _);intros;refine dy ?_;refine Gr (by decide) ?_;refine sJ c71r8.eq_1 ?_
   refine⟨_,dH (.tail _ (.tail _ (.tail _ (.tail _ (.head _))))) rfl,?_⟩;refine sI ?_;refine⟨_,dH (.tail _ (.tail _ (.tail _ (.tail _ (.head _))))) rfl,?_⟩;refine sI ?_;refine⟨_,eV hrow hz6,?_⟩;refine sI ?_;refine⟨_,dH (.tail _ (.tail _ (.tail _ (.head _)))) rfl,?_⟩;refine sJ c71r9.eq_1 ?_;refine fQ [_] _ rfl (by simp;have:=hz.len;omega) ⟨rfl,rfl⟩ ?_;refine sI ?_
   refine fU ⟨[],rfl,⟨G1,PtL (fV p k { r with high:=max r.high lt }) x A c (some ⟨g,0,none⟩) d ys (splice zs (k * 7+6) [.int .i64 (max r.high lt)]),[]⟩,?_,em,rfl,_,rfl,?_⟩
   ·rw[mU];exact dE (List.sublist_append_left _ _)
   ·refine Cells.setF hz1 hr (by simp) fun cs h hl=>?_
    obtain⟨A5,c5,B5,d5,rfl,q1,q2,q3,q4,q5⟩:=h;exact⟨A5,c5,B5,d5,rfl,q1,q2,q3,q4,by unfold I64 at q5 ⊢;show _≤max r.high lt∧max r.high lt≤_;omega⟩
  ·rintro ex i G' L' d _ _ h;exact h.elim
theorem F48:Fun Tryz.prog 48 8 v48 c48 o48:=Fun.mkA Tryz.func48 Tryz.ntmps48
theorem F116:Fun Tryz.prog 116 8 v116 c116 o116:=Fun.mkA Tryz.func116 Tryz.ntmps116
theorem F65:Fun Tryz.prog 65 37 v65 c65 o65:=Fun.mkA Tryz.func65 Tryz.ntmps65
theorem F80:Fun Tryz.prog 80 13 v80 c80 o80:=Fun.mkA Tryz.func80 Tryz.ntmps80
theorem F134:Fun Tryz.prog 134 15 v134 c134 o134:=Fun.mkA Tryz.func134 Tryz.ntmps134
theorem qA(l:Ki)(v:Value)(G:J5)(hl:SlV G IE 1 v l)(hb:l.length≤100000):FnO Tryz.prog 48 #[v] G [] (fun _ L' r=>yv IE 3 1 l L' r):=by
 refine F48.fnO (by simp) dw (dI ?_);have hl0:=hl;obtain⟨A,c,rfl,hc,hm,hA⟩:=hl;unfold c48;intros;refine gR 0 0 c48r0.eq_1 ?_;intros;refine gR 3 4 c48r1.eq_1 ?_;intros;refine gC ?_;refine gb (fun ht=>?_) (fun ht=>?_)
 ·intros;refine gR 0 0 c48r2.eq_1 ?_;intros;refine dy ?_;have hA0:l=[]:=by
   match l,hA with
   | [],_=>rfl
   | x :: xs,hA=>obtain⟨a,_,ha,_⟩:=hA 0 x rfl;subst ha;cases ht
  subst hA0;refine dA (dW none 3 1) ?_;refine dG (dL _ rfl Kl (dz dw) ?_);exact⟨[],.nil,rfl⟩
 ·intros;refine gN ?_;intros;refine gR 5 8 c48r3.eq_1 ?_;intro b hb';refine my (.inr ⟨⟨_,rfl⟩,rfl,rfl,rfl,rfl⟩) hl0 rfl IE1 ⟨by omega,by unfold maxLen;omega⟩ fun ys A c hc=>?_
  simp only[Nat.zero_add];refine sI ?_;intros;refine dy ?_;refine dG (dL _ rfl Kl (dz dw) ?_);exact⟨ys,hc,rfl⟩
theorem ue(l:List Rp)(v:Value)(G:J5)(hl:SlV G (RE G) 7 v l)(hb:l.length≤100000):FnO Tryz.prog 116 #[v] G [] (fun _ L' r=>yv (RE G) 50 7 l L' r):=by
 refine F116.fnO (by simp) dw (dI ?_);have hl0:=hl;obtain⟨A,c,rfl,hc,hm,hA⟩:=hl;unfold c116;intros;refine gR 0 0 c116r0.eq_1 ?_;intros;refine gR 3 4 c116r1.eq_1 ?_;intros;refine gC ?_;refine gb (fun ht=>?_) (fun ht=>?_)
 ·intros;refine gR 0 0 c116r2.eq_1 ?_;intros;refine dy ?_;have hA0:l=[]:=by
   match l,hA with
   | [],_=>rfl
   | x :: xs,hA=>obtain⟨a,_,ha,_⟩:=hA 0 x rfl;subst ha;cases ht
  subst hA0;refine dA (dW none 50 7) ?_;refine dG (dL _ rfl Kl (dz dw) ?_);exact⟨[],.nil,rfl⟩
 ·intros;refine gN ?_;intros;refine gR 5 8 c116r3.eq_1 ?_;intro b hb';refine my (.inr ⟨⟨_,rfl⟩,rfl,rfl,rfl,rfl⟩) hl0 rfl RE1 ⟨by omega,by unfold maxLen;omega⟩ fun ys A c hc=>?_
  simp only[Nat.zero_add];refine sI ?_;intros;refine dy ?_;refine dG (dL _ rfl Kl (dz dw) ?_);exact⟨ys,hc,rfl⟩
def Am(q:Pt × Int)(x:Nat)(CE:J8→Prop)(G':J5)(L':J8)(r:Value):Prop :=
 r=.int .i64 q.2∧∃ K C',L'=K++C'∧CE C'∧(q.2≠0→K=[])∧(q.2=0→∃ A c B d ys zs,K=PtL q.1 x A c B d ys zs∧Cells IE 1 q.1.isr ys∧Cells (RE G') 7 q.1.reps zs∧qZ q.1)
def DU(G0:J5)(g:Nat)(cap:Array Value)(p:Pt)(q:Pt × Int)(C0:J8)(CE:J8→Prop):Prop :=
 ∀ G x A c B d ys zs,Gle G0 G→Cells IE 1 p.isr ys→Cells (RE G) 7 p.reps zs→FnO Tryz.prog g (#[.pointer (some ⟨x,0,none⟩)]++cap) G (PtL p x A c B d ys zs++C0) (fun G' L' r=>Am q x CE G' L' r)
noncomputable def mG(p:Pt)(q:Pt × Int):Pt × Int:=if fy p=0 then(if q.2=0 then(q.1,0)else(iz,q.2))else(iz,fy p)
def PtR(q:Pt × Int)(G:J5)(r:Value):Prop:=∃ cs,r=.tuple #[.agg cs.toArray,.int .i64 q.2]∧PE G q.1 cs
theorem ri(G:J5)(e:Int):PtR (iz,e) G (.tuple #[.agg #[.int .i64 0,.int .i64 0,.int .i64 0,.slice none 0 0,.slice none 0 0],.int .i64 e]) :=
 ⟨_,rfl,none,0,none,0,rfl,slN,slN,iA,iA,iA⟩
theorem lh{h:H}{b o k:Nat}{cs us:J6}(hm:Item.blk b cs∈h.L)(hl:us.length=k)(hv:∀ j u,us[j]?=some u→cs[o+j]?=some u):LdN h (.pointer (some ⟨b,o,none⟩)) (some k) (.agg us.toArray) :=
 ⟨_,us,rfl,rfl,hl,fun j u hu=>by rw[eA];exact .blk hm (hv j u hu)⟩
theorem pU(p:Pt)(cs:J6)(g:Nat)(cap:Array Value)(q:Pt × Int)(C0:J8)(CE:J8→Prop)(G:J5)(hp:PE G p cs)(hsm:smP p)(hn0:dR C0)(hCE:∀ C,CE C→dR C)
  (hdo:okP p→DU G g cap p q C0 CE) :
  FnO Tryz.prog 65 #[.agg cs.toArray,.func (.func g) #[] cap] G C0 (fun G' L' r=>PtR (mG p q) G' r∧dR L'∧(CE L'∨(fy p≠0∧L'=C0))):=by
 have hchk:=ko p cs G hp hsm;have hp0:=hp;obtain⟨A,c,B,d,rfl,hI,hR,hi1,hi2,hi3⟩:=hp;have h2:=mg (s:=2) hn0;have h4:=mg (s:=4) hn0;refine F65.fnO (by simp) hn0 (dI ?_);unfold c65;unfold d7 at hchk hp0 ⊢;intros;refine gr 0 0 ?_;refine sJ3 c65r0.eq_1 @h2 @h4 ?_;intros;try refine dx ?_
 intros;try refine dx ?_
 intros;refine gR 9 11 c65r1.eq_1 ?_;refine fK (hchk _ _) ?_;intros;try refine dx ?_
 intros;refine gR 11 12 c65r2.eq_1 ?_;intros;refine gC ?_;refine gb (fun k1=>?_) (fun k1=>?_)
 ·have k1:=Kn k1;intros;refine gR 13 15 c65r3.eq_1 ?_;intros;refine dG (dL C0 rfl (.cons _ (.cons _ Kl)) hn0 ⟨?_,hn0,.inr ⟨k1,rfl⟩⟩);rw[mG,if_neg k1];exact ri _ _
 have k1:fy p=0:=by simpa using k1
 have hok:=lL k1;obtain⟨hs1,hs2,hs3⟩:=hsm;intros;refine gN ?_;intros;try refine dx ?_
 have hcr:=ue p.reps _ G hR (by omega);intros;refine dy ?_;refine D5 _ Kl (by decide) ?_;refine sJ c65r4.eq_1 ?_;refine(jd hcr _ _).mono ?_;rintro r h' ⟨G1,L',rfl,hg1,B1,d1,zs,rfl,-,hzs,rfl⟩;refine sI ?_;refine⟨dO hg1 (.cons _ Kl),?_⟩;refine(jd (qA p.isr _ G1 (hI.le (E':=IE) hg1 Kp) (by omega)) _ _).mono ?_;rintro r h' ⟨G2,L',rfl,hg2,A2,c2,ys,rfl,-,hys,rfl⟩;have hg02:=hg1.trans hg2;refine sI ?_
 refine⟨dO hg02 (.cons _ (.cons _ Kl)),?_⟩;refine sJ c65r5.eq_1 ?_;intros;try refine dx ?_
 intros;refine gR 23 26 c65r6.eq_1 ?_;intro x hx;refine sI ?_;have hz2:=eN hzs fun _ _ h=>RE.le hg02 h
 have hfn:=hdo hok G2 x A2 c2 B1 d1 ys zs hg02 hys hz2;intros;try refine dx ?_
 intros;try refine dx ?_
 refine dA (h':=⟨G2,(PtL p x A2 c2 B1 d1 ys zs++C0)++[.reg 4 [.int .i64 0,.int .i64 0,.int .i64 0,.slice none 0 0,.slice none 0 0],.reg 2 [.int .i64 p.epoch,.int .i64 p.leader,.int .i64 p.least,.slice A2 p.isr.length c2,.slice B1 p.reps.length d1]],[]⟩) (ee (.cons _ ((List.Perm.swap _ _ _).trans (.cons _ (.cons _ (List.perm_append_comm (l₁:=[_,_]) (l₂:=C0))))))) ?_
 intros;refine gR 26 29 c65r7.eq_1 ?_;refine .inl ⟨g,cap,rfl,?_⟩;refine(hfn _ _).mono ?_;rintro r h' ⟨G3,L3,rfl,hg3,rfl,K,C',rfl,hce,hk1,hk2⟩;have hnc:=hCE C' hce;refine sI ?_;intros
 refine dA (h':=⟨G3,[.reg 4 [.int .i64 0,.int .i64 0,.int .i64 0,.slice none 0 0,.slice none 0 0],.reg 2 [.int .i64 p.epoch,.int .i64 p.leader,.int .i64 p.least,.slice A2 p.isr.length c2,.slice B1 p.reps.length d1]]++(K++C'),[]⟩) (ee List.perm_append_comm) ?_;intros;try refine dx ?_
 intros;refine gR 29 30 c65r8.eq_1 ?_;intros;refine gC ?_;refine gb (fun k2=>?_) (fun k2=>?_)
 ·have k2:=Kn k2;have:=hk1 k2;subst this;intros;refine gR 31 33 c65r9.eq_1 ?_;intros;refine dG (dL C' rfl (.cons _ (.cons _ Kl)) hnc ⟨?_,hnc,.inl hce⟩);rw[mG,if_pos k1,if_neg k2];exact ri _ _
 have k2:q.2=0:=by simpa using k2
 obtain⟨A4,c4,B4,d4,ys4,zs4,rfl,hy4,hz4,hi4⟩:=hk2 k2;intros;refine gN ?_;intros;try refine dx ?_
 refine ei (dT [_,_,_] _ (by decide) hz4) ?_;rintro h' ⟨G4,rfl,hg4,hv4⟩;refine ei (dT [_,_,_] _ (by decide) hy4) ?_;rintro h' ⟨G5,rfl,hg5,hv5⟩;intros;refine gR 33 37 c65r10.eq_1 ?_;refine⟨_,lh (cs:=d7 q.1 A4 c4 B4 d4) (us:=d7 q.1 A4 c4 B4 d4) (.tail _ (.tail _ (.head _))) rfl (fun j u h=>by rw[Nat.zero_add];exact h),?_⟩;unfold d7;refine sI ?_;intros
 refine dG (dL C' rfl (.cons _ (.cons _ (.cons _ Kl))) hnc ⟨?_,hnc,.inl hce⟩);rw[mG,if_pos k1,if_pos k2];exact⟨_,rfl,A4,c4,B4,d4,rfl,hv5,SlR.le hg5 (hv4.le (.refl _) fun _ _ h=>RE.le hg4 h),hi4⟩
noncomputable def ofQ(p:Pt)(n:Int)(f:Nat→Rp→Pt × Int):Pt × Int :=
 match atR p.reps n with
 | none=>(p,1)
 | some k=>match p.reps[k]? with
  | none=>(p,1)
  | some r=>f k r
theorem iV(p:Pt)(n:Int)(f:Pt→Nat→Rp→Pt × Int):ofP p n f=mG p (ofQ p n (f p)):=rfl
theorem BH{p:Pt}{n:Int}(f:Nat→Rp→Pt × Int)(h:atR p.reps n=none):ofQ p n f=(p,1):=by unfold ofQ;rw[h]
theorem mz{p:Pt}{n:Int}(f:Nat→Rp→Pt × Int){k:Nat}{r:Rp}(h:atR p.reps n=some k)(hr:p.reps[k]?=some r):ofQ p n f=f k r:=by
 unfold ofQ;rw[h];dsimp only;rw[hr]
def nN(G0:J5)(g:Nat)(cap:Array Value)(p:Pt)(k:Nat)(q:Pt × Int):Prop :=
 ∀ G x A c ga d ys zs,Gle G0 G→Cells IE 1 p.isr ys→Cells (RE G) 7 p.reps zs→FnO Tryz.prog g (#[.pointer (some ⟨x,0,none⟩),.pointer (some ⟨ga,k * 7,none⟩)]++cap) G (PtL p x A c (some ⟨ga,0,none⟩) d ys zs) (fun G' L' r=>Am q x (· = []) G' L' r)
theorem gG{p:Pt}(h:okP p):rR p.reps:=⟨h.1.2.1.2.2,fun r hr=>(h.1.2.2.2.2 r hr).1.1⟩
theorem Et(p:Pt)(n:Int)(g:Nat)(cap:Array Value)(f:Nat→Rp→Pt × Int)(b4 b5:Nat)(G:J5)(hok:okP p)(hn:I64 n)(h4:eZ G ⟨b4,0,none⟩=some (.int .i64 n))(h5:eZ G ⟨b5,0,none⟩=some (.func (.func g) #[] cap))
  (hdo:∀ k r,atR p.reps n=some k→p.reps[k]?=some r→nN G g cap p k (f k r)):DU G 134 #[.pointer (some ⟨b4,0,none⟩),.pointer (some ⟨b5,0,none⟩)] p (ofQ p n f) [] (· = []):=by
 intro G1 x A c B d ys zs hg hy hz;have h4:=dN hg h4;have h5:=dN hg h5;rw[append_nil];refine F134.fnO (by simp) em (dI ?_);unfold c134;intros;refine gR 0 0 c134r0.eq_1 ?_;intros;refine gR 6 9 c134r1.eq_1 ?_;refine⟨_,⟨_,rfl,.g h4⟩,?_⟩;refine sI ?_;refine(sH p x A c B d ys zs n _ [] (by simp) hy hz hn (gG hok)).mono ?_;rintro _ _ ⟨rfl,rfl⟩;refine sI ?_;intros;try refine dx ?_
 cases hk:atR p.reps n with
 | none =>
  have hpt:uO B none=none:=rfl;rw[hpt];intros;try refine dx ?_
  intros;refine gR2 9 10 c134r2.eq_1 @Aq ?_;intros;refine gC ?_;intros;refine gR 0 0 c134r3.eq_1 ?_;intros;refine dG (dL [] rfl Km dw ⟨?_,[],[],rfl,rfl,fun _=>rfl,fun h=>?_⟩)
  ·rw[BH f hk];rfl
  ·rw[BH f hk]at h;cases h
 | some k =>
  obtain⟨r,hr,-⟩:=g9 hk;have hkl:=(List.getElem?_eq_some_iff.1 hr).1;intros;refine ei (kI (.tail _ (.head _)) (by omega)) ?_;rintro h' ⟨rfl,ga,c9,he,-,-⟩;cases he;have hpt:uO (some ⟨ga,0,none⟩) (some k)=some ⟨ga,k * 7,none⟩:=congrArg some (gL _ _);rw[hpt];have hfn:=hdo k r hk hr G1 x A c ga d ys zs hg hy hz;intros;try refine dx ?_
  intros;refine gR2 9 10 c134r2.eq_1 @Aq ?_;intros;refine gC ?_;intros;refine gN ?_;intros;refine gR 11 15 c134r4.eq_1 ?_;refine⟨_,⟨_,rfl,.g h5⟩,?_⟩;refine sI ?_;refine .inl ⟨g,cap,rfl,?_⟩;rw[← append_nil (PtL p x A c (some ⟨ga,0,none⟩) d ys zs)];refine(hfn _ _).mono ?_;rintro r' h' ⟨G3,L3,rfl,hg3,rfl,K,C',rfl,rfl,hk1,hk2⟩;rw[append_nil,append_nil];refine sI ?_;intros
  have hnk:dR K:=by
   by_cases k2:(f k r).2=0
   ·obtain⟨A4,c4,B4,d4,ys4,zs4,rfl,-⟩:=hk2 k2;exact em
   ·rw[hk1 k2];exact dw
  refine dG (dL K rfl Kl hnk ⟨?_,K,[],(append_nil K).symm,rfl,?_,?_⟩)
  ·rw[mz f hk hr];rfl
  ·rw[mz f hk hr];exact hk1
  ·rw[mz f hk hr];exact hk2
theorem DU.le{G0 G1:J5}(hg:Gle G0 G1){g:Nat}{cap:Array Value}{p:Pt}{q:Pt × Int}{C0:J8}{CE:J8→Prop}(h:DU G0 g cap p q C0 CE):DU G1 g cap p q C0 CE :=
 fun G x A c B d ys zs h1=>h G x A c B d ys zs (hg.trans h1)
theorem nN.le{G0 G1:J5}(hg:Gle G0 G1){g:Nat}{cap:Array Value}{p:Pt}{k:Nat}{q:Pt × Int}(h:nN G0 g cap p k q):nN G1 g cap p k q :=
 fun G x A c ga d ys zs h1=>h G x A c ga d ys zs (hg.trans h1)
theorem vP(p:Pt)(cs:J6)(n:Int)(g:Nat)(cap:Array Value)(f:Nat→Rp→Pt × Int)(G:J5)(hp:PE G p cs)(hsm:smP p)(hn:I64 n)
  (hdo:okP p→∀ k r,atR p.reps n=some k→p.reps[k]?=some r→nN G g cap p k (f k r)) :
  FnD Tryz.prog 80 #[.agg cs.toArray,.int .i64 n,.func (.func g) #[] cap] G (PtR (mG p (ofQ p n f))):=by
 have hp0:=hp;obtain⟨A,c,B,d,rfl,-⟩:=hp;refine F80.fnD (by simp) (dI ?_);unfold c80;unfold d7 at hp0 ⊢;intros;refine gR 0 0 c80r0.eq_1 ?_;intro b4 hb4 b5 hb5;refine sI ?_;intros;refine ei (eg [_] _) ?_;rintro h' ⟨G1,rfl,hg1,f5⟩;refine ei (eg [_] _) ?_;rintro h' ⟨G2,rfl,hg2,f4⟩;have f5:=dN hg2 (f5 0 _ rfl);have f4:=f4 0 _ rfl;rw[eA]at f4 f5;have hg02:=hg1.trans hg2
 have hch:=pU p _ 134 #[.pointer (some ⟨b4,0,none⟩),.pointer (some ⟨b5,0,none⟩)] (ofQ p n f) [] (· = []) G2 (hp0.le hg02) hsm dw (fun C h=>by rw[h];exact dw) fun hok =>
  Et p n g cap f b4 b5 G2 hok hn f4 f5 fun k r hk hr=>(hdo hok k r hk hr).le hg02
 intros;try refine dx ?_
 intros;refine gR 8 13 c80r1.eq_1 ?_;refine(hch _ _).mono ?_;rintro r h' ⟨G3,L3,rfl,hg3,⟨cs3,rfl,hpe⟩,-,hL⟩;have hL:L3=[]:=by
  rcases hL with h | ⟨-,h⟩ <;> exact h
 subst hL;have hpe0:=hpe;obtain⟨A3,c3,B3,d3,rfl,-⟩:=hpe;unfold d7 at hpe0 ⊢;refine sI ?_;intros;refine rW ?_;exact⟨_,rfl,hpe0⟩
theorem F37:Fun Tryz.prog 37 12 v37 c37 o37:=Fun.mkA Tryz.func37 Tryz.ntmps37
theorem F91:Fun Tryz.prog 91 45 v91 c91 o91:=Fun.mkH Tryz.func91 Tryz.ntmps91 (by kernel_rfl) (by kernel_rfl) s91 q91
theorem eb(p:Pt):(dY p).epoch=p.epoch∧(dY p).leader=p.leader∧(dY p).least=p.least∧(dY p).isr=p.isr∧(dY p).reps.length=p.reps.length:=by
 unfold dY;split
 ·exact⟨rfl,rfl,rfl,rfl,rfl⟩
 ·split
  ·exact⟨rfl,rfl,rfl,rfl,rfl⟩
  ·split
   ·exact⟨rfl,rfl,rfl,rfl,rfl⟩
   ·exact⟨rfl,rfl,rfl,rfl,List.length_set ..⟩
theorem ls{p:Pt}(h:qZ p):qZ (dY p):=by
 obtain⟨h1,h2,h3,-⟩:=eb p;unfold qZ;rw[h1,h2,h3];exact h
theorem oP{p:Pt}{e:Int}(x:Nat)(G:J5)(h:e≠0):Am (p,e) x (· = []) G [] (.int .i64 e):=⟨rfl,[],[],rfl,rfl,fun _=>rfl,fun h2=>absurd h2 h⟩
theorem wF{p:Pt}{x:Nat}{G:J5}{A:Ka}{c:Nat}{B:Ka}{d:Nat}{ys zs:J6}(hy:Cells IE 1 p.isr ys)(hz:Cells (RE G) 7 p.reps zs)(hi:qZ p):
  Am (p,0) x (· = []) G (PtL p x A c B d ys zs) (.int .i64 0):=⟨rfl,_,[],(append_nil _).symm,rfl,fun h=>absurd rfl h,fun _=>⟨A,c,B,d,ys,zs,rfl,hy,hz,hi⟩⟩
theorem mi(l:Ki)(n:Int)(A:Ka)(c:Nat)(ys:J6)(h:H)(L:J8)(hL:h.L.Perm (.row (.slice A l.length c) 3 1 l.length ys :: L))(hy:Cells IE 1 l ys):
  eh Tryz.prog 58 #[.slice A l.length c,.int .i64 n] h fun r h'=>r=.bool (decide (n∈l))∧h'=h :=
 iY (L1:=[_]) (M:=fun G=>SlV G IE 1 (.slice A l.length c) l) (dz dw) F58.enters hL (jx (M1:=fun G=>SlV G IE 1 (.slice A l.length c) l) (fun L=>kF (by decide) hy) fun G' _ h=>mD h) fun G' hg hp=>ka l n _ G' hp L h.D
theorem xF(p:Pt)(n:Int)(b3 k:Nat)(r:Rp)(G:J5)(hok:okP p)(hsm:smP p)(hI:qZ p)(hn:I64 n)(h3:eZ G ⟨b3,0,none⟩=some (.int .i64 n))(hr:p.reps[k]?=some r):
  nN G 91 #[.pointer (some ⟨b3,0,none⟩)] p k (fP n p k r):=by
 intro G1 x A c ga d ys zs hg hy hz;have h3:=dN hg h3;obtain⟨cs,hre,hcl,hld⟩:=hz.get hr;obtain⟨A1,c1,B1,d1,rfl,-⟩:=hre;rw[show(#[.pointer (some ⟨x,0,none⟩),.pointer (some ⟨ga,k * 7,none⟩)]++#[.pointer (some ⟨b3,0,none⟩)]:Array Value)=#[.pointer (some ⟨x,0,none⟩),.pointer (some ⟨ga,k * 7,none⟩),.pointer (some ⟨b3,0,none⟩)]from rfl];refine F91.fnO (by simp) em (dI ?_);unfold c91
 intros;refine gR 0 0 c91r0.eq_1 ?_;intros;refine dy ?_;intros;refine gR 7 12 c91r1.eq_1 ?_;refine⟨_,eV (.tail _ (.head _)) (hld 1 _ rfl),?_⟩;refine sI ?_;intros;refine gC ?_;refine gb (fun k1=>?_) (fun k1=>?_)
 ·have k1:r.up=false:=by simpa using k1
  intros;refine gR 0 0 c91r2.eq_1 ?_;intros;refine dG (dL [] rfl Km dw ?_);rw[fP,if_pos k1];exact oP x _ (by decide)
 have k1:¬ r.up=false:=by simpa using k1
 intros;try refine dx ?_
 intros;refine dy ?_;refine nP _ Kl (by decide) ?_;refine sJ c91r3.eq_1 ?_;refine⟨_,dH (cs:=d7 p A c (some ⟨ga,0,none⟩) d) (.head _) rfl,?_⟩;refine sI ?_;refine⟨_,⟨_,rfl,.g h3⟩,?_⟩;refine sI ?_
 (refine fK (mi p.isr n A c ys _ _ (List.perm_append_comm (l₁:=[_,_]) (l₂:=[_])) hy) ?_)
 intros;refine gC ?_;refine gb (fun k2=>?_) (fun k2=>?_)
 ·have k2:n∉p.isr:=by simpa using k2
  intros;refine gR 0 0 c91r4.eq_1 ?_;intros;refine dG (dL [] rfl Km dw ?_);rw[fP,if_neg k1,if_pos k2];exact oP x _ (by decide)
 have k2:n∈p.isr:=by simpa using k2
 intros;try refine dx ?_
 intros;refine gR 22 28 c91r5.eq_1 ?_;refine⟨_,dH (cs:=d7 p A c (some ⟨ga,0,none⟩) d) (.head _) rfl,?_⟩;refine sI ?_;intros;refine gC ?_;refine gbD (fun k3=>?_) (fun k3=>?_)
 ·intros;refine gR 0 0 c91r6.eq_1 ?_;intros;refine dG (dL [] rfl Km dw ?_);rw[fP,if_neg k1,if_neg (fun h=>h k2),if_pos k3];exact oP x _ (by decide)
 have hep:0≤p.epoch∧p.epoch≤1048576:=by have:=hok.1.1;simpa [idI]using this
 have hw:IntKind.i64.wrap (p.epoch+1)=p.epoch+1:=by rw[dX] <;> omega
 have hq:fP n p k r=(dY { p with epoch:=p.epoch+1,leader:=n },0):=by rw[fP,if_neg k1,if_neg (fun h=>h k2),if_neg k3]
 rw[hq];have hi2:qZ { p with epoch:=p.epoch+1,leader:=n }:=⟨by unfold I64;show _≤p.epoch+1∧p.epoch+1≤_;omega,hn,hI.2.2⟩;have hraise:=fun zs' hz'=>lj { p with epoch:=p.epoch+1,leader:=n } x A c (some ⟨ga,0,none⟩) d ys zs' G1 hy hz' (gG (p:=p) hok) hok.2.1.2 (qH hsm.1) hi2
 have hraise:=hraise zs hz;generalize hp2:({ p with epoch:=p.epoch+1,leader:=n }:Pt)=p2 at *;intros;refine gN ?_;intros;try refine dx ?_
 refine ez (fun e h=>e 0=.pointer (some ⟨x,0,none⟩)∧h=⟨G1,PtL p2 x A c (some ⟨ga,0,none⟩) d ys zs,[]⟩) ?_ ?_
 ·intros;refine dy ?_;refine AY _ Km (by decide) ?_;refine sJ c91r7.eq_1 ?_;refine⟨?_,?_⟩
  ·refine⟨_,dH (cs:=d7 p A c (some ⟨ga,0,none⟩) d) (.head _) rfl,?_⟩;refine sJ @hw ?_;refine⟨dO Kp Km,?_⟩;refine sJ @hw ?_;refine⟨?_,?_⟩
   ·refine⟨_,⟨_,rfl,.g h3⟩,?_⟩;refine sJ @hw ?_;refine⟨dO Kp Km,?_⟩;refine sJ @hw ?_;refine dM [] _ rfl (by simp[d7,splice]) ⟨rfl,rfl⟩ ?_;refine sJ @hw ?_;refine⟨dO Kp Km,?_⟩;refine sJ @hw ?_;refine dM [] _ rfl (by simp[d7,splice]) ⟨rfl,rfl⟩ ?_;refine sJ @hw ?_;refine⟨dO Kp Km,?_⟩;refine sJ @hw ?_;exact ej ⟨eE,by rw[← hp2];rfl⟩
   ·refine dM [] _ rfl (by simp[d7,splice]) ⟨rfl,rfl⟩ ?_;refine sJ @hw ?_;refine⟨dO Kp Km,?_⟩;refine sJ @hw ?_;refine⟨_,⟨_,rfl,.g h3⟩,?_⟩;refine sJ @hw ?_;refine⟨dO Kp Km,?_⟩;refine sJ @hw ?_;refine dM [] _ rfl (by simp[d7,splice]) ⟨rfl,rfl⟩ ?_;refine sJ @hw ?_;refine⟨dO Kp Km,?_⟩;refine sJ @hw ?_;exact ej ⟨eE,by rw[← hp2];rfl⟩
  ·refine⟨_,⟨_,rfl,.g h3⟩,?_⟩;refine sJ @hw ?_;refine⟨dO Kp Km,?_⟩;refine sJ @hw ?_;refine⟨_,dH (cs:=d7 p A c (some ⟨ga,0,none⟩) d) (.head _) rfl,?_⟩;refine sJ @hw ?_;refine⟨dO Kp Km,?_⟩;refine sJ @hw ?_;refine dM [] _ rfl (by simp[d7,splice]) ⟨rfl,rfl⟩ ?_;refine sJ @hw ?_;refine⟨dO Kp Km,?_⟩;refine sJ @hw ?_;refine dM [] _ rfl (by simp[d7,splice]) ⟨rfl,rfl⟩ ?_;refine sJ @hw ?_;refine⟨dO Kp Km,?_⟩
   refine sJ @hw ?_;exact ej ⟨eE,by rw[← hp2];rfl⟩
 rintro e h ⟨e0,rfl⟩;refine dC [0] ?_;refine sJ @e0 ?_;intros;try refine dx ?_
 intros;refine gR 43 45 c91r8.eq_1 ?_;rw[← append_nil (PtL p2 x A c (some ⟨ga,0,none⟩) d ys zs)];refine(hraise _ _).mono ?_;rintro r' h' ⟨G2,L',rfl,hg2,rfl,zs',rfl,hz'⟩;rw[append_nil];refine sI ?_;intros;try refine dx ?_
 intros;refine gR 0 0 c91r9.eq_1 ?_;intros;refine dG (dL _ rfl Kl em (wF ?_ hz' (ls hi2)));rw[(eb p2).2.2.2.1,← hp2];exact hy
theorem oU(p:Pt)(cs:J6)(n:Int)(G:J5)(hp:PE G p cs)(hsm:smP p)(hn:I64 n):FnD Tryz.prog 37 #[.agg cs.toArray,.int .i64 n] G (PtR (ofP p n (fP n))):=by
 have hp0:=hp;obtain⟨A,c,B,d,rfl,-,-,hI⟩:=hp;refine F37.fnD (by simp) (dI ?_);unfold c37;unfold d7 at hp0 ⊢;intros;refine gR 0 0 c37r0.eq_1 ?_;intro b3 hb3;refine sI ?_;intros;refine ei (eg [_] _) ?_;rintro h' ⟨G1,rfl,hg1,f3⟩;have f3:=f3 0 _ rfl;rw[eA]at f3;have hof:=vP p _ n 91 #[.pointer (some ⟨b3,0,none⟩)] (fP n p) G1 (hp0.le hg1) hsm hn fun hok k r _ hr=>xF p n b3 k r G1 hok hsm hI hn f3 hr
 rw[← iV]at hof;intros;refine gR 6 12 c37r1.eq_1 ?_;refine⟨_,⟨_,rfl,.g f3⟩,?_⟩;refine sI ?_;refine(hof _ _).mono ?_;rintro r h' ⟨G2,rfl,hg2,cs2,rfl,hpe⟩;have hpe0:=hpe;obtain⟨A2,c2,B2,d2,rfl,-⟩:=hpe;unfold d7 at hpe0 ⊢;refine sI ?_;intros;refine rW ?_;exact⟨_,rfl,hpe0⟩
theorem F140:Fun Tryz.prog 140 42 v140 c140 o140:=Fun.mkA Tryz.func140 Tryz.ntmps140
theorem F87:Fun Tryz.prog 87 15 v87 c87 o87:=Fun.mkA Tryz.func87 Tryz.ntmps87
theorem F141:Fun Tryz.prog 141 7 v141 c141 o141:=Fun.mkA Tryz.func141 Tryz.ntmps141
theorem F44:Fun Tryz.prog 44 12 v44 c44 o44:=Fun.mkA Tryz.func44 Tryz.ntmps44
theorem F102:Fun Tryz.prog 102 36 v102 c102 o102:=Fun.mkA Tryz.func102 Tryz.ntmps102
theorem na{G:J5}{L:J8}{D:Kh}{A:Ka}{n m c et sz:Nat}{ys:J6}(hm:m≤n):iH ⟨G,.row (.slice A n c) et sz n ys :: L,D⟩ ⟨G,.row (.slice A m c) et sz m (ys.take (m * sz)) :: L,D⟩:=fun β w hs=>by
 have h:=jP (L1:=[]) (it':=.row (.slice A m c) et sz m (ys.take (m * sz))) (w':=w) hs rfl rfl rfl (Nat.le_refl _) (fun _ _ _=>rfl) (by
   obtain⟨hl,hok⟩:=hs.l _ (List.mem_cons_self ..)
   have hms:m * sz≤n * sz:=Nat.mul_le_mul_right _ hm
   refine⟨by rw[List.length_take,hl];omega,?_⟩
   rcases hok with⟨A0,he,h0⟩ | ⟨g,cap,cur,he,h1,h2,h3,h4,h5,h6⟩
   · cases he
     exact .inl ⟨A, by have : m = 0 := by omega
                       subst this;rfl,by omega⟩
   · cases he
     refine .inr ⟨g,c,cur,rfl,h1,h2,by omega,h4,h5,?_⟩
     rw[← h6,List.take_take,Nat.min_eq_left hms]) (fun b hb=>.inl (by
   cases A <;> exact hb))
 exact⟨h.1,h.2,rfl,fun s cs hh=>⟨cs,by simpa using hh⟩⟩
theorem Al{l:Ki}{i:Nat}{v:Int}(h:i < l.length):(l.set i v).take (i+1)=l.take i++[v]:=by
 rw[List.take_add_one,List.getElem?_set_self h];congr 1;exact List.take_set_of_le (Nat.le_refl _)
theorem tU(l:Ki)(p:Int→Bool)(f:Nat)(cap:Array Value)(A:Ka)(c:Nat)(ys:J6)(G:J5)(hy:Cells IE 1 l ys)(hf:∀ G',Gle G G'→∀ s,s∈l→I64 s→FnS Tryz.prog f (#[.int .i64 s]++cap) G' (.bool (p s))):
  FnO Tryz.prog 140 #[.slice A l.length c,.func (.func f) #[] cap] G [.row (.slice A l.length c) 3 1 l.length ys] (fun _ L' r=>∃ A' c' ys',r=.slice A' (l.filter fun s=>!p s).length c'∧Cells IE 1 (l.filter fun s=>!p s) ys'∧L'=[.row r 3 1 (l.filter fun s=>!p s).length ys']):=by
 refine F140.fnO (by simp) (dz dw) (dI ?_);unfold c140;intros;refine gR 0 0 c140r0.eq_1 ?_;intros;refine gR 8 11 c140r1.eq_1 ?_
 refine(iY (L1:=[_]) (L:=[]) (R:=fun r=>r=.int .i64 (fS p l 0)) (M:=fun G=>SlV G IE 1 (.slice A l.length c) l) (dz dw) F109.enters (List.Perm.refl _) (jx (M1:=fun G=>SlV G IE 1 (.slice A l.length c) l) (fun L=>kF (by decide) hy) fun G' _ h=>mD h) fun G' hg hp=>nX l p f cap _ G' hp (hf G' hg) [] []).mono ?_;rintro _ _ ⟨rfl,rfl⟩;refine sI ?_;intros;try refine dx ?_
 rcases kO p l 0 with⟨q1,q2⟩ | ⟨k,x,q1,q2,q3,q4⟩
 ·rw[q1];intros;try refine dx ?_
  have hd:decide ((-1:Int)=-1)=true:=by decide
  intros;refine gR2 11 12 c140r2.eq_1 @hd ?_;intros;refine gC ?_;have hfl:(l.filter fun s=>!p s)=l:=List.filter_eq_self.2 fun s hs=>by rw[q2 s hs];rfl
  intros;refine gR 13 14 c140r3.eq_1 ?_;intros;refine dG (dL _ rfl Kl (dz dw) ⟨A,c,ys,?_,?_,?_⟩)
  ·rw[hfl];rfl
  ·rw[hfl];exact hy
  ·rw[hfl];rfl
 rw[q1,Nat.zero_add];have hkl:=(List.getElem?_eq_some_iff.1 q2).1;refine ei (kI (.head _) (by omega)) ?_;rintro h' ⟨rfl,g,c9,he,hlc,hmx⟩;cases he;unfold maxLen at hmx;have hd:decide ((k:Int)=-1)=false:=by simp
 have hw0:IntKind.i64.wrap ((k:Int)+1)=(k:Int)+1:=by rw[dX] <;> omega
 intros;try refine dx ?_
 intros;refine gR2 11 12 c140r2.eq_1 @hd ?_;intros;refine gC ?_;intros;refine gN ?_;intros;try refine dx ?_
 intros;refine gR2 14 16 c140r4.eq_1 @hw0 ?_;intros;refine dy ?_
 refine dV (fun e h=>∃ (i j:Nat) (cur:Ki) (ys':J6),(i < j∧j≤l.length)∧(cur.length=l.length∧Cells IE 1 cur ys')∧(cur.take i=(l.take j).filter (fun s=>!p s)∧cur.drop j=l.drop j)∧e 5=.int .i64 i∧e 6=.int .i64 j∧e 0=.slice (some ⟨g,0,none⟩) l.length c∧e 1=.func (.func f) #[] cap∧h=⟨G,[.row (.slice (some ⟨g,0,none⟩) l.length c) 3 1 l.length ys'],[]⟩) (fun e h=>l.length - iv (e 6)) ?_ ?_
 ·refine⟨k,k+1,l,ys,⟨by omega,by omega⟩,⟨rfl,hy⟩,⟨?_,rfl⟩,eE,eE,eE,eE,rfl⟩;rw[eo q2,List.filter_append,List.filter_eq_self.2 (fun s hs=>by rw[q4 s hs];rfl)];simp[q3]
 rintro e h ⟨i,j,cur,ys',⟨hij,hjn⟩,⟨hcl,hy'⟩,⟨ht,hdr⟩,e5,e6,e0,e1,rfl⟩;refine dC [0,1,5,6] ?_;refine sJ4 @e0 @e1 @e5 @e6 ?_;intros;refine gR 16 19 c140r5.eq_1 ?_;intros;refine gC ?_;refine gb (fun h1=>?_) (fun h1=>?_)
 ·have h1:j < l.length:=by have:=Kn h1;omega
  have hw:IntKind.i64.wrap ((j:Int)+1)=(j:Int)+1:=by rw[dX] <;> omega
  obtain⟨v,hv⟩:∃ v,l[j]?=some v:=⟨l[j],getElem?_eq_getElem h1⟩;have hcv:cur[j]?=some v:=by
   have:(cur.drop j)[0]?=(l.drop j)[0]?:=by rw[hdr]
   simpa [List.getElem?_drop,hv]using this
  obtain⟨cs,⟨rfl,hvi⟩,-,hld⟩:=hy'.get hcv;have hld:=hld 0 _ rfl;rw[Nat.add_zero]at hld;have hlj:ys'.length=l.length * 1:=by rw[hy'.len,hcl]
  have htk:=eo hv;have hbk:∀ (cur2:Ki) (ys2:J6) (i2:Nat) (e:Env),(i2 < j+1)→cur2.length=l.length→Cells IE 1 cur2 ys2→cur2.take i2=(l.take (j+1)).filter (fun s=>!p s)→cur2.drop (j+1)=l.drop (j+1)→e 5=.int .i64 i2→e 6=.int .i64 j→e 0=.slice (some ⟨g,0,none⟩) l.length c→e 1=.func (.func f) #[] cap →
    go none Tryz.prog 42 v140.1 v140.2 (gl o140 fun v h=>∃ A' c' ys',v=.slice A' (l.filter fun s=>!p s).length c'∧Cells IE 1 (l.filter fun s=>!p s) ys'∧h.L=[.row v 3 1 (l.filter fun s=>!p s).length ys'])
    [Td.s (SC.reg false c140r10),Td.l fun e' h'=>(∃ (i j:Nat) (cur:Ki) (ys':J6),(i < j∧j≤l.length)∧(cur.length=l.length∧Cells IE 1 cur ys')∧(cur.take i=(l.take j).filter (fun s=>!p s)∧cur.drop j=l.drop j)∧e' 5=.int .i64 i∧e' 6=.int .i64 j∧e' 0=.slice (some ⟨g,0,none⟩) l.length c∧e' 1=.func (.func f) #[] cap∧h'=⟨G,[.row (.slice (some ⟨g,0,none⟩) l.length c) 3 1 l.length ys'],[]⟩)∧l.length - iv (e' 6) < l.length - j,Td.b 0,Td.s ((SC.reg false c140r11).seq ((SC.reg false c140r12).seq SC.ret))] e ⟨G,[.row (.slice (some ⟨g,0,none⟩) l.length c) 3 1 l.length ys2],[]⟩:=fun cur2 ys2 i2 e a1 a2 a3 a4 a5 b5 b6 b0 b1=>by
   refine dC [0,1,5,6] ?_;refine sJ4 @b0 @b1 @b5 @b6 ?_;intros;refine gR2 20 22 c140r10.eq_1 @hw ?_;intros;refine dy ?_;refine ej ⟨⟨i2,j+1,cur2,ys2,⟨a1,by omega⟩,⟨a2,a3⟩,⟨a4,a5⟩,eE,eE,eE,eE,rfl⟩,?_⟩;refine sI ?_;omega
  intros;refine gN ?_;intros;refine gR 22 26 c140r6.eq_1 ?_;refine⟨by omega,_,rfl,?_⟩;refine sJ @Nat.zero_add ?_;refine⟨_,eV (.head _) hld,?_⟩;refine sI ?_;intros;try refine dx ?_
  intros;refine gR 26 29 c140r7.eq_1 ?_;refine .inl ⟨f,cap,rfl,?_⟩;refine fK (hf G (.refl G) v (mem_of_getElem? hv) hvi _ _) ?_;intros;refine gC ?_;refine gb (fun h2=>?_) (fun h2=>?_)
  ·have h2:p v=false:=by simpa using h2
   have hwi:IntKind.i64.wrap ((i:Int)+1)=(i:Int)+1:=by rw[dX] <;> omega
   intros;try refine dx ?_
   intros;refine gR 30 34 c140r8.eq_1 ?_;refine⟨by omega,_,rfl,?_⟩;refine sJ @Nat.zero_add ?_;refine fQ [] _ rfl (by simp;omega) ⟨rfl,rfl⟩ ?_;refine sI ?_;intros;refine gR2 34 36 c140r9.eq_1 @hwi ?_;intros;refine gN ?_
   refine hbk (cur.set i v) _ (i+1) _ (by omega) (by rw[List.length_set,hcl]) (Cells.set hy' (by omega) ⟨rfl,hvi⟩ rfl) ?_ ?_ (by((refine sI ?_;try with_reducible exact True.intro))) (by((refine sI ?_;try with_reducible exact True.intro))) (by((refine sI ?_;try with_reducible exact True.intro))) (by((refine sI ?_;try with_reducible exact True.intro)))
   ·rw[Al (by omega),ht,htk,List.filter_append];simp[h2]
   ·rw[List.drop_set_of_lt (by omega)];have:(cur.drop j).drop 1=(l.drop j).drop 1:=by rw[hdr]
    simpa [List.drop_drop]using this
  ·have h2:p v=true:=by simpa using h2
   intros;refine gN ?_;refine hbk cur ys' i _ (by omega) hcl hy' ?_ ?_ (by((refine sI ?_;try with_reducible exact True.intro))) (by((refine sI ?_;try with_reducible exact True.intro))) (by((refine sI ?_;try with_reducible exact True.intro))) (by((refine sI ?_;try with_reducible exact True.intro)))
   ·rw[ht,htk,List.filter_append];simp[h2]
   ·have:(cur.drop j).drop 1=(l.drop j).drop 1:=by rw[hdr]
    simpa [List.drop_drop]using this
 ·have h1:j=l.length:=by have:=Ko h1;omega
  subst h1;rw[take_length]at ht;refine dS ?_;refine sI ?_;intros;refine gR2 36 39 c140r11.eq_1 @Hj ?_;have hne:¬ c=i:=by omega
  have hl2:(l.filter fun s=>!p s).length=i:=by rw[← ht,List.length_take];omega
  have hzl:(Builtin.zeroCells #[.int .i64 0] (l.length - i)).toList.length=l.length - i:=by rw[Array.length_toList,size_zeroCells];simp
  have hyl:ys'.length=l.length:=by rw[hy'.len,hcl,Nat.mul_one]
  refine⟨by omega,?_⟩;rw[if_neg hne,Nat.zero_add,Nat.mul_one];generalize hzs:(Builtin.zeroCells #[.int .i64 0] (l.length - i)).toList=zz at hzl;refine⟨_,_,_,_,rfl,.inr ⟨g,i,⟨rfl,by simp[Value.oneCell']⟩,by rw[hzs];exact .row [] (by omega)⟩,?_⟩;refine sI ?_;intros;refine gR 39 42 c140r12.eq_1 ?_;refine⟨by omega,?_⟩;refine sI ?_;intros;refine dA (na (m:=i) (by omega)) ?_
  refine dG (dL _ rfl Kl (dz dw) ⟨some ⟨g,0,none⟩,c,ys'.take (i * 1),?_,?_,?_⟩)
  ·rw[hl2];rfl
  ·rw[← ht];exact(hy'.split i (by omega)).1
  ·rw[hl2];have:(splice ys' i zz).take (i * 1)=ys'.take (i * 1):=by
    rw[Nat.mul_one,splice,append_assoc,List.take_append_of_le_length (by rw[List.length_take];omega),List.take_take,Nat.min_self]
   rw[this];rfl
theorem B7(n m:Int)(b:Nat)(G:J5)(h:eZ G ⟨b,0,none⟩=some (.int .i64 n)):FnS Tryz.prog 141 #[.int .i64 m,.pointer (some ⟨b,0,none⟩)] G (.bool (decide (m=n))):=by
 refine F141.fnS (by simp) (dI ?_);unfold c141;intros;refine gR 0 0 c141r0.eq_1 ?_;intros;refine gR 4 7 c141r1.eq_1 ?_;refine⟨_,⟨_,rfl,.g h⟩,?_⟩;refine sI ?_;intros;refine rV ?_;simp only[push_cast,Nat.reduceBEq]
theorem AO(p:Pt)(x:Nat)(A:Ka)(c:Nat)(B:Ka)(d:Nat)(ys zs:J6):
  (PtL p x A c B d ys zs).Perm ([Kx.Item.row (.slice A p.isr.length c) 3 1 p.isr.length ys]++[Kx.Item.blk x (d7 p A c B d),Kx.Item.row (.slice B p.reps.length d) 50 7 p.reps.length zs]) :=
 List.perm_append_comm (l₁:=[Kx.Item.blk x (d7 p A c B d),Kx.Item.row (.slice B p.reps.length d) 50 7 p.reps.length zs]) (l₂:=[Kx.Item.row (.slice A p.isr.length c) 3 1 p.isr.length ys])
def tu(p:Pt)(n:Int):Pt:={ p with isr:=p.isr.filter fun m=>decide (m≠n) }
theorem AI(p:Pt)(n:Int)(x:Nat)(A:Ka)(c:Nat)(B:Ka)(d:Nat)(ys zs:J6)(G:J5)(hy:Cells IE 1 p.isr ys):
  FnO Tryz.prog 87 #[.pointer (some ⟨x,0,none⟩),.int .i64 n] G (PtL p x A c B d ys zs) (fun G' L' r=>r=.tuple #[]∧∃ A' c' ys',L'=PtL (tu p n) x A' c' B d ys' zs∧Cells IE 1 (tu p n).isr ys'):=by
 have hfe:(p.isr.filter fun s=>!decide (s=n))=(tu p n).isr:=List.filter_congr fun s _=>by simp
 refine F87.fnO (by simp) em (dI ?_);unfold c87;intros;refine gR 0 0 c87r0.eq_1 ?_;intro b3 hb3;refine sI ?_;intros;refine ei (eg [] _) ?_;rintro h' ⟨G1,rfl,hg1,f3⟩;have f3:=f3 0 _ rfl;rw[eA]at f3;intros;refine gR 4 15 c87r1.eq_1 ?_;refine⟨_,dH (cs:=d7 p A c B d) (.head _) rfl,?_⟩;refine sI ?_
 have hdel:=tU p.isr (fun m=>decide (m=n)) 141 #[.pointer (some ⟨b3,0,none⟩)] A c ys G1 hy fun G' hg s hs hi=>B7 n s b3 G' (dN hg f3)
 refine eh.ghost (h':=⟨G1,[.row (.slice A p.isr.length c) 3 1 p.isr.length ys]++[.blk x (d7 p A c B d),.row (.slice B p.reps.length d) 50 7 p.reps.length zs],[]⟩) (ee (AO p x A c B d ys zs)) ?_;refine(hdel _ _).mono ?_;rintro r h' ⟨G2,L',rfl,hg2,A',c',ys',rfl,hy2,rfl⟩;rw[hfe]at hy2 ⊢;refine sI ?_;refine dM [_] _ rfl (by simp[d7]) ⟨rfl,rfl⟩ ?_;refine sI ?_;intros
 exact fU ⟨[],rfl,⟨G2,PtL (tu p n) x A' c' B d ys' zs,[]⟩,ee (AO (tu p n) x A' c' B d ys' zs).symm,em,rfl,A',c',ys',rfl,hy2⟩
theorem sS{p:Pt}(n:Int)(h:∀ m∈p.isr,m∈fE p.reps):∀ m∈(tu p n).isr,m∈fE (tu p n).reps:=fun m hm=>h m (List.mem_filter.1 hm).1
theorem AC(p:Pt)(n:Int)(b3 k:Nat)(r:Rp)(G:J5)(hok:okP p)(hsm:smP p)(hI:qZ p)(hn:I64 n)(h3:eZ G ⟨b3,0,none⟩=some (.int .i64 n))(hr:p.reps[k]?=some r):
  nN G 102 #[.pointer (some ⟨b3,0,none⟩)] p k (ji n p k r):=by
 intro G1 x A c ga d ys zs hg hy hz;have h3:=dN hg h3;rw[show(#[.pointer (some ⟨x,0,none⟩),.pointer (some ⟨ga,k * 7,none⟩)]++#[.pointer (some ⟨b3,0,none⟩)]:Array Value)=#[.pointer (some ⟨x,0,none⟩),.pointer (some ⟨ga,k * 7,none⟩),.pointer (some ⟨b3,0,none⟩)]from rfl];refine F102.fnO (by simp) em (dI ?_);unfold c102;intros;refine gR 0 0 c102r0.eq_1 ?_;intros;refine dy ?_
 intros;refine gR 7 13 c102r1.eq_1 ?_;refine⟨_,dH (cs:=d7 p A c (some ⟨ga,0,none⟩) d) (.head _) rfl,?_⟩;refine sI ?_;intros;refine gC ?_;refine gbD (fun k1=>?_) (fun k1=>?_)
 ·intros;refine gR 0 0 c102r2.eq_1 ?_;intros;refine dG (dL [] rfl Km dw ?_);rw[ji,if_pos k1];exact oP x _ (by decide)
 have hno:n=p.leader∨n∉p.isr→∀ (fr:Kc) (e:Env) (h:H),go none Tryz.prog 36 v102.1 v102.2 (gl o102 fun v h=>Am (ji n p k r) x (· = []) h.G h.L v) (Td.s ((SC.reg false c102r4).seq .ret) :: fr) e h:=fun h fr e h=>by
  intros;refine gR 0 0 c102r4.eq_1 ?_;intros;refine dG (dL [] rfl Km dw ?_);rw[ji,if_neg k1,if_pos ‹_›];exact oP x _ (by decide)
 intros;try refine dx ?_
 intros;refine dy ?_;refine nP _ Kl (by decide) ?_;refine sJ c102r3.eq_1 ?_;refine⟨_,⟨_,rfl,.g h3⟩,?_⟩;refine sI ?_;refine⟨_,dH (cs:=d7 p A c (some ⟨ga,0,none⟩) d) (.head _) rfl,?_⟩;refine sI ?_;refine gxD (fun k2=>?_) (fun k2=>?_)
 ·refine sI ?_;intros;refine gC ?_;exact hno (.inl k2) _ _ _
 refine sI ?_;refine⟨_,dH (cs:=d7 p A c (some ⟨ga,0,none⟩) d) (.head _) rfl,?_⟩;refine sI ?_;refine⟨_,⟨_,rfl,.g h3⟩,?_⟩;refine sI ?_
 (refine fK (mi p.isr n A c ys _ _ (List.perm_append_comm (l₁:=[_,_]) (l₂:=[_])) hy) ?_)
 intros;refine gC ?_;refine gb (fun k3=>?_) (fun k3=>?_)
 ·have k3:n∉p.isr:=by simpa using k3
  exact hno (.inr k3) _ _ _
 have k3:n∈p.isr:=by simpa using k3
 have hq:ji n p k r=(dY (tu p n),0):=by
  rw[ji,if_neg k1,if_neg (fun h=>by rcases h with h | h;exact k2 h;exact h k3)]
  rfl
 rw[hq];clear hno hq;have hout:=AI p n x A c (some ⟨ga,0,none⟩) d ys zs G1 hy;intros;refine gN ?_;intros;try refine dx ?_
 intros;refine gR 31 34 c102r5.eq_1 ?_;refine⟨_,⟨_,rfl,.g h3⟩,?_⟩;refine sI ?_;rw[← append_nil (PtL p x A c (some ⟨ga,0,none⟩) d ys zs)];refine(hout _ _).mono ?_;rintro r' h' ⟨G2,L',rfl,hg2,rfl,A',c',ys',rfl,hy2⟩;rw[append_nil];have hraise:=lj (tu p n) x A' c' (some ⟨ga,0,none⟩) d ys' zs G2 hy2 (eN hz fun _ _ h=>RE.le hg2 h) (gG (p:=p) hok) (sS n hok.2.1.2) (qH hsm.1) hI;refine sI ?_
 intros;try refine dx ?_
 intros;refine gR 34 36 c102r6.eq_1 ?_;rw[← append_nil (PtL (tu p n) x A' c' (some ⟨ga,0,none⟩) d ys' zs)];refine(hraise _ _).mono ?_;rintro r' h' ⟨G3,L',rfl,hg3,rfl,zs',rfl,hz'⟩;rw[append_nil];refine sI ?_;intros;try refine dx ?_
 intros;refine gR 0 0 c102r7.eq_1 ?_;intros;refine dG (dL _ rfl Kl em (wF ?_ hz' (ls (p:=tu p n) hI)));rw[(eb (tu p n)).2.2.2.1];exact hy2
theorem xL(p:Pt)(cs:J6)(n:Int)(G:J5)(hp:PE G p cs)(hsm:smP p)(hn:I64 n):FnD Tryz.prog 44 #[.agg cs.toArray,.int .i64 n] G (PtR (ofP p n (ji n))):=by
 have hp0:=hp;obtain⟨A,c,B,d,rfl,-,-,hI⟩:=hp;refine F44.fnD (by simp) (dI ?_);unfold c44;unfold d7 at hp0 ⊢;intros;refine gR 0 0 c44r0.eq_1 ?_;intro b3 hb3;refine sI ?_;intros;refine ei (eg [_] _) ?_;rintro h' ⟨G1,rfl,hg1,f3⟩;have f3:=f3 0 _ rfl;rw[eA]at f3;have hof:=vP p _ n 102 #[.pointer (some ⟨b3,0,none⟩)] (ji n p) G1 (hp0.le hg1) hsm hn fun hok k r _ hr=>AC p n b3 k r G1 hok hsm hI hn f3 hr
 rw[← iV]at hof;intros;refine gR 6 12 c44r1.eq_1 ?_;refine⟨_,⟨_,rfl,.g f3⟩,?_⟩;refine sI ?_;refine(hof _ _).mono ?_;rintro r h' ⟨G2,rfl,hg2,cs2,rfl,hpe⟩;have hpe0:=hpe;obtain⟨A2,c2,B2,d2,rfl,-⟩:=hpe;unfold d7 at hpe0 ⊢;refine sI ?_;intros;refine rW ?_;exact⟨_,rfl,hpe0⟩
theorem F36:Fun Tryz.prog 36 11 v36 c36 o36:=Fun.mkA Tryz.func36 Tryz.ntmps36
theorem F88:Fun Tryz.prog 88 46 v88 c88 o88:=Fun.mkA Tryz.func88 Tryz.ntmps88
theorem vw{r:Rp}{A:Ka}{c:Nat}{B:Ka}{d k:Nat}{zs:J6}(hld:∀ o u,(fF r A c B d)[o]?=some u→zs[k * 7+o]?=some u):∀ j u,(es r.log A c)[j]?=some u→zs[k * 7+2+j]?=some u:=fun j u hj=>by
 rw[Nat.add_assoc];refine hld (2+j) u ?_
 match j,hj with
 | 0,h=>exact h
 | 1,h=>exact h
 | 2,h=>exact h
 | j+3,h=>cases h
theorem hU{l:List Rp}{k:Nat}{r y:Rp}(h:l[k]?=some r):(l.set k y)[k]?=some y:=List.getElem?_set_self (List.getElem?_eq_some_iff.1 h).1
theorem x6{p:Pt}{k:Nat}{y:Rp}{x:Nat}{G:J5}{A:Ka}{c:Nat}{B:Ka}{d:Nat}{ys zs:J6}(hy:Cells IE 1 p.isr ys)(hz:Cells (RE G) 7 (p.reps.set k y) zs)(hi:qZ p):
  Am (fV p k y,0) x (· = []) G (PtL p x A c B d ys zs) (.int .i64 0):=by
 have:=wF (p:=fV p k y) (x:=x) (G:=G) (A:=A) (c:=c) (B:=B) (d:=d) hy hz hi
 rwa [mU]at this
theorem Ak(p:Pt)(k:Nat)(r:Rp)(G:J5)(hok:okP p)(hsm:smP p)(hI:qZ p)(hr:p.reps[k]?=some r):nN G 88 #[] p k (jo p k r):=by
 intro G1 x A c ga d ys zs hg hy hz;rw[show(#[.pointer (some ⟨x,0,none⟩),.pointer (some ⟨ga,k * 7,none⟩)]++#[]:Array Value)=#[.pointer (some ⟨x,0,none⟩),.pointer (some ⟨ga,k * 7,none⟩)]from rfl];have hsr:=hsm.1 r (mem_of_getElem? hr);have hkl:=(List.getElem?_eq_some_iff.1 hr).1;have hzl:=hz.len;refine F88.fnO (by simp) em (dI ?_);unfold c88;intros;refine gR 0 0 c88r0.eq_1 ?_
 intros;try refine dx ?_
 obtain⟨cs,hre,hcl,hld⟩:=hz.get hr;obtain⟨A1,c1,B1,d1,rfl,-⟩:=hre;intros;try refine dx ?_
 intros;refine gR 6 9 c88r1.eq_1 ?_;refine⟨_,eV (.tail _ (.head _)) (hld 1 _ rfl),?_⟩;refine sI ?_;intros;refine gC ?_;refine gb (fun k1=>?_) (fun k1=>?_)
 ·intros;refine gR 0 0 c88r2.eq_1 ?_;intros;refine dG (dL [] rfl Km dw ?_);rw[jo,if_pos k1];exact oP x _ (by decide)
 have hq:jo p k r=(fV p k (pb r),0):=by rw[jo,if_neg (by rw[k1];simp)]
 rw[hq];clear hq;have hz1:Cells (RE G1) 7 (p.reps.set k { r with up:=true }) (splice zs (k * 7+1) [.bool true]):=Cells.setF hz hr (by simp) fun cs h hl=>by
  obtain⟨A5,c5,B5,d5,rfl,q⟩:=h;exact⟨A5,c5,B5,d5,rfl,q⟩
 have hr1:=hU (y:={ r with up:=true }) hr;intros;refine gN ?_;intros;refine gR 10 13 c88r3.eq_1 ?_;refine fQ [_] _ rfl (by simp;omega) ⟨rfl,rfl⟩ ?_;have hzl1:=hz1.len;rw[List.length_set]at hzl1;clear hld hcl hz;generalize splice zs (k * 7+1) [.bool true]=zs1 at *;obtain⟨cs,hre,hcl,hld⟩:=hz1.get hr1;have hre0:=hre;obtain⟨A1,c1,B1,d1,rfl,q1,q2,q3,q4⟩:=hre
 have hrec:=nU r.log _ G1 ⟨A1,c1,rfl,q1,q3⟩ hsr.1 hsr.2.1;have hldl:=vw hld;unfold es at hrec hldl;refine sI ?_;intros;try refine dx ?_
 intros;refine gR 13 24 c88r4.eq_1 ?_;refine⟨_,gT (.tail _ (.head _)) rfl hldl,?_⟩;refine sI ?_;refine(hrec _ _).mono ?_;rintro v h' ⟨G2,rfl,hg2,cs2,rfl,hle⟩;have hle0:=hle;obtain⟨A2,c2,rfl,hsl2,hlim2⟩:=hle;unfold es;refine sI ?_;refine fQ [_] _ rfl (by simp;omega) ⟨rfl,rfl⟩ ?_
 have hz2:Cells (RE G2) 7 (p.reps.set k { r with up:=true,log:=(ib r.log).1 }) (splice zs1 (k * 7+2) (es (ib r.log).1 A2 c2)):=by
  have:=Cells.setF (E:=RE G2) (o:=2) (us:=es (ib r.log).1 A2 c2) (x':={ r with up:=true,log:=(ib r.log).1 }) (eN hz1 fun _ _ h=>RE.le hg2 h) hr1 (by simp[es]) fun cs h hl=>by
   obtain⟨A5,c5,B5,d5,rfl,q1,q2,q3,q4⟩:=h;exact⟨A2,c2,B5,d5,rfl,hsl2,q2,hlim2,q4⟩
  rwa [List.set_set]at this
 unfold es at hz2;have hr2:=hU (y:={ r with up:=true,log:=(ib r.log).1 }) hr;have hzl2:=hz2.len;rw[List.length_set]at hzl2;clear hld hldl hcl hz1;generalize splice zs1 (k * 7+2) [.int .i64 (ib r.log).1.limit,.int .i64 (ib r.log).1.start,.slice A2 (ib r.log).1.segs.length c2]=zs2 at *;obtain⟨cs,hre,hcl,hld⟩:=hz2.get hr2;have hre1:=hre;obtain⟨A1,c1,B1,d1,rfl,q1,q2,q3,q4⟩:=hre
 have hsm2:=Ba hsr.1 hsr.2.1;have hend:=jl _ _ G2 hre1 hsm2.1 (by have:=hsm2.2;show(ib r.log).1.segs.length≤_;omega);unfold fF at hend;refine sI ?_;intros;try refine dx ?_
 intros;refine gR 24 28 c88r5.eq_1 ?_;refine⟨_,gT (.tail _ (.head _)) hcl hld,?_⟩;unfold fF;refine sI ?_;refine fK (hend _ _) ?_;have hei:=iI (ib r.log).1;have hbr:pb r=⟨r.id,true,(ib r.log).1,kV r.eps (ec (ib r.log).1),min r.high (ec (ib r.log).1)⟩:=rfl;rw[hbr];have hcut:=CT r.eps (ec (ib r.log).1) _ G2 q2 (by have:=hsr.2.2;omega);generalize ec (ib r.log).1=en at *;intros;try refine dx ?_
 intros;refine dy ?_;refine qY _ Kl (by decide) ?_;refine sJ c88r6.eq_1 ?_;refine⟨_,eV (.tail _ (.head _)) (hld 5 _ rfl),?_⟩;refine sI ?_;refine⟨_,eV (.tail _ (.head _)) (hld 6 _ rfl),?_⟩;refine sI ?_;refine(jd (E:=EpE) (et:=151) (sz:=2) hcut _ _).mono ?_;rintro r' h' ⟨G3,L',rfl,hg3,A3,c3,ye,rfl,-,hye,rfl⟩;refine⟨dO hg3 (.cons _ Kl),?_⟩;refine sI ?_
 refine fQ [_,_] _ rfl (by simp;omega) ⟨rfl,rfl⟩ ?_;refine sI ?_;refine fX ?_;refine sI ?_;refine fQ [_,_] _ rfl (by simp[splice];omega) ⟨rfl,rfl⟩ ?_;refine sI ?_;intros;try refine dx ?_
 refine ei (dT [] _ (by decide) hye) ?_;rintro h' ⟨G4,rfl,hg4,hv4⟩;have hz3:Cells (RE G4) 7 (p.reps.set k { r with up:=true,log:=(ib r.log).1,eps:=kV r.eps en }) (splice zs2 (k * 7+5) [.slice A3 (kV r.eps en).length c3]):=by
  have:=Cells.setF (E:=RE G4) (o:=5) (us:=[.slice A3 (kV r.eps en).length c3]) (x':={ r with up:=true,log:=(ib r.log).1,eps:=kV r.eps en }) (eN hz2 fun _ _ h=>RE.le (hg3.trans hg4) h) hr2 (by simp) fun cs h hl=>by
   obtain⟨A5,c5,B5,d5,rfl,q1,q2,q3,q4⟩:=h;exact⟨A5,c5,A3,c3,rfl,q1,hv4,q3,q4⟩
  rwa [List.set_set]at this
 have hr3:=hU (y:={ r with up:=true,log:=(ib r.log).1,eps:=kV r.eps en }) hr;have hz4:Cells (RE G4) 7 (p.reps.set k { r with up:=true,log:=(ib r.log).1,eps:=kV r.eps en,high:=min r.high en }) (splice (splice zs2 (k * 7+5) [.slice A3 (kV r.eps en).length c3]) (k * 7+6) [.int .i64 (min r.high en)]):=by
  have:=Cells.setF (E:=RE G4) (o:=6) (us:=[.int .i64 (min r.high en)]) (x':={ r with up:=true,log:=(ib r.log).1,eps:=kV r.eps en,high:=min r.high en }) hz3 hr3 (by simp) fun cs h hl=>by
   obtain⟨A5,c5,B5,d5,rfl,q1,q2,q3,q4,q5⟩:=h;have q5:I64 r.high:=q5;exact⟨A5,c5,B5,d5,rfl,q1,q2,q3,q4,by unfold I64 at q5 ⊢;show _≤min r.high en∧min r.high en≤_;omega⟩
  rwa [List.set_set]at this
 intros;refine gR 0 0 c88r7.eq_1 ?_;intros;exact dG (dL _ rfl Kl em (x6 hy hz4 hI))
theorem se(p:Pt)(cs:J6)(n:Int)(G:J5)(hp:PE G p cs)(hsm:smP p)(hn:I64 n):FnD Tryz.prog 36 #[.agg cs.toArray,.int .i64 n] G (PtR (ofP p n jo)):=by
 have hp0:=hp;obtain⟨A,c,B,d,rfl,-,-,hI⟩:=hp;refine F36.fnD (by simp) (dI ?_);unfold c36;unfold d7 at hp0 ⊢;intros;refine gR 0 0 c36r0.eq_1 ?_;have hof:=vP p _ n 88 #[] (jo p) G hp0 hsm hn fun hok k r _ hr=>Ak p k r G hok hsm hI hr
 rw[← iV]at hof;intros;refine gR 6 11 c36r1.eq_1 ?_;refine(hof _ _).mono ?_;rintro r h' ⟨G2,rfl,hg2,cs2,rfl,hpe⟩;have hpe0:=hpe;obtain⟨A2,c2,B2,d2,rfl,-⟩:=hpe;unfold d7 at hpe0 ⊢;refine sI ?_;intros;refine rW ?_;exact⟨_,rfl,hpe0⟩
theorem F35:Fun Tryz.prog 35 14 v35 c35 o35:=Fun.mkA Tryz.func35 Tryz.ntmps35
theorem F85:Fun Tryz.prog 85 81 v85 c85 o85:=Fun.mkA Tryz.func85 Tryz.ntmps85
theorem hZ{l:List Rp}{k:Nat}{r y:Rp}(hr:l[k]?=some r)(h:y.id=r.id):fE (l.set k y)=fE l:=by
 unfold fE;rw[List.map_set,h];refine List.ext_getElem? fun i=>?_
 rw[List.getElem?_set];split
 ·rename_i he;subst he;rw[List.getElem?_map,hr];have:=(List.getElem?_eq_some_iff.1 hr).1;simp[this]
 ·rfl
theorem nk{l:List Rp}{k:Nat}{r y:Rp}(hr:l[k]?=some r)(h:y.id=r.id)(ho:rR l):rR (l.set k y):=by
 refine⟨by rw[hZ hr h];exact ho.1,fun z hz=>?_⟩;rcases List.mem_or_eq_of_mem_set hz with hz | rfl
 ·exact ho.2 z hz
 ·rw[h];exact ho.2 r (mem_of_getElem? hr)
theorem x7{l:List Rp}{k:Nat}{y:Rp}(h:∀ r∈l,smR r)(hy:smR y):∀ r∈l.set k y,smR r:=fun z hz=>by
 rcases List.mem_or_eq_of_mem_set hz with hz | rfl
 ·exact h z hz
 ·exact hy
theorem BG(s:Sg)(n:Int):(mw s n).bytes.length≤s.bytes.length:=by simp[mw]
theorem z8{l:Lg}{n:Int}(h:smL l.segs):smL (kM l n).segs:=fun s hs=>by
 rcases List.mem_or_eq_of_mem_set hs with hs | rfl
 ·exact h s hs
 ·have h1:=BG (uR l (l.segs.length - 1)) n;by_cases h2:l.segs=[]
  ·rw[uR,h2]at h1 ⊢;simp[jQ]at h1 ⊢;simp[mw,jQ]
  ·obtain⟨s,e1,-⟩:=gQ h2;have h3:uR l (l.segs.length - 1)=s:=by rw[uR,List.getD_eq_getElem?_getD,e1];rfl
   rw[h3]at h1 ⊢;have:=h s (mem_of_getElem? e1);omega
def iR(r:Rp)(n:Int):Rp:={ r with up:=false,log:=kM r.log n }
def eI(p:Pt)(n:Int):Pt:={ p with leader:=if p.leader=n then -1 else p.leader }
def fk(p:Pt)(n:Int):Pt:=if 1 < p.isr.length then tu p n else p
theorem pO(p:Pt)(n t:Int)(k:Nat)(r:Rp)(h1:¬ t < 0)(h2:r.up=true):gI n t p k r=(dY (fV (fk (eI p n) n) k (iR r t)),0):=by
 rw[gI,if_neg h1,if_neg (by rw[h2];simp)];unfold fk eI;dsimp only;by_cases h3:1 < p.isr.length
 ·rw[if_pos h3,if_pos h3];rfl
 ·rw[if_neg h3,if_neg h3];rfl
theorem yg(p:Pt)(n t:Int)(b5 b4 k:Nat)(r:Rp)(G:J5)(hok:okP p)(hsm:smP p)(hI:qZ p)(hn:I64 n)(ht:I64 t)(h5:eZ G ⟨b5,0,none⟩=some (.int .i64 t))(h4:eZ G ⟨b4,0,none⟩=some (.int .i64 n))(hr:p.reps[k]?=some r):
  nN G 85 #[.pointer (some ⟨b5,0,none⟩),.pointer (some ⟨b4,0,none⟩)] p k (gI n t p k r):=by
 intro G1 x A c ga d ys zs hg hy hz;have h5:=dN hg h5;have h4:=dN hg h4;rw[show(#[.pointer (some ⟨x,0,none⟩),.pointer (some ⟨ga,k * 7,none⟩)]++#[.pointer (some ⟨b5,0,none⟩),.pointer (some ⟨b4,0,none⟩)]:Array Value)=#[.pointer (some ⟨x,0,none⟩),.pointer (some ⟨ga,k * 7,none⟩),.pointer (some ⟨b5,0,none⟩),.pointer (some ⟨b4,0,none⟩)]from rfl];have hsr:=hsm.1 r (mem_of_getElem? hr)
 have hor:=hok.1.2.2.2.2 r (mem_of_getElem? hr);have hkl:=(List.getElem?_eq_some_iff.1 hr).1;have hzl:=hz.len;obtain⟨cs,hre,hcl,hld⟩:=hz.get hr;obtain⟨A1,c1,B1,d1,rfl,q1,q2,q3,q4⟩:=hre;refine F85.fnO (by simp) em (dI ?_);unfold c85;intros;refine gR 0 0 c85r0.eq_1 ?_;intros;refine dy ?_;intros;refine gR 10 12 c85r1.eq_1 ?_;refine⟨_,⟨_,rfl,.g h5⟩,?_⟩;refine sI ?_;intros;refine gC ?_
 refine gbD (fun k1=>?_) (fun k1=>?_)
 ·intros;refine gR 0 0 c85r2.eq_1 ?_;intros;refine dG (dL [] rfl Km dw ?_);rw[gI,if_pos k1];exact oP x _ (by decide)
 intros;try refine dx ?_
 intros;refine gR 13 18 c85r3.eq_1 ?_;refine⟨_,eV (.tail _ (.head _)) (hld 1 _ rfl),?_⟩;refine sI ?_;intros;refine gC ?_;refine gb (fun k2=>?_) (fun k2=>?_)
 ·have k2:r.up=false:=by simpa using k2
  intros;refine gR 0 0 c85r4.eq_1 ?_;intros;refine dG (dL [] rfl Km dw ?_);rw[gI,if_neg k1,if_pos k2];exact oP x _ (by decide)
 have k2:r.up=true:=by simpa using k2
 rw[pO p n t k r k1 k2];have hlr:pr r=r.log:=by rw[pr,if_pos k2]
 have hck:fq r.log=0:=by rw[← hlr];exact hor.2.1
 have hne:=(fB hck).2.1;have hn0:0 < r.log.segs.length:=List.length_pos_iff.2 hne;obtain⟨s,e1,e2,e3⟩:=gQ hne;have hcl:=m1 r.log.segs _ G1 q1 (by have:=hsr.2.1;omega);intros;refine gN ?_;intros;try refine dx ?_
 intros;refine gR 18 24 c85r5.eq_1 ?_;refine⟨_,eV (.tail _ (.head _)) (hld 4 _ rfl),?_⟩;refine sI ?_;refine(jd hcl _ _).mono ?_;rintro v h' ⟨G2,L',rfl,hg2,A2,c2,ss,rfl,-,hss,rfl⟩;refine sI ?_;intros;try refine dx ?_
 refine ei (kI (.head _) hn0) ?_;rintro h' ⟨rfl,g2,c9,he,-,-⟩;cases he;have hw1:IntKind.i64.wrap ((r.log.segs.length:Int) - 1)=((r.log.segs.length - 1:Nat):Int):=by have:=hsr.2.1;rw[dX] <;> omega
 intros;refine gR2 24 29 c85r6.eq_1 @hw1 ?_;refine⟨by omega,_,rfl,?_⟩;refine sJ @Nat.zero_add ?_;obtain⟨cs,hse,hcl2,hld2⟩:=hss.get e1;obtain⟨B3,d3,rfl,hsb,hsi⟩:=hse;unfold ip at hld2;have hsbl:=hsr.1 s (mem_of_getElem? e1);have hmn:(min t (s.bytes.length:Int)).toNat≤s.bytes.length:=by omega
 have hwm:IntKind.i64.wrap ((s.bytes.length:Int) - min t (s.bytes.length:Int))=((s.bytes.length - (min t (s.bytes.length:Int)).toNat:Nat):Int):=by rw[dX] <;> omega
 have hdm:s.bytes.length≤d3:=by
  obtain⟨_,_,he,h1,h2,_⟩:=hsb;cases he;exact h1
 generalize hmm:s.bytes.length - (min t (s.bytes.length:Int)).toNat=m at *;intros;try refine dx ?_
 intros;refine dy ?_;refine Gr (by decide) ?_;refine sJ c85r7.eq_1 ?_;refine⟨_,eV (.head _) (hld2 1 _ rfl),?_⟩;refine sI ?_;refine⟨_,eV (.head _) (hld2 1 _ rfl),?_⟩;refine sI ?_;refine⟨_,⟨_,rfl,.g (dN hg2 h5)⟩,?_⟩;refine sI ?_;refine⟨_,eV (.head _) (hld2 1 _ rfl),?_⟩;refine sJ @hwm ?_;refine⟨by omega,?_⟩;refine sJ c85r8.eq_1 ?_;refine fQ [] _ rfl (by simp;have:=hss.len;omega) ⟨rfl,rfl⟩ ?_
 refine sI ?_;have hns:uR r.log (r.log.segs.length - 1)=s:=by rw[uR,List.getD_eq_getElem?_getD,e1];rfl
 have htn:mw s t=⟨s.base,s.bytes.take m⟩:=by rw[← hmm];rfl
 have hlen:(iR r t).log.segs.length=r.log.segs.length:=List.length_set ..;have hss2:Cells (SE G2) 2 (iR r t).log.segs (splice ss ((r.log.segs.length - 1) * 2+1) [.slice B3 m d3]):=by
  have:=Cells.setF (E:=SE G2) (o:=1) (us:=[.slice B3 m d3]) (x':=mw s t) (eN hss fun _ _ h=>SE.le hg2 h) e1 (by simp) fun cs h hl=>by
   obtain⟨B5,d5,rfl,h1,h2⟩:=h;have hbl:(s.bytes.take m).length=m:=by rw[List.length_take];omega
   rw[htn];refine⟨B3,d3,?_,?_,h2⟩
   ·show[Value.int .i64 s.base,.slice B3 m d3]=[.int .i64 s.base,.slice B3 (s.bytes.take m).length d3];rw[hbl]
   ·show SB G2 (.slice B3 (s.bytes.take m).length d3) (s.bytes.take m);rw[hbl];exact SlV.pre m (SB.le hsb hg2) (by omega)
  show Cells (SE G2) 2 (r.log.segs.set (r.log.segs.length - 1) (mw (uR r.log (r.log.segs.length - 1)) t)) _;rw[hns];exact this
 intros;try refine dx ?_
 refine ei (dT [] _ (by decide) hss2) ?_;rintro h' ⟨G3,rfl,hg3,hv3⟩;have hv3:SlV G3 (SE G3) 2 (.slice (some ⟨g2,0,none⟩) (iR r t).log.segs.length c2) (iR r t).log.segs:=by rw[hlen];exact hv3.le (.refl _) fun _ _ h=>SE.le hg3 h
 have hg13:=hg2.trans hg3;have hz3:Cells (RE G3) 7 (p.reps.set k (iR r t)) (splice (splice zs (k * 7+1) [.bool false]) (k * 7+4) [.slice (some ⟨g2,0,none⟩) r.log.segs.length c2]):=by
  have h1:=Cells.setF (E:=RE G3) (o:=1) (us:=[.bool false]) (x':={ r with up:=false }) (eN hz fun _ _ h=>RE.le hg13 h) hr (by simp) fun cs h hl=>by
   obtain⟨A5,c5,B5,d5,rfl,q⟩:=h;exact⟨A5,c5,B5,d5,rfl,q⟩
  have h2:=Cells.setF (E:=RE G3) (o:=4) (us:=[.slice (some ⟨g2,0,none⟩) r.log.segs.length c2]) (x':=iR r t) h1 (hU hr) (by simp) fun cs h hl=>by
   obtain⟨A5,c5,B5,d5,rfl,q1,q2,q3,q4⟩:=h;refine⟨some ⟨g2,0,none⟩,c2,B5,d5,?_,hv3,q2,q3,q4⟩;rw[← hlen];rfl
  rwa [List.set_set]at h2
 intros;refine gR 50 58 c85r9.eq_1 ?_;refine fQ [_] _ rfl (by simp;omega) ⟨rfl,rfl⟩ ?_;refine sI ?_;refine fQ [_] _ rfl (by simp[splice];omega) ⟨rfl,rfl⟩ ?_;refine sI ?_;generalize splice (splice zs (k * 7+1) [.bool false]) (k * 7+4) [.slice (some ⟨g2,0,none⟩) r.log.segs.length c2]=zs3 at *;intros;try refine dx ?_
 refine ez (fun e h=>e 0=.pointer (some ⟨x,0,none⟩)∧e 3=.pointer (some ⟨b4,0,none⟩)∧h=⟨G3,PtL (eI p n) x A c (some ⟨ga,0,none⟩) d ys zs3,[]⟩) ?_ ?_
 ·intros;try refine dx ?_
  intros;refine dy ?_;refine uS 58 64 (by decide) ?_;refine sJ c85r10.eq_1 ?_;refine⟨_,dH (cs:=d7 p A c (some ⟨ga,0,none⟩) d) (.head _) rfl,?_⟩;refine sI ?_;refine⟨_,⟨_,rfl,.g (dN hg13 h4)⟩,?_⟩;refine sI ?_;intros;refine gC ?_;refine gbD (fun k3=>?_) (fun k3=>?_)
  ·intros;refine gR 65 69 c85r11.eq_1 ?_;refine dM [] _ rfl (by simp[d7]) ⟨rfl,rfl⟩ ?_;refine sI ?_;intros;refine gN ?_;refine ej ⟨eE,eE,?_⟩;unfold eI;rw[if_pos k3];rfl
  ·intros;refine gN ?_;refine ej ⟨eE,eE,?_⟩;unfold eI;rw[if_neg k3];rfl
 rintro e h ⟨e0,e3,rfl⟩;refine dC [0,3] ?_;refine sJ2 @e0 @e3 ?_;intros;try refine dx ?_
 refine ez (fun e h=>∃ (G4:J5) (A':Ka) (c':Nat) (ys':J6),(Gle G3 G4∧Cells IE 1 (fk (eI p n) n).isr ys')∧e 0=.pointer (some ⟨x,0,none⟩)∧h=⟨G4,PtL (fk (eI p n) n) x A' c' (some ⟨ga,0,none⟩) d ys' zs3,[]⟩) ?_ ?_
 ·intros;try refine dx ?_
  intros;refine gR 69 75 c85r12.eq_1 ?_;refine⟨_,dH (cs:=d7 (eI p n) A c (some ⟨ga,0,none⟩) d) (.head _) rfl,?_⟩;refine sI ?_;intros;refine gC ?_;refine gb (fun k3=>?_) (fun k3=>?_)
  ·have k3:1 < (eI p n).isr.length:=by have:=Kn k3;omega
   have hci:fk (eI p n) n=tu (eI p n) n:=if_pos k3;rw[hci];have hout:=AI (eI p n) n x A c (some ⟨ga,0,none⟩) d ys zs3 G3 hy;intros;refine gR 76 79 c85r13.eq_1 ?_;refine⟨_,⟨_,rfl,.g (dN hg13 h4)⟩,?_⟩;refine sI ?_;rw[← append_nil (PtL (eI p n) x A c (some ⟨ga,0,none⟩) d ys zs3)];refine(hout _ _).mono ?_;rintro r' h' ⟨G4,L',rfl,hg4,rfl,A',c',ys',rfl,hy4⟩;rw[append_nil];refine sI ?_
   intros;refine gN ?_;exact ej ⟨G4,A',c',ys',⟨hg4,hy4⟩,eE,rfl⟩
  ·have k3:¬ 1 < (eI p n).isr.length:=by have:=Ko k3;omega
   have hci:fk (eI p n) n=eI p n:=if_neg k3;rw[hci];intros;refine gN ?_;exact ej ⟨G3,A,c,ys,⟨.refl _,hy⟩,eE,rfl⟩
 rintro e h ⟨G4,A',c',ys',⟨hg4,hy4⟩,e0,rfl⟩;refine dC [0] ?_;refine sJ @e0 ?_;have hcr:(fk (eI p n) n).reps=p.reps:=by unfold fk;split <;> rfl
 have hcI:qZ (fk (eI p n) n):=by
  have h1:I64 (eI p n).leader:=by
   unfold eI;dsimp only;split
   ·unfold I64;decide
   ·exact hI.2.1
  unfold fk;split <;> exact⟨hI.1,h1,hI.2.2⟩
 have hcin:∀ m∈(fk (eI p n) n).isr,m∈fE p.reps:=by
  unfold fk;split
  ·exact sS (p:=eI p n) n hok.2.1.2
  ·exact hok.2.1.2
 generalize fk (eI p n) n=p3 at *;have hset:=mU p3 k (iR r t) x A' c' (some ⟨ga,0,none⟩) d ys' zs3;have hps:(fV p3 k (iR r t)).reps=p.reps.set k (iR r t):=by show p3.reps.set _ _=_;rw[hcr]
 have hraise:=lj (fV p3 k (iR r t)) x A' c' (some ⟨ga,0,none⟩) d ys' zs3 G4 hy4 (by rw[hps];exact eN hz3 fun _ _ h=>RE.le hg4 h) (by rw[hps];exact nk hr rfl (gG hok))
  (fun m hm=>by rw[hps,hZ (y:=iR r t) hr rfl];exact hcin m hm) (by rw[hps];exact qH <| x7 hsm.1 ⟨z8 hsr.1,by rw[hlen];exact hsr.2.1,hsr.2.2⟩) hcI
 rw[hset]at hraise;intros;try refine dx ?_
 intros;refine gR 79 81 c85r14.eq_1 ?_;rw[← append_nil (PtL p3 x A' c' (some ⟨ga,0,none⟩) d ys' zs3)];refine(hraise _ _).mono ?_;rintro r' h' ⟨G5,L',rfl,hg5,rfl,zs',rfl,hz'⟩;rw[append_nil];refine sI ?_;intros;try refine dx ?_
 intros;refine gR 0 0 c85r15.eq_1 ?_;intros;refine dG (dL _ rfl Kl em (wF ?_ hz' (ls (p:=fV p3 k (iR r t)) hcI)));rw[(eb (fV p3 k (iR r t))).2.2.2.1];exact hy4
theorem sx(p:Pt)(cs:J6)(n t:Int)(G:J5)(hp:PE G p cs)(hsm:smP p)(hn:I64 n)(ht:I64 t):FnD Tryz.prog 35 #[.agg cs.toArray,.int .i64 n,.int .i64 t] G (PtR (ofP p n (gI n t))):=by
 have hp0:=hp;obtain⟨A,c,B,d,rfl,-,-,hI⟩:=hp;refine F35.fnD (by simp) (dI ?_);unfold c35;unfold d7 at hp0 ⊢;intros;refine gR 0 0 c35r0.eq_1 ?_;intro b4 hb4 b5 hb5;refine sI ?_;intros;refine ei (eg [_] _) ?_;rintro h' ⟨G1,rfl,hg1,f5⟩;refine ei (eg [_] _) ?_;rintro h' ⟨G2,rfl,hg2,f4⟩;have f5:=dN hg2 (f5 0 _ rfl);have f4:=f4 0 _ rfl;rw[eA]at f4 f5
 have hof:=vP p _ n 85 #[.pointer (some ⟨b5,0,none⟩),.pointer (some ⟨b4,0,none⟩)] (gI n t p) G2 (hp0.le (hg1.trans hg2)) hsm hn fun hok k r _ hr=>yg p n t b5 b4 k r G2 hok hsm hI hn ht f5 f4 hr
 rw[← iV]at hof;intros;refine gR 8 14 c35r1.eq_1 ?_;refine⟨_,⟨_,rfl,.g f4⟩,?_⟩;refine sI ?_;refine(hof _ _).mono ?_;rintro r h' ⟨G2,rfl,hg2,cs2,rfl,hpe⟩;have hpe0:=hpe;obtain⟨A2,c2,B2,d2,rfl,-⟩:=hpe;unfold d7 at hpe0 ⊢;refine sI ?_;intros;refine rW ?_;exact⟨_,rfl,hpe0⟩
theorem F25:Fun Tryz.prog 25 19 v25 c25 o25:=Fun.mkA Tryz.func25 Tryz.ntmps25
theorem F66:Fun Tryz.prog 66 90 v66 c66 o66:=Fun.mkA Tryz.func66 Tryz.ntmps66
theorem Fs(x:Batch)(base:Int)(cs:J6)(G:J5)(hx:BE G x cs)(hbi:I64 base):FnD Tryz.prog 67 #[.agg cs.toArray,.int .i64 base] G (fun G' r=>∃ cs',r=.tuple #[.agg cs'.toArray,.int .i64 (fg x base).2]∧BE G' (fg x base).1 cs') :=
 FnO.fnD (L1:=[]) (yM x base cs G hx hbi) fun G' L' v ⟨cs',h1,h2⟩ _ L D=>(o8.gx h2).mono fun h' ⟨G2,e,hg,hb⟩=>⟨G2,e,hg,cs',h1,hb⟩
theorem sC(l:List Ep)(n s:Int):(iq l n s).1.length≤l.length+1:=by
 unfold iq;split
 ·simp
 ·split
  ·simp
  ·repeat' split
   all_goals simp
theorem Hu(l:List Ep)(n s:Int)(v:Value)(G:J5)(hl:SEp G v l)(hb:l.length≤1000000)(in1:I64 n)(is1:I64 s):
  FnO Tryz.prog 70 #[v,.int .i64 n,.int .i64 s] G [] (fun _ L' r=>∃ A c ys,r=.tuple #[.slice A (iq l n s).1.length c,.int .i64 (iq l n s).2]∧Cells EpE 2 (iq l n s).1 ys∧L'=[.row (.slice A (iq l n s).1.length c) 151 2 (iq l n s).1.length ys]):=fun L D =>
 (Dr l n s v G hl hb in1 is1 L D).gx fun v h' ⟨G',L',he,hg,u,hr,ys,hc,hL⟩=>by
  subst he hL;exact(gU (.head _)).mono fun h' ⟨h1,A,c,h2,h3,h4⟩=>⟨G',_,h1,hg,A,c,ys,by rw[hr,h2],hc,by rw[h2]⟩
def BB(q:(Pt × Int) × Int)(bb:Nat)(C:J8):Prop:=∃ v,C=[.blk bb [.int .i64 v]]∧(q.1.2=0→v=q.2)
theorem rn(p:Pt)(b:Batch)(cb:J6)(b3 bb:Nat)(G:J5)(hok:okP p)(hsm:smP p)(hI:qZ p)(hb:BE G b cb)(h3:∀ j u,cb[j]?=some u→eZ G ⟨b3,j,none⟩=some u):
  DU G 66 #[.pointer (some ⟨b3,0,none⟩),.pointer (some ⟨bb,0,none⟩)] p (j6 b p).1 [.blk bb [.int .i64 0]] (BB (j6 b p) bb):=by
 intro G1 x A c B d ys zs hg hy hz;have hb:=BE.le hg hb;have h3:∀ j u,cb[j]?=some u→eZ G1 ⟨b3,j,none⟩=some u:=fun j u h=>dN hg (h3 j u h)
 rw[show(#[.pointer (some ⟨x,0,none⟩)]++#[.pointer (some ⟨b3,0,none⟩),.pointer (some ⟨bb,0,none⟩)]:Array Value)=#[.pointer (some ⟨x,0,none⟩),.pointer (some ⟨b3,0,none⟩),.pointer (some ⟨bb,0,none⟩)]from rfl];have hn0:dR (PtL p x A c B d ys zs++[.blk bb [.int .i64 0]]):=dF (dz (dz (dF dw)))
 have herr:∀ (e v:Int) (q:Pt) (G':J5),e≠0→∀ w,j6 b p=((q,e),w)→Am (j6 b p).1 x (BB (j6 b p) bb) G' [.blk bb [.int .i64 v]] (.int .i64 e):=fun e v q G' he w hq=>by
  rw[hq];exact⟨rfl,[],_,rfl,⟨v,rfl,fun h=>absurd h he⟩,fun _=>rfl,fun h=>absurd h he⟩
 refine F66.fnO (by simp) hn0 (dI ?_);unfold c66;intros;refine gR 0 0 c66r0.eq_1 ?_;intros;try refine dx ?_
 intros;try refine dx ?_
 intros;refine gR 8 13 c66r1.eq_1 ?_;refine⟨_,dH (cs:=d7 p A c B d) (.head _) rfl,?_⟩;refine sI ?_;intros;refine gC ?_;refine gbD (fun k1=>?_) (fun k1=>?_)
 ·intros;refine gR 0 0 c66r2.eq_1 ?_;intros;refine dG (dL [.blk bb [.int .i64 0]] rfl (by simp[PtL]) (dF dw) (herr 180 0 p _ (by decide) 0 ?_));rw[j6,if_pos k1]
 intros;refine gN ?_;intros;try refine dx ?_
 intros;try refine dx ?_
 intros;refine dy ?_;refine uS 14 25 (by decide) ?_;refine sJ c66r3.eq_1 ?_;refine⟨_,dH (cs:=d7 p A c B d) (.head _) rfl,?_⟩;refine sI ?_;refine⟨_,dH (cs:=d7 p A c B d) (.head _) rfl,?_⟩;refine sI ?_;intros;refine gC ?_;refine gbD (fun k2=>?_) (fun k2=>?_)
 ·intros;refine gR 0 0 c66r4.eq_1 ?_;intros;refine dG (dL [.blk bb [.int .i64 0]] rfl (by simp[PtL]) (dF dw) (herr 181 0 p _ (by decide) 0 ?_));rw[j6,if_neg k1,if_pos k2]
 -- the leader is there
 obtain⟨r0,hr0,hl0,hu0⟩:∃ r∈p.reps,r.id=p.leader∧r.up=true:=by
  rcases hok.2.2 with h | ⟨⟨r,hr,h⟩,-⟩
  ·omega
  ·exact⟨r,hr,h⟩
 obtain⟨k,r,hk,hr,hrl⟩:=qK (l:=p.reps) (n:=p.leader) (List.mem_map.2 ⟨r0,hr0,hl0⟩);have hkl:=(List.getElem?_eq_some_iff.1 hr).1;intros;refine gN ?_;refine ei (kI (.tail _ (.head _)) (by omega)) ?_;rintro h' ⟨rfl,ga,c9,he,-,-⟩;cases he;have hpt:uO (some ⟨ga,0,none⟩) (some k)=some ⟨ga,k * 7,none⟩:=congrArg some (gL _ _);intros;try refine dx ?_
 intros;refine gR 26 33 c66r5.eq_1 ?_;refine⟨_,dH (cs:=d7 p A c (some ⟨ga,0,none⟩) d) (.head _) rfl,?_⟩;refine sI ?_;refine(sH p x A c (some ⟨ga,0,none⟩) d ys zs p.leader _ [.blk bb [.int .i64 0]] (List.Perm.refl _) hy hz hI.2.1 (gG hok)).mono ?_;rintro _ _ ⟨rfl,rfl⟩;rw[hk,hpt];refine sI ?_;obtain⟨B2,d2,rfl,-⟩:=id hb;obtain⟨cs,hre,hcl,hld⟩:=hz.get hr;have hre0:=hre
 have hsr:=hsm.1 r (mem_of_getElem? hr);have hend:=jl r cs G1 hre hsr.1 (by have:=hsr.2.1;omega);have hei:=iI r.log;have hmov:=Fs b (ec r.log) _ G1 hb (by unfold I64;omega);have happ:j6 b p=if (fg b (ec r.log)).2≠0 then((p,(fg b (ec r.log)).2),0)else
   (if (gJ r.log { (fg b (ec r.log)).1 with epoch:=p.epoch }).2≠0 then((p,(gJ r.log { (fg b (ec r.log)).1 with epoch:=p.epoch }).2),(fg b (ec r.log)).1.base)else
    if (iq r.eps p.epoch (fg b (ec r.log)).1.base).2≠0 then((p,(iq r.eps p.epoch (fg b (ec r.log)).1.base).2),(fg b (ec r.log)).1.base)else
     ((dY (fV p k { r with log:=(gJ r.log { (fg b (ec r.log)).1 with epoch:=p.epoch }).1,eps:=(iq r.eps p.epoch (fg b (ec r.log)).1.base).1 }),0),(fg b (ec r.log)).1.base)):=by
  rw[j6,if_neg k1,if_neg (by omega),hk];dsimp only;rw[hr]
 generalize ec r.log=en at *;generalize hmb:(fg b en).1=mb at *;generalize hme:(fg b en).2=me at *;obtain⟨A1,c1,B1,d1,rfl,q1,q2,q3,q4⟩:=hre;unfold fF at hend;unfold eP at hmov;intros;try refine dx ?_
 refine ez (fun e h=>∃ (G2:J5) (b6:Nat) (cs6:J6),(Gle G1 G2∧BE G2 mb cs6)∧e 0=.pointer (some ⟨x,0,none⟩)∧e 2=.pointer (some ⟨bb,0,none⟩)∧e 5=.pointer (some ⟨ga,k * 7,none⟩)∧e 6=.pointer (some ⟨b6,0,none⟩)∧e 7=.int .i64 me∧h=⟨G2,.blk b6 cs6 :: (PtL p x A c (some ⟨ga,0,none⟩) d ys zs++[.blk bb [.int .i64 0]]),[]⟩) ?_ ?_
 ·intros;refine dy ?_;refine AY _ Kl (by decide) ?_;refine sJ c66r6.eq_1 ?_;refine⟨_,⟨_,_,rfl,rfl,rfl,fun j u hu=>.g (by rw[gL];exact h3 j u hu)⟩,?_⟩;unfold eP;refine sI ?_;refine⟨_,gT (.tail _ (.head _)) hcl hld,?_⟩;unfold fF;refine sI ?_;refine⟨?_,?_⟩
  ·refine fK (hend _ _) ?_;refine⟨?_,?_⟩
   ·refine(hmov _ _).mono ?_;rintro r' h' ⟨G2,rfl,hg2,cs6,rfl,hbe⟩;have hbe0:=hbe;obtain⟨B6,d6,rfl,-⟩:=hbe;unfold eP;refine sI ?_;refine⟨j9 hg2,?_⟩;refine sI ?_;intro b6 hb6;refine⟨dO hg2 (.cons _ Kl),?_⟩;refine sI ?_;refine dM [] _ rfl (by simp) ⟨rfl,rfl⟩ ?_;refine sI ?_;refine⟨dO hg2 (.cons _ Kl),?_⟩;refine sI ?_;exact ej ⟨G2,b6,_,⟨hg2,hbe0⟩,eE,eE,eE,eE,eE,rfl⟩
   ·intro b6 hb6;refine⟨dO Kp (.cons _ Kl),?_⟩;refine sI ?_;refine(hmov _ _).mono ?_;rintro r' h' ⟨G2,rfl,hg2,cs6,rfl,hbe⟩;have hbe0:=hbe;obtain⟨B6,d6,rfl,-⟩:=hbe;unfold eP;refine sI ?_;refine⟨dO hg2 (.cons _ Kl),?_⟩;refine sI ?_;refine dM [] _ rfl (by simp) ⟨rfl,rfl⟩ ?_;refine sI ?_;refine⟨dO hg2 (.cons _ Kl),?_⟩;refine sI ?_;exact ej ⟨G2,b6,_,⟨hg2,hbe0⟩,eE,eE,eE,eE,eE,rfl⟩
  ·intro b6 hb6;refine⟨dO Kp (.cons _ Kl),?_⟩;refine sI ?_;refine fK (hend _ _) ?_;refine⟨dO Kp (.cons _ Kl),?_⟩;refine sI ?_;refine(hmov _ _).mono ?_;rintro r' h' ⟨G2,rfl,hg2,cs6,rfl,hbe⟩;have hbe0:=hbe;obtain⟨B6,d6,rfl,-⟩:=hbe;unfold eP;refine sI ?_;refine⟨dO hg2 (.cons _ Kl),?_⟩;refine sI ?_;refine dM [] _ rfl (by simp) ⟨rfl,rfl⟩ ?_;refine sI ?_;refine⟨dO hg2 (.cons _ Kl),?_⟩;refine sI ?_
   exact ej ⟨G2,b6,_,⟨hg2,hbe0⟩,eE,eE,eE,eE,eE,rfl⟩
 rintro e h ⟨G2,b6,cs6,⟨hg2,hbe⟩,e0,e2,e5,e6,e7,rfl⟩;refine dC [0,2,5,6,7] ?_;refine sJ5 @e0 @e2 @e5 @e6 @e7 ?_;intros;refine gN ?_;intros;try refine dx ?_
 intros;try refine dx ?_
 intros;refine gR 42 43 c66r7.eq_1 ?_;intros;refine gC ?_;refine gb (fun k3=>?_) (fun k3=>?_)
 ·have k3:=Kn k3;intros;refine gR 44 45 c66r8.eq_1 ?_;intros;refine dG (dL [.blk bb [.int .i64 0]] rfl (by simp[PtL]) (dF dw) (herr me 0 p _ k3 0 ?_));rw[happ,if_pos k3]
 have k3:me=0:=by simpa using k3
 rw[if_neg (fun h=>h k3)]at happ;obtain⟨B6,d6,rfl,hb6,i1,i2,i3,i4,i5⟩:=hbe;have hbe2:BE G2 { mb with epoch:=p.epoch } (eP { mb with epoch:=p.epoch } (.slice B6 mb.recs.length d6)):=⟨B6,d6,rfl,hb6,i1,i2,i3,hI.1,i5⟩;unfold eP at hbe2 ⊢;intros;refine gN ?_;intros;try refine dx ?_
 intros;refine dy ?_;refine D5 _ Kl (by decide) ?_;refine sJ c66r9.eq_1 ?_;refine⟨_,dH (cs:=d7 p A c (some ⟨ga,0,none⟩) d) (.tail _ (.head _)) rfl,?_⟩;refine sI ?_;refine⟨_,dH (.head _) rfl,?_⟩;refine sJ c66r10.eq_1 ?_;refine dM [] _ rfl (by simp) ⟨rfl,rfl⟩ ?_;refine sI ?_;refine dM [_,_,_,_] [] rfl (by simp) ⟨rfl,rfl⟩ ?_;refine sI ?_;intros;try refine dx ?_
 refine dA (h':=⟨G2,.blk b6 [.int .i64 mb.base,.int .i64 mb.last,.int .i64 mb.src,.int .i64 p.epoch,.int .i64 mb.pid,.int .i64 mb.gen,.int .i64 mb.seq,.bool mb.txn,.int .i64 mb.ctl,.slice B6 mb.recs.length d6] :: (PtL p x A c (some ⟨ga,0,none⟩) d ys zs++[.blk bb [.int .i64 mb.base]]),[]⟩) (ee (List.Perm.refl _)) ?_;have hldl:=vw hld
 have hca:=ov r.log { mb with epoch:=p.epoch } _ _ G2 (LE.le hg2 ⟨A1,c1,rfl,q1,q3⟩) hsr.1 hsr.2.1 hbe2;have hmx:=mb.base;unfold es at hca hldl;dsimp only at hca
 have hb10:∀ j u,([.int .i64 mb.base,.int .i64 mb.last,.int .i64 mb.src,.int .i64 p.epoch,.int .i64 mb.pid,.int .i64 mb.gen,.int .i64 mb.seq,.bool mb.txn,.int .i64 mb.ctl,.slice B6 mb.recs.length d6]:J6)[j]?=some u→([.int .i64 mb.base,.int .i64 mb.last,.int .i64 mb.src,.int .i64 p.epoch,.int .i64 mb.pid,.int .i64 mb.gen,.int .i64 mb.seq,.bool mb.txn,.int .i64 mb.ctl,.slice B6 mb.recs.length d6]:J6)[0+j]?=some u:=fun j u h=>by rw[Nat.zero_add];exact h
 generalize hap:gJ r.log { mb with epoch:=p.epoch }=ap at *;obtain⟨al,ae⟩:=ap;dsimp only at happ;intros;try refine dx ?_
 intros;try refine dx ?_
 intros;refine dy ?_;refine qY _ Kl (by decide) ?_;refine sJ c66r11.eq_1 ?_;refine⟨_,gT (.tail _ (.tail _ (.head _))) rfl hldl,?_⟩;refine sI ?_;refine⟨_,lh (.head _) rfl hb10,?_⟩;refine sI ?_;refine(hca _ _).mono ?_;rintro v h' ⟨G3,rfl,hg3,cs7,rfl,hle⟩;dsimp only at hle;have hle0:=hle;obtain⟨A7,c7,rfl,hsl7,hlim7⟩:=hle;unfold es;refine sI ?_;refine fX ?_;refine sI ?_
 refine fQ [_,_] _ rfl (by simp;have:=hz.len;omega) ⟨rfl,rfl⟩ ?_;refine sI ?_;refine fX ?_;refine sI ?_;have hz2:Cells (RE G3) 7 (p.reps.set k { r with log:=al }) (splice zs (k * 7+2) [.int .i64 al.limit,.int .i64 al.start,.slice A7 al.segs.length c7]) :=
  Cells.setF (E:=RE G3) (x':={ r with log:=al }) (eN hz fun _ _ h=>RE.le (hg2.trans hg3) h) hr (by simp) fun cs h hl=>by
   obtain⟨A5,c5,B5,d5,rfl,q1,q2,q3,q4⟩:=h;exact⟨A7,c7,B5,d5,rfl,hsl7,q2,hlim7,q4⟩
 refine dA (h':=⟨G3,.blk b6 [.int .i64 mb.base,.int .i64 mb.last,.int .i64 mb.src,.int .i64 p.epoch,.int .i64 mb.pid,.int .i64 mb.gen,.int .i64 mb.seq,.bool mb.txn,.int .i64 mb.ctl,.slice B6 mb.recs.length d6] :: (PtL p x A c (some ⟨ga,0,none⟩) d ys (splice zs (k * 7+2) [.int .i64 al.limit,.int .i64 al.start,.slice A7 al.segs.length c7])++[.blk bb [.int .i64 mb.base]]),[]⟩) (ee (List.Perm.refl _)) ?_
 generalize splice zs (k * 7+2) [.int .i64 al.limit,.int .i64 al.start,.slice A7 al.segs.length c7]=zs2 at *;intros;try refine dx ?_
 intros;refine gR 65 66 c66r12.eq_1 ?_;intros;refine gC ?_;refine gb (fun k4=>?_) (fun k4=>?_)
 ·have k4:=Kn k4;intros;refine gR 67 68 c66r13.eq_1 ?_;intros;refine dG (dL [.blk bb [.int .i64 mb.base]] rfl (by simp[PtL]) (dF dw) (herr ae mb.base p _ k4 mb.base ?_));rw[happ,if_pos k4]
 have k4:ae=0:=by simpa using k4
 rw[if_neg (fun h=>h k4)]at happ;clear hld hldl hcl;have hr2:=hU (y:={ r with log:=al }) hr;obtain⟨cs,hre2,hcl,hld⟩:=hz2.get hr2;obtain⟨A8,c8,B8,d8,rfl,q1,q2,q3,q4⟩:=hre2;have hput:=Hu r.eps p.epoch mb.base _ G3 q2 (by have:=hsr.2.2;omega) hI.1 i1;have hpl:=sC r.eps p.epoch mb.base;generalize iq r.eps p.epoch mb.base=pp at *;obtain⟨pl,pe⟩:=pp;dsimp only at happ hput hpl;intros;refine gN ?_
 intros;try refine dx ?_
 intros;try refine dx ?_
 intros;refine dy ?_;refine qY _ Kl (by decide) ?_;refine sJ c66r14.eq_1 ?_;refine⟨_,eV (.tail _ (.tail _ (.head _))) (hld 5 _ rfl),?_⟩;refine sI ?_;refine⟨_,dH (cs:=d7 p A c (some ⟨ga,0,none⟩) d) (.tail _ (.head _)) rfl,?_⟩;refine sI ?_;refine⟨_,dH (b:=bb) (.tail _ (.tail _ (.tail _ (.tail _ (.head _))))) rfl,?_⟩;refine sI ?_;refine(hput _ _).mono ?_
 rintro v h' ⟨G4,L',rfl,hg4,A9,c9,ye,rfl,hye,rfl⟩;refine sI ?_;refine fX ?_;refine sI ?_;refine fQ [_,_,_] _ rfl (by simp;have:=hz2.len;rw[List.length_set]at this;omega) ⟨rfl,rfl⟩ ?_;refine sI ?_;refine fX ?_;refine sI ?_
 refine dA (h':=⟨G4,[.row (.slice A9 pl.length c9) 151 2 pl.length ye,.blk b6 [.int .i64 mb.base,.int .i64 mb.last,.int .i64 mb.src,.int .i64 p.epoch,.int .i64 mb.pid,.int .i64 mb.gen,.int .i64 mb.seq,.bool mb.txn,.int .i64 mb.ctl,.slice B6 mb.recs.length d6]]++(PtL p x A c (some ⟨ga,0,none⟩) d ys (splice zs2 (k * 7+5) [.slice A9 pl.length c9])++[.blk bb [.int .i64 mb.base]]),[]⟩) (ee (List.Perm.refl _)) ?_
 refine ei (dT [] _ (by decide) hye) ?_;rintro h' ⟨G5,rfl,hg5,hv5⟩;have hz3:Cells (RE G5) 7 (p.reps.set k { r with log:=al,eps:=pl }) (splice zs2 (k * 7+5) [.slice A9 pl.length c9]):=by
  have:=Cells.setF (E:=RE G5) (o:=5) (us:=[.slice A9 pl.length c9]) (x':={ r with log:=al,eps:=pl }) (eN hz2 fun _ _ h=>RE.le (hg4.trans hg5) h) hr2 (by simp) fun cs h hl=>by
   obtain⟨A5,c5,B5,d5,rfl,q1,q2,q3,q4⟩:=h;exact⟨A5,c5,A9,c9,rfl,q1,hv5,q3,q4⟩
  rwa [List.set_set]at this
 generalize splice zs2 (k * 7+5) [.slice A9 pl.length c9]=zs3 at *;refine dA (h':=⟨G5,PtL p x A c (some ⟨ga,0,none⟩) d ys zs3++[.blk bb [.int .i64 mb.base]],[]⟩) (dE (.cons _ Kl)) ?_;intros;try refine dx ?_
 intros;refine gR 85 86 c66r15.eq_1 ?_;intros;refine gC ?_;refine gb (fun k5=>?_) (fun k5=>?_)
 ·have k5:=Kn k5;intros;refine gR 87 88 c66r16.eq_1 ?_;intros;refine dG (dL [.blk bb [.int .i64 mb.base]] rfl (by simp[PtL]) (dF dw) (herr pe mb.base p _ k5 mb.base ?_));rw[happ,if_pos k5]
 have k5:pe=0:=by simpa using k5
 rw[if_neg (fun h=>h k5)]at happ;have hal:=g0 (l:=r.log) (b:={ mb with epoch:=p.epoch }) (by rw[hap];exact k4);rw[hap]at hal;have hca2:=hal.2.2.1;dsimp only at hca2;have hraise:=lj (fV p k { r with log:=al,eps:=pl }) x A c (some ⟨ga,0,none⟩) d ys zs3 G5 hy hz3 (nk hr rfl (gG hok)) (fun m hm=>by show m∈fE (p.reps.set k _);rw[hZ (y:={ r with log:=al,eps:=pl }) hr rfl];exact hok.2.1.2 m hm)
  (fun z hz=>by
   rcases List.mem_or_eq_of_mem_set hz with hz | rfl
   ·exact qH hsm.1 z hz
   ·exact⟨qp hca2,by have:=(fB hca2).2.2.2;show al.segs.length≤_;omega,by have:=hsr.2.2;show pl.length≤_;omega⟩) hI
 rw[mU]at hraise;rw[happ];intros;refine gN ?_;intros;try refine dx ?_
 intros;refine gR 88 90 c66r17.eq_1 ?_;refine(hraise _ _).mono ?_;rintro r' h' ⟨G6,L',rfl,hg6,rfl,zs',rfl,hz'⟩;refine sI ?_;intros;try refine dx ?_
 intros;refine gR 0 0 c66r18.eq_1 ?_;intros;refine dG (dL _ rfl Kl (fun s cs hm=>?_) ⟨rfl,_,_,rfl,⟨mb.base,rfl,fun _=>rfl⟩,fun h=>absurd rfl h,fun _=>⟨A,c,some ⟨ga,0,none⟩,d,ys,zs',rfl,?_,hz',ls (p:=fV p k _) hI⟩⟩)
 ·rcases List.mem_append.1 hm with h | h
  ·exact em s cs h
  ·simp at h
 ·rw[(eb (fV p k { r with log:=al,eps:=pl })).2.2.2.1];exact hy
def JM(q:(Pt × Int) × Int)(G:J5)(r:Value):Prop:=∃ cs,r=.tuple #[.agg cs.toArray,.int .i64 q.2,.int .i64 q.1.2]∧PE G q.1.1 cs
theorem lM(p:Pt)(b:Batch)(cs cb:J6)(G:J5)(hp:PE G p cs)(hsm:smP p)(hb:BE G b cb):FnD Tryz.prog 25 #[.agg cs.toArray,.agg cb.toArray] G (JM (pF p b)):=by
 have hp0:=hp;have hb0:=hb;obtain⟨A,c,B,d,rfl,-,-,hI⟩:=hp;obtain⟨B2,d2,rfl,-⟩:=hb;refine F25.fnD (by simp) (dI ?_);unfold c25;unfold d7 at hp0 ⊢;unfold eP at hb0 ⊢;intros;refine gR 0 0 c25r0.eq_1 ?_;intro b3 hb3 b5 hb5;refine sI ?_;intros;refine ei (eg [_,_] _) ?_;rintro h' ⟨G1,rfl,hg1,f3⟩
 have hch:=pU p _ 66 #[.pointer (some ⟨b3,0,none⟩),.pointer (some ⟨b5,0,none⟩)] (j6 b p).1 [.blk b5 [.int .i64 0]] (BB (j6 b p) b5) G1 (hp0.le hg1) hsm (dF dw) (fun C h=>by obtain⟨v,rfl,-⟩:=h;exact dF dw) fun hok =>
  rn p b _ b3 b5 G1 hok hsm hI (BE.le hg1 hb0) fun j u hu=>by have:=f3 j u hu;rwa [gL]at this
 have hq:pF p b=if (mG p (j6 b p).1).2=0 then(mG p (j6 b p).1,(j6 b p).2)else((iz,(mG p (j6 b p).1).2),0):=rfl
 intros;try refine dx ?_
 intros;refine gR 7 13 c25r1.eq_1 ?_;refine(hch _ _).mono ?_;rintro r h' ⟨G2,L',rfl,hg2,⟨cs2,rfl,hpe⟩,-,hL⟩;obtain⟨v,rfl,hv⟩:∃ v,L'=[.blk b5 [.int .i64 v]]∧((mG p (j6 b p).1).2=0→v=(j6 b p).2):=by
  rcases hL with⟨v,h1,h2⟩ | ⟨h1,h2⟩
  ·refine⟨v,h1,fun h=>h2 ?_⟩;unfold mG at h;split at h
   ·split at h
    ·assumption
    ·exact h
   ·rename_i h3;exact absurd h h3
  ·refine⟨0,h2,fun h=>?_⟩;rw[mG,if_neg h1]at h;exact absurd h h1
 generalize hcq:mG p (j6 b p).1=cq at *;have hpe0:=hpe;obtain⟨A2,c2,B2,d2,rfl,-⟩:=hpe;unfold d7 at hpe0 ⊢;refine sI ?_;intros;try refine dx ?_
 intros;try refine dx ?_
 intros;refine gR 13 14 c25r2.eq_1 ?_;intros;refine gC ?_;refine gb (fun k1=>?_) (fun k1=>?_)
 ·have k1:=Kn k1;intros;refine gR 15 17 c25r3.eq_1 ?_;refine dM [] _ rfl (by simp) ⟨rfl,rfl⟩ ?_;refine sI ?_;intros;refine dG (jS (out:=[.agg #[.int .i64 0,.int .i64 0,.int .i64 0,.slice none 0 0,.slice none 0 0],.int .i64 0,.int .i64 cq.2]) ?_ ?_)
  ·simp[o25,mc,Kx.getR,Kx.getB,u4,ldC,Env.set]
  rw[hq,if_neg k1];exact⟨_,rfl,none,0,none,0,rfl,slN,slN,iA,iA,iA⟩
 have k1:cq.2=0:=by simpa using k1
 intros;refine gN ?_;intros;try refine dx ?_
 intros;refine dy ?_;refine qY _ (.cons_cons _ (.cons_cons _ Km)) (by decide) ?_;refine sJ c25r4.eq_1 ?_;refine⟨_,dH (.head _) rfl,?_⟩;refine sI ?_;refine⟨⟨Kp,.cons_cons _ (.cons_cons _ Km),rfl⟩,?_⟩;refine dM [] _ rfl (by simp) ⟨rfl,rfl⟩ ?_;refine sI ?_;refine fX ?_;refine sI ?_;intros
 refine dG (jS (out:=[.agg #[.int .i64 cq.1.epoch,.int .i64 cq.1.leader,.int .i64 cq.1.least,.slice A2 cq.1.isr.length c2,.slice B2 cq.1.reps.length d2],.int .i64 v,.int .i64 0]) ?_ ?_)
 ·simp[o25,mc,Kx.getR,Kx.getB,u4,ldC,Env.set]
 rw[hq,if_pos k1];refine⟨_,?_,hpe0⟩;rw[hv k1,k1];rfl
theorem F13:Fun Tryz.prog 13 64 v13 c13 o13:=Fun.mkA Tryz.func13 Tryz.ntmps13
theorem F15:Fun Tryz.prog 15 26 v15 c15 o15:=Fun.mkA Tryz.func15 Tryz.ntmps15
def newR(L0:Lg)(n:Int):Rp:=⟨n,true,L0,[],0⟩
theorem vI(l:Ki)(limit least:Int)(v:Value)(G:J5)(hl:SlV G IE 1 v l)(hb:l.length≤100000)(hi:I64 least):FnD Tryz.prog 13 #[v,.int .i64 limit,.int .i64 least] G (PtR (sM l limit least)):=by
 have hl0:=hl;obtain⟨A,c,rfl,hc,hmx,hA⟩:=hl;refine F13.fnD (by simp) (dI ?_);unfold c13;intros;refine gR 0 0 c13r0.eq_1 ?_;intros;refine gR 13 18 c13r1.eq_1 ?_;refine(BX limit 0 G _ _).mono ?_;rintro r h' ⟨G1,rfl,hg1,cs,rfl,hle⟩
 have hnp1:((qt limit 0).2=0∧fu l∧l.length≤5∧1≤least∧least≤(l.length:Int))→sM l limit least=(⟨1,l.headD 0,least,l,l.map (newR (qt limit 0).1)⟩,0):=fun h=>by unfold sM;rw[if_pos h];rfl
 have hnp0:¬ ((qt limit 0).2=0∧fu l∧l.length≤5∧1≤least∧least≤(l.length:Int))→sM l limit least=(iz,1):=fun h=>by unfold sM;rw[if_neg h]
 have hl1:=hl0.le (E':=IE) hg1 Kp;generalize qt limit 0=nl at *;obtain⟨L0,e0⟩:=nl;dsimp only at hle hnp0 hnp1;have hle0:=hle;obtain⟨A3,c3,rfl,hs3,hlim⟩:=hle
 have hno:¬ (e0=0∧fu l∧l.length≤5∧1≤least∧least≤(l.length:Int))→∀ (fr:Kc) (e:Env),go none Tryz.prog 64 v13.1 v13.2 (gl o13 fun v h=>PtR (sM l limit least) h.G v) (Td.s ((SC.reg false c13r3).seq .ret) :: fr) e ⟨G1,[.reg 8 [.int .i64 L0.limit,.int .i64 L0.start,.slice A3 L0.segs.length c3],.reg 6 [.int .i64 0,.int .i64 0,.int .i64 0,.slice none 0 0,.slice none 0 0]],[]⟩:=fun hn fr e=>by
  intros;refine gR 40 41 c13r3.eq_1 ?_;intros;refine dG (jS rfl ?_);rw[hnp0 hn];exact ri _ _
 unfold es;refine sI ?_;intros;try refine dx ?_
 intros;try refine dx ?_
 intros;refine gR 18 39 c13r2.eq_1 ?_;refine gd (fun k1=>?_) (fun k1=>?_)
 ·have k1:=Kn k1;refine sI ?_;intros;refine gC ?_;exact hno (fun h=>k1 h.1) _ _
 have k1:e0=0:=by simpa using k1
 refine sI ?_;refine fK (oK _ _ _ hl1 _ _) ?_;refine gd (fun k2=>?_) (fun k2=>?_)
 ·have k2:AM l=false:=by simpa using k2
  refine sI ?_;intros;refine gC ?_;exact hno (fun h=>by have:=tm h.2.1;rw[k2]at this;cases this) _ _
 have k2:fu l:=oA.1 (by simpa using k2);refine sI ?_;refine gdD (fun k3=>?_) (fun k3=>?_)
 ·refine sI ?_;intros;refine gC ?_;exact hno (fun h=>by have:=h.2.2.1;omega) _ _
 refine sI ?_;refine gdD (fun k4=>?_) (fun k4=>?_)
 ·refine sI ?_;intros;refine gC ?_;exact hno (fun h=>by have:=h.2.2.2.1;omega) _ _
 refine sI ?_;intros;refine gC ?_;refine gbD (fun k5=>?_) (fun k5=>?_)
 ·exact hno (fun h=>by have:=h.2.2.2.2;omega) _ _
 rw[hnp1 ⟨k1,k2,by omega,by omega,by omega⟩];clear hno hnp0 hnp1;obtain⟨y0,hy0⟩:∃ y,l[0]?=some y:=⟨l[0]'(List.length_pos_iff.2 k2.1),getElem?_eq_getElem _⟩;have hhd:l.headD 0=y0:=by
  cases l with
  | nil=>cases hy0
  | cons a l=>cases hy0;rfl
 have hy0i:I64 y0:=by
  obtain⟨a,u,_,hu,_⟩:=hA.at1 hy0 [] [];exact hu.2
 have hcl:=fun G2 (hg:Gle G1 G2)=>qA l _ G2 (hl1.le (E':=IE) hg Kp) (by omega)
 rw[hhd];obtain⟨A0,c0,he0,hc0,hm0,hA1⟩:=id hl1;cases he0;intros;refine gN ?_;intros;try refine dx ?_
 refine ez (fun e h=>∃ (G2:J5) (b10:Nat) (A4:Ka) (c4:Nat) (ys:J6) (Lh:J8),(Gle G1 G2∧Cells IE 1 l ys)∧e 10=.pointer (some ⟨b10,0,none⟩)∧e 0=.slice A l.length c∧h=⟨G2,Lh,[]⟩∧Lh.Perm [.blk b10 [.int .i64 1,.int .i64 y0,.int .i64 least,.slice A4 l.length c4,.slice none 0 0],.row (.slice A4 l.length c4) 3 1 l.length ys,.reg 8 [.int .i64 L0.limit,.int .i64 L0.start,.slice A3 L0.segs.length c3],.reg 6 [.int .i64 0,.int .i64 0,.int .i64 0,.slice none 0 0,.slice none 0 0]]) ?_ ?_
 ·intros;refine dy ?_;refine AY _ Kl (by decide) ?_;refine sJ c13r4.eq_1 ?_;refine hA1.y_l1 hy0 rfl rfl ?_;rintro a1 ha1 u1 ⟨hu,-⟩;cases hu;refine sI ?_;refine⟨?_,?_⟩
  ·refine(jd (hcl G1 (.refl _)) _ _).mono ?_;rintro r h' ⟨G2,L',rfl,hg2,A4,c4,ys,rfl,-,hys,rfl⟩;refine⟨dO hg2 (.cons _ Kl),?_⟩;refine sI ?_;intro b10 hb10;refine⟨dO hg2 (.cons _ (.cons _ Kl)),?_⟩;refine sI ?_;refine dM [] _ rfl (by simp) ⟨rfl,rfl⟩ ?_;refine sI ?_;refine⟨dO hg2 (.cons _ (.cons _ Kl)),?_⟩;refine sI ?_;exact ej ⟨G2,b10,A4,c4,ys,_,⟨hg2,hys⟩,eE,eE,rfl,List.Perm.refl _⟩
  ·intro b10 hb10;refine⟨dO Kp (.cons _ Kl),?_⟩;refine sI ?_;refine(jd (hcl G1 (.refl _)) _ _).mono ?_;rintro r h' ⟨G2,L',rfl,hg2,A4,c4,ys,rfl,-,hys,rfl⟩;refine⟨dO hg2 (.cons _ (.cons _ Kl)),?_⟩;refine sI ?_;refine dM [_] _ rfl (by simp) ⟨rfl,rfl⟩ ?_;refine sI ?_;refine⟨dO hg2 (.cons _ (.cons _ Kl)),?_⟩;refine sI ?_;exact ej ⟨G2,b10,A4,c4,ys,_,⟨hg2,hys⟩,eE,eE,rfl,List.Perm.swap _ _ _⟩
 rintro e h ⟨G2,b10,A4,c4,ys,Lh,⟨hg2,hys⟩,e10,e0,rfl,hperm⟩;refine dC [0,10] ?_;refine sJ2 @e0 @e10 ?_;intros;refine dA (ee hperm) ?_;refine ei (dT [_] _ (by decide) hys) ?_;rintro h' ⟨G3,rfl,hg3,hv3⟩;have hg23:=hg2.trans hg3;have hA3:=hA1.le (E':=IE) hg23 Kp;have hs3:=SlSE.le hg23 hs3;refine dA (dW none 50 7) ?_;have hml:∀ k,((l.take k).map (newR L0)).length≤l.length:=fun k=>by simp;omega
 intros;try refine dx ?_
 refine ez (fun e h=>∃ (u:Value) (zc:J6),Cells (RE G3) 7 (l.map (newR L0)) zc∧e 10=.pointer (some ⟨b10,0,none⟩)∧h=⟨G3,[.row u 50 7 l.length zc,.blk b10 [.int .i64 1,.int .i64 y0,.int .i64 least,.slice A4 l.length c4,u],.reg 8 [.int .i64 L0.limit,.int .i64 L0.start,.slice A3 L0.segs.length c3],.reg 6 [.int .i64 0,.int .i64 0,.int .i64 0,.slice none 0 0,.slice none 0 0]],[]⟩) ?_ ?_
 ·intros;try refine dx ?_
  intros;refine gR 0 0 c13r5.eq_1 ?_;intros;refine dy ?_
  refine dV (fun e h=>∃ (k:Nat) (u:Value) (zc:J6),(k≤l.length∧Cells (RE G3) 7 ((l.take k).map (newR L0)) zc)∧e 50=.int .i64 k∧e 49=.int .i64 l.length∧e 48=.slice A l.length c∧e 10=.pointer (some ⟨b10,0,none⟩)∧h=⟨G3,[.row u 50 7 ((l.take k).map (newR L0)).length zc,.blk b10 [.int .i64 1,.int .i64 y0,.int .i64 least,.slice A4 l.length c4,u],.reg 8 [.int .i64 L0.limit,.int .i64 L0.start,.slice A3 L0.segs.length c3],.reg 6 [.int .i64 0,.int .i64 0,.int .i64 0,.slice none 0 0,.slice none 0 0]],[]⟩) (fun e h=>l.length - iv (e 50)) ?_ ?_
  ·exact⟨0,.slice none 0 0,[],⟨Nat.zero_le _,.nil⟩,eE,eE,eE,eE,rfl⟩
  rintro e h ⟨k,u,zc,⟨hk,hzc⟩,e50,e49,e48,e10,rfl⟩;refine dC [10,48,49,50] ?_;refine sJ4 @e10 @e48 @e49 @e50 ?_;intros;refine gR 0 0 c13r6.eq_1 ?_;intros;refine gC ?_;refine gb (fun ht=>?_) (fun ht=>?_)
  ·have ht:k < l.length:=by have:=Kn ht;omega
   have hw:=fi k c (by omega) hmx;obtain⟨n,hn⟩:∃ s,l[k]?=some s:=⟨l[k],getElem?_eq_getElem (by omega)⟩;have htk:(l.take (k+1)).map (newR L0)=(l.take k).map (newR L0)++[newR L0 n]:=by rw[eo hn,List.map_append];rfl
   have hkl:=hml k;intros;refine gN ?_;intros;try refine dx ?_
   intros;refine gR 52 54 c13r7.eq_1 ?_;refine hA3.x_l1 hn rfl rfl ?_;rintro a1 ha1 u1 ⟨hu,hni⟩;cases hu;refine sI ?_;have hre:RE G3 (newR L0 n) [.int .i64 n,.bool true,.int .i64 L0.limit,.int .i64 L0.start,.slice A3 L0.segs.length c3,.slice none 0 0,.int .i64 0]:=⟨A3,c3,none,0,rfl,hs3,slN,hlim,hni,iA⟩;intros;refine gR 54 62 c13r8.eq_1 ?_;refine⟨_,dH (.tail _ (.head _)) rfl,?_⟩;refine sI ?_
   intro bk hbk;refine yu (L1:=[]) (L2:=[_,_,_]) (E:=RE G3) (x:=newR L0 n) rfl hre rfl (by simp[Value.oneCell']) hzc (by omega) (by omega) fun A' c' zc' hzc'=>?_
   rw[← htk]at hzc' ⊢;refine sI ?_;refine dM [_,_] [_,_] rfl (by simp) ⟨rfl,rfl⟩ ?_;refine sI ?_;intros;refine gN ?_;refine dA (dE (.cons _ Kl)) ?_;intros;refine gR2 62 63 c13r9.eq_1 @hw ?_;intros;refine dy ?_;refine ej ⟨⟨k+1,_,zc',⟨by omega,hzc'⟩,eE,eE,eE,eE,rfl⟩,?_⟩;refine sI ?_;omega
  ·have ht:k=l.length:=by have:=Ko ht;omega
   subst ht;rw[take_length]at hzc ⊢;rw[List.length_map];refine dS ?_;refine sI ?_;intros;refine gN ?_;exact ej ⟨u,zc,hzc,eE,rfl⟩
 rintro e h ⟨u,zc,hzc,e10,rfl⟩;refine dC [10] ?_;refine sJ @e10 ?_;intros;refine ei (dT [] _ (by decide) hzc) ?_;rintro h' ⟨G4,rfl,hg4,hv4⟩;obtain⟨A5,c5,rfl,hc5,hm5,hA5⟩:=hv4;rw[List.length_map];intros;try refine dx ?_
 intros;refine gR 63 64 c13r10.eq_1 ?_;refine⟨_,lh (us:=[.int .i64 1,.int .i64 y0,.int .i64 least,.slice A4 l.length c4,.slice A5 l.length c5]) (.head _) rfl (fun j u h=>by rw[Nat.zero_add];exact h),?_⟩;refine sI ?_;intros;refine rW ?_;refine⟨_,rfl,A4,c4,A5,c5,?_,hv3.le (E':=IE) hg4 Kp,?_,show I64 1 from by unfold I64;decide,hy0i,hi⟩
 ·unfold d7;dsimp only;rw[List.length_map]
 ·show SlV G4 (RE G4) 7 (.slice A5 (l.map (newR L0)).length c5) (l.map (newR L0));exact⟨A5,c5,rfl,hc5,hm5,hA5.le Kp fun _ _ h=>RE.le hg4 h⟩
theorem tL{G:J5}{l:List Rp}{B:Ka}{n d:Nat}{k:Nat}{r:Rp}(h:SlV G (RE G) 7 (.slice B n d) l)(hr:l[k]?=some r):
  ∃ a A1 c1 B1 d1,B=some a∧RE G r (fF r A1 c1 B1 d1)∧(∀ L D,LdN ⟨G,L,D⟩ (.pointer (some ((a.add (k * 7)).add 2))) (some 3) (.agg (es r.log A1 c1).toArray))∧∀ L D o u,(fF r A1 c1 B1 d1)[o]?=some u→LdN ⟨G,L,D⟩ (.pointer (some ((a.add (k * 7)).add o))) none u:=by
 obtain⟨A0,d0,he,-,-,hA⟩:=h;cases he;obtain⟨a,cs,ha,h1,h2,h4⟩:=hA k r hr;have h20:=h2;obtain⟨A,c,B,d,rfl,-⟩:=h2;refine⟨a,A,c,B,d,ha,h20,fun L D=>⟨_,_,rfl,rfl,rfl,fun j u hu=>?_⟩,fun L D o u hu=>⟨_,rfl,?_⟩⟩
 ·rw[fl,fl];refine .g (h4 (2+j) u ?_)
  match j,hu with
  | 0,h=>exact h
  | 1,h=>exact h
  | 2,h=>exact h
  | j+3,h=>cases h
 ·rw[fl];exact .g (h4 o u hu)
theorem lY{p:Pt}(h:okP p)(h0:¬ p.leader < 0):∃ k r,atR p.reps p.leader=some k∧p.reps[k]?=some r∧r.id=p.leader:=by
 obtain⟨r0,hr0,hl0⟩:∃ r∈p.reps,r.id=p.leader:=by
  rcases h.2.2 with h | ⟨⟨r,hr,h,-⟩,-⟩
  ·omega
  ·exact⟨r,hr,h⟩
 exact qK (l:=p.reps) (n:=p.leader) (List.mem_map.2 ⟨r0,hr0,hl0⟩)
theorem xV(p:Pt)(cs:J6)(G:J5)(hp:PE G p cs)(hsm:smP p):FnD Tryz.prog 15 #[.agg cs.toArray] G (LgR (lZ p)):=by
 have hchk:=ko p cs G hp hsm;have hp0:=hp;obtain⟨A,c,B,d,rfl,hv1,hv2,hI⟩:=hp;refine F15.fnD (by simp) (dI ?_);unfold c15;unfold d7 at hchk ⊢;intros;refine gR 0 0 c15r0.eq_1 ?_;intros;try refine dx ?_
 intros;try refine dx ?_
 intros;refine gR 6 8 c15r1.eq_1 ?_;refine fK (hchk _ _) ?_;intros;try refine dx ?_
 intros;refine gR 8 9 c15r2.eq_1 ?_;intros;refine gC ?_;refine gb (fun k1=>?_) (fun k1=>?_)
 ·have k1:=Kn k1;intros;refine gR 10 12 c15r3.eq_1 ?_;intros;refine rW ?_;rw[lZ,if_pos k1];exact hH
 have k1:fy p=0:=by simpa using k1
 have hok:=lL k1;intros;refine gN ?_;intros;try refine dx ?_
 intros;try refine dx ?_
 intros;refine gR 13 14 c15r4.eq_1 ?_;intros;refine gC ?_;refine gbD (fun k2=>?_) (fun k2=>?_)
 ·intros;refine gR 15 16 c15r5.eq_1 ?_;intros;refine rW ?_;rw[lZ,if_neg (fun h=>h k1),if_pos k2];exact hH
 obtain⟨k,r,hk,hr,-⟩:=lY hok k2;have hld:lZ p=(r.log,0):=by
  rw[lZ,if_neg (fun h=>h k1),if_neg k2,hk];dsimp only;rw[hr];rfl
 rw[hld];intros;refine gN ?_;intros;try refine dx ?_
 intros;refine gR 16 19 c15r6.eq_1 ?_;intro x hx;refine sI ?_;intros;refine ei (eg [] _) ?_;rintro h' ⟨G1,rfl,hg1,f1⟩;have hpt:PtG G1 p x A c B d:=⟨fun j u hu=>by have:=f1 j u hu;rwa [gL]at this,hv1.le (E':=IE) hg1 Kp,SlR.le hg1 hv2⟩;obtain⟨a,A1,c1,B1,d1,rfl,hre,hl3,-⟩:=tL hpt.2.2 hr;obtain⟨A9,c9,B9,d9,he9,hs9,-,hlim,-⟩:=hre;unfold fF at he9;cases he9;unfold es at hl3
 have hat:=zM p x A c (some a) d p.leader G1 hpt hI.2.1 (gG hok);rw[hk]at hat;have hat:FnS Tryz.prog 51 #[.pointer (some ⟨x,0,none⟩),.int .i64 p.leader] G1 (.pointer (some (a.add (k * 7)))):=hat;intros;try refine dx ?_
 intros;refine gR 19 26 c15r7.eq_1 ?_;refine fK (hat _ _) ?_;refine⟨_,hl3 _ _,?_⟩;refine sI ?_;intros;refine rW ?_;exact⟨_,rfl,A1,c1,rfl,hs9,hlim⟩
theorem F20:Fun Tryz.prog 20 32 v20 c20 o20:=Fun.mkA Tryz.func20 Tryz.ntmps20
def rg(l:List Rp)(m n:Int):Int:=max m (match atR l n with | some k=>(l[k]?.map (·.high)).getD 0 | none=>0)
theorem CL{l:List Rp}{m n:Int}{k:Nat}{r:Rp}(h:atR l n=some k)(hr:l[k]?=some r):rg l m n=max m r.high:=by
 unfold rg;rw[h];dsimp only;rw[hr];rfl
theorem pB(p:Pt)(cs:J6)(G:J5)(hp:PE G p cs)(hsm:smP p):FnS Tryz.prog 20 #[.agg cs.toArray] G (.int .i64 (mS p)):=by
 have hchk:=fun G' hg=>ko p cs G' (hp.le hg) hsm
 obtain⟨A,c,B,d,rfl,hv1,hv2,hI⟩:=hp;refine F20.fnS (by simp) (dI ?_);unfold c20;have hself:∀ j u,(d7 p A c B d)[j]?=some u→(d7 p A c B d)[0+j]?=some u:=fun j u h=>by rw[Nat.zero_add];exact h
 unfold d7 at hchk hself ⊢;intros;refine gR 0 0 c20r0.eq_1 ?_;intro b1 hb1;refine sI ?_;intros;refine ei (eg [] _) ?_;rintro h' ⟨G1,rfl,hg1,f1⟩;have f1:∀ j u,(d7 p A c B d)[j]?=some u→eZ G1 ⟨b1,j,none⟩=some u:=fun j u hu=>by have:=f1 j u hu;rwa [gL]at this
 have hchk:=hchk G1 hg1;intros;try refine dx ?_
 intros;try refine dx ?_
 intros;refine gR 6 8 c20r1.eq_1 ?_;refine⟨_,⟨_,_,rfl,rfl,rfl,fun j u hu=>.g (by rw[gL];exact f1 j u hu)⟩,?_⟩;refine sI ?_;refine fK (hchk _ _) ?_;intros;refine gC ?_;refine gb (fun k1=>?_) (fun k1=>?_)
 ·have k1:=Kn k1;intros;refine gR 0 0 c20r2.eq_1 ?_;intros;refine rW ?_;rw[mS,if_pos k1]
 have k1:fy p=0:=by simpa using k1
 have hok:=lL k1;intros;refine gN ?_;intros;try refine dx ?_
 intros;refine gR 9 12 c20r3.eq_1 ?_;refine⟨_,⟨_,_,rfl,rfl,rfl,fun j u hu=>.g (by rw[gL];exact f1 j u hu)⟩,?_⟩;refine sI ?_;intro x hx;refine sI ?_;intros;refine ei (eg [] _) ?_;rintro h' ⟨G2,rfl,hg2,f2⟩;have hg02:=hg1.trans hg2;have hpt:PtG G2 p x A c B d:=⟨fun j u hu=>by have:=f2 j u hu;rwa [gL]at this,hv1.le (E':=IE) hg02 Kp,SlR.le hg02 hv2⟩
 have f1:∀ j u,(d7 p A c B d)[j]?=some u→eZ G2 ⟨b1,j,none⟩=some u:=fun j u hu=>dN hg2 (f1 j u hu)
 have hd:decide (p.leader≥0)=decide (0≤p.leader):=rfl;intros;try refine dx ?_
 intros;refine gR 12 14 c20r4.eq_1 ?_;refine⟨_,⟨_,rfl,.g (f1 1 _ rfl)⟩,?_⟩;refine sI ?_;intros;refine gC ?_;refine gb (fun k2=>?_) (fun k2=>?_)
 ·have k2:0≤p.leader:=Kn k2;obtain⟨k,r,hk,hr,-⟩:=lY hok (by omega);obtain⟨a,A1,c1,B1,d1,rfl,-,-,hf⟩:=tL hpt.2.2 hr;have hat:=zM p x A c (some a) d p.leader G2 hpt hI.2.1 (gG hok);rw[hk]at hat;have hat:FnS Tryz.prog 51 #[.pointer (some ⟨x,0,none⟩),.int .i64 p.leader] G2 (.pointer (some (a.add (k * 7)))):=hat;intros;try refine dx ?_
  intros;refine gR 15 22 c20r5.eq_1 ?_;refine⟨_,⟨_,rfl,.g (f1 1 _ rfl)⟩,?_⟩;refine sI ?_;refine fK (hat _ _) ?_;refine⟨_,hf _ _ 6 _ rfl,?_⟩;refine sI ?_;intros;refine rW ?_;rw[mS,if_neg (fun h=>h k1),if_pos k2,hk];dsimp only;rw[hr];rfl
 have k2:¬ 0≤p.leader:=Ko k2;have hhp:mS p=p.isr.foldl (rg p.reps) 0:=by rw[mS,if_neg (fun h=>h k1),if_neg k2];rfl
 rw[hhp];intros;refine gN ?_;intros;try refine dx ?_
 intros;refine gR 0 0 c20r6.eq_1 ?_;intro b4 hb4;refine dM [] _ rfl (by simp) ⟨rfl,rfl⟩ ?_;refine sI ?_;intros;try refine dx ?_
 intros;try refine dx ?_
 intros;refine gR 22 23 c20r7.eq_1 ?_;refine(pJ p x G2 _ _).mono ?_;rintro rr h' ⟨G3,rfl,hg3,b5,rfl,hb5⟩;have hpt3:=hpt.le hg3;have hit:=mo p x b5 A c B d G3 hpt3 (gG hok) hb5;refine sI ?_;intros;refine dy ?_
 refine rA (α:=Int) (fun t G' L'=>L'=[.blk b4 [.int .i64 ((p.isr.take t).foldl (rg p.reps) 0)]]) (fun _ _ _ _=>False) (eE) F111.enters (dF dw) (fun _ _ _ _ _ h=>h) hit (fun G x args h=>by cases h;rfl) rfl ?_ ?_ ?_
 ·rintro yl t n args G' L' hx hgl rfl rfl _;obtain⟨i,y,hi,hiy,hyn⟩:=qK (hok.2.1.2 n (mem_of_getElem? hx));have hnext:(p.isr.take (t+1)).foldl (rg p.reps) 0=max ((p.isr.take t).foldl (rg p.reps) 0) y.high:=by rw[sF _ _ hx,CL hi hiy]
  obtain⟨a,A1,c1,B1,d1,hBa,-,-,hf⟩:=tL (hpt3.le hgl).2.2 hiy;have hptr:uO B (some i)=some (a.add (i * 7)):=by rw[hBa];rfl
  rw[hi,hptr,hnext];generalize (p.isr.take t).foldl (rg p.reps) 0=m0 at *;refine sI ?_;intros;refine gR 0 0 c20r8.eq_1 ?_;intro bb;refine fU (rX ?_);intros;try refine dx ?_
  intros;refine dy ?_;intros;refine dy ?_;refine Gr (by decide) ?_;refine sJ c20r9.eq_1 ?_;refine⟨_,dH (.head _) rfl,?_⟩;refine sI ?_;refine⟨_,hf _ _ 6 _ rfl,?_⟩;refine sJ c20r10.eq_1 ?_;refine dM [] _ rfl (by simp) ⟨rfl,rfl⟩ ?_;refine sI ?_;intros;refine gN ?_;refine fU (qf _ Kl (dF dw) rfl)
 ·rintro G' L' dd hgl rfl _;rw[take_length];intros;refine gN ?_;intros;refine gR 31 32 c20r11.eq_1 ?_;refine⟨_,dH (.head _) rfl,?_⟩;refine sI ?_;intros;refine rV ?_;simp only[push_cast,Nat.reduceBEq]
 ·rintro ex i G' L' d _ _ h;exact h.elim
theorem F168:Fun Tryz.prog 168 32 v168 c168 o168:=Fun.mkA Tryz.func168 Tryz.ntmps168
theorem F135:Fun Tryz.prog 135 62 v135 c135 o135:=Fun.mkA Tryz.func135 Tryz.ntmps135
theorem xC(a b:Kg)(v u:Value)(G:J5)(ha:SlV G (BE G) 10 v a)(hb:SlV G (BE G) 10 u b):FnS Tryz.prog 168 #[v,u,.func (.func 169) #[] #[]] G (.bool (decide (a=b))):=by
 obtain⟨A,c,rfl,hc,hmx,hA⟩:=ha;obtain⟨B,d,rfl,hd,hmy,hB⟩:=hb;refine F168.fnS (by simp) (dI ?_);unfold c168;intros;refine gR 0 0 c168r0.eq_1 ?_;intros;try refine dx ?_
 intros;try refine dx ?_
 intros;refine gR 10 14 c168r1.eq_1 ?_;intros;refine gC ?_;refine gb (fun k1=>?_) (fun k1=>?_)
 ·have k1:=Kn k1;intros;refine gR 0 0 c168r2.eq_1 ?_;intros;refine rW ?_;rw[decide_eq_false fun h=>k1 (by rw[h])]
 have k1:a.length=b.length:=by have:=Ko k1;omega
 intros;refine gN ?_;intros;try refine dx ?_
 intros;try refine dx ?_
 intros;refine gR 0 0 c168r3.eq_1 ?_;intros;refine dy ?_;refine dV (fun e h=>∃ k:Nat,(k≤a.length∧a.take k=b.take k)∧e 17=.int .i64 k∧e 16=.int .i64 a.length∧e 15=.slice A a.length c∧e 1=.slice B b.length d∧e 2=.func (.func 169) #[] #[]∧h=⟨G,[],[]⟩) (fun e h=>a.length - iv (e 17)) ?_ ?_
 ·exact⟨0,⟨Nat.zero_le _,rfl⟩,eE,eE,eE,eE,eE,rfl⟩
 rintro e h ⟨k,⟨hk,heq⟩,e17,e16,e15,e1,e2,rfl⟩;refine dC [1,2,15,16,17] ?_;refine sJ5 @e1 @e2 @e15 @e16 @e17 ?_;intros;refine gR 0 0 c168r4.eq_1 ?_;intros;refine gC ?_;refine gb (fun ht=>?_) (fun ht=>?_)
 ·have ht:k < a.length:=by have:=Kn ht;omega
  have hw:=fi k c (by omega) hmx;obtain⟨x,hx⟩:∃ s,a[k]?=some s:=⟨a[k],getElem?_eq_getElem (by omega)⟩;obtain⟨y,hy⟩:∃ s,b[k]?=some s:=⟨b[k],getElem?_eq_getElem (by omega)⟩;intros;refine gN ?_;intros;try refine dx ?_
  intros;refine gR 19 22 c168r5.eq_1 ?_;refine hA.x_ld hx rfl rfl ?_;rintro a1 ha1 cs hbx;have hbx0:=hbx;obtain⟨B1,d1,rfl,-⟩:=hbx;unfold eP at hbx0 ⊢;refine sI ?_;intros;try refine dx ?_
  intros;refine gR 22 26 c168r6.eq_1 ?_;refine hB.x_ld hy (by omega) rfl ?_;rintro a2 ha2 cs hby;have hby0:=hby;obtain⟨B2,d2,rfl,-⟩:=hby;unfold eP at hby0 ⊢;refine sI ?_;intros;try refine dx ?_
  intros;refine gR 26 30 c168r7.eq_1 ?_;refine .inl ⟨169,#[],rfl,?_⟩;refine fK (BD x y _ _ G hbx0 hby0 _ _) ?_;intros;refine gC ?_;refine gb (fun k2=>?_) (fun k2=>?_)
  ·have k2:¬ x=y:=by simpa using k2
   intros;refine gR 0 0 c168r8.eq_1 ?_;intros;refine rW ?_;rw[decide_eq_false fun h=>k2 (by rw[h,hy]at hx;cases hx;rfl)]
  ·have k2:x=y:=by simpa using k2
   subst k2;intros;refine gN ?_;refine dA (dE Km) ?_;intros;refine gR2 31 32 c168r9.eq_1 @hw ?_;intros;refine dy ?_;refine ej ⟨⟨k+1,⟨by omega,by rw[eo hx,eo hy,heq]⟩,eE,eE,eE,eE,eE,rfl⟩,?_⟩;refine sI ?_;omega
 ·have ht:k=a.length:=by have:=Ko ht;omega
  subst ht;rw[take_length,k1,take_length]at heq;refine dS ?_;refine sI ?_;intros;refine gR 0 0 c168r10.eq_1 ?_;intros;refine rW ?_;rw[decide_eq_true heq]
theorem wt{l:Lg}{to:Int}(h:smL l.segs)(hm:l.segs.length≤1000):smL (j5 l to).1.segs∧(j5 l to).1.segs.length≤1000:=by
 have h0:smL gy.segs∧gy.segs.length≤1000:=⟨fun s hs=>absurd hs (by simp[gy]),by simp[gy]⟩;unfold j5;split
 ·split
  ·show smL (nQ l.segs to)∧(nQ l.segs to).length≤1000;unfold nQ;split
   ·exact⟨fun s hs=>by simp at hs;subst hs;simp,by simp⟩
   ·refine⟨fun s hs=>?_,by have:=py l.segs to;omega⟩;obtain⟨t,ht,rfl⟩:=List.mem_map.1 hs;have:=h t (List.mem_filter.1 ht).1;simp only[pE,List.length_take];omega
  ·exact h0
 ·exact h0
def LgB(q:Lg × Bool)(G:J5)(r:Value):Prop:=∃ cs,r=.tuple #[.agg cs.toArray,.bool q.2]∧LE G q.1 cs
theorem rF(l lead:Lg)(to:Int)(cs ds:J6)(G:J5)(hl:LE G l cs)(hd:LE G lead ds)(hb:smL l.segs)(hm:l.segs.length≤1000)(hb2:smL lead.segs)(hto:I64 to):
  FnD Tryz.prog 135 #[.agg cs.toArray,.agg ds.toArray,.int .i64 to] G (LgB (eS l lead to)):=by
 have htru:=sb l to cs G hl hb hm hto;have hsm:=wt (to:=to) hb hm;have hd0:=hd;obtain⟨A,c,rfl,-⟩:=hl;obtain⟨B,d,rfl,-⟩:=hd;have hcaught:eS l lead to=if (j5 l to).2≠0∨(gz lead).length < (gz (j5 l to).1).length∨gz (j5 l to).1≠(gz lead).take (gz (j5 l to).1).length then((j5 l to).1,false)else iQ (j5 l to).1 ((gz lead).drop (gz (j5 l to).1).length):=rfl
 refine F135.fnD (by simp) (dI ?_);unfold c135;unfold es at htru hd0 ⊢;intros;refine gR 0 0 c135r0.eq_1 ?_;intros;try refine dx ?_
 intros;refine gR 13 19 c135r1.eq_1 ?_;refine(htru _ _).mono ?_;rintro r h' ⟨G1,rfl,hg1,cs1,rfl,hle⟩;generalize j5 l to=tr at *;obtain⟨l1,e1⟩:=tr;dsimp only at hle hcaught hsm;have hle0:=hle;obtain⟨A1,c1,rfl,-⟩:=hle;have hall1:=sY l1 _ G1 hle0 hsm.1;unfold es at hall1 hle0 ⊢;refine sI ?_;intros;try refine dx ?_
 intros;refine dy ?_;refine nP _ Kl (by decide) ?_;refine sJ c135r2.eq_1 ?_;refine(hall1 _ _).mono ?_;rintro r h' ⟨G2,rfl,hg2,hv1⟩;refine⟨j9 hg2,?_⟩;refine sI ?_;refine(sY lead _ G2 (LE.le (hg1.trans hg2) hd0) hb2 _ _).mono ?_;rintro r2 h' ⟨G3,rfl,hg3,hv2⟩;refine⟨j9 (hg2.trans hg3),?_⟩;refine sI ?_;have hv1:SlV G3 (BE G3) 10 r (gz l1):=hv1.le hg3 fun _ _ h=>BE.le hg3 h
 generalize gz l1=mine at *;generalize gz lead=all at *;obtain⟨A4,c4,rfl,q1,q2,q3⟩:=hv1;obtain⟨A5,c5,rfl,q4,q5,q6⟩:=hv2;have hv1:SlV G3 (BE G3) 10 (.slice A4 mine.length c4) mine:=⟨A4,c4,rfl,q1,q2,q3⟩;have hv2:SlV G3 (BE G3) 10 (.slice A5 all.length c5) all:=⟨A5,c5,rfl,q4,q5,q6⟩
 have hno:(e1≠0∨all.length < mine.length∨mine≠all.take mine.length)→∀ (fr:Kc) (e:Env),go none Tryz.prog 62 v135.1 v135.2 (gl o135 fun v h=>LgB (eS l lead to) h.G v) (Td.s ((SC.reg false c135r4).seq .ret) :: fr) e ⟨G3,[.reg 6 [.int .i64 0,.int .i64 0,.slice none 0 0],.reg 4 [.int .i64 lead.limit,.int .i64 lead.start,.slice B lead.segs.length d],.reg 3 [.int .i64 l1.limit,.int .i64 l1.start,.slice A1 l1.segs.length c1]],[]⟩:=fun hn fr e=>by
  intros;refine gR 41 42 c135r4.eq_1 ?_;intros;refine dG (jS rfl ?_);rw[hcaught,if_pos hn];exact⟨_,rfl,LE.le (hg2.trans hg3) hle0⟩
 intros;try refine dx ?_
 intros;try refine dx ?_
 intros;refine gR 23 40 c135r3.eq_1 ?_;refine gd (fun k1=>?_) (fun k1=>?_)
 ·have k1:=Kn k1;refine sI ?_;intros;refine gC ?_;exact hno (.inl k1) _ _
 have k1:e1=0:=by simpa using k1
 refine sI ?_;refine gd (fun k2=>?_) (fun k2=>?_)
 ·have k2:=Kn k2;refine sI ?_;intros;refine gC ?_;exact hno (.inr (.inl (by omega))) _ _
 have k2:mine.length≤all.length:=by have:=Ko k2;omega
 have htl:(all.take mine.length).length=mine.length:=by rw[List.length_take];omega
 have hpre:=SlV.pre mine.length hv2 k2;have heq:=xC mine (all.take mine.length) _ _ G3 hv1 hpre;refine sI ?_;refine⟨by omega,?_⟩;refine sI ?_;refine fK (heq _ _) ?_;intros;refine gC ?_;refine gb (fun k3=>?_) (fun k3=>?_)
 ·have k3:¬ mine=all.take mine.length:=by simpa using k3
  exact hno (.inr (.inr k3)) _ _
 have k3:mine=all.take mine.length:=by simpa using k3
 have hc2:eS l lead to=iQ l1 (all.drop mine.length):=by
  rw[hcaught,if_neg];rintro(h | h | h)
  ·exact h k1
  ·omega
  ·exact h k3
 rw[hc2];clear hno hcaught heq hc2;intros;refine gN ?_;intros;try refine dx ?_
 intros;refine gR 42 45 c135r5.eq_1 ?_;refine AD mine.length all.length c5 hv2 rfl rfl rfl (by omega) fun B5 hB5=>?_
 rw[take_length]at hB5 ⊢;generalize all.drop mine.length=rest at *;obtain⟨A6,c6,he6,q7,q8,hA6⟩:=hB5;cases he6;have hgt:=hg2.trans hg3;have hle1:=LE.le hgt hle0;refine sI ?_;intros;refine dy ?_
 refine dV (fun e h=>∃ (k:Nat) (cur:Lg) (G':J5) (A':Ka) (c':Nat),(k≤rest.length∧Gle G3 G'∧LE G' cur (es cur A' c')∧smL cur.segs∧cur.segs.length≤1000∧iQ l1 rest=iQ cur (rest.drop k))∧e 47=.int .i64 k∧e 46=.int .i64 rest.length∧e 45=.slice B5 rest.length (c5 - mine.length)∧h=⟨G',[.reg 6 [.int .i64 0,.int .i64 0,.slice none 0 0],.reg 4 [.int .i64 lead.limit,.int .i64 lead.start,.slice B lead.segs.length d],.reg 3 (es cur A' c')],[]⟩) (fun e h=>rest.length - iv (e 47)) ?_ ?_
 ·exact⟨0,l1,G3,A1,c1,⟨Nat.zero_le _,.refl _,hle1,hsm.1,hsm.2,rfl⟩,eE,eE,eE,rfl⟩
 rintro e h ⟨k,cur,G',A',c',⟨hk,hg',hlc,hs1,hs2,hap⟩,e47,e46,e45,rfl⟩;refine dC [45,46,47] ?_;refine sJ3 @e45 @e46 @e47 ?_;unfold es at hlc ⊢;intros;refine gR 0 0 c135r6.eq_1 ?_;intros;refine gC ?_;refine gb (fun ht=>?_) (fun ht=>?_)
 ·have ht:k < rest.length:=by have:=Kn ht;omega
  have hw:=fi k _ (by omega) q8;obtain⟨x,hx⟩:∃ s,rest[k]?=some s:=⟨rest[k],getElem?_eq_getElem (by omega)⟩;have hdr:rest.drop k=x :: rest.drop (k+1):=by
   rw[List.drop_eq_getElem_cons ht];congr 1;exact(List.getElem?_eq_some_iff.1 hx).2
  rw[hdr,iQ]at hap;have hA':=hA6.le (E':=BE G') hg' fun _ _ h=>BE.le hg' h
  intros;refine gN ?_;intros;try refine dx ?_
  intros;refine gR 49 51 c135r7.eq_1 ?_;refine hA'.x_ld hx rfl rfl ?_;rintro a1 ha1 cs hbx;have hbx0:=hbx;obtain⟨B1,d1,rfl,-⟩:=hbx;unfold eP at hbx0 ⊢;have hca:=ov cur x _ _ G' hlc hs1 hs2 hbx0;have hapo:=g0 (l:=cur) (b:=x);generalize gJ cur x=ax at *;obtain⟨cur2,e2⟩:=ax;dsimp only at hap hapo;refine sI ?_;intros;try refine dx ?_
  intros;refine gR 51 57 c135r8.eq_1 ?_;refine(hca _ _).mono ?_;rintro v h' ⟨G4,rfl,hg4,cs7,rfl,hle7⟩;dsimp only at hle7;have hle70:=hle7;obtain⟨A7,c7,rfl,-⟩:=hle7;unfold es at hle70 ⊢;refine sI ?_;intros;try refine dx ?_
  intros;refine gR 57 58 c135r9.eq_1 ?_;intros;refine gC ?_;refine gb (fun k4=>?_) (fun k4=>?_)
  ·have k4:=Kn k4;rw[if_neg k4]at hap;intros;refine gR 59 60 c135r10.eq_1 ?_;intros;refine dG (jS rfl ?_);rw[hap];exact⟨_,rfl,hle70⟩
  ·have k4:e2=0:=by simpa using k4
   rw[if_pos k4]at hap;have hck:=(hapo k4).2.2.1;intros;refine gN ?_;refine dA (dE (L':=[.reg 6 [.int .i64 0,.int .i64 0,.slice none 0 0],.reg 4 [.int .i64 lead.limit,.int .i64 lead.start,.slice B lead.segs.length d],.reg 3 [.int .i64 cur2.limit,.int .i64 cur2.start,.slice A7 cur2.segs.length c7]]) (.cons _ Kl)) ?_;intros;refine gR2 60 61 c135r11.eq_1 @hw ?_;intros;refine dy ?_
   refine ej ⟨⟨k+1,cur2,G4,A7,c7,⟨by omega,hg'.trans hg4,hle70,qp hck,by have:=(fB hck).2.2.2;omega,hap⟩,eE,eE,eE,rfl⟩,?_⟩;refine sI ?_;omega
 ·have ht:k=rest.length:=by have:=Ko ht;omega
  subst ht;rw[List.drop_length,iQ]at hap;refine dS ?_;refine sI ?_;intros;refine gR 61 62 c135r12.eq_1 ?_;intros;refine rW ?_;rw[hap];exact⟨_,rfl,hlc⟩
theorem F82:Fun Tryz.prog 82 67 v82 c82 o82:=Fun.mkA Tryz.func82 Tryz.ntmps82
theorem Bs{l:List Ep}(h:gK l=0){i:Nat}{en:Int}(he:0≤en∧en≤1099511627777):0≤wv l i en∧wv l i en≤1099511627777:=by
 unfold wv;cases hy:l[i+1]? with
 | none=>simpa using he
 | some y =>
  have:=mZ h hy;simp[okE]at this ⊢;omega
theorem DI{a b:List Ep}{ae be m:Int}(h:l7 a b ae be m)(h1:0≤ae∧ae≤1099511627777)(h2:0≤be∧be≤1099511627777):0≤m∧m≤1099511627777:=by
 rcases h with⟨-,rfl⟩ | ⟨ha,hb,⟨-,rfl⟩ | ⟨i,x,k,y,-,-,-,-,rfl⟩⟩
 ·omega
 ·omega
 ·have:=Bs ha (i:=i) h1;have:=Bs hb (i:=k) h2;omega
theorem DM(r lead:Rp):0≤jC r lead∧jC r lead≤1099511627777:=by
 unfold jC lX;split
 ·rename_i h;exact DI (Classical.choose_spec h) (iI _) (iI _)
 ·omega
theorem wJ(l:List Rp)(k:Nat)(r lead:Rp)(ga d:Nat)(zs ds:J6)(G:J5)(hz:Cells (RE G) 7 l zs)(hr:l[k]?=some r)(hd:RE G lead ds)(hsr:smR r)(hsl:smR lead):
  FnO Tryz.prog 82 #[.pointer (some ⟨ga,k * 7,none⟩),.agg ds.toArray] G [.row (.slice (some ⟨ga,0,none⟩) l.length d) 50 7 l.length zs] (fun G' L' v=>v=.tuple #[]∧∃ zs',L'=[.row (.slice (some ⟨ga,0,none⟩) l.length d) 50 7 l.length zs']∧Cells (RE G') 7 (l.set k (dJ r lead)) zs'):=by
 have hzl:=hz.len;have hkl:=(List.getElem?_eq_some_iff.1 hr).1;obtain⟨cs,hre,hcl,hld⟩:=hz.get hr;have hre0:=hre;have hd0:=hd;have hendr:=jl r cs G hre hsr.1 (by have:=hsr.2.1;omega);have hendl:=jl lead ds G hd hsl.1 (by have:=hsl.2.1;omega);obtain⟨A1,c1,B1,d1,rfl,q1,q2,q3,q4⟩:=hre;obtain⟨A2,c2,B2,d2,rfl,p1,p2,p3,p4⟩:=hd
 have hmeet:=Bd r.eps lead.eps (ec r.log) (ec lead.log) _ _ G q2 p2 (by have:=hsr.2.2;omega) (by have:=hsl.2.2;omega);have hmp:jC r lead=lX r.eps lead.eps (ec r.log) (ec lead.log):=rfl;refine F82.fnO (by simp) (dz dw) (dI ?_);unfold c82;unfold fF at hendr hendl hd0 ⊢;intros;refine gR 0 0 c82r0.eq_1 ?_;intros;try refine dx ?_
 intros;refine dy ?_;refine nP _ Kl (by decide) ?_;refine sJ c82r1.eq_1 ?_;refine⟨_,eV (.tail _ (.head _)) (hld 5 _ rfl),?_⟩;refine sI ?_;refine⟨_,gT (.tail _ (.head _)) hcl hld,?_⟩;unfold fF;refine sI ?_;refine fK (hendr _ _) ?_;refine fK (hendl _ _) ?_;refine fK (hmeet _ _) ?_;rw[← hmp];have hei:=iI r.log;have hto:I64 (min (jC r lead) (ec r.log)):=by
  have:=DM r lead;unfold I64;omega
 have hfo:(dJ r lead).log=if r.log.start=lead.log.start∧r.log.start≤jC r lead∧(eS r.log lead.log (min (jC r lead) (ec r.log))).2=true then(eS r.log lead.log (min (jC r lead) (ec r.log))).1 else lead.log:=rfl
 have hle1:LE G r.log (es r.log A1 c1):=⟨A1,c1,rfl,q1,q3⟩;have hle2:LE G lead.log (es lead.log A2 c2):=⟨A2,c2,rfl,p1,p3⟩;have hcau:=rF r.log lead.log _ _ _ G hle1 hle2 hsr.1 hsr.2.1 hsl.1 hto;have hldl:=vw hld;unfold es at hcau hldl;generalize hcm:jC r lead=m at *;generalize eS r.log lead.log (min m (ec r.log))=cau at *;obtain⟨cl,cb⟩:=cau;dsimp only at hfo;intros;try refine dx ?_
 intros;refine gR 22 23 c82r2.eq_1 ?_;intros;try refine dx ?_
 refine ez (fun e h=>∃ (G':J5) (lg:Lg) (b:Bool) (A5:Ka) (c5:Nat),(Gle G G'∧LE G' lg (es lg A5 c5)∧(dJ r lead).log=if b=true then lg else lead.log)∧e 0=.pointer (some ⟨ga,k * 7,none⟩)∧e 6=.bool b∧h=⟨G',[.reg 5 (es lg A5 c5),.reg 3 [.int .i64 lead.id,.bool lead.up,.int .i64 lead.log.limit,.int .i64 lead.log.start,.slice A2 lead.log.segs.length c2,.slice B2 lead.eps.length d2,.int .i64 lead.high],.row (.slice (some ⟨ga,0,none⟩) l.length d) 50 7 l.length zs],[]⟩) ?_ ?_
 ·intros;try refine dx ?_
  intros;refine gR 23 28 c82r3.eq_1 ?_;refine⟨_,eV (.tail _ (.tail _ (.head _))) (hld 3 _ rfl),?_⟩;refine sI ?_;have hfin:¬ (r.log.start=lead.log.start∧r.log.start≤m)→(dJ r lead).log=lead.log:=fun h=>by rw[hfo,if_neg fun h2=>h ⟨h2.1,h2.2.1⟩]
  intros;try refine dx ?_
  intros;refine gR 28 37 c82r4.eq_1 ?_;refine gdD (fun k1=>?_) (fun k1=>?_)
  ·refine sI ?_;intros;refine gC ?_;refine gb (fun k2=>?_) (fun k2=>?_)
   ·have k2:r.log.start≤m:=Kn k2;intros;refine dy ?_;refine qY _ Kl (by decide) ?_;refine sJ c82r5.eq_1 ?_;refine⟨_,gT (.tail _ (.tail _ (.head _))) rfl hldl,?_⟩;refine sI ?_;refine⟨_,gT (.tail _ (.tail _ (.head _))) hcl hld,?_⟩;unfold fF;refine sI ?_;refine fK (hendr _ _) ?_;refine(hcau _ _).mono ?_;rintro v h' ⟨G1,rfl,hg1,cs7,rfl,hle7⟩;dsimp only at hle7;have hle70:=hle7
    obtain⟨A7,c7,rfl,-⟩:=hle7;unfold es;refine sI ?_;refine fX ?_;refine sI ?_;refine fX ?_;refine sI ?_;refine ej ⟨G1,cl,cb,A7,c7,⟨hg1,hle70,?_⟩,eE,eE,rfl⟩;rw[hfo];cases cb
    ·rw[if_neg (by simp),if_neg (by simp)]
    ·rw[if_pos ⟨k1,k2,rfl⟩,if_pos rfl]
   ·have k2:¬ r.log.start≤m:=Ko k2;intros;refine gN ?_;exact ej ⟨G,lead.log,false,A2,c2,⟨.refl _,hle2,by rw[hfin fun h=>k2 h.2];rfl⟩,eE,eE,rfl⟩
  ·refine sI ?_;intros;refine gC ?_;intros;refine gN ?_;exact ej ⟨G,lead.log,false,A2,c2,⟨.refl _,hle2,by rw[hfin fun h=>k1 h.1];rfl⟩,eE,eE,rfl⟩
 rintro e h ⟨G1,lg,b,A5,c5,⟨hg1,hlg,hlog⟩,e0,e6,rfl⟩;refine dC [0,6] ?_;refine sJ2 @e0 @e6 ?_;intros;try refine dx ?_
 refine ez (fun e h=>∃ (A8:Ka) (c8:Nat),LE G1 (dJ r lead).log (es (dJ r lead).log A8 c8)∧e 0=.pointer (some ⟨ga,k * 7,none⟩)∧h=⟨G1,[.reg 5 (es (dJ r lead).log A8 c8),.reg 3 [.int .i64 lead.id,.bool lead.up,.int .i64 lead.log.limit,.int .i64 lead.log.start,.slice A2 lead.log.segs.length c2,.slice B2 lead.eps.length d2,.int .i64 lead.high],.row (.slice (some ⟨ga,0,none⟩) l.length d) 50 7 l.length zs],[]⟩) ?_ ?_
 ·intros;try refine dx ?_
  intros;refine gR 54 55 c82r6.eq_1 ?_;intros;refine gC ?_;refine gb (fun k1=>?_) (fun k1=>?_)
  ·have k1:b=false:=by simpa using k1
   rw[if_neg (by rw[k1];simp)]at hlog;rw[hlog];unfold es;intros;refine gR 57 58 c82r7.eq_1 ?_;intros;refine gN ?_;exact ej ⟨A2,c2,LE.le hg1 hle2,eE,rfl⟩
  ·have k1:b=true:=by simpa using k1
   rw[if_pos k1]at hlog;rw[hlog];intros;refine gN ?_;exact ej ⟨A5,c5,hlg,eE,rfl⟩
 rintro e h ⟨A8,c8,hle8,e0,rfl⟩;refine dC [0] ?_;refine sJ @e0 ?_;have hz1:Cells (RE G1) 7 (l.set k { r with log:=(dJ r lead).log }) (splice zs (k * 7+2) (es (dJ r lead).log A8 c8)) :=
  Cells.setF (E:=RE G1) (x':={ r with log:=(dJ r lead).log }) (eN hz fun _ _ h=>RE.le hg1 h) hr (by simp[es]) fun cs h hl=>by
   obtain⟨A6,c6,B6,d6,rfl,q1,q2,q3,q4⟩:=h;obtain⟨A9,c9,he9,h1,h2⟩:=hle8;unfold es at he9;cases he9;exact⟨A8,c8,B6,d6,rfl,h1,q2,h2,q4⟩
 have hz2:Cells (RE G1) 7 (l.set k (dJ r lead)) (splice (splice zs (k * 7+2) (es (dJ r lead).log A8 c8)) (k * 7+5) [.slice B2 lead.eps.length d2]):=by
  have:=Cells.setF (E:=RE G1) (o:=5) (us:=[.slice B2 lead.eps.length d2]) (x':=dJ r lead) hz1 (hU hr) (by simp) fun cs h hl=>by
   obtain⟨A6,c6,B6,d6,rfl,q1,q2,q3,q4⟩:=h;exact⟨A6,c6,B2,d2,rfl,q1,p2.le hg1 Kp,q3,q4⟩
  rwa [List.set_set]at this
 unfold es at hz2 ⊢;intros;intros;refine dy ?_;refine qY _ (.cons_cons _ (.cons_cons _ Km)) (by decide) ?_;refine sJ c82r8.eq_1 ?_;refine fQ [_,_] [] rfl (by simp;omega) ⟨rfl,rfl⟩ ?_;refine sI ?_;refine⟨⟨Kp,.cons_cons _ (.cons_cons _ Km),rfl⟩,?_⟩;refine fQ [_,_] [] rfl (by simp[splice];omega) ⟨rfl,rfl⟩ ?_;refine sI ?_
 exact fU ⟨[],rfl,⟨G1,[.row (.slice (some ⟨ga,0,none⟩) l.length d) 50 7 l.length _],[]⟩,dE (.cons _ (.cons _ Kl)),dz dw,rfl,_,rfl,hz2⟩
theorem F170:Fun Tryz.prog 170 6 v170 c170 o170:=Fun.mkA Tryz.func170 Tryz.ntmps170
theorem F137:Fun Tryz.prog 137 6 v137 c137 o137:=Fun.mkA Tryz.func137 Tryz.ntmps137
theorem F136:Fun Tryz.prog 136 17 v136 c136 o136:=Fun.mkA Tryz.func136 Tryz.ntmps136
theorem F83:Fun Tryz.prog 83 54 v83 c83 o83:=Fun.mkA Tryz.func83 Tryz.ntmps83
theorem yN(n:Int)(G:J5):FnS Tryz.prog 170 #[.int .i64 n] G (.bool false):=by
 have hd:decide (n≠n)=false:=by simp
 refine F170.fnS (by simp) (dI ?_);unfold c170;intros;refine gR 0 0 c170r0.eq_1 ?_;intros;refine gR2 3 6 c170r1.eq_1 @hd ?_;intros;refine rV ?_;simp only[push_cast,Nat.reduceBEq]
theorem xp(n:Int)(G:J5):FnS Tryz.prog 137 #[.int .i64 n] G (.bool false):=by
 have hd:decide (n≠n)=false:=by simp
 refine F137.fnS (by simp) (dI ?_);unfold c137;intros;refine gR 0 0 c137r0.eq_1 ?_;intros;refine gR2 3 6 c137r1.eq_1 @hd ?_;intros;refine rV ?_;simp only[push_cast,Nat.reduceBEq]
theorem Cu(a b:Int)(G:J5):FnS Tryz.prog 136 #[.int .i64 a,.int .i64 b] G (.bool (decide (a < b))):=by
 refine F136.fnS (by simp) (dI ?_);unfold c136;intros;refine gR 0 0 c136r0.eq_1 ?_;intros;refine gR 5 17 c136r1.eq_1 ?_;refine fK (yN _ _ _ _) ?_;intros;refine rV ?_;simp only[push_cast,Nat.reduceBEq]
theorem sq(l:Ki)(n:Int)(v:Value)(G:J5)(hl:SlV G IE 1 v l)(hs:l.Pairwise (· < ·)):
  FnE Tryz.prog 83 #[v,.int .i64 n] G (fun r=>∃ j:Nat,r=.tuple #[.int .i64 j,.bool (decide (n∈l))]∧j≤l.length∧∀ t y,l[t]?=some y→(t < j→y < n)∧(j≤t→n≤y)):=by
 obtain⟨A,c,rfl,hc,hmx,hA⟩:=hl;have hmono:∀ (i k:Nat) (x y:Int),i < k→l[i]?=some x→l[k]?=some y→x < y:=fun i k x y hik hx hy=>by
  obtain⟨g1,e1⟩:=List.getElem?_eq_some_iff.1 hx;obtain⟨g2,e2⟩:=List.getElem?_eq_some_iff.1 hy;rw[List.pairwise_iff_getElem]at hs;rw[← e1,← e2];exact hs i k g1 g2 hik
 refine F83.fnE (by simp) (dI ?_);unfold c83;intros;refine gR 0 0 c83r0.eq_1 ?_;intros;refine gR 10 12 c83r1.eq_1 ?_;intros;refine gR 12 13 c83r2.eq_1 ?_;intros;refine dy ?_
 refine dV (fun e h=>∃ i j:Nat,(i≤j∧j≤l.length)∧(∀ t y,l[t]?=some y→(t < i→y < n)∧(j≤t→n≤y))∧e 7=.int .i64 i∧e 8=.int .i64 j∧e 6=.int .i64 l.length∧e 0=.slice A l.length c∧e 1=.int .i64 n∧h=⟨G,[],[]⟩) (fun e h=>iv (e 8) - iv (e 7)) ?_ ?_
 ·exact⟨0,l.length,⟨by omega,by omega⟩,fun t y hy=>⟨fun h=>absurd h (by omega),fun h=>by have:=(List.getElem?_eq_some_iff.1 hy).1;omega⟩,eE,eE,eE,eE,eE,rfl⟩
 rintro e h ⟨i,j,⟨hij,hjn⟩,hat,e7,e8,e6,e0,e1,rfl⟩;refine dC [0,1,6,7,8] ?_;refine sJ5 @e0 @e1 @e6 @e7 @e8 ?_;intros;refine gR 13 15 c83r3.eq_1 ?_;intros;refine gC ?_;refine gb (fun ht=>?_) (fun ht=>?_)
 ·have hlt:i < j:=by simpa using ht
  unfold maxLen at hmx;obtain⟨m,hm1,hm2,hh,hv⟩:∃ m:Nat,i≤m∧m < j∧ff .shr (.int .u64 (IntKind.u64.wrap (IntKind.i64.wrap ((i:Int)+j)))) (.int .u64 1)=some (.int .u64 (m:Int))∧IntKind.i64.wrap (m:Int)=m :=
   ⟨(i+j) / 2,by omega,by omega,Gy i j (by omega),cvh i j (by omega)⟩
  obtain⟨x,hx⟩:∃ x,l[m]?=some x:=⟨l[m],getElem?_eq_getElem (by omega)⟩;intros;refine gN ?_;intros;refine gr 16 22 ?_;refine sJ3 c83r4.eq_1 @hh @hv ?_;intros;refine gR 22 27 c83r5.eq_1 ?_;refine hA.x_l1 hx rfl rfl ?_;rintro a1 ha1 u1 ⟨hu,-⟩;cases hu;refine sI ?_;refine fK (Cu x n _ _ _) ?_;intros;refine gC ?_;refine gbD (fun h3=>?_) (fun h3=>?_)
  ·have hw:IntKind.i64.wrap ((m:Int)+1)=(m:Int)+1:=by rw[dX] <;> omega
   intros;refine gR2 28 30 c83r6.eq_1 @hw ?_;intros;refine dy ?_;refine ej ⟨⟨m+1,j,⟨by omega,by omega⟩,fun t y hy=>⟨fun h=>?_,(hat t y hy).2⟩,(eJ @hw),eE,eE,eE,eE,rfl⟩,?_⟩
   ·by_cases htm:t=m
    ·subst htm;rw[hx]at hy;cases hy;exact h3
    ·have:=hmono t m y x (by omega) hy hx;omega
   refine sJ @hw ?_;omega
  ·intros;refine gR 30 31 c83r7.eq_1 ?_;intros;refine dy ?_;refine ej ⟨⟨i,m,⟨by omega,by omega⟩,fun t y hy=>⟨(hat t y hy).1,fun h=>?_⟩,eE,eE,eE,eE,eE,rfl⟩,?_⟩
   ·by_cases htm:t=m
    ·subst htm;rw[hx]at hy;cases hy;omega
    ·have:=hmono m t x y (by omega) hx hy;omega
   refine sI ?_;omega
 ·have hij':i=j:=by simp at ht;omega
  subst hij';have hmem:n∈l↔l[i]?=some n:=by
   constructor
   ·intro h;obtain⟨t,ht⟩:=List.getElem?_of_mem h;have:=hat t n ht;have h1:i≤t:=by
     by_cases h:t < i
     ·have:=this.1 h;omega
     ·omega
    by_cases hti:t=i
    ·rw[← hti];exact ht
    ·have hl:=(List.getElem?_eq_some_iff.1 ht).1;obtain⟨y,hy⟩:∃ y,l[i]?=some y:=⟨l[i],getElem?_eq_getElem (by omega)⟩;have h2:=(hat i y hy).2 (Nat.le_refl _);have h3:=hmono i t y n (by omega) hy ht;omega
   ·exact fun h=>mem_of_getElem? h
  refine dS ?_;refine sI ?_;intros;refine gR 31 54 c83r8.eq_1 ?_;refine gd (fun ht=>?_) (fun ht=>?_)
  ·have hlt:i < l.length:=by simpa using ht
   obtain⟨x,hx⟩:∃ x,l[i]?=some x:=⟨l[i],getElem?_eq_getElem (by omega)⟩;have hdm:decide (n∈l)=decide (x=n):=decide_eq_decide.2 (by rw[hmem,hx];simp);refine sI ?_;refine hA.x_l1 hx rfl rfl ?_;rintro a1 ha1 u1 ⟨hu,-⟩;cases hu;refine sI ?_;refine gd (fun k1=>?_) (fun k1=>?_)
   ·have k1':=Kn k1;refine sI ?_;intros;refine rW ?_;exact⟨i,by rw[hdm,k1],hjn,hat⟩
   ·refine sI ?_;refine hA.x_l1 hx rfl rfl ?_;rintro a1 ha1 u1 ⟨hu,-⟩;cases hu;refine sI ?_;refine fK (xp _ _ _ _) ?_;intros;refine rW ?_;exact⟨i,by rw[hdm,k1],hjn,hat⟩
  ·have hlt:i=l.length:=by have:=Ko ht;omega
   refine sI ?_;intros;refine rW ?_;have hnm:decide (n∈l)=false:=decide_eq_false (by rw[hmem,List.getElem?_eq_none (by omega)];simp);exact⟨i,by rw[hnm],hjn,hat⟩
theorem F33:Fun Tryz.prog 33 12 v33 c33 o33:=Fun.mkA Tryz.func33 Tryz.ntmps33
theorem F81:Fun Tryz.prog 81 104 v81 c81 o81:=Fun.mkA Tryz.func81 Tryz.ntmps81
def E8(P:Program)(f et:Nat):Prop :=
 ∀ (l:Ki) (n:Int) (j:Nat) (A:Ka) (c b:Nat) (ys:J6) (G:J5),l.Pairwise (· < ·)→n∉l→(j≤l.length∧∀ t y,l[t]?=some y→(t < j→y < n)∧(j≤t→n≤y))→l.length≤1000→I64 n→Cells IE 1 l ys →
  FnO P f #[.slice A l.length c,.int .i64 j,.slice (some ⟨b,0,none⟩) 1 1] G [.row (.slice (some ⟨b,0,none⟩) 1 1) et 1 1 [.int .i64 n],.row (.slice A l.length c) et 1 l.length ys] (fun G' L' r=>∃ A' c' ys',r=.slice A' (fj l n).length c'∧Cells IE 1 (fj l n) ys'∧L'=[.row r et 1 (fj l n).length ys'])
theorem nB:∀ {l:Ki} {n:Int},l.Pairwise (· < ·)→n∈l→fj l n=l
 | [],_,_,h=>by cases h
 | m :: l,n,hs,h=>by
  rw[fj];rcases List.mem_cons.1 h with rfl | h
  ·rw[if_neg (by omega),if_pos rfl]
  ·have h1:=(List.pairwise_cons.1 hs).1 n h;rw[if_pos h1,nB (List.pairwise_cons.1 hs).2 h]
theorem lE:∀ {l:Ki} {n m:Int},m∈fj l n→m∈l∨m=n
 | [],n,m,h=>by simp[fj]at h;exact .inr h
 | x :: l,n,m,h=>by
  rw[fj]at h;split at h
  ·rcases List.mem_cons.1 h with rfl | h
   ·exact .inl (.head _)
   ·rcases lE h with h | h
    ·exact .inl (.tail _ h)
    ·exact .inr h
  ·split at h
   ·exact .inl h
   ·rcases List.mem_cons.1 h with rfl | h
    ·exact .inr rfl
    ·exact .inl h
theorem i9{p:Pt}{j:Nat}{y:Rp}(h0:¬ p.leader < 0)(hj:atR p.reps p.leader=some j)(hy:p.reps[j]?=some y):dY p=fV p j { y with high:=max y.high (fe p.reps j y (ec y.log) p.isr) }:=by
 unfold dY;rw[if_neg h0,hj];dsimp only;rw[hy];rfl
theorem po:∀ {l m:List Rp} (n:Int),fE l=fE m→atR l n=atR m n
 | [],[],_,_=>rfl
 | [],y :: m,_,h=>by cases h
 | x :: l,[],_,h=>by cases h
 | x :: l,y :: m,n,h=>by
  simp only[fE,List.map_cons,List.cons.injEq]at h;rw[atR,atR,h.1,po n h.2]
theorem AH(p:Pt)(x:Nat)(A:Ka)(c:Nat)(B:Ka)(d:Nat)(ys zs:J6):
  (PtL p x A c B d ys zs).Perm ([Kx.Item.row (.slice B p.reps.length d) 50 7 p.reps.length zs]++[Kx.Item.blk x (d7 p A c B d),Kx.Item.row (.slice A p.isr.length c) 3 1 p.isr.length ys]):=List.Perm.swap _ _ _
theorem DP(l:Ki)(n:Int)(A:Ka)(c:Nat)(ys:J6)(h:H)(L:J8)(hL:h.L.Perm (.row (.slice A l.length c) 3 1 l.length ys :: L))(hy:Cells IE 1 l ys)(hs:l.Pairwise (· < ·)):
  eh Tryz.prog 83 #[.slice A l.length c,.int .i64 n] h fun r h'=>(∃ j:Nat,r=.tuple #[.int .i64 j,.bool (decide (n∈l))]∧j≤l.length∧∀ t y,l[t]?=some y→(t < j→y < n)∧(j≤t→n≤y))∧h'=h :=
 iY (L1:=[_]) (M:=fun G=>SlV G IE 1 (.slice A l.length c) l) (dz dw) F83.enters hL (jx (M1:=fun G=>SlV G IE 1 (.slice A l.length c) l) (fun L=>kF (by decide) hy) fun G' _ h=>mD h) fun G' hg hp=>sq l n _ G' hp hs L h.D
theorem sA:∀ {bs:Kg} {l:Lg},smL l.segs∧l.segs.length≤1000→smL (iQ l bs).1.segs∧(iQ l bs).1.segs.length≤1000
 | [],l,h=>h
 | b :: bs,l,h=>by
  rw[iQ];split
  ·rename_i h0;have hc:=(g0 h0).2.2.1;exact sA ⟨qp hc,by have:=(fB hc).2.2.2;omega⟩
  ·rename_i h0;rw[C5 h0];exact⟨fun s hs=>absurd hs (by simp[gy]),by simp[gy]⟩
theorem vm{r lead:Rp}(h1:smR r)(h2:smR lead):smR (dJ r lead):=by
 have hc:∀ to,smL (eS r.log lead.log to).1.segs∧(eS r.log lead.log to).1.segs.length≤1000:=fun to=>by
  have ht:=wt (to:=to) h1.1 h1.2.1;unfold eS;dsimp only;split
  ·exact ht
  ·exact sA ht
 have h3:smL (dJ r lead).log.segs∧(dJ r lead).log.segs.length≤1000:=by
  unfold dJ;dsimp only;split
  ·exact hc _
  ·exact⟨h2.1,h2.2.1⟩
 exact⟨h3.1,h3.2,h2.2.2⟩
theorem zU(p:Pt)(n:Int)(b3 k:Nat)(r:Rp)(G:J5)(hok:okP p)(hsm:smP p)(hI:qZ p)(hn:I64 n)(h3:eZ G ⟨b3,0,none⟩=some (.int .i64 n))(hk:atR p.reps n=some k)(hr:p.reps[k]?=some r)
  (hins:E8 Tryz.prog 84 3∨n∈p.isr∨∀ j lead,atR p.reps p.leader=some j→p.reps[j]?=some lead→ec (dJ r lead).log < lead.high) :
  nN G 81 #[.pointer (some ⟨b3,0,none⟩)] p k (fW n p k r):=by
 intro G1 x A c ga d ys zs hg hy hz;have h3:=dN hg h3;rw[show(#[.pointer (some ⟨x,0,none⟩),.pointer (some ⟨ga,k * 7,none⟩)]++#[.pointer (some ⟨b3,0,none⟩)]:Array Value)=#[.pointer (some ⟨x,0,none⟩),.pointer (some ⟨ga,k * 7,none⟩),.pointer (some ⟨b3,0,none⟩)]from rfl];have hsr:=hsm.1 r (mem_of_getElem? hr);have hkl:=(List.getElem?_eq_some_iff.1 hr).1;have hrn:r.id=n:=by
  obtain⟨r',h1,h2⟩:=g9 hk;rw[hr]at h1;cases h1;exact h2
 obtain⟨cs,hre,hcl,hld⟩:=hz.get hr;obtain⟨A1,c1,B1,d1,rfl,-⟩:=hre;refine F81.fnO (by simp) em (dI ?_);unfold c81;have hno:p.leader < 0∨r.up=false→∀ (fr:Kc) (e:Env) (h:H),go none Tryz.prog 104 v81.1 v81.2 (gl o81 fun v h=>Am (fW n p k r) x (· = []) h.G h.L v) (Td.s ((SC.reg false c81r2).seq .ret) :: fr) e h:=fun h fr e h=>by
  intros;refine gR 0 0 c81r2.eq_1 ?_;intros;refine dG (dL [] rfl Km dw ?_);rw[fW,if_pos ‹_›];exact oP x _ (by decide)
 intros;refine gR 0 0 c81r0.eq_1 ?_;intros;try refine dx ?_
 intros;try refine dx ?_
 intros;refine gR 10 22 c81r1.eq_1 ?_;refine⟨_,dH (cs:=d7 p A c (some ⟨ga,0,none⟩) d) (.head _) rfl,?_⟩;refine sI ?_;refine gdD (fun k1=>?_) (fun k1=>?_)
 ·refine sI ?_;intros;refine gC ?_;exact hno (.inl k1) _ _ _
 refine sI ?_;refine⟨_,eV (.tail _ (.head _)) (hld 1 _ rfl),?_⟩;refine sI ?_;intros;refine gC ?_;refine gb (fun k2=>?_) (fun k2=>?_)
 ·have k2:r.up=false:=by simpa using k2
  exact hno (.inr k2) _ _ _
 have k2:r.up=true:=by simpa using k2
 have k12:¬ (p.leader < 0∨r.up=false):=fun h=>by rcases h with h | h;exact k1 h;rw[k2]at h;cases h
 clear hno;intros;refine gN ?_;intros;try refine dx ?_
 intros;try refine dx ?_
 intros;refine dy ?_;refine uS 23 29 (by decide) ?_;refine sJ c81r3.eq_1 ?_;refine⟨_,⟨_,rfl,.g h3⟩,?_⟩;refine sI ?_;refine⟨_,dH (cs:=d7 p A c (some ⟨ga,0,none⟩) d) (.head _) rfl,?_⟩;refine sI ?_;intros;refine gC ?_;refine gbD (fun k3=>?_) (fun k3=>?_)
 ·intros;refine gR 0 0 c81r4.eq_1 ?_;intros;refine dG (dL _ rfl Kl em ?_);rw[fW,if_neg k12,if_pos k3];exact wF hy hz hI
 obtain⟨j,lead,hj,hl,hli⟩:=lY hok k1;have hjl:=(List.getElem?_eq_some_iff.1 hl).1;have hjk:j≠k:=fun h=>by
  subst h;rw[hr]at hl;cases hl;exact k3 (by rw[← hrn,hli])
 have hpt:uO (some ⟨ga,0,none⟩) (some j)=some ⟨ga,j * 7,none⟩:=congrArg some (gL _ _);intros;refine gN ?_;intros;try refine dx ?_
 intros;refine gR 30 37 c81r5.eq_1 ?_;refine⟨_,dH (cs:=d7 p A c (some ⟨ga,0,none⟩) d) (.head _) rfl,?_⟩;refine sI ?_;refine(sH p x A c (some ⟨ga,0,none⟩) d ys zs p.leader _ [] (by simp) hy hz hI.2.1 (gG hok)).mono ?_;rintro _ _ ⟨rfl,rfl⟩;rw[hj,hpt];refine sI ?_;have hsl:=hsm.1 lead (mem_of_getElem? hl);obtain⟨cs,hle,hcl2,hld2⟩:=hz.get hl
 have hfo:=wJ p.reps k r lead ga d zs cs G1 hz hr hle hsr hsl;obtain⟨A2,c2,B2,d2,rfl,-⟩:=hle;unfold fF at hfo;intros;try refine dx ?_
 intros;refine gR 37 42 c81r6.eq_1 ?_;refine⟨_,gT (.tail _ (.head _)) hcl2 hld2,?_⟩;unfold fF;refine sI ?_;refine eh.ghost (h':=⟨G1,[.row (.slice (some ⟨ga,0,none⟩) p.reps.length d) 50 7 p.reps.length zs]++[.blk x (d7 p A c (some ⟨ga,0,none⟩) d),.row (.slice A p.isr.length c) 3 1 p.isr.length ys],[]⟩) (ee (AH p x A c (some ⟨ga,0,none⟩) d ys zs)) ?_;refine(hfo _ _).mono ?_
 rintro v h' ⟨G2,L',rfl,hg2,rfl,zs1,rfl,hz1⟩;refine sI ?_;intros;refine dA (h':=⟨G2,PtL p x A c (some ⟨ga,0,none⟩) d ys zs1,[]⟩) (ee (AH p x A c (some ⟨ga,0,none⟩) d ys zs1).symm) ?_;have hsf:=vm hsr hsl;have hrf:=hU (y:=dJ r lead) hr;have hlf:(p.reps.set k (dJ r lead))[j]?=some lead:=by rw[List.getElem?_set_ne (Ne.symm hjk)];exact hl
 have hpf:fW n p k r=(fV (dY { p with isr:=if lead.high≤ec (dJ r lead).log then fj p.isr n else p.isr,reps:=p.reps.set k { dJ r lead with high:=min r.high (ec (dJ r lead).log) } }) k
   { dJ r lead with high:=min (max (min r.high (ec (dJ r lead).log)) ((dY { p with isr:=if lead.high≤ec (dJ r lead).log then fj p.isr n else p.isr,reps:=p.reps.set k { dJ r lead with high:=min r.high (ec (dJ r lead).log) } }).reps[j]?.getD lead).high) (ec (dJ r lead).log) },0):=by
  unfold fW;rw[if_neg k12,if_neg k3,hj];dsimp only;rw[hl]
 have hfh:(dJ r lead).high=r.high∧(dJ r lead).id=r.id:=⟨rfl,rfl⟩;have hins:E8 Tryz.prog 84 3∨n∈p.isr∨ec (dJ r lead).log < lead.high:=by
  rcases hins with h | h | h
  ·exact .inl h
  ·exact .inr (.inl h)
  ·exact .inr (.inr (h j lead hj hl))
 rw[hpf];clear hpf hfo;generalize dJ r lead=fr at *;obtain⟨cs,hre,hcl,hld⟩:=hz1.get hrf;have hend:=jl fr cs G2 hre hsf.1 (by have:=hsf.2.1;omega);have hei:=iI fr.log;obtain⟨A1,c1,B1,d1,rfl,-,-,-,-,hfi⟩:=hre;unfold fF at hend;intros;try refine dx ?_
 intros;refine gR 42 46 c81r7.eq_1 ?_;refine⟨_,gT (.tail _ (.head _)) hcl hld,?_⟩;unfold fF;refine sI ?_;refine fK (hend _ _) ?_;generalize ec fr.log=last at *;have hz2:Cells (RE G2) 7 (p.reps.set k { fr with high:=min r.high last }) (splice zs1 (k * 7+6) [.int .i64 (min fr.high last)]):=by
  have:=Cells.setF (E:=RE G2) (o:=6) (us:=[.int .i64 (min fr.high last)]) (x':={ fr with high:=min r.high last }) hz1 hrf (by simp) fun cs h hl=>by
   obtain⟨A5,c5,B5,d5,rfl,q1,q2,q3,q4,q5⟩:=h;refine⟨A5,c5,B5,d5,?_,q1,q2,q3,q4,by unfold I64 at q5 ⊢;rw[hfh.1]at q5;show _≤min r.high last∧min r.high last≤_;omega⟩;rw[hfh.1];rfl
  rwa [List.set_set]at this
 have hzl1:=hz1.len;rw[List.length_set]at hzl1;intros;try refine dx ?_
 intros;refine gR 46 55 c81r8.eq_1 ?_;refine⟨_,eV (.tail _ (.head _)) (hld 6 _ rfl),?_⟩;refine sI ?_;refine fQ [_] _ rfl (by simp;omega) ⟨rfl,rfl⟩ ?_;refine sI ?_;generalize splice zs1 (k * 7+6) [.int .i64 (min fr.high last)]=zs2 at *;have hrj:(p.reps.set k { fr with high:=min r.high last })[j]?=some lead:=by rw[List.getElem?_set_ne (Ne.symm hjk)];exact hl
 obtain⟨cs,hre2,hcl2',hld2'⟩:=hz2.get hrj;obtain⟨A3,c3,B3,d3,rfl,-⟩:=hre2;have hs:=hok.2.1.1.2.2;generalize hiq:(if lead.high≤last then fj p.isr n else p.isr)=isr' at *;intros;try refine dx ?_
 refine ez (fun e h=>∃ (G3:J5) (A3:Ka) (c3:Nat) (ys3:J6) (Lh:J8),(Gle G2 G3∧Cells IE 1 isr' ys3)∧e 0=.pointer (some ⟨x,0,none⟩)∧e 1=.pointer (some ⟨ga,k * 7,none⟩)∧e 6=.pointer (some ⟨ga,j * 7,none⟩)∧e 7=.int .i64 last∧h=⟨G3,Lh,[]⟩∧Lh.Perm (PtL { p with isr:=isr' } x A3 c3 (some ⟨ga,0,none⟩) d ys3 zs2)) ?_ ?_
 ·intros;try refine dx ?_
  intros;refine dy ?_;refine nP _ Kl (by decide) ?_;refine sJ c81r9.eq_1 ?_;refine⟨_,dH (cs:=d7 p A c (some ⟨ga,0,none⟩) d) (.head _) rfl,?_⟩;refine sI ?_;refine⟨_,⟨_,rfl,.g (dN hg2 h3)⟩,?_⟩;refine sI ?_;refine(DP p.isr n A c ys _ _ (List.perm_append_comm (l₁:=[_,_]) (l₂:=[_])) hy hs).mono ?_;rintro _ _ ⟨⟨jj,rfl,hjj,hat⟩,rfl⟩;refine sI ?_;intros;try refine dx ?_
  intros;refine gR 65 74 c81r10.eq_1 ?_;refine⟨_,eV (.tail _ (.head _)) (hld2' 6 _ rfl),?_⟩;refine sI ?_;have hd:decide (last≥lead.high)=decide (lead.high≤last):=rfl;refine gd (fun k4=>?_) (fun k4=>?_)
  ·have k4:lead.high≤last:=Kn k4;rw[if_pos k4]at hiq;refine sI ?_;intros;refine gC ?_;refine gb (fun k5=>?_) (fun k5=>?_)
   ·have k5:n∉p.isr:=by simpa using k5
    have hI:E8 Tryz.prog 84 3:=by
     rcases hins with h | h | h
     ·exact h
     ·exact absurd h k5
     ·omega
    intros;refine dy ?_;refine D5 _ (.cons_cons _ (.cons_cons _ Km)) (by decide) ?_;refine sJ c81r11.eq_1 ?_;refine⟨_,dH (cs:=d7 p A c (some ⟨ga,0,none⟩) d) (.head _) rfl,?_⟩;refine sI ?_;refine⟨_,⟨_,rfl,.g (dN hg2 h3)⟩,?_⟩;refine sI ?_;intro bv hbv;refine⟨dO Kp (.cons _ (.cons_cons _ (.cons_cons _ Km))),?_⟩
    refine eh.ghost (h':=⟨G2,[.row (.slice (some ⟨bv,0,none⟩) 1 1) 3 1 1 [.int .i64 n],.row (.slice A p.isr.length c) 3 1 p.isr.length ys]++[.blk x (d7 p A c (some ⟨ga,0,none⟩) d),.row (.slice (some ⟨ga,0,none⟩) p.reps.length d) 50 7 p.reps.length zs2],[]⟩) (ee (.cons _ (List.perm_append_comm (l₁:=[_,_]) (l₂:=[_])))) ?_
    refine((hI p.isr n jj A c bv ys G2 hs k5 ⟨hjj,hat⟩ (by have:=hsm.2.2;omega) hn hy) _ _).mono ?_;rintro r' h' ⟨G3,L',rfl,hg3,A4,c4,ys4,rfl,hy4,rfl⟩;rw[hiq]at hy4 ⊢;refine⟨dO hg3 (.cons _ (.cons_cons _ (.cons_cons _ Km))),?_⟩;refine sJ c81r12.eq_1 ?_;refine dM [_] _ rfl (by simp[d7]) ⟨rfl,rfl⟩ ?_;refine sI ?_
    exact ej ⟨G3,A4,c4,ys4,_,⟨hg3,hy4⟩,eE,eE,eE,eE,rfl,List.perm_append_comm (l₁:=[_]) (l₂:=[_,_])⟩
   ·have k5:n∈p.isr:=by simpa using k5
    rw[nB hs k5]at hiq;subst hiq;intros;refine gN ?_;exact ej ⟨G2,A,c,ys,_,⟨.refl _,hy⟩,eE,eE,eE,eE,rfl,List.Perm.refl _⟩
  ·have k4:¬ lead.high≤last:=Ko k4;rw[if_neg k4]at hiq;subst hiq;refine sI ?_;intros;refine gC ?_;intros;refine gN ?_;exact ej ⟨G2,A,c,ys,_,⟨.refl _,hy⟩,eE,eE,eE,eE,rfl,List.Perm.refl _⟩
 rintro e h ⟨G3,A3,c3,ys3,Lh,⟨hg3,hy3⟩,e0,e1,e6,e7,rfl,hperm⟩;refine dC [0,1,6,7] ?_;refine sJ4 @e0 @e1 @e6 @e7 ?_;intros;refine dA (ee hperm) ?_;have hid1:fE (p.reps.set k { fr with high:=min r.high last })=fE p.reps:=hZ hr hfh.2;have hz3:=eN hz2 fun _ _ h=>RE.le hg3 h
 have hraise:=lj (fV { p with isr:=isr' } k { fr with high:=min r.high last }) x A3 c3 (some ⟨ga,0,none⟩) d ys3 zs2 G3 hy3 hz3 (nk hr hfh.2 (gG (p:=p) hok))
  (fun m hm=>by
   show m∈fE (p.reps.set k _)
   rw[hid1]
   have hm:m∈isr':=hm
   rw[← hiq]at hm
   split at hm
   ·rcases lE hm with h | rfl
    ·exact hok.2.1.2 m h
    ·exact List.mem_map.2 ⟨r,mem_of_getElem? hr,hrn⟩
   ·exact hok.2.1.2 m hm)
  (qH <| x7 hsm.1 hsf) hI
 rw[mU]at hraise;have hR:=i9 (p:=fV { p with isr:=isr' } k { fr with high:=min r.high last }) k1 ((po (m:=p.reps) _ hid1).trans hj) hrj;have hRs:=eb (fV { p with isr:=isr' } k { fr with high:=min r.high last });have hRi:=ls (p:=fV { p with isr:=isr' } k { fr with high:=min r.high last }) hI;generalize fe _ _ _ _ _=lf at hR
 have hj2:(dY (fV { p with isr:=isr' } k { fr with high:=min r.high last })).reps[j]?=some { lead with high:=max lead.high lf }:=by
  rw[hR];exact hU hrj
 have hk2:(dY (fV { p with isr:=isr' } k { fr with high:=min r.high last })).reps[k]?=some { fr with high:=min r.high last }:=by
  rw[hR];show((p.reps.set k _).set j _)[k]?=_;rw[List.getElem?_set_ne hjk];exact hU hr
 change go _ _ _ _ _ (gl _ fun v h=>Am (fV (dY (fV { p with isr:=isr' } k { fr with high:=min r.high last })) k { fr with high:=min (max (min r.high last) (((dY (fV { p with isr:=isr' } k { fr with high:=min r.high last })).reps[j]?).getD lead).high) last },0) x (· = []) h.G h.L v) _ _ _;rw[hj2,Option.getD_some]
 have hyr:Cells IE 1 (dY (fV { p with isr:=isr' } k { fr with high:=min r.high last })).isr ys3:=by rw[hRs.2.2.2.1];exact hy3
 intros;try refine dx ?_
 intros;refine gR 88 90 c81r13.eq_1 ?_;rw[← append_nil (PtL { p with isr:=isr' } x A3 c3 (some ⟨ga,0,none⟩) d ys3 zs2)];refine(hraise _ _).mono ?_;rintro r' h' ⟨G4,L',rfl,hg4,rfl,zs',rfl,hz'⟩;rw[append_nil];clear hR hRs hraise;generalize dY (fV { p with isr:=isr' } k { fr with high:=min r.high last })=p2 at *;obtain⟨cs,hre,-,hldk⟩:=hz'.get hk2;obtain⟨A8,c8,B8,d8,rfl,-⟩:=hre
 obtain⟨cs,hre,-,hldj⟩:=hz'.get hj2;obtain⟨A9,c9,B9,d9,rfl,-⟩:=hre;have hzl4:=hz'.len;have hkl2:=(List.getElem?_eq_some_iff.1 hk2).1;refine sI ?_;intros;try refine dx ?_
 intros;refine dy ?_;refine Gr (by decide) ?_;refine sJ c81r14.eq_1 ?_;refine⟨_,eV (.tail _ (.head _)) (hldk 6 _ rfl),?_⟩;refine sI ?_;refine⟨_,eV (.tail _ (.head _)) (hldj 6 _ rfl),?_⟩;refine sJ c81r15.eq_1 ?_;refine fQ [_] _ rfl (by simp;omega) ⟨rfl,rfl⟩ ?_
 have hz5:Cells (RE G4) 7 (p2.reps.set k { fr with high:=min (max (min r.high last) (max lead.high lf)) last }) (splice zs' (k * 7+6) [.int .i64 (min (max (min r.high last) (max lead.high lf)) last)]) :=
  Cells.setF (E:=RE G4) (o:=6) (us:=[.int .i64 (min (max (min r.high last) (max lead.high lf)) last)]) (x':={ fr with high:=min (max (min r.high last) (max lead.high lf)) last }) hz' hk2 (by simp) fun cs h hl=>by
   obtain⟨A5,c5,B5,d5,rfl,q1,q2,q3,q4,q5⟩:=h;have q5:I64 (min r.high last):=q5;exact⟨A5,c5,B5,d5,rfl,q1,q2,q3,q4,by unfold I64 at q5 ⊢;show _≤min _ last∧min _ last≤_;omega⟩
 refine sI ?_;intros;try refine dx ?_
 intros;refine gR 0 0 c81r16.eq_1 ?_;intros;exact dG (dL _ rfl Kl em (x6 hyr hz5 hRi))
theorem oB(p:Pt)(cs:J6)(n:Int)(G:J5)(hp:PE G p cs)(hsm:smP p)(hn:I64 n)
  (hins:E8 Tryz.prog 84 3∨n∈p.isr∨∀ k r j lead,atR p.reps n=some k→p.reps[k]?=some r→atR p.reps p.leader=some j→p.reps[j]?=some lead→ec (dJ r lead).log < lead.high) :
  FnD Tryz.prog 33 #[.agg cs.toArray,.int .i64 n] G (PtR (ofP p n (fW n))):=by
 have hp0:=hp;obtain⟨A,c,B,d,rfl,-,-,hI⟩:=hp;refine F33.fnD (by simp) (dI ?_);unfold c33;unfold d7 at hp0 ⊢;intros;refine gR 0 0 c33r0.eq_1 ?_;intro b3 hb3;refine sI ?_;intros;refine ei (eg [_] _) ?_;rintro h' ⟨G1,rfl,hg1,f3⟩;have f3:=f3 0 _ rfl;rw[eA]at f3
 have hof:=vP p _ n 81 #[.pointer (some ⟨b3,0,none⟩)] (fW n p) G1 (hp0.le hg1) hsm hn fun hok k r hk hr=>zU p n b3 k r G1 hok hsm hI hn f3 hk hr (by
  rcases hins with h | h | h
  ·exact .inl h
  ·exact .inr (.inl h)
  ·exact .inr (.inr fun j lead=>h k r j lead hk hr))
 rw[← iV]at hof;intros;refine gR 6 12 c33r1.eq_1 ?_;refine⟨_,⟨_,rfl,.g f3⟩,?_⟩;refine sI ?_;refine(hof _ _).mono ?_;rintro r h' ⟨G2,rfl,hg2,cs2,rfl,hpe⟩;have hpe0:=hpe;obtain⟨A2,c2,B2,d2,rfl,-⟩:=hpe;unfold d7 at hpe0 ⊢;refine sI ?_;intros;refine rW ?_;exact⟨_,rfl,hpe0⟩
def yt:Go.Shelf.Ren:=⟨fun n=>if n=21 then 84 else if n=27 then 138 else if n=28 then 139 else if n=35 then 171 else 193,fun n=>if n=3 then 3 else if n=4 then 4 else if n=22 then 22 else 0,fun n=>n⟩
theorem zN:Go.Proofs.Lays2.n21 Tryz.prog yt where
 mixed:=by kernel_rfl
 f21:=Tryz.func84.trans (congrArg some (by kernel_rfl))
 f27:=Tryz.func138.trans (congrArg some (by kernel_rfl))
 f28:=Tryz.func139.trans (congrArg some (by kernel_rfl))
 f35:=Tryz.func171.trans (congrArg some (by kernel_rfl))
 f39:=Tryz.func193.trans (congrArg some (by kernel_rfl))
 t0:=Tryz.underlying0
 a0:=Tryz.isAgg0
 z0:=Tryz.sizeOf0
 v0:=Tryz.zeroValue0
 t3:=Tryz.underlying3
 a3:=Tryz.isAgg3
 z3:=Tryz.sizeOf3
 v3:=Tryz.zeroValue3
 t4:=Tryz.underlying4
 a4:=Tryz.isAgg4
 z4:=Tryz.sizeOf4
 v4:=Tryz.zeroValue4
 t22:=Tryz.underlying22
 a22:=Tryz.isAgg22
 z22:=Tryz.sizeOf22
 v22:=Tryz.zeroValue22
 i3:=by kernel_rfl
theorem eW(cs xs:J6)(o:Nat)(h:o+xs.length≤cs.length):(Kx.splice cs o xs).length=cs.length:=by
 simp only[Kx.splice,length_append,List.length_take,List.length_drop];omega
theorem wW{α:Type}{E:α→J6→Prop}{sz:Nat}(h1:∀ x cs,E x cs→∀ u∈cs,u.oneCell'=true):∀ {xs:List α} {ys:J6},Cells E sz xs ys→∀ u∈ys,u.oneCell'=true
 | _,_,.nil,u,hu=>by cases hu
 | _,_,.cons hE _ ht,u,hu=>by
  rcases List.mem_append.1 hu with h | h
  ·exact h1 _ _ hE u h
  ·exact wW h1 ht u h
theorem ur(cur vs:J6)(o:Nat)(v:Value)(h:o < cur.length):Kx.splice (cur.set o v) (o+1) vs=Kx.splice cur o (v :: vs):=by
 have hs:cur.set o v=cur.take o++v :: cur.drop (o+1):=by rw[List.set_eq_take_append_cons_drop,if_pos h]
 have hl:(cur.take o).length=o:=by rw[List.length_take];omega
 have e1:(cur.take o++v :: cur.drop (o+1)).take (o+1)=cur.take o++[v]:=by
  rw[List.take_append,hl,List.take_of_length_le (l:=cur.take o) (i:=o+1) (by omega),show o+1 - o=1 by omega];rfl
 have e2:(cur.take o++v :: cur.drop (o+1)).drop (o+1+vs.length)=cur.drop (o+(vs.length+1)):=by
  rw[List.drop_append,hl,show(cur.take o).drop (o+1+vs.length)=[]from List.drop_eq_nil_of_le (by omega),show o+1+vs.length - o=vs.length+1 by omega,List.nil_append,List.drop_succ_cons,List.drop_drop];congr 1;omega
 unfold Kx.splice;rw[hs,e1,e2];simp
theorem gv(b:Nat)(t:TypeId)(fr:Nat × Nat):∀ (vs:J6) (o:Nat) (w:World) (cur:J6),w.heap[b]?=some (.cells cur.toArray t fr)→o+vs.length≤cur.length →
  ∃ h,w.setCells b o vs={ w with heap:=h }∧h[b]?=some (.cells (Kx.splice cur o vs).toArray t fr)∧(∀ b',b'≠b→h[b']?=w.heap[b']?)∧h.size=w.heap.size
 | [],o,w,cur,hw,ho=>⟨w.heap,rfl,by rw[hw];simp[Kx.splice],fun _ _=>rfl,rfl⟩
 | v :: vs,o,w,cur,hw,ho=>by
  simp only[length_cons]at ho;have h1:(w.setCell ⟨b,o,none⟩ v).heap[b]?=some (.cells (cur.set o v).toArray t fr):=by simp[World.setCell,Array.getElem?_modify,hw]
  obtain⟨h,e1,e2,e3,e4⟩:=gv b t fr vs (o+1) (w.setCell ⟨b,o,none⟩ v) (cur.set o v) h1 (by simp;omega);refine⟨h,?_,?_,fun b' hb=>?_,?_⟩
  ·rw[World.setCells,e1];rfl
  ·rw[e2,ur _ _ _ _ (by omega)]
  ·rw[e3 b' hb];simp[World.setCell,Array.getElem?_modify,Ne.symm hb]
  ·rw[e4];simp[World.setCell]
theorem tq:∀ {l:Ki} {n:Int} {j:Nat},n∉l→j≤l.length→(∀ t y,l[t]?=some y→(t < j→y < n)∧(j≤t→n≤y))→fj l n=l.take j++n :: l.drop j
 | [],n,j,_,_,_=>by simp[fj]
 | x :: l,n,j,hn,hj,hat=>by
  have hne:x≠n:=fun h=>hn (by rw[h];exact .head _)
  have h0:=hat 0 x rfl;rw[fj];cases j with
  | zero =>
   have:=h0.2 (Nat.le_refl _);rw[if_neg (by omega),if_neg hne];rfl
  | succ j =>
   have:=h0.1 (by omega);rw[if_pos this,tq (j:=j) (fun h=>hn (.tail _ h)) (by simpa using hj) fun t y ht=>by have:=hat (t+1) y ht;exact⟨fun h=>this.1 (by omega),fun h=>this.2 (by omega)⟩];rfl
theorem ow(a b:J6)(x n:Value)(j:Nat)(h:a.length=j):Kx.splice (a++x :: b) j [n]=a++n :: b:=by
 subst h;simp[Kx.splice]
theorem yn{ys r:J6}{z n:Value}{j:Nat}(h:j < ys.length):((Kx.splice (Kx.splice (ys++z :: r) (j+1) (ys.drop j)) j [n])).take (ys.length+1)=ys.take j++n :: ys.drop j:=by
 have hl:(ys.take j).length=j:=by rw[List.length_take];omega
 have e1:Kx.splice (ys++z :: r) (j+1) (ys.drop j)=ys.take j++ys[j] :: (ys.drop j++r):=by
  unfold Kx.splice;rw[List.length_drop,show j+1+(ys.length - j)=ys.length+1 by omega,List.take_append_of_le_length (show j+1≤ys.length by omega),List.drop_append,show ys.drop (ys.length+1)=[]from List.drop_eq_nil_of_le (by omega),show ys.length+1 - ys.length=1 by omega,List.take_succ_eq_append_getElem h]
  simp only[append_assoc,List.cons_append,List.nil_append,List.drop_succ_cons,List.drop_zero]
 rw[e1,ow _ _ _ _ _ hl,show ys.take j++n :: (ys.drop j++r)=(ys.take j++n :: ys.drop j)++r by simp,show ys.length+1=(ys.take j++n :: ys.drop j).length by simp;omega,List.take_left]
theorem Ap(a r:J6)(x:Value)(k:Nat)(h:a.length=k):(a++x :: r).take (k+1)=a++[x]:=by
 subst h;rw[show a++x :: r=(a++[x])++r by simp,show a.length+1=(a++[x]).length by simp,List.take_left]
theorem Ai{a d Z Z2:J6}{z n:Value}{j k:Nat}(hj:a.length=j)(hz:Z.length=d.length)(hk:k=j+1+d.length):(Kx.splice (Kx.splice (a++(z :: Z)++Z2) j [n]) (j+1) d).take k=a++n :: d:=by
 subst hj hk;have e:Kx.splice (a++(z :: Z)++Z2) a.length [n]=(a++[n])++(Z++Z2):=by
  rw[append_assoc,List.cons_append,ow _ _ _ _ _ rfl];simp
 rw[e,show a.length+1=(a++[n]).length+0 by simp,Kx.splice_app,Kx.spl_0,Nat.add_zero,show(a++[n]).length+d.length=((a++[n])++d).length by simp;omega,← append_assoc,List.take_left];simp
theorem I0:E8 Tryz.prog 84 3:=by
 intro l n j A c b ys G hs hn hjat hlen hi hy L D;refine⟨Kx.enters_of Tryz.func84 (by kernel_rfl) (by kernel_rfl),fun β w hw=>?_⟩;obtain⟨hj,hat⟩:=hjat;have hyl:ys.length=l.length:=by have:=hy.len;omega
 have hjn:fj l n=l.take j++n :: l.drop j:=tq hn hj hat;have hy':Cells IE 1 (fj l n) (ys.take j++(.int .i64 n :: ys.drop j)):=by
  obtain⟨h1,h2⟩:=hy.split j hj;rw[Nat.mul_one]at h1 h2;rw[hjn];exact h1.app (.cons (cs:=[_]) ⟨rfl,hi⟩ rfl h2)
 have hyl':(ys.take j++(Value.int .i64 n :: ys.drop j)).length=l.length+1:=by simp;omega
 have hle:(fj l n).length=l.length+1:=by rw[hjn];simp;omega
 have r1:nO w _ _ 1 1 _:=hw.l _ (.head _);have r2:nO w _ _ 1 l.length ys:=hw.l _ (.tail _ (.head _));rcases r1.2 with⟨A0,hA0,h10⟩ | ⟨g,cap,cur,hv,-,hg,-,-,hcs,htk⟩
 ·cases h10
 cases hv;have hvs:∀ k v,[Value.int .i64 n][k]?=some v→w.cell? ⟨b,0+k,none⟩=some v:=fun k v hk=>by
  rw[← htk,List.getElem?_take]at hk;split at hk
  ·simp only[World.cell?,hg];simpa using hk
  ·cases hk
 have h1v:∀ v∈[Value.int .i64 n],v.oneCell'=true:=by simp[Value.oneCell']
 have h1c:∀ v∈ys,v.oneCell'=true:=wW IE1 hy;have fin:∀ (w':World) (v':Value),nO w' v' 3 1 (l.length+1) (ys.take j++(.int .i64 n :: ys.drop j))→w'.os=w.os→w'.tape=w.tape→w'.output=w.output→w.heap.size≤w'.heap.size →
   (∀ b',b' < w.heap.size→ed (.slice A l.length c)≠some b'→w'.heap[b']?=w.heap[b']?)→(∀ b',ed v'=some b'→ed (.slice A l.length c)=some b'∨w.heap.size≤b')→(∃ A' c',v'=.slice A' (l.length+1) c') →
   ∃ v h',Ending.returned v'=.returned v∧(h'.D=D∧gp h' ⟨G,[.row (.slice (some ⟨b,0,none⟩) 1 1) 3 1 1 [.int .i64 n],.row (.slice A l.length c) 3 1 l.length ys]++L,D⟩)∧Sat β h' w'∧Step β ⟨G,[.row (.slice (some ⟨b,0,none⟩) 1 1) 3 1 1 [.int .i64 n],.row (.slice A l.length c) 3 1 l.length ys]++L,D⟩ w β h' w' ∧
    ∃ G' L',h'=⟨G',L'++L,D⟩∧Gle G G'∧∃ A' c' ys',v=.slice A' (fj l n).length c'∧Cells IE 1 (fj l n) ys'∧L'=[.row v 3 1 (fj l n).length ys']:=by
  intro w' v' hrow ho ht hout hsz hold hb ⟨A',c',hv'⟩;have s1:=rz hw (L':=.row (.slice A l.length c) 3 1 l.length ys :: L) (.cons _ Kl);have s2:=jP (L1:=[]) (it':=.row v' 3 1 (l.length+1) (ys.take j++(.int .i64 n :: ys.drop j))) s1.1 ho ht hout hsz hold hrow hb
  refine⟨v',⟨G,.row v' 3 1 (l.length+1) (ys.take j++(.int .i64 n :: ys.drop j)) :: L,D⟩,rfl,⟨rfl,fun s cs h=>?_⟩,s2.1,s1.2.trans s2.2,G,[_],rfl,.refl _,A',c',_,by rw[hle];exact hv',hy',by rw[hle]⟩;rcases List.mem_cons.1 h with h | h
  ·cases h
  ·exact⟨cs,.tail _ (.tail _ h)⟩
 have hf21:yt.f 21=84:=rfl
 -- a new row behind the others
 have endg:∀ (cs:J6),cs=ys→j=l.length→l.length≤c→c < l.length+1→(A=none→l.length=0)→(∀ a,A=some a→∀ k v,cs[k]?=some v→w.cell? (a.add k)=some v) →
   Calls Tryz.prog 84 #[.slice A l.length c,.int .i64 j,.slice (some ⟨b,0,none⟩) 1 1] w fun x w'=>∃ v h',x=.returned v∧(h'.D=D∧gp h' ⟨G,[.row (.slice (some ⟨b,0,none⟩) 1 1) 3 1 1 [.int .i64 n],.row (.slice A l.length c) 3 1 l.length ys]++L,D⟩)∧Sat β h' w'∧Step β ⟨G,[.row (.slice (some ⟨b,0,none⟩) 1 1) 3 1 1 [.int .i64 n],.row (.slice A l.length c) 3 1 l.length ys]++L,D⟩ w β h' w' ∧
    ∃ G' L',h'=⟨G',L'++L,D⟩∧Gle G G'∧∃ A' c' ys',v=.slice A' (fj l n).length c'∧Cells IE 1 (fj l n) ys'∧L'=[.row v 3 1 (fj l n).length ys']:=by
  rintro cs rfl rfl hnc hroom hnil hcells;have hc:=Any2.slices_Insert_int_end_grow zN A l.length c b 0 1 1 cs [.int .i64 n] w (by omega) hnc hroom (by omega) hyl rfl hnil hcells hvs h1v;refine hc.mono ?_;rintro e w' ⟨rfl,rfl⟩;have hge:=grownCap_ge w (l.length+1) c (yt.t 3);have hcm:grownCap w (l.length+1) c (yt.t 3)≤maxLen:=grownCap_le_maxLen w (l.length+1) c _ (by unfold maxLen;omega)
  refine fin _ _ ⟨by omega,.inr ⟨_,_,_,rfl,by omega,heap_alloc_new w.drew _,hge,hcm,?_,?_⟩⟩ rfl rfl rfl (by simp) (fun b' hb' _=>heap_alloc_old w.drew _ hb') (fun b' hb'=>.inr ?_) ⟨_,_,rfl⟩
  ·simp[size_zeroCells,Value.cells];omega
  ·rw[← hyl,List.take_of_length_le (Nat.le_refl _),List.drop_eq_nil_of_le (Nat.le_refl _)];simp only[Array.toList_append,append_assoc,List.cons_append,List.nil_append,Nat.mul_one];exact Ap _ _ _ _ rfl
  ·have hc':¬ grownCap w (l.length+1) c (yt.t 3)=0:=by omega
   simp[ed,hc']at hb';omega
 rcases r2.2 with⟨A0,hA,hl0⟩ | ⟨g2,cap2,cur2,hv2,hc2,hg2,hnc,hcm,hcs2,htk2⟩
 ·have hc0:c=0:=by injection hA
  exact endg ys rfl (by omega) (by omega) (by omega) (fun _=>hl0) fun a _ k v hk=>by
   have:ys=[]:=List.eq_nil_of_length_eq_zero (by omega);rw[this]at hk;cases hk
 ·injection hv2 with hA _ hcc
  subst hA hcc;rw[Nat.mul_one]at hcs2 htk2;have hcell:∀ k v,ys[k]?=some v→w.cell? ⟨g2,0+k,none⟩=some v:=fun k v hk=>by
   rw[← htk2,List.getElem?_take]at hk;split at hk
   ·simp only[World.cell?,hg2];simpa using hk
   ·cases hk
  have hne:b≠g2:=by
   have hnd:=hw.nd';intro he;subst he;have hc0:¬ c=0:=by omega
   simp[dom,Item.block,ed,hc0]at hnd
  have hg2':w.heap[g2]?=some (.cells cur2.toList.toArray 3 (0,0)):=hg2;have hcl:cur2.toList.length=c:=by simpa using hcs2
  have hrb:ed (.slice (some ⟨g2,0,none⟩) l.length c)=some g2:=by
   have hc0:¬ c=0:=by omega
   simp[ed,hc0]
  have hrb':ed (.slice (some ⟨g2,0,none⟩) (l.length+1) c)=some g2:=by
   have hc0:¬ c=0:=by omega
   simp[ed,hc0]
  have hsp:∀ k,k < c→(w.cell? ⟨g2,0+k,none⟩).isSome=true:=fun k hk=>by
   simp only[World.cell?,hg2];simp;omega
  have hfz:∀ k,w.frozen? ⟨g2,k,none⟩=false:=fun k=>by simp[World.frozen?,hg2]
  by_cases hroom:l.length+1≤c
  ·by_cases hji:j < l.length
   ·have hc:=Any2.slices_Insert_int_shift zN g2 0 l.length c j b 0 1 1 ys [.int .i64 n] w hji (by omega) hroom (by unfold maxLen at hcm;omega) hne hyl rfl hcell (fun k hk=>hsp k (by omega)) (fun k _=>hfz _) hvs h1c h1v 3 3 cur.size cur2.size (by simp[World.shape?,hg]) (by simp[World.shape?,hg2]) (by omega) (by simp[World.frozen?,hg]) (by simp[World.frozen?,hg]);refine hc.mono ?_
    rintro e w' ⟨rfl,rfl⟩;have hcut:cur2.toList=ys++cur2.toList.drop l.length:=by conv=>lhs;rw[← List.take_append_drop l.length cur2.toList,htk2]
    obtain⟨z,r,hzr⟩:∃ z r,cur2.toList.drop l.length=z :: r:=by
     cases h:cur2.toList.drop l.length with
     | nil=>have:=congrArg List.length h;simp at this;omega
     | cons z r=>exact⟨z,r,rfl⟩
    rw[hzr]at hcut;obtain⟨h1,e1,e2,e3,e4⟩:=gv g2 3 (0,0) (ys.drop j) (0+(j+1)) w.drew cur2.toList hg2' (by rw[List.length_drop];omega);rw[e1];obtain⟨h2,e5,e6,e7,e8⟩:=gv g2 3 (0,0) [.int .i64 n] (0+j) { w.drew with heap:=h1 } _ e2 (by rw[eW _ _ _ (by rw[List.length_drop];omega)];simp only[length_cons,List.length_nil];omega);rw[e5];have e8':h2.size=w.heap.size:=e8.trans e4
    refine fin _ _ ⟨by omega,.inr ⟨g2,c,_,rfl,hc2,e6,hroom,hcm,?_,?_⟩⟩ rfl rfl rfl (by show _≤h2.size;omega) (fun b' hb' hne'=>?_) (fun b' hb'=>.inl (by rw[hrb];rw[hrb']at hb';exact hb')) ⟨_,_,rfl⟩
    ·rw[List.size_toArray,eW _ _ _ (by rw[eW _ _ _ (by rw[List.length_drop];omega)];simp only[length_cons,List.length_nil];omega),eW _ _ _ (by rw[List.length_drop];omega)];omega
    ·rw[Nat.mul_one,hcut,Nat.zero_add,Nat.zero_add,← hyl];exact yn (by omega)
    ·have hb2:b'≠g2:=fun h=>hne' (by rw[hrb,h])
     exact(e7 b' hb2).trans (e3 b' hb2)
   ·have hjl:j=l.length:=by omega
    subst hjl;have hc:=Any2.slices_Insert_int_end_room zN g2 0 l.length c b 0 1 1 [.int .i64 n] w (by omega) hroom (by unfold maxLen at hcm;omega) rfl (fun k hk=>by rw[Nat.add_assoc];exact hsp _ (by omega)) (fun k _=>hfz _) hvs h1v;refine hc.mono ?_;rintro e w' ⟨rfl,rfl⟩
    obtain⟨h1,e1,e2,e3,e4⟩:=gv g2 3 (0,0) [.int .i64 n] (0+l.length) w cur2.toList hg2' (by simp only[length_cons,List.length_nil];omega);rw[e1];refine fin _ _ ⟨by omega,.inr ⟨g2,c,_,rfl,hc2,e2,hroom,hcm,?_,?_⟩⟩ rfl rfl rfl (by show _≤h1.size;omega) (fun b' hb' hne'=>?_) (fun b' hb'=>.inl (by rw[hrb];rw[hrb']at hb';exact hb')) ⟨_,_,rfl⟩
    ·rw[List.size_toArray,eW _ _ _ (by simp only[length_cons,List.length_nil];omega)];omega
    ·rw[← hyl,List.take_of_length_le (Nat.le_refl _),List.drop_eq_nil_of_le (Nat.le_refl _)];show(Kx.splice _ _ _).take _=_;unfold Kx.splice;rw[Nat.zero_add,Nat.mul_one,hyl,htk2,List.take_append_of_le_length (by simp;omega),List.take_of_length_le (by simp;omega)]
    ·exact e3 b' fun h=>hne' (by rw[hrb,h])
  ·by_cases hji:j < l.length
   ·have hc:=Any2.slices_Insert_int_grow zN g2 0 l.length c j b 0 1 1 ys [.int .i64 n] w hji (by omega) hnc (by omega) (by omega) hyl rfl hcell hvs h1c h1v;refine hc.mono ?_;rintro e w' ⟨rfl,rfl⟩;have hge:=grownCap_ge w (l.length+1) c (yt.t 3);have hcm:grownCap w (l.length+1) c (yt.t 3)≤maxLen:=grownCap_le_maxLen w (l.length+1) c _ (by unfold maxLen;omega)
    generalize grownCap w (l.length+1) c (yt.t 3)=gc at *;obtain⟨Z1,hZ1⟩:∃ Z:J6,Z=(Builtin.zeroCells (Value.int .i64 0).cells (l.length+1 - j)).toList:=⟨_,rfl⟩;obtain⟨Z2,hZ2⟩:∃ Z:J6,Z=(Builtin.zeroCells (Value.int .i64 0).cells (gc - (l.length+1))).toList:=⟨_,rfl⟩;have z1:Z1.length=l.length+1 - j:=by rw[hZ1];simp[size_zeroCells,Value.cells]
    have z2:Z2.length=gc - (l.length+1):=by rw[hZ2];simp[size_zeroCells,Value.cells]
    have hnew:(w.alloc (.cells ((ys.take j).toArray++Builtin.zeroCells (Value.int .i64 0).cells (l.length+1 - j)++Builtin.zeroCells (Value.int .i64 0).cells (gc - (l.length+1))) (yt.t 3))).drew.heap[w.heap.size]?=some (.cells (ys.take j++Z1++Z2).toArray 3 (0,0)):=by
     refine(heap_alloc_new w _).trans ?_;rw[hZ1,hZ2];simp;rfl
    have hlt:(ys.take j).length=j:=by rw[List.length_take];omega
    have hll:(ys.take j++Z1++Z2).length=gc:=by simp only[length_append,hlt,z1,z2];omega
    obtain⟨h1,e1,e2,e3,e4⟩:=gv w.heap.size 3 (0,0) [.int .i64 n] j _ _ hnew (by rw[hll];simp only[length_cons,List.length_nil];omega);rw[e1]
    obtain⟨h2,e5,e6,e7,e8⟩:=gv w.heap.size 3 (0,0) (ys.drop j) (j+1) (World.drew { (w.alloc (.cells ((ys.take j).toArray++Builtin.zeroCells (Value.int .i64 0).cells (l.length+1 - j)++Builtin.zeroCells (Value.int .i64 0).cells (gc - (l.length+1))) (yt.t 3))).drew with heap:=h1 }) _ e2 (by rw[eW _ _ _ (by rw[hll];simp only[length_cons,List.length_nil];omega),List.length_drop,hll];omega);rw[e5]
    have e8':h2.size=w.heap.size+1:=e8.trans (e4.trans (by simp));refine fin _ _ ⟨by omega,.inr ⟨w.heap.size,gc,_,rfl,by omega,e6,hge,hcm,?_,?_⟩⟩ rfl rfl rfl (by show _≤h2.size;omega) (fun b' hb' _=>?_) (fun b' hb'=>.inr ?_) ⟨_,_,rfl⟩
    ·rw[List.size_toArray,eW _ _ _ (by rw[eW _ _ _ (by rw[hll];simp only[length_cons,List.length_nil];omega),List.length_drop,hll];omega),eW _ _ _ (by rw[hll];simp only[length_cons,List.length_nil];omega),hll];omega
    ·obtain⟨z,Z,hzZ⟩:∃ z Z,Z1=z :: Z:=by
      cases Z1 with
      | nil=>simp at z1;omega
      | cons z Z=>exact⟨z,Z,rfl⟩
     rw[hzZ];rw[hzZ]at z1;simp only[length_cons]at z1;exact Ai hlt (by rw[List.length_drop];omega) (by rw[List.length_drop];omega)
    ·refine(e7 b' (by omega)).trans ((e3 b' (by omega)).trans ?_);exact heap_alloc_old w _ hb'
    ·have hc':¬ gc=0:=by omega
     simp[ed,hc']at hb';omega
   ·refine endg ys rfl (by omega) hnc (by omega) (fun h=>by cases h) fun a ha k v hk=>?_
    cases ha;have:=hcell k v hk;rw[Addr.add_lit];exact this
def exB:Batch:=⟨0,1,0,0,-1,0,0,false,0,[⟨0,⟨#[]⟩,⟨#[118]⟩,false,0⟩,⟨1,⟨#[]⟩,⟨#[119]⟩,false,0⟩]⟩
def u3:Batch:={ exB with epoch:=1 }
theorem vK:fx exB=0:=by decide +kernel
theorem pn:fx u3=0:=by decide +kernel
theorem Ad:(dK u3).length≤4096:=by have:=(ja pn).2;omega
theorem CO:fg exB 0=(exB,0):=by
 have h:uZ exB 0=exB:=by decide +kernel
 rw[fg,if_pos (by decide),if_pos vK,h,if_pos vK]
def pD:Lg:=⟨4096,0,[⟨0,[]⟩]⟩
def mq:Lg:=⟨4096,0,[⟨0,dK u3⟩]⟩
theorem AU:mB 4096 0=true:=by decide
theorem Bm:qt 4096 0=(pD,0):=by rw[qt,if_pos AU];rfl
theorem uy:fq pD=0:=wy AU
theorem BR:ec pD=0:=by rw[ec,if_pos uy];rfl
theorem mp:gJ pD u3=(mq,0):=by
 have h1:wo pD=⟨0,[]⟩:=rfl;have hl:=Ad;have h2:jF ⟨0,[]⟩ u3 4096=(⟨0,dK u3⟩,0):=by
  have h3:=xJ (s:=⟨0,[]⟩) (b:=u3) (limit:=4096) (eB.2 ⟨rfl,by decide⟩) (by decide) pn (by decide);rw[h3,if_neg (by simp;omega)];simp
 have hlm:pD.limit=4096:=rfl;rw[gJ,if_pos uy,if_pos pn,if_neg (by decide),if_neg (by rw[hlm];omega),h1,hlm,h2,if_pos rfl];rfl
theorem o9:fq mq=0:=by
 obtain⟨-,-,h,-⟩:=g0 (l:=pD) (b:=u3) (by rw[mp])
 rwa [mp]at h
theorem oY:ec mq=2:=by
 obtain⟨-,-,-,h,-⟩:=g0 (l:=pD) (b:=u3) (by rw[mp]);rw[mp]at h;rw[ec,if_pos o9];exact h
theorem H5:gz pD=[]:=by rw[gz,if_pos uy];rfl
theorem HF:gz mq=[u3]:=by
 have:=sP (l:=pD) (b:=u3) (by rw[mp]);rw[mp]at this;rw[gz,if_pos o9];exact this
theorem Gi:j5 pD 0=(pD,0):=by
 have h1:uW pD 0=true:=by decide
 rw[j5,if_pos uy,if_pos h1];rfl
theorem C8:kM mq 0=mq:=by
 have h:∀ s:Sg,mw s 0=s:=fun s=>by
  unfold mw;rw[show(min (0:Int) s.bytes.length).toNat=0 by omega,Nat.sub_zero,take_length]
 unfold kM;rw[h];rfl
def exR(n:Int)(up:Bool)(l:Lg)(e:List Ep)(h:Int):Rp:=⟨n,up,l,e,h⟩
def exE:List Ep:=[(1,0)]
theorem wS:gK exE=0:=by
 unfold gK;rw[if_pos];intro i x hi hx
 match i,hi,hx with
 | 0,_,hx=>cases hx;exact⟨by decide,fun p h=>absurd h (by omega)⟩
theorem yS:gK ([]:List Ep)=0:=by
 unfold gK;rw[if_pos];intro i x hi;simp at hi
theorem Fa:iq [] 1 0=(exE,0):=by
 rw[rE yS (by decide)];rfl
theorem ED:kV exE 2=exE:=by
 unfold kV;rw[wS];rfl
theorem Fp(b:List Ep)(ae be:Int):lX [] b ae be=0:=by
 unfold lX;split
 ·rename_i h;exact nm (Classical.choose_spec h) (.inr (.inr (.inl rfl)))
 ·rfl
theorem Hs:lX exE exE 2 2=2:=by
 refine oV (.inr ⟨wS,wS,.inr ⟨0,(1,0),0,(1,0),rfl,rfl,rfl,fun i' x' k' y' hi hx=>?_,rfl⟩⟩);have:=(List.getElem?_eq_some_iff.1 hx).1;simp[exE]at this;omega
def jn(n:Int):Rp:=exR n true pD [] 0
def fA(n h:Int):Rp:=exR n true mq exE h
def exD:Rp:=exR 0 false mq exE 2
theorem nM{n:Int}(h:idI n=true):okR (jn n):=⟨⟨h,yS,by show(0:Int)≤0;decide,by show(0:Int)≤_;decide⟩,uy,fun _=>by show(0:Int)≤ec pD;rw[BR];decide⟩
theorem o0{n m:Int}(h:idI n=true)(h1:0≤m)(h2:m≤2):okR (fA n m):=⟨⟨h,wS,h1,by show m≤_;omega⟩,o9,fun _=>by show m≤ec mq;rw[oY];exact h2⟩
theorem Jk:okR exD:=⟨⟨by decide,wS,by decide,by decide⟩,by show fq (ib mq).1=0;rw[oM o9];exact o9,fun h=>by cases h⟩
def exP(ep ld:Int)(is:Ki)(a b c:Rp):Pt:=⟨ep,ld,1,is,[a,b,c]⟩
theorem BP{ep ld:Int}{is:Ki}{a b c:Rp}(h1:idI ep=true)(h2:fE [a,b,c]=[0,1,2])(h3:okR a∧okR b∧okR c)(h4:fu is∧∀ n∈is,n∈([0,1,2]:Ki))(h5:ld=-1∨(∃ r∈[a,b,c],r.id=ld∧r.up=true)∧ld∈is):fy (exP ep ld is a b c)=0:=by
 refine jq ⟨⟨h1,?_,by show[a,b,c].length≤5;simp,⟨by show(1:Int)≤1;omega,by show(1:Int)≤(([a,b,c].length:Nat):Int);simp⟩,fun r hr=>?_⟩,⟨h4.1,fun n hn=>?_⟩,h5⟩
 ·show fu (fE [a,b,c]);rw[h2];refine⟨by simp,fun n hn=>?_,by decide⟩;simp at hn;rcases hn with rfl | rfl | rfl <;> decide
 ·have hr:r∈[a,b,c]:=hr;simp at hr;rcases hr with rfl | rfl | rfl
  ·exact h3.1
  ·exact h3.2.1
  ·exact h3.2.2
 ·show n∈fE [a,b,c];rw[h2];exact h4.2 n hn
theorem Gv:fu [0,1,2]∧∀ n∈([0,1,2]:Ki),n∈([0,1,2]:Ki):=⟨⟨by simp,by decide,by decide⟩,fun n h=>h⟩
theorem r01:fu [0,1]∧∀ n∈([0,1]:Ki),n∈([0,1,2]:Ki):=⟨⟨by simp,by decide,by decide⟩,by decide⟩
theorem r1:fu [1]∧∀ n∈([1]:Ki),n∈([0,1,2]:Ki):=⟨⟨by simp,by decide,by decide⟩,by decide⟩
def Bj:Pt:=exP 1 0 [0,1,2] (jn 0) (jn 1) (jn 2)
def qo:Pt:=exP 1 0 [0,1,2] (fA 0 0) (jn 1) (jn 2)
def uV:Pt:=exP 1 0 [0,1,2] (fA 0 0) (fA 1 0) (jn 2)
def uP:Pt:=exP 1 0 [0,1] (fA 0 2) (fA 1 0) (jn 2)
def oo:Pt:=exP 1 (-1) [1] exD (fA 1 0) (jn 2)
def s6:Pt:=exP 2 1 [1] exD (fA 1 2) (jn 2)
def zD:Pt:=exP 2 1 [1] (fA 0 2) (fA 1 2) (jn 2)
theorem HT:fy Bj=0:=BP (by decide) rfl ⟨nM (by decide),nM (by decide),nM (by decide)⟩ Gv (.inr ⟨⟨jn 0,.head _,rfl,rfl⟩,.head _⟩)
theorem FD:fy qo=0:=BP (by decide) rfl ⟨o0 (by decide) (by decide) (by decide),nM (by decide),nM (by decide)⟩ Gv (.inr ⟨⟨fA 0 0,.head _,rfl,rfl⟩,.head _⟩)
theorem FN:fy uV=0:=BP (by decide) rfl ⟨o0 (by decide) (by decide) (by decide),o0 (by decide) (by decide) (by decide),nM (by decide)⟩ Gv (.inr ⟨⟨fA 0 0,.head _,rfl,rfl⟩,.head _⟩)
theorem Ex:fy uP=0:=BP (by decide) rfl ⟨o0 (by decide) (by decide) (by decide),o0 (by decide) (by decide) (by decide),nM (by decide)⟩ r01 (.inr ⟨⟨fA 0 2,.head _,rfl,rfl⟩,.head _⟩)
theorem Dx:fy oo=0:=BP (by decide) rfl ⟨Jk,o0 (by decide) (by decide) (by decide),nM (by decide)⟩ r1 (.inl rfl)
theorem Bz:fy s6=0:=BP (by decide) rfl ⟨Jk,o0 (by decide) (by decide) (by decide),nM (by decide)⟩ r1 (.inr ⟨⟨fA 1 2,.tail _ (.head _),rfl,rfl⟩,.head _⟩)
theorem Ez:fy zD=0:=BP (by decide) rfl ⟨o0 (by decide) (by decide) (by decide),o0 (by decide) (by decide) (by decide),nM (by decide)⟩ r1 (.inr ⟨⟨fA 1 2,.tail _ (.head _),rfl,rfl⟩,.head _⟩)
theorem C9:sM [0,1,2] 4096 1=(Bj,0):=by
 unfold sM;rw[Bm,if_pos ⟨rfl,Gv.1,by decide,by decide,by decide⟩];rfl
theorem Di:fy iz=1:=mH fun h=>h.1.2.1.1 rfl
theorem Gw(n m h:Int):jC (jn n) (fA m h)=0:=Fp _ _ _
theorem Jc(n m h h':Int):jC (fA n h) (fA m h')=2:=by
 show lX exE exE (ec mq) (ec mq)=2;rw[oY];exact Hs
theorem oX{l:List Rp}{k:Nat}{r:Rp}{m n:Int}(h:atR l n=some k):kE l k r m n=m:=by
 unfold kE;rw[h];dsimp only;rw[if_pos rfl]
theorem nj{l:List Rp}{k i:Nat}{r x:Rp}{m n:Int}(h:atR l n=some i)(hik:i≠k)(hx:l[i]?=some x):kE l k r m n=min m (jC x r):=by
 unfold kE;rw[h];dsimp only;rw[if_neg hik,hx]
theorem lr{p q:Pt}(h:fy p=0):mG p (q,0)=(q,0):=by rw[mG,if_pos h];rfl
theorem oy{p q:Pt}{e:Int}(h:fy p=0)(he:e≠0):mG p (q,e)=(iz,e):=by rw[mG,if_pos h,if_neg he]
theorem nz(p:Pt)(b:Batch):pF p b=if (mG p (j6 b p).1).2=0 then(mG p (j6 b p).1,(j6 b p).2)else((iz,(mG p (j6 b p).1).2),0):=rfl
theorem xY{p:Pt}{b mb:Batch}{k:Nat}{r:Rp}{en:Int}{al:Lg}{pl:List Ep}(k1:¬ p.leader < 0)(k2:¬ (p.isr.length:Int) < p.least)(hk:atR p.reps p.leader=some k)(hr:p.reps[k]?=some r)(he:ec r.log=en)
  (hm:fg b en=(mb,0)) (ha:gJ r.log { mb with epoch:=p.epoch }=(al,0)) (hp:iq r.eps p.epoch mb.base=(pl,0)):j6 b p=((dY (fV p k { r with log:=al,eps:=pl }),0),mb.base):=by
 unfold j6;rw[if_neg k1,if_neg k2,hk];dsimp only;rw[hr];dsimp only;rw[he,hm];dsimp only;rw[if_neg (fun h=>h rfl),ha];dsimp only;rw[if_neg (fun h=>h rfl),hp];dsimp only;rw[if_neg (fun h=>h rfl)]
theorem Hx:dY (exP 1 0 [0,1,2] (fA 0 0) (jn 1) (jn 2))=qo:=by
 rw[i9 (j:=0) (y:=fA 0 0) (by decide) rfl rfl];have:fe [fA 0 0,jn 1,jn 2] 0 (fA 0 0) 2 [0,1,2]=0:=by
  unfold fe;simp only[List.foldl_cons,List.foldl_nil];rw[oX (n:=0) rfl,nj (n:=1) (i:=1) rfl (by decide) rfl,nj (n:=2) (i:=2) rfl (by decide) rfl,Gw,Gw];rfl
 show fV _ 0 { fA 0 0 with high:=max 0 (fe [fA 0 0,jn 1,jn 2] 0 (fA 0 0) (ec mq) [0,1,2]) }=_;rw[oY,this];rfl
theorem Dj:pF Bj exB=((qo,0),0):=by
 have hF:j6 exB Bj=((qo,0),0):=by
  rw[xY (p:=Bj) (b:=exB) (k:=0) (r:=jn 0) (en:=0) (mb:=exB) (al:=mq) (pl:=exE) (by decide) (by decide) rfl rfl BR CO mp Fa];show((dY (exP 1 0 [0,1,2] (fA 0 0) (jn 1) (jn 2)),(0:Int)),(0:Int))=_;rw[Hx]
 rw[nz,hF];dsimp only;rw[lr HT,if_pos rfl]
theorem Fo:dJ (jn 1) (fA 0 0)=fA 1 0:=by
 have hc:eS pD mq 0=(mq,true):=by
  unfold eS;dsimp only;rw[Gi];dsimp only;rw[H5,HF,if_neg (by simp)];show iQ pD [u3]=_;rw[iQ,mp,if_pos rfl];rfl
 unfold dJ;rw[Gw];dsimp only;have h0:min 0 (ec (jn 1).log)=0:=by show min 0 (ec pD)=0;rw[BR];rfl
 have h1:eS (jn 1).log (fA 0 0).log 0=(mq,true):=hc;rw[h0,h1,if_pos ⟨rfl,by decide,rfl⟩];rfl
theorem Iz:dY (exP 1 0 [0,1,2] (fA 0 0) (fA 1 0) (jn 2))=uV:=by
 rw[i9 (j:=0) (y:=fA 0 0) (by decide) rfl rfl];have:fe [fA 0 0,fA 1 0,jn 2] 0 (fA 0 0) 2 [0,1,2]=0:=by
  unfold fe;simp only[List.foldl_cons,List.foldl_nil];rw[oX (n:=0) rfl,nj (n:=1) (i:=1) rfl (by decide) rfl,nj (n:=2) (i:=2) rfl (by decide) rfl,Jc,Gw];rfl
 show fV _ 0 { fA 0 0 with high:=max 0 (fe [fA 0 0,fA 1 0,jn 2] 0 (fA 0 0) (ec mq) [0,1,2]) }=_;rw[oY,this];rfl
theorem Cj:ofP qo 1 (fW 1)=(uV,0):=by
 rw[iV,mz (k:=1) (r:=jn 1) _ rfl rfl];have hF:fW 1 qo 1 (jn 1)=(uV,0):=by
  unfold fW;rw[if_neg (by decide),if_neg (by decide),show atR qo.reps qo.leader=some 0 from rfl];dsimp only;rw[show qo.reps[0]?=some (fA 0 0)from rfl];dsimp only;rw[Fo,show ec (fA 1 0).log=2 from oY,if_pos (by decide),show fj qo.isr 1=[0,1,2]from rfl]
  show(fV (dY (exP 1 0 [0,1,2] (fA 0 0) (fA 1 (min 0 2)) (jn 2))) 1 { fA 1 0 with high:=min (max (min 0 2) ((dY (exP 1 0 [0,1,2] (fA 0 0) (fA 1 (min 0 2)) (jn 2))).reps[0]?.getD (fA 0 0)).high) 2 },(0:Int))=_;rw[show min (0:Int) 2=0 from rfl,Iz];rfl
 rw[hF,lr FD]
theorem Hf:dY (exP 1 0 [0,1] (fA 0 0) (fA 1 0) (jn 2))=uP:=by
 rw[i9 (j:=0) (y:=fA 0 0) (by decide) rfl rfl];have:fe [fA 0 0,fA 1 0,jn 2] 0 (fA 0 0) 2 [0,1]=2:=by
  unfold fe;simp only[List.foldl_cons,List.foldl_nil];rw[oX (n:=0) rfl,nj (n:=1) (i:=1) rfl (by decide) rfl,Jc];rfl
 show fV _ 0 { fA 0 0 with high:=max 0 (fe [fA 0 0,fA 1 0,jn 2] 0 (fA 0 0) (ec mq) [0,1]) }=_;rw[oY,this];rfl
theorem Co:ofP uV 2 (ji 2)=(uP,0):=by
 rw[iV,mz (k:=2) (r:=jn 2) _ rfl rfl];have hF:ji 2 uV 2 (jn 2)=(uP,0):=by
  unfold ji;rw[if_neg (by decide),if_neg (by decide)];show(dY (exP 1 0 [0,1] (fA 0 0) (fA 1 0) (jn 2)),(0:Int))=_;rw[Hf]
 rw[hF,lr FN]
theorem zi:ofP uP 0 (gI 0 0)=(oo,0):=by
 rw[iV,mz (k:=0) (r:=fA 0 2) _ rfl rfl];have hF:gI 0 0 uP 0 (fA 0 2)=(oo,0):=by
  rw[pO _ _ _ _ _ (by decide) rfl];have h1:iR (fA 0 2) 0=exD:=by
   unfold iR;rw[show kM (fA 0 2).log 0=mq from C8];rfl
  rw[h1];show(dY oo,(0:Int))=_;rw[show dY oo=oo by unfold dY;rw[if_pos (by decide)]]
 rw[hF,lr Ex]
theorem Da:pF oo exB=((iz,180),0):=by
 have hF:j6 exB oo=((oo,180),0):=by unfold j6;rw[if_pos (by decide)]
 rw[nz,hF];dsimp only;rw[oy Dx (by decide),if_neg (by decide)]
theorem Er:ofP oo 2 (fP 2)=(iz,181):=by
 rw[iV,mz (k:=2) (r:=jn 2) _ rfl rfl,fP,if_neg (by decide),if_pos (by decide),oy Dx (by decide)]
theorem Fv:ofP oo 1 (fP 1)=(s6,0):=by
 rw[iV,mz (k:=1) (r:=fA 1 0) _ rfl rfl,fP,if_neg (by decide),if_neg (by decide),if_neg (by decide)];have h:dY { oo with epoch:=oo.epoch+1,leader:=1 }=s6:=by
  rw[i9 (j:=1) (y:=fA 1 0) (by decide) rfl rfl];have:fe [exD,fA 1 0,jn 2] 1 (fA 1 0) 2 [1]=2:=by
   unfold fe;simp only[List.foldl_cons,List.foldl_nil];rw[oX (n:=1) rfl]
  show fV _ 1 { fA 1 0 with high:=max 0 (fe [exD,fA 1 0,jn 2] 1 (fA 1 0) (ec mq) [1]) }=_;rw[oY,this];rfl
 rw[h,lr Dx]
theorem Dz:lZ s6=(mq,0):=by
 rw[lZ,if_neg (fun h=>h Bz),if_neg (by decide)];rfl
theorem DQ:ofP s6 0 jo=(zD,0):=by
 rw[iV,mz (k:=0) (r:=exD) _ rfl rfl,jo,if_neg (by decide)];have h:pb exD=fA 0 2:=by
  unfold pb;rw[show(ib exD.log)=(mq,0)from oM o9];dsimp only;rw[oY,show kV exD.eps 2=exE from ED];rfl
 rw[h];show mG s6 (zD,0)=_;rw[lr Bz]
theorem zl:ofP zD 0 jo=(iz,150):=by
 rw[iV,mz (k:=0) (r:=fA 0 2) _ rfl rfl,jo,if_pos (show(fA 0 2).up=true from rfl),oy Ez (by decide)]
theorem pf{ep ld:Int}{is:Ki}{a b c:Rp}{k:Nat}{r:Rp}(h:fy (exP ep ld is a b c)=0)(h0:0≤ld)(hk:atR [a,b,c] ld=some k)(hr:([a,b,c]:List Rp)[k]?=some r):mS (exP ep ld is a b c)=r.high:=by
 rw[mS,if_neg (fun hh=>hh h),if_pos (show 0≤(exP ep ld is a b c).leader from h0)];show(match atR [a,b,c] ld with | some k=>(([a,b,c]:List Rp)[k]?.map Rp.high).getD 0 | none=>0)=_
 rw[hk];dsimp only;rw[hr];rfl
theorem It:mS qo=0:=pf (k:=0) (r:=fA 0 0) FD (by decide) rfl rfl
theorem IS:mS uV=0:=pf (k:=0) (r:=fA 0 0) FN (by decide) rfl rfl
theorem HB:mS uP=2:=pf (k:=0) (r:=fA 0 2) Ex (by decide) rfl rfl
theorem HQ:mS s6=2:=pf (k:=1) (r:=fA 1 2) Bz (by decide) rfl rfl
theorem F43:Fun Tryz.prog 43 5 v43 c43 o43:=Fun.mkA Tryz.func43 Tryz.ntmps43
theorem F11:Fun Tryz.prog 11 191 v11 c11 o11:=Fun.mkA Tryz.func11 Tryz.ntmps11
theorem mI(G:J5):FnD Tryz.prog 43 #[] G (fun G' r=>∃ B d,r=.agg #[.int .i64 0,.int .i64 1,.int .i64 0,.int .i64 0,.int .i64 (-1),.int .i64 0,.int .i64 0,.bool false,.int .i64 0,.slice B 2 d]∧BE G' exB [.int .i64 0,.int .i64 1,.int .i64 0,.int .i64 0,.int .i64 (-1),.int .i64 0,.int .i64 0,.bool false,.int .i64 0,.slice B 2 d]):=by
 refine F43.fnD (by simp) (dI ?_);unfold c43;intros;refine gR 0 0 c43r0.eq_1 ?_;intros;refine gR 1 5 c43r1.eq_1 ?_;intro b hb;refine sI ?_;intros;try refine dx ?_
 have z0:(ByteArray.mk #[]).size≤maxLen:=by decide
 have z1:(ByteArray.mk #[118]).size≤maxLen:=by decide
 have z2:(ByteArray.mk #[119]).size≤maxLen:=by decide
 have hra:Cells RR 5 exB.recs [.int .i64 0,.string ⟨#[]⟩,.string ⟨#[118]⟩,.bool false,.int .i64 0,.int .i64 1,.string ⟨#[]⟩,.string ⟨#[119]⟩,.bool false,.int .i64 0] :=
  .cons (cs:=[_,_,_,_,_]) ⟨rfl,⟨iA,iA⟩,z0,z1⟩ rfl (.one ⟨rfl,⟨(by decide:I64 1),iA⟩,z0,z2⟩ rfl)
 refine ei (dT [] _ (by decide) hra) ?_;rintro h' ⟨G2,rfl,hg2,A2,c2,hA2,hc2,hm2,hs2⟩;cases hA2;intros;refine rW ?_;exact⟨some ⟨b,0,none⟩,2,rfl,some ⟨b,0,none⟩,2,rfl,⟨hc2,hm2,hs2⟩,iA,(by decide:I64 1),iA,iA,(by decide:I64 (-1)),iA,iA,iA⟩
theorem gF(n:Int):smR (jn n):=⟨qp uy,by show(1:Nat)≤1000;decide,by show(0:Nat)≤1000;decide⟩
theorem gt(n h:Int):smR (fA n h):=⟨qp o9,by show(1:Nat)≤1000;decide,by show(1:Nat)≤1000;decide⟩
theorem nZ:smR exD:=⟨qp o9,by show(1:Nat)≤1000;decide,by show(1:Nat)≤1000;decide⟩
theorem iB{ep ld:Int}{is:Ki}{a b c:Rp}(h1:smR a)(h2:smR b)(h3:smR c)(hi:is.length≤1000):smP (exP ep ld is a b c):=by
 refine⟨fun r hr=>?_,by show[a,b,c].length≤1000;simp,hi⟩;have hr:r∈[a,b,c]:=hr;simp at hr;rcases hr with rfl | rfl | rfl <;> assumption
theorem iG{P:Program}{f:FuncId}{args:Array Value}{G:J5}{R R':(J5)→Value→Prop}(h:FnD P f args G R)(hr:∀ G' r,R G' r→R' G' r):FnD P f args G R':=fun L D=>(h L D).mono fun r h' ⟨G',e,hg,hR⟩=>⟨G',e,hg,hr _ _ hR⟩
theorem ptv{ep ld e:Int}{is:Ki}{a b c:Rp}{G:J5}{r:Value}(h:PtR (exP ep ld is a b c,e) G r):∃ A c' B d,r=.tuple #[.agg #[.int .i64 ep,.int .i64 ld,.int .i64 1,.slice A is.length c',.slice B 3 d],.int .i64 e]∧PE G (exP ep ld is a b c) [.int .i64 ep,.int .i64 ld,.int .i64 1,.slice A is.length c',.slice B 3 d]:=by
 obtain⟨cs,h1,h2⟩:=h;have h3:=h2;obtain⟨A,c',B,d,rfl,-⟩:=h2;exact⟨A,c',B,d,h1,h3⟩
theorem I6{e:Int}{G:J5}{r:Value}(h:PtR (iz,e) G r):∃ A c B d,r=.tuple #[.agg #[.int .i64 0,.int .i64 0,.int .i64 0,.slice A 0 c,.slice B 0 d],.int .i64 e]:=by
 obtain⟨cs,h1,h2⟩:=h;obtain⟨A,c',B,d,rfl,-⟩:=h2;exact⟨A,c',B,d,h1⟩
theorem EL(v:Value)(G:J5)(hl:SlV G IE 1 v [0,1,2]):FnD Tryz.prog 13 #[v,.int .i64 4096,.int .i64 1] G (fun G' r=>∃ A c B d,r=.tuple #[.agg #[.int .i64 1,.int .i64 0,.int .i64 1,.slice A 3 c,.slice B 3 d],.int .i64 0]∧PE G' Bj [.int .i64 1,.int .i64 0,.int .i64 1,.slice A 3 c,.slice B 3 d]):=by
 have:=vI [0,1,2] 4096 1 v G hl (by decide) (by decide);rw[C9]at this;exact iG this fun _ _ h=>ptv h
theorem xD{A:Ka}{c:Nat}{B:Ka}{d:Nat}{cb:J6}(G:J5)(hp:PE G Bj [.int .i64 1,.int .i64 0,.int .i64 1,.slice A 3 c,.slice B 3 d])(hb:BE G exB cb):FnD Tryz.prog 25 #[.agg #[.int .i64 1,.int .i64 0,.int .i64 1,.slice A 3 c,.slice B 3 d],.agg cb.toArray] G (fun G' r=>∃ A c B d,r=.tuple #[.agg #[.int .i64 1,.int .i64 0,.int .i64 1,.slice A 3 c,.slice B 3 d],.int .i64 0,.int .i64 0]∧PE G' qo [.int .i64 1,.int .i64 0,.int .i64 1,.slice A 3 c,.slice B 3 d]):=by
 have:=lM Bj exB _ _ G hp (iB (gF _) (gF _) (gF _) (by decide)) hb;rw[Dj]at this;refine iG this fun G' r ⟨cs,h1,h2⟩=>?_
 have h3:=h2;obtain⟨A,c',B,d,rfl,-⟩:=h2;exact⟨A,c',B,d,h1,h3⟩
theorem CC{A:Ka}{c:Nat}{B:Ka}{d:Nat}(G:J5)(hp:PE G qo [.int .i64 1,.int .i64 0,.int .i64 1,.slice A 3 c,.slice B 3 d]):FnD Tryz.prog 33 #[.agg #[.int .i64 1,.int .i64 0,.int .i64 1,.slice A 3 c,.slice B 3 d],.int .i64 1] G (fun G' r=>∃ A c B d,r=.tuple #[.agg #[.int .i64 1,.int .i64 0,.int .i64 1,.slice A 3 c,.slice B 3 d],.int .i64 0]∧PE G' uV [.int .i64 1,.int .i64 0,.int .i64 1,.slice A 3 c,.slice B 3 d]):=by
 have:=oB qo _ 1 G hp (iB (gt _ _) (gF _) (gF _) (by decide)) (by decide) (.inr (.inl (by decide)));rw[Cj]at this;exact iG this fun _ _ h=>ptv h
theorem Dl{A:Ka}{c:Nat}{B:Ka}{d:Nat}(G:J5)(hp:PE G uV [.int .i64 1,.int .i64 0,.int .i64 1,.slice A 3 c,.slice B 3 d]):FnD Tryz.prog 44 #[.agg #[.int .i64 1,.int .i64 0,.int .i64 1,.slice A 3 c,.slice B 3 d],.int .i64 2] G (fun G' r=>∃ A c B d,r=.tuple #[.agg #[.int .i64 1,.int .i64 0,.int .i64 1,.slice A 2 c,.slice B 3 d],.int .i64 0]∧PE G' uP [.int .i64 1,.int .i64 0,.int .i64 1,.slice A 2 c,.slice B 3 d]):=by
 have:=xL uV _ 2 G hp (iB (gt _ _) (gt _ _) (gF _) (by decide)) (by decide);rw[Co]at this;exact iG this fun _ _ h=>ptv h
theorem yW{A:Ka}{c:Nat}{B:Ka}{d:Nat}(G:J5)(hp:PE G uP [.int .i64 1,.int .i64 0,.int .i64 1,.slice A 2 c,.slice B 3 d]):FnD Tryz.prog 35 #[.agg #[.int .i64 1,.int .i64 0,.int .i64 1,.slice A 2 c,.slice B 3 d],.int .i64 0,.int .i64 0] G (fun G' r=>∃ A c B d,r=.tuple #[.agg #[.int .i64 1,.int .i64 (-1),.int .i64 1,.slice A 1 c,.slice B 3 d],.int .i64 0]∧PE G' oo [.int .i64 1,.int .i64 (-1),.int .i64 1,.slice A 1 c,.slice B 3 d]):=by
 have:=sx uP _ 0 0 G hp (iB (gt _ _) (gt _ _) (gF _) (by decide)) (by decide) (by decide);rw[zi]at this;exact iG this fun _ _ h=>ptv h
theorem rQ{A:Ka}{c:Nat}{B:Ka}{d:Nat}{cb:J6}(G:J5)(hp:PE G oo [.int .i64 1,.int .i64 (-1),.int .i64 1,.slice A 1 c,.slice B 3 d])(hb:BE G exB cb):FnD Tryz.prog 25 #[.agg #[.int .i64 1,.int .i64 (-1),.int .i64 1,.slice A 1 c,.slice B 3 d],.agg cb.toArray] G (fun G' r=>∃ A c B d,r=.tuple #[.agg #[.int .i64 0,.int .i64 0,.int .i64 0,.slice A 0 c,.slice B 0 d],.int .i64 0,.int .i64 180]):=by
 have:=lM oo exB _ _ G hp (iB nZ (gt _ _) (gF _) (by decide)) hb;rw[Da]at this;refine iG this fun G' r ⟨cs,h1,h2⟩=>?_
 obtain⟨A,c',B,d,rfl,-⟩:=h2;exact⟨A,c',B,d,h1⟩
theorem Ek{A:Ka}{c:Nat}{B:Ka}{d:Nat}(G:J5)(hp:PE G oo [.int .i64 1,.int .i64 (-1),.int .i64 1,.slice A 1 c,.slice B 3 d]):FnD Tryz.prog 37 #[.agg #[.int .i64 1,.int .i64 (-1),.int .i64 1,.slice A 1 c,.slice B 3 d],.int .i64 2] G (fun G' r=>∃ A c B d,r=.tuple #[.agg #[.int .i64 0,.int .i64 0,.int .i64 0,.slice A 0 c,.slice B 0 d],.int .i64 181]):=by
 have:=oU oo _ 2 G hp (iB nZ (gt _ _) (gF _) (by decide)) (by decide);rw[Er]at this;exact iG this fun _ _ h=>I6 h
theorem EK{A:Ka}{c:Nat}{B:Ka}{d:Nat}(G:J5)(hp:PE G oo [.int .i64 1,.int .i64 (-1),.int .i64 1,.slice A 1 c,.slice B 3 d]):FnD Tryz.prog 37 #[.agg #[.int .i64 1,.int .i64 (-1),.int .i64 1,.slice A 1 c,.slice B 3 d],.int .i64 1] G (fun G' r=>∃ A c B d,r=.tuple #[.agg #[.int .i64 2,.int .i64 1,.int .i64 1,.slice A 1 c,.slice B 3 d],.int .i64 0]∧PE G' s6 [.int .i64 2,.int .i64 1,.int .i64 1,.slice A 1 c,.slice B 3 d]):=by
 have:=oU oo _ 1 G hp (iB nZ (gt _ _) (gF _) (by decide)) (by decide);rw[Fv]at this;exact iG this fun _ _ h=>ptv h
theorem CJ{A:Ka}{c:Nat}{B:Ka}{d:Nat}(G:J5)(hp:PE G s6 [.int .i64 2,.int .i64 1,.int .i64 1,.slice A 1 c,.slice B 3 d]):FnD Tryz.prog 15 #[.agg #[.int .i64 2,.int .i64 1,.int .i64 1,.slice A 1 c,.slice B 3 d]] G (fun G' r=>∃ A c,r=.tuple #[.agg #[.int .i64 4096,.int .i64 0,.slice A 1 c],.int .i64 0]∧LE G' mq [.int .i64 4096,.int .i64 0,.slice A 1 c]):=by
 have:=xV s6 _ G hp (iB nZ (gt _ _) (gF _) (by decide));rw[Dz]at this;refine iG this fun G' r ⟨cs,h1,h2⟩=>?_
 have h3:=h2;obtain⟨A,c',rfl,-⟩:=h2;exact⟨A,c',h1,h3⟩
theorem DC{A:Ka}{c:Nat}{B:Ka}{d:Nat}(G:J5)(hp:PE G s6 [.int .i64 2,.int .i64 1,.int .i64 1,.slice A 1 c,.slice B 3 d]):FnD Tryz.prog 36 #[.agg #[.int .i64 2,.int .i64 1,.int .i64 1,.slice A 1 c,.slice B 3 d],.int .i64 0] G (fun G' r=>∃ A c B d,r=.tuple #[.agg #[.int .i64 2,.int .i64 1,.int .i64 1,.slice A 1 c,.slice B 3 d],.int .i64 0]∧PE G' zD [.int .i64 2,.int .i64 1,.int .i64 1,.slice A 1 c,.slice B 3 d]):=by
 have:=se s6 _ 0 G hp (iB nZ (gt _ _) (gF _) (by decide)) (by decide);rw[DQ]at this;exact iG this fun _ _ h=>ptv h
theorem yX{A:Ka}{c:Nat}{B:Ka}{d:Nat}(G:J5)(hp:PE G zD [.int .i64 2,.int .i64 1,.int .i64 1,.slice A 1 c,.slice B 3 d]):FnD Tryz.prog 36 #[.agg #[.int .i64 2,.int .i64 1,.int .i64 1,.slice A 1 c,.slice B 3 d],.int .i64 0] G (fun G' r=>∃ A c B d,r=.tuple #[.agg #[.int .i64 0,.int .i64 0,.int .i64 0,.slice A 0 c,.slice B 0 d],.int .i64 150]):=by
 have:=se zD _ 0 G hp (iB (gt _ _) (gt _ _) (gF _) (by decide)) (by decide);rw[zl]at this;exact iG this fun _ _ h=>I6 h
theorem dn0:decide ((0:Int)≠0)=false:=by decide
theorem dn1:decide (((1:Nat):Int)≠1)=false:=by decide
theorem Gp(e:Env)(G:J5)(b3:Nat)(A:Ka)(c:Nat)(B:Ka)(d:Nat)(A4:Ka)(c4:Nat)(B4:Ka)(d4:Nat)(A5:Ka)(c5:Nat)(B5:Ka)(d5:Nat)(A6:Ka)(c6:Nat)(B6:Ka)(d6:Nat)
  (A9:Ka) (c9:Nat) (B9:Ka) (d9:Nat) (Aa:Ka) (ca:Nat) (Ab:Ka) (cb:Nat) (Bb:Ka) (db:Nat)
  (hpa:PE G qo [.int .i64 1,.int .i64 0,.int .i64 1,.slice A 3 c,.slice B 3 d]) (hpb:PE G uV [.int .i64 1,.int .i64 0,.int .i64 1,.slice A4 3 c4,.slice B4 3 d4]) (hpc:PE G uP [.int .i64 1,.int .i64 0,.int .i64 1,.slice A5 2 c5,.slice B5 3 d5]) (hpx:PE G s6 [.int .i64 2,.int .i64 1,.int .i64 1,.slice A9 1 c9,.slice B9 3 d9]) (hll:LE G mq [.int .i64 4096,.int .i64 0,.slice Aa 1 ca]) (hpy:PE G zD [.int .i64 2,.int .i64 1,.int .i64 1,.slice Ab 1 cb,.slice Bb 3 db])
  (e2:e 2=.int .i64 0) (e3:e 3=.pointer (some ⟨b3,0,none⟩)) (e4:e 4=.int .i64 0) (e5:e 5=.int .i64 0) (e7:e 7=.int .i64 0) (e9:e 9=.int .i64 0) (e11:e 11=.int .i64 0) (e14:e 14=.int .i64 180) (e16:e 16=.int .i64 181) (e18:e 18=.int .i64 0) (e20:e 20=.int .i64 0) (e22:e 22=.int .i64 0) (e24:e 24=.int .i64 150) :
  go none Tryz.prog 191 v11.1 v11.2 (gl o11 fun v x=>v=.bool true) [.s (.reg false c11r12),.s (.cond (.t 119) (.seq (.reg false c11r13) .ret) .skip),.s (.seq (.reg false c11r14) .ret)] e
   ⟨G,[.reg 21 [.int .i64 2,.int .i64 1,.int .i64 1,.slice Ab 1 cb,.slice Bb 3 db],.reg 19 [.int .i64 4096,.int .i64 0,.slice Aa 1 ca],.reg 17 [.int .i64 2,.int .i64 1,.int .i64 1,.slice A9 1 c9,.slice B9 3 d9],.reg 10 [.int .i64 1,.int .i64 (-1),.int .i64 1,.slice A6 1 c6,.slice B6 3 d6],.reg 8 [.int .i64 1,.int .i64 0,.int .i64 1,.slice A5 2 c5,.slice B5 3 d5],.reg 6 [.int .i64 1,.int .i64 0,.int .i64 1,.slice A4 3 c4,.slice B4 3 d4],.blk b3 [.int .i64 1,.int .i64 0,.int .i64 1,.slice A 3 c,.slice B 3 d]],[]⟩:=by
 have hna:∀ t:Bool,t=decide ((0:Int)≠0)→t=false:=fun t h=>by rw[h];rfl
 refine dC [2,3,4,5,7,9,11,14,16,18,20,22,24] ?_
 (try simp -implicitDefEqProofs only[nG,nH,push_cast,Nat.reduceBEq,Nat.reduceAdd,Nat.reduceSub,Nat.reduceMul,Nat.reduceLT,Nat.reduceLeDiff,Nat.reduceEqDiff,reduceIte,Bool.not_true,Bool.not_false,true_and,and_true,Option.map_some,Option.bind_some,Int.toNat_natCast,e2,e3,e4,e5,e7,e9,e11,e14,e16,e18,e20,e22,e24])
 intros;refine gr 84 119 ?_;rw[c11r12.eq_1];refine sI ?_;rw[dn0];refine sI ?_;rw[dn0];refine sI ?_;rw[dn0];refine sI ?_;rw[dn0];refine sI ?_;rw[dn0];refine sI ?_;rw[dn0];refine sI ?_;rw[dn0];refine sI ?_;rw[dn0];refine sI ?_;have dn1:decide ((0:Int)+1≠1)=false:=by decide
 have de:∀ n:Int,decide (n=n)=true:=fun n=>decide_eq_true rfl
 have ha:=pB qo _ G hpa (iB (gt _ _) (gF _) (gF _) (by decide));rw[It]at ha;have hb:=pB uV _ G hpb (iB (gt _ _) (gt _ _) (gF _) (by decide));rw[IS]at hb;have hc:=pB uP _ G hpc (iB (gt _ _) (gt _ _) (gF _) (by decide));rw[HB]at hc;have hx:=pB s6 _ G hpx (iB nZ (gt _ _) (gF _) (by decide));rw[HQ]at hx;have hend:=vE mq _ G hll (qp o9) (by show(1:Nat)≤_;decide);rw[oY]at hend
 have hcy:=ko zD _ G hpy (iB (gt _ _) (gt _ _) (gF _) (by decide));rw[Ez]at hcy;have hcn:=ko iz [.int .i64 0,.int .i64 0,.int .i64 0,.slice none 0 0,.slice none 0 0] G ⟨none,0,none,0,rfl,slN,slN,iA,iA,iA⟩ ⟨fun r h=>(by cases h),Nat.zero_le _,Nat.zero_le _⟩;rw[Di]at hcn;obtain⟨_,_,_,_,hex,hv1,-⟩:=hpx;unfold d7 at hex;cases hex;obtain⟨A1,c1,he1,-,-,hA1⟩:=hv1;cases he1;intros;rw[dn1]
 intros;refine gC ?_;intros;refine gN ?_;intros;refine gr 120 190 ?_;rw[c11r14.eq_1];refine sI ?_;refine⟨_,lh (us:=[.int .i64 1,.int .i64 0,.int .i64 1,.slice A 3 c,.slice B 3 d]) (.tail _ (.tail _ (.tail _ (.tail _ (.tail _ (.tail _ (.head _))))))) rfl (fun j u h=>by rw[Nat.zero_add];exact h),?_⟩;refine sI ?_;refine fK (ha _ _) ?_;refine fK (hb _ _) ?_;refine fK (hc _ _) ?_
 refine⟨by decide,(hA1.x_l1 (k:=0) (x:=1) (j:=0) rfl rfl rfl ?_).2⟩;rintro a1 ha1 u1 ⟨hu,-⟩;cases hu;refine sI ?_;refine fK (hx _ _) ?_;refine fK (hend _ _) ?_;refine fK (hcy _ _) ?_;refine fK (hcn _ _) ?_;intros;intros;refine rV ?_;simp only[push_cast,Nat.reduceBEq]
theorem GB(G:J5):FnS Tryz.prog 11 #[] G (.bool true):=by
 refine F11.fnS (by simp) (dI ?_);unfold c11;intros;refine gR 0 0 c11r0.eq_1 ?_;intros;try refine dx ?_
 intros;refine gR 25 30 c11r1.eq_1 ?_;intro b hb;refine sI ?_;have h012:Cells IE 1 [0,1,2] [.int .i64 0,.int .i64 1,.int .i64 2]:=.cons (cs:=[_]) ⟨rfl,iA⟩ rfl (.cons (cs:=[_]) ⟨rfl,(by decide:I64 1)⟩ rfl (.one ⟨rfl,(by decide:I64 2)⟩ rfl));refine qh F13.enters (dT [] _ (by decide) h012) ?_;rintro h' ⟨G1,rfl,hg1,hv1⟩;refine(EL _ G1 hv1 _ _).mono ?_;rintro r h' ⟨G2,rfl,hg2,A,c,B,d,rfl,hp0⟩
 refine sI ?_;intros;try refine dx ?_
 refine ez (fun e h=>∃ (G3:J5) (b3:Nat) (A:Ka) (c:Nat) (B:Ka) (d:Nat) (Lh:J8),PE G3 qo [.int .i64 1,.int .i64 0,.int .i64 1,.slice A 3 c,.slice B 3 d]∧e 2=.int .i64 0∧e 3=.pointer (some ⟨b3,0,none⟩)∧e 4=.int .i64 0∧e 5=.int .i64 0∧h=⟨G3,Lh,[]⟩∧([.blk b3 [.int .i64 1,.int .i64 0,.int .i64 1,.slice A 3 c,.slice B 3 d]]:J8).Sublist Lh) ?_ ?_
 ·intros;refine dy ?_;refine AY _ Kl (by decide) ?_;refine sJ c11r2.eq_1 ?_;refine⟨?_,?_⟩
  ·refine(mI G2 _ _).mono ?_;rintro r h' ⟨G3,rfl,hg3,Bb,db,rfl,hbe⟩;refine⟨j9 hg3,?_⟩;refine sI ?_;refine⟨?_,?_⟩
   ·refine(xD G3 (hp0.le hg3) hbe _ _).mono ?_;rintro r h' ⟨G4,rfl,hg4,A',c',B',d',rfl,hpa⟩;refine sI ?_;refine⟨j9 (hg3.trans hg4),?_⟩;refine sI ?_;intro b3 hb3;refine⟨dO (hg3.trans hg4) (.cons _ Kl),?_⟩;refine sI ?_;refine dM [] _ rfl (by simp) ⟨rfl,rfl⟩ ?_;refine sI ?_;refine⟨dO (hg3.trans hg4) (.cons _ Kl),?_⟩;refine sI ?_;exact ej ⟨G4,b3,A',c',B',d',_,hpa,eE,eE,eE,eE,rfl,.cons_cons _ Km⟩
   ·intro b3 hb3;refine⟨dO hg3 (.cons _ Kl),?_⟩;refine sI ?_;refine(xD G3 (hp0.le hg3) hbe _ _).mono ?_;rintro r h' ⟨G4,rfl,hg4,A',c',B',d',rfl,hpa⟩;refine sI ?_;refine⟨dO (hg3.trans hg4) (.cons _ Kl),?_⟩;refine sI ?_;refine dM [] _ rfl (by simp) ⟨rfl,rfl⟩ ?_;refine sI ?_;refine⟨dO (hg3.trans hg4) (.cons _ Kl),?_⟩;refine sI ?_;exact ej ⟨G4,b3,A',c',B',d',_,hpa,eE,eE,eE,eE,rfl,.cons_cons _ Km⟩
  ·intro b3 hb3;refine⟨dO Kp (.cons _ Kl),?_⟩;refine sI ?_;refine(mI G2 _ _).mono ?_;rintro r h' ⟨G3,rfl,hg3,Bb,db,rfl,hbe⟩;refine⟨dO hg3 (.cons _ Kl),?_⟩;refine sI ?_;refine(xD G3 (hp0.le hg3) hbe _ _).mono ?_;rintro r h' ⟨G4,rfl,hg4,A',c',B',d',rfl,hpa⟩;refine sI ?_;refine⟨dO (hg3.trans hg4) (.cons _ Kl),?_⟩;refine sI ?_;refine dM [] _ rfl (by simp) ⟨rfl,rfl⟩ ?_;refine sI ?_
   refine⟨dO (hg3.trans hg4) (.cons _ Kl),?_⟩;refine sI ?_;exact ej ⟨G4,b3,A',c',B',d',_,hpa,eE,eE,eE,eE,rfl,.cons_cons _ Km⟩
 rintro e h ⟨G3,b3,A,c,B,d,Lh,hpa,e2,e3,e4,e5,rfl,hsub⟩;refine dC [2,3,4,5] ?_;refine sJ4 @e2 @e3 @e4 @e5 ?_;intros;refine dA (dE hsub) ?_;clear hsub hp0;intros;try refine dx ?_
 intros;refine gR 37 42 c11r3.eq_1 ?_;refine⟨_,lh (us:=[.int .i64 1,.int .i64 0,.int .i64 1,.slice A 3 c,.slice B 3 d]) (.head _) rfl (fun j u h=>by rw[Nat.zero_add];exact h),?_⟩;refine sI ?_;refine(CC G3 hpa _ _).mono ?_;rintro r h' ⟨G4,rfl,hg4,A4,c4,B4,d4,rfl,hpb⟩;refine sI ?_;intros;try refine dx ?_
 intros;refine gR 42 47 c11r4.eq_1 ?_;refine(Dl G4 hpb _ _).mono ?_;rintro r h' ⟨G5,rfl,hg5,A5,c5,B5,d5,rfl,hpc⟩;refine sI ?_;intros;try refine dx ?_
 intros;refine gR 47 52 c11r5.eq_1 ?_;refine(yW G5 hpc _ _).mono ?_;rintro r h' ⟨G6,rfl,hg6,A6,c6,B6,d6,rfl,hpd⟩;refine sI ?_;intros;try refine dx ?_
 refine ez (fun e h=>∃ (G7:J5) (Lh:J8),Gle G6 G7∧e 2=.int .i64 0∧e 3=.pointer (some ⟨b3,0,none⟩)∧e 4=.int .i64 0∧e 5=.int .i64 0∧e 7=.int .i64 0∧e 9=.int .i64 0∧e 11=.int .i64 0∧e 14=.int .i64 180∧h=⟨G7,Lh,[]⟩∧([.reg 10 [.int .i64 1,.int .i64 (-1),.int .i64 1,.slice A6 1 c6,.slice B6 3 d6],.reg 8 [.int .i64 1,.int .i64 0,.int .i64 1,.slice A5 2 c5,.slice B5 3 d5],.reg 6 [.int .i64 1,.int .i64 0,.int .i64 1,.slice A4 3 c4,.slice B4 3 d4],.blk b3 [.int .i64 1,.int .i64 0,.int .i64 1,.slice A 3 c,.slice B 3 d]]:J8).Sublist Lh) ?_ ?_
 ·intros;refine dy ?_;refine AY _ Kl (by decide) ?_;refine sJ c11r6.eq_1 ?_;refine⟨?_,?_⟩
  ·refine(mI G6 _ _).mono ?_;rintro r h' ⟨G7,rfl,hg7,Bb,db,rfl,hbe⟩;refine⟨j9 hg7,?_⟩;refine sI ?_;refine⟨?_,?_⟩
   ·refine(rQ G7 (hpd.le hg7) hbe _ _).mono ?_;rintro r h' ⟨G8,rfl,hg8,A',c',B',d',rfl⟩;refine sI ?_;refine⟨j9 (hg7.trans hg8),?_⟩;refine sI ?_;intro b12 hb12;refine⟨dO (hg7.trans hg8) (.cons _ Kl),?_⟩;refine sI ?_;refine dM [] _ rfl (by simp) ⟨rfl,rfl⟩ ?_;refine sI ?_;refine⟨dO (hg7.trans hg8) (.cons _ Kl),?_⟩;refine sI ?_;exact ej ⟨G8,_,hg7.trans hg8,eE,eE,eE,eE,eE,eE,eE,eE,rfl,.cons _ Kl⟩
   ·intro b12 hb12;refine⟨dO hg7 (.cons _ Kl),?_⟩;refine sI ?_;refine(rQ G7 (hpd.le hg7) hbe _ _).mono ?_;rintro r h' ⟨G8,rfl,hg8,A',c',B',d',rfl⟩;refine sI ?_;refine⟨dO (hg7.trans hg8) (.cons _ Kl),?_⟩;refine sI ?_;refine dM [] _ rfl (by simp) ⟨rfl,rfl⟩ ?_;refine sI ?_;refine⟨dO (hg7.trans hg8) (.cons _ Kl),?_⟩;refine sI ?_;exact ej ⟨G8,_,hg7.trans hg8,eE,eE,eE,eE,eE,eE,eE,eE,rfl,.cons _ Kl⟩
  ·intro b12 hb12;refine⟨dO Kp (.cons _ Kl),?_⟩;refine sI ?_;refine(mI G6 _ _).mono ?_;rintro r h' ⟨G7,rfl,hg7,Bb,db,rfl,hbe⟩;refine⟨dO hg7 (.cons _ Kl),?_⟩;refine sI ?_;refine(rQ G7 (hpd.le hg7) hbe _ _).mono ?_;rintro r h' ⟨G8,rfl,hg8,A',c',B',d',rfl⟩;refine sI ?_;refine⟨dO (hg7.trans hg8) (.cons _ Kl),?_⟩;refine sI ?_;refine dM [] _ rfl (by simp) ⟨rfl,rfl⟩ ?_;refine sI ?_
   refine⟨dO (hg7.trans hg8) (.cons _ Kl),?_⟩;refine sI ?_;exact ej ⟨G8,_,hg7.trans hg8,eE,eE,eE,eE,eE,eE,eE,eE,rfl,.cons _ Kl⟩
 rintro e h ⟨G7,Lh,hg7,e2,e3,e4,e5,e7,e9,e11,e14,rfl,hsub⟩;refine dC [2,3,4,5,7,9,11,14] ?_
 (try simp -implicitDefEqProofs only[nG,nH,push_cast,Nat.reduceBEq,Nat.reduceAdd,Nat.reduceSub,Nat.reduceMul,Nat.reduceLT,Nat.reduceLeDiff,Nat.reduceEqDiff,reduceIte,Bool.not_true,Bool.not_false,true_and,and_true,Option.map_some,Option.bind_some,Int.toNat_natCast,e2,e3,e4,e5,e7,e9,e11,e14])
 intros;refine dA (dE hsub) ?_;clear hsub;have hpd:=hpd.le hg7;intros;try refine dx ?_
 intros;refine gR 59 64 c11r7.eq_1 ?_;refine(Ek G7 hpd _ _).mono ?_;rintro r h' ⟨G8,rfl,hg8,A8,c8,B8,d8,rfl⟩;refine sI ?_;intros;try refine dx ?_
 intros;refine gR 64 69 c11r8.eq_1 ?_;refine(EK G8 (hpd.le hg8) _ _).mono ?_;rintro r h' ⟨G9,rfl,hg9,A9,c9,B9,d9,rfl,hpx⟩;refine sI ?_;intros;try refine dx ?_
 intros;refine gR 69 74 c11r9.eq_1 ?_;refine(CJ G9 hpx _ _).mono ?_;rintro r h' ⟨Ga,rfl,hga,Aa,ca,rfl,hll⟩;refine sI ?_;intros;try refine dx ?_
 intros;refine gR 74 79 c11r10.eq_1 ?_;refine(DC Ga (hpx.le hga) _ _).mono ?_;rintro r h' ⟨Gb,rfl,hgb,Ab,cb,Bb,db,rfl,hpy⟩;refine sI ?_;intros;try refine dx ?_
 intros;refine gR 79 84 c11r11.eq_1 ?_;refine(yX Gb hpy _ _).mono ?_;rintro r h' ⟨Gc,rfl,hgc,Ac,cc,Bc,dc,rfl⟩;refine sI ?_;intros;try refine dx ?_
 intros;try refine dx ?_
 have h7c:Gle G7 Gc:=hg8.trans (hg9.trans (hga.trans (hgb.trans hgc)));have h5c:Gle G5 Gc:=hg6.trans (hg7.trans h7c);refine dA (dE (.cons _ (.cons_cons _ (.cons_cons _ (.cons_cons _ (.cons _ Kl)))))) ?_
 exact Gp _ Gc b3 A c B d A4 c4 B4 d4 A5 c5 B5 d5 A6 c6 B6 d6 A9 c9 B9 d9 Aa ca Ab cb Bb db (hpa.le (hg4.trans (hg5.trans h5c))) (hpb.le (hg5.trans h5c)) (hpc.le h5c) (hpx.le (hga.trans (hgb.trans hgc))) (hll.le (hgb.trans hgc)) (hpy.le hgc) (eE) (eE) (eE) (eE) (eE) (eE) (eE) (eE) (eE) (eE) (eE) (eE) (eE)
theorem F34:Fun Tryz.prog 34 20 v34 c34 o34:=Fun.mkA Tryz.func34 Tryz.ntmps34
theorem JH{P:Program}{h:H}{d n dd:Nat}{l:J7}{G:J5}{B:Ka}{xs:List Rp}{K:Env→Prop}{e:Addr→Env}{j N:Int}{k:Nat}{r:Rp}(hv:SlV G (RE G) 7 (.slice B n dd) xs)(hx:xs[k]?=some r)(hj:j=k)(hN:0≤j∧j < N)(hG:h.G=G)
  (hk:∀ a,B=some a→∀ A1 c1,LE G r.log (es r.log A1 c1)→kQ P l d (e a) h K (.agg (es r.log A1 c1).toArray)):(0≤j∧j < N)∧∃ a,B=some a∧lqX P (.pointer (some ((a.add (j.toNat * 7)).add 2))) (some 3) d l (e a) h K:=by
 obtain⟨G',L,D⟩:=h;dsimp only at hG;subst hG;obtain⟨a,A1,c1,B1,d1,ha,hre,hl3,-⟩:=tL hv hx;obtain⟨A9,c9,B9,d9,he9,hs9,-,hlim,-⟩:=hre;unfold fF at he9;cases he9;subst hj;exact⟨hN,a,ha,_,by simpa using hl3 L D,hk a ha A1 c1 ⟨A1,c1,rfl,hs9,hlim⟩⟩
theorem FY(p:Pt)(n:Int)(cs:J6)(G:J5)(hp:PE G p cs):FnS Tryz.prog 34 #[.agg cs.toArray,.int .i64 n] G (.bool (decide (n∈p.isr))):=by
 obtain⟨A,c,B,d,rfl,⟨A0,c0,he,hc,hm,hA⟩,hv2,hI⟩:=hp;cases he;refine F34.fnS (by simp) (dI ?_);unfold c34 d7;intros;refine gR 0 0 c34r0.eq_1 ?_;intros;refine dy ?_;intros;refine gR 0 0 c34r1.eq_1 ?_;intros;refine dy ?_;refine dV (fun e h=>∃ k:Nat,(k≤p.isr.length∧n∉p.isr.take k)∧e 5=.int .i64 k∧e 1=.int .i64 n∧h=⟨G,[.reg 2 (d7 p A c B d)],[]⟩) (fun e h=>p.isr.length - iv (e 5)) ?_ ?_
 ·exact⟨0,⟨Nat.zero_le _,by simp⟩,eE,eE,rfl⟩
 unfold d7;rintro e h ⟨k,⟨hk,hall⟩,e5,e1,rfl⟩;refine dC [5,1] ?_;refine sJ2 @e5 @e1 ?_;intros;refine gR 6 10 c34r2.eq_1 ?_;intros;refine gC ?_;refine gb (fun k1=>?_) (fun k1=>?_)
 ·have k1:k < p.isr.length:=by have:=Kn k1;omega
  have hw:=fi k c (by omega) hm;obtain⟨x,hx⟩:∃ s,p.isr[k]?=some s:=⟨p.isr[k],getElem?_eq_getElem (by omega)⟩;intros;refine gN ?_;intros;refine gR 14 19 c34r3.eq_1 ?_;refine hA.x_l1 hx rfl rfl ?_;rintro a1 ha1 u1 ⟨hu,-⟩;cases hu;refine sI ?_;intros;refine gC ?_;refine gbD (fun k2=>?_) (fun k2=>?_)
  ·intros;refine gR 0 0 c34r4.eq_1 ?_;intros;refine rW ?_;rw[decide_eq_true];rw[← k2];exact mem_of_getElem? hx
  ·intros;refine gN ?_;intros;refine gR2 11 13 c34r5.eq_1 @hw ?_;intros;refine dy ?_;refine ej ⟨⟨k+1,⟨by omega,fun hz=>?_⟩,eE,eE,rfl⟩,?_⟩
   ·rw[eo hx]at hz;rcases List.mem_append.1 hz with h | h
    ·exact hall h
    ·simp at h;exact k2 h.symm
   ·refine sI ?_;omega
 ·have k1:k=p.isr.length:=by have:=Ko k1;omega
  subst k1;rw[take_length]at hall;intros;refine gN ?_;refine dS ?_;refine sI ?_;intros;refine gR 0 0 c34r6.eq_1 ?_;intros;refine rW ?_;rw[decide_eq_false hall]
def JT(r:Rp):Prop:=r.log.segs.length≤12∧(∀ s∈r.log.segs,s.bytes.length≤5000)∧r.eps.length≤60
def Jd(p:Pt):Prop:=p.reps.length≤8∧p.isr.length≤30∧∀ r∈p.reps,JT r
theorem Jd.sm{p:Pt}(h:Jd p):smP p:=⟨fun r hr=>⟨fun s hs=>by have:=(h.2.2 r hr).2.1 s hs;omega,by have:=(h.2.2 r hr).1;omega,by have:=(h.2.2 r hr).2.2;omega⟩,by have:=h.1;omega,by have:=h.2.1;omega⟩
theorem l9{p:Pt}{i:Nat}{r:Rp}(h:p.reps[i]?=some r):∃ m,(dY p).reps[i]?=some { r with high:=m }:=by
 unfold dY;split
 ·exact⟨r.high,h⟩
 ·split
  ·exact⟨r.high,h⟩
  ·rename_i k hk;split
   ·exact⟨r.high,h⟩
   ·rename_i x hx;by_cases hik:k=i
    ·subst hik;rw[h]at hx;cases hx;exact⟨_,List.getElem?_set_self (List.getElem?_eq_some_iff.1 h).1⟩
    ·refine⟨r.high,?_⟩;show(p.reps.set k _)[i]?=_;rw[List.getElem?_set_ne hik,h]
theorem dnn(n:Int):decide (n≠n)=false:=decide_eq_false fun h=>h rfl
theorem oC{p:Pt}(h:okP p){k i:Nat}{r s:Rp}(hr:p.reps[k]?=some r)(hs:p.reps[i]?=some s)(he:r.id=s.id):k=i:=by
 have h1:=m7 h.1.2.1.2.2 hr;have h2:=m7 h.1.2.1.2.2 hs;rw[he,h2]at h1;exact(Option.some.inj h1).symm
theorem lQ{p:Pt}{k:Nat}{r y:Rp}(h:okP p)(hr:p.reps[k]?=some r)(hid:y.id=r.id)(hy:okR y)(hl:r.id=p.leader→y.up=true):okP (fV p k y):=by
 obtain⟨⟨h1,h2,h3,h4,h5⟩,h6,h7⟩:=h;have hkl:=(List.getElem?_eq_some_iff.1 hr).1;have e1:fE (p.reps.set k y)=fE p.reps:=hZ hr hid;have e2:(p.reps.set k y).length=p.reps.length:=List.length_set ..
 refine⟨⟨h1,by show fu (fE (p.reps.set k y));rw[e1];exact h2,by show(p.reps.set k y).length≤5;rw[e2];exact h3,by show 1≤p.least∧p.least≤((p.reps.set k y).length:Int);rw[e2];exact h4,fun z hz=>?_⟩,⟨h6.1,fun n hn=>by show n∈fE (p.reps.set k y);rw[e1];exact h6.2 n hn⟩,?_⟩
 ·rcases List.mem_or_eq_of_mem_set hz with hz | rfl
  ·exact h5 z hz
  ·exact hy
 ·rcases h7 with h7 | ⟨⟨z,hz,hz1,hz2⟩,h8⟩
  ·exact .inl h7
  refine .inr ⟨?_,h8⟩;obtain⟨i,hi⟩:=List.mem_iff_getElem?.1 hz;by_cases hik:k=i
  ·subst hik;rw[hr]at hi;cases hi;exact⟨y,List.mem_set hkl y,by rw[hid];exact hz1,hl hz1⟩
  ·refine⟨z,mem_of_getElem? (i:=i) ?_,hz1,hz2⟩;show(p.reps.set k y)[i]?=some z;rw[List.getElem?_set_ne hik,hi]
theorem pK{p:Pt}(h:okP p):okP (dY p):=by
 by_cases h0:p.leader < 0
 ·unfold dY;rw[if_pos h0];exact h
 obtain⟨k,r,hk,hr,hid⟩:=lY h h0;have hup:r.up=true:=by
  rcases h.2.2 with h7 | ⟨⟨z,hz,hz1,hz2⟩,h8⟩
  ·omega
  obtain⟨i,hi⟩:=List.mem_iff_getElem?.1 hz;obtain rfl:=oC h hr hi (by rw[hid,hz1]);rw[hr]at hi;cases hi;exact hz2
 have hok:=h.1.2.2.2.2 r (mem_of_getElem? hr);have hle:=m5 p.reps k r p.isr (ec r.log);have hei:=iI r.log;rw[i9 h0 hk hr];obtain⟨⟨g1,g2,g3,g4⟩,g5,g6⟩:=hok;have g6:=g6 hup;refine lQ h hr rfl ⟨⟨g1,g2,?_,?_⟩,g5,fun _=>?_⟩ fun _=>hup
 all_goals dsimp only;omega
theorem p9{l m:Ki}(h:fu l)(hs:m.Sublist l)(hm:m≠[]):fu m:=⟨hm,fun n hn=>h.2.1 n (hs.subset hn),h.2.2.sublist hs⟩
theorem zT{l:Lg}{n:Int}(h:fq l=0)(h0:0≤n):fq (ib (kM l n)).1=0∧(∃ t,gz l=gz (ib (kM l n)).1++t)∧(n=0→(ib (kM l n)).1=l):=by
 have hne:l.segs≠[]:=fun h1=>by
  have h2:=h;unfold fq at h2;split at h2
  ·rename_i h3;simp[h1]at h3
  ·cases h2
 obtain⟨s,e1,-⟩:=gQ hne;have h3:uR l (l.segs.length - 1)=s:=by rw[uR,List.getD_eq_getElem?_getD,e1];rfl
 obtain⟨C,hC⟩:∃ C,C=s.bytes.length - (min n s.bytes.length).toNat:=⟨_,rfl⟩;have ht:kM l n=⟨l.limit,l.start,l.segs.set (l.segs.length - 1) ⟨s.base,s.bytes.take C⟩⟩:=by
  unfold kM;rw[h3,mw,hC]
 obtain⟨j,hurt⟩:=wH (c:=C) h e1 (by omega);rw[← ht]at hurt;obtain⟨r1,r2,t,r3⟩:=hurt.rec_;have e2:(ib (kM l n)).1=⟨l.limit,l.start,l.segs.take (l.segs.length - 1)++[(lK ⟨s.base,s.bytes.take C⟩).1]⟩:=by rw[r1]
 refine⟨by rw[e2];exact r2,⟨t,?_⟩,fun hn=>?_⟩
 ·rw[e2,gz,if_pos h,gz,if_pos r2,r3]
 ·have e3:C=s.bytes.length:=by rw[hC,hn];omega
  have e4:kM l n=l:=by
   rw[ht,e3,take_length];show(⟨l.limit,l.start,l.segs.set (l.segs.length - 1) s⟩:Lg)=l;rw[tj s e1,← jI e1]
  rw[e4,oM h]
theorem zS{r:Rp}{t:Int}(h:okR r)(hup:r.up=true)(h0:0≤t):okR (iR r t):=by
 obtain⟨g1,g2,g3⟩:=h;have g2:fq r.log=0:=by unfold pr at g2;rwa [if_pos hup]at g2
 exact⟨g1,(zT g2 h0).1,fun h=>by cases h⟩
theorem vv{p:Pt}{n t:Int}{k:Nat}{r:Rp}(h:okP p)(hr:p.reps[k]?=some r)(hid:r.id=n)(hup:r.up=true)(h0:0≤t):okP (fV (fk (eI p n) n) k (iR r t)):=by
 have hn0:0≤n:=by
  have:=(h.1.2.2.2.2 r (mem_of_getElem? hr)).1.1;rw[hid]at this;simp[idI]at this;exact this.1
 have h1:okP (eI p n):=by
  obtain⟨a,b,c⟩:=h;refine⟨a,b,?_⟩;show(if p.leader=n then -1 else p.leader)=-1∨(∃ r∈p.reps,r.id=(if p.leader=n then -1 else p.leader)∧r.up=true)∧(if p.leader=n then -1 else p.leader)∈p.isr;split
  ·exact .inl rfl
  ·exact c
 have hl1:(eI p n).leader≠n:=by
  show(if p.leader=n then -1 else p.leader)≠n;split
  ·omega
  ·assumption
 have hr1:(eI p n).reps[k]?=some r:=hr;generalize eI p n=p1 at *;have h2:okP (fk p1 n)∧(fk p1 n).leader≠n∧(fk p1 n).reps[k]?=some r:=by
  unfold fk;split
  ·rename_i hlen;refine⟨⟨h1.1,?_,?_⟩,hl1,hr1⟩
   ·refine⟨p9 h1.2.1.1 (List.filter_sublist ..) fun he=>?_,fun m hm=>h1.2.1.2 m (List.mem_filter.1 hm).1⟩;have hp:=h1.2.1.1.2.2;have hall:∀ m∈p1.isr,m=n:=fun m hm=>by
     have:=List.filter_eq_nil_iff.1 he m hm;simpa using this
    match hh:p1.isr,hlen,hp with
    | a :: b :: l,_,hp =>
     rw[hh]at hall;have e1:=hall a (.head _);have e2:=hall b (.tail _ (.head _));have:=(List.pairwise_cons.1 hp).1 b (.head _);omega
   ·rcases h1.2.2 with c | ⟨c,d⟩
    ·exact .inl c
    ·exact .inr ⟨c,List.mem_filter.2 ⟨d,(show decide (p1.leader≠n)=true from decide_eq_true hl1)⟩⟩
  ·exact⟨h1,hl1,hr1⟩
 refine lQ h2.1 h2.2.2 rfl (zS (h.1.2.2.2.2 r (mem_of_getElem? hr)) hup h0) fun he=>?_
 rw[hid]at he;exact absurd he.symm h2.2.1
theorem F78:Fun Tryz.prog 78 26 v78 c78 o78:=Fun.mkA Tryz.func78 Tryz.ntmps78
theorem EI(x y:Ep):Aj true [0,0] (.agg #[Value.int .i64 x.1,Value.int .i64 x.2]) (.agg #[Value.int .i64 y.1,Value.int .i64 y.2])=some (.bool (decide (x≠y))):=by
 have:decide (x=y)=(decide (x.1=y.1) && decide (x.2=y.2)):=by
  rw[Bool.eq_iff_iff];simp[Prod.ext_iff]
 simp[Aj,eqC,this,Bool.not_and]
theorem Aw(a b:List Ep)(v u:Value)(G:J5)(ha:SEp G v a)(hb:SEp G u b):FnS Tryz.prog 78 #[v,u] G (.bool (decide (a=b))):=by
 obtain⟨A,c,rfl,hc,hm,hA⟩:=ha;obtain⟨B,c',rfl,hc',hm',hB⟩:=hb;refine F78.fnS (by simp) (dI ?_);unfold c78;intros;refine gR 0 0 c78r0.eq_1 ?_;intros;refine gR 6 10 c78r1.eq_1 ?_;intros;refine gC ?_;refine gb (fun ht=>?_) (fun ht=>?_)
 ·intros;refine gR 0 0 c78r2.eq_1 ?_;intros;refine rW ?_;have:¬ a=b:=fun e=>by subst e;simp at ht
  simp[this]
 have hlen:a.length=b.length:=by simp at ht;omega
 intros;refine gR 11 12 c78r3.eq_1 ?_;intros;refine dy ?_;refine dV (fun e h=>∃ k:Nat,(k≤a.length∧a.take k=b.take k)∧e 13=.int .i64 k∧e 12=.int .i64 a.length∧e 0=.slice A a.length c∧e 1=.slice B b.length c'∧h=⟨G,[],[]⟩) (fun e h=>a.length - iv (e 13)) ?_ ?_
 ·exact⟨0,⟨Nat.zero_le _,rfl⟩,eE,eE,eE,eE,rfl⟩
 ·rintro e h ⟨k,⟨hk,hch⟩,e13,e12,e0,e1,rfl⟩;refine dC [0,1,12,13] ?_;refine sJ4 @e0 @e1 @e12 @e13 ?_;intros;refine gR 0 0 c78r4.eq_1 ?_;intros;refine gC ?_;refine gb (fun ht=>?_) (fun ht=>?_)
  ·have hkl:k < a.length:=by simpa using ht
   obtain⟨x,hx⟩:∃ x,a[k]?=some x:=⟨a[k],getElem?_eq_getElem (by omega)⟩;obtain⟨y,hy⟩:∃ y,b[k]?=some y:=⟨b[k],getElem?_eq_getElem (by omega)⟩;intros;refine gR 15 16 c78r5.eq_1 ?_;intros;refine dy ?_;refine uS 16 24 (by decide) ?_;refine sJ c78r6.eq_1 ?_;refine hA.y_ld hx rfl rfl ?_;rintro a1 ha1 cs ⟨rfl,-⟩;refine sI ?_;refine hB.y_ld hy rfl rfl ?_;rintro a2 ha2 cs ⟨rfl,-⟩;refine sJ @EI ?_
   intros;refine gC ?_;refine gb (fun h4=>?_) (fun h4=>?_)
   ·intros;refine gR 0 0 c78r7.eq_1 ?_;intros;refine rW ?_;have:¬ a=b:=fun e=>by subst e;rw[hx]at hy;cases hy;simp at h4
    simp[this]
   ·intros;refine gR 25 26 c78r8.eq_1 ?_;intros;refine dy ?_;have hw3:IntKind.i64.wrap ((k:Int)+1)=(k:Int)+1:=by have:=hm;unfold maxLen at this;rw[dX] <;> omega
    refine ej ⟨⟨k+1,⟨by omega,?_⟩,?_⟩,?_⟩
    ·have hxy:x=y:=by simp at h4;exact Prod.ext h4.1 h4.2
     rw[List.take_add_one,List.take_add_one,hch,hx,hy,hxy]
    ·refine⟨(eJ @hw3),eE,eE,eE,rfl⟩
    ·refine sJ @hw3 ?_;omega
  ·have hkl:k=a.length:=by simp at ht;omega
   subst hkl;refine dS ?_;refine sI ?_;intros;refine gR 0 0 c78r9.eq_1 ?_;intros;refine rW ?_;have:a=b:=by
    rw[take_length,hlen,take_length]at hch;exact hch
   simp[this]
def H1(a b:Ep):Prop:=a.1 < b.1∧a.2 < b.2
theorem kJ(l:List Ep):gK l=0↔(∀ x∈l,okE x=true)∧l.Pairwise H1:=by
 constructor
 ·intro h;refine⟨fun x hx=>?_,?_⟩
  ·obtain⟨i,hi⟩:=List.getElem?_of_mem hx;exact mZ h hi
  ·rw[List.pairwise_iff_getElem];intro i j hi hj hij;exact iS h hij (getElem?_eq_getElem hi) (getElem?_eq_getElem hj)
 ·rintro⟨h1,h2⟩;rw[gK,if_pos];intro i x _ hx;refine⟨h1 x (mem_of_getElem? hx),fun p h0 hp=>?_⟩;rw[List.pairwise_iff_getElem]at h2;have hi:=List.getElem?_eq_some_iff.1 hx;have hj:=List.getElem?_eq_some_iff.1 hp;have:=h2 (i - 1) i hj.1 hi.1 (by omega);rw[hi.2,hj.2]at this;exact this
theorem wZ(l:List Ep)(off:Int):gK (kV l off)=0:=by
 rw[kJ];by_cases h:gK l=0
 ·have h':=(kJ l).1 h;exact⟨fun x hx=>h'.1 x (List.mem_filter.1 hx).1,h'.2.sublist List.filter_sublist⟩
 ·have:kV l off=[]:=by
   unfold kV;rw[List.filter_eq_nil_iff];intro x _;simp[h]
  rw[this];exact⟨fun x hx=>by simp at hx,.nil⟩
theorem CZ{l:List Ep}{p:Ep}(hp:l[l.length - 1]?=some p):∃ l',l=l'++[p]:=by
 have hl:=(List.getElem?_eq_some_iff.1 hp).1;have hne:l≠[]:=fun e=>by subst e;simp at hl
 refine⟨l.dropLast,?_⟩;have:=List.dropLast_concat_getLast hne;rw[List.getLast_eq_getElem]at this;rw[(List.getElem?_eq_some_iff.1 hp).2]at this;exact this.symm
theorem xP{l:List Ep}{n s:Int}(h:(iq l n s).2=0):gK (iq l n s).1=0∧∃ q,(iq l n s).1[(iq l n s).1.length - 1]?=some q∧q.1=n∧(s < q.2→l[l.length - 1]?=some q):=by
 by_cases h1:gK l≠0∨¬ okE (n,s)=true
 ·have e:iq l n s=([],1):=by rw[iq,if_pos h1]
  rw[e]at h;cases h
 ·have h2:gK l=0∧okE (n,s)=true:=⟨Classical.not_not.1 fun h=>h1 (.inl h),Classical.not_not.1 fun h=>h1 (.inr h)⟩;have e:=rE h2.1 h2.2;cases hp:l[l.length - 1]? with
  | none =>
   rw[hp]at e;rw[e];refine⟨?_,(n,s),rfl,rfl,fun h=>?_⟩
   ·rw[kJ];exact⟨fun x hx=>by simp at hx;subst hx;exact h2.2,by simp⟩
   ·dsimp only at h;omega
  | some p =>
   rw[hp]at e;dsimp only at e;obtain⟨l',rfl⟩:=CZ hp;have hpw:=(kJ _).1 h2.1;have hpa:=List.pairwise_append.1 hpw.2;split at e
   ·rw[e]at h;cases h
   ·split at e
    ·rename_i h3 h4;rw[e];exact⟨h2.1,p,hp,h4.symm,fun _=>rfl⟩
    ·split at e
     ·rw[e]at h;cases h
     ·rename_i h3 h4 h5;split at e
      ·rename_i h6;have hset:(l'++[p]).set ((l'++[p]).length - 1) (n,s)=l'++[(n,s)]:=by
        rw[length_append,List.length_singleton,Nat.add_sub_cancel,List.set_append_right _ _ (Nat.le_refl _),Nat.sub_self];rfl
       rw[hset]at e;rw[e];refine⟨?_,(n,s),by simp,rfl,fun h=>by dsimp only at h;omega⟩;rw[kJ];refine⟨fun x hx=>?_,?_⟩
       ·rcases List.mem_append.1 hx with hx | hx
        ·exact hpw.1 x (List.mem_append_left _ hx)
        ·simp at hx;subst hx;exact h2.2
       ·refine List.pairwise_append.2 ⟨hpa.1,by simp,fun a ha b hb=>?_⟩;simp at hb;subst hb;have:=hpa.2.2 a ha p (by simp);unfold H1 at *;dsimp only;omega
      ·rename_i h6;rw[e];refine⟨?_,(n,s),by simp,rfl,fun h=>by dsimp only at h;omega⟩;rw[kJ];refine⟨fun x hx=>?_,?_⟩
       ·rcases List.mem_append.1 hx with hx | hx
        ·exact hpw.1 x hx
        ·simp at hx;subst hx;exact h2.2
       ·refine List.pairwise_append.2 ⟨hpw.2,by simp,fun a ha b hb=>?_⟩;simp at hb;subst hb;have hpn:p.1 < n∧p.2 < s:=by omega
        rcases List.mem_append.1 ha with ha | ha
        ·have:=hpa.2.2 a ha p (by simp);unfold H1 at *;dsimp only;omega
        ·simp at ha;subst ha;exact hpn
theorem vu{p:Pt}{k:Nat}{r:Rp}(h:fy p=0)(h0:¬ p.leader < 0)(hk:atR p.reps p.leader=some k)(hr:p.reps[k]?=some r):lZ p=(r.log,0):=by
 rw[lZ,if_neg (fun h'=>h' h),if_neg h0,hk];dsimp only;rw[hr];rfl
theorem r7{p:Pt}{k:Nat}{r:Rp}(h:okP p)(h0:¬ p.leader < 0)(hr:p.reps[k]?=some r)(hid:r.id=p.leader):r.up=true:=by
 rcases h.2.2 with h7 | ⟨⟨z,hz,hz1,hz2⟩,h8⟩
 ·omega
 obtain⟨i,hi⟩:=List.mem_iff_getElem?.1 hz;obtain rfl:=oC h hr hi (by rw[hid,hz1]);rw[hr]at hi;cases hi;exact hz2
theorem tf(p:Pt)(b:Batch):((pF p b).1.2≠0∧(pF p b).1.1=iz∧(pF p b).2=0) ∨
  (fy p=0∧¬ p.leader < 0∧∃ (k:Nat) (r:Rp) (mb:Batch),atR p.reps p.leader=some k∧p.reps[k]?=some r∧r.id=p.leader∧fg b (ec r.log)=(mb,0)∧(gJ r.log { mb with epoch:=p.epoch }).2=0∧(iq r.eps p.epoch mb.base).2=0 ∧
   pF p b=((dY (fV p k { r with log:=(gJ r.log { mb with epoch:=p.epoch }).1,eps:=(iq r.eps p.epoch mb.base).1 }),0),mb.base)):=by
 have herr:∀ (q:Pt) (e w:Int),e≠0→fy p=0→j6 b p=((q,e),w)→((pF p b).1.2≠0∧(pF p b).1.1=iz∧(pF p b).2=0):=fun q e w he hc hF=>by
  rw[nz,hF];dsimp only;rw[oy hc he,if_neg he];exact⟨he,rfl,rfl⟩
 by_cases k0:fy p=0;rotate_left
 ·refine .inl ?_;rw[nz];have:mG p (j6 b p).1=(iz,fy p):=by rw[mG,if_neg k0]
  rw[this,if_neg k0];exact⟨k0,rfl,rfl⟩
 by_cases k1:p.leader < 0
 ·exact .inl (herr p 180 0 (by decide) k0 (by unfold j6;rw[if_pos k1]))
 by_cases k2:(p.isr.length:Int) < p.least
 ·exact .inl (herr p 181 0 (by decide) k0 (by unfold j6;rw[if_neg k1,if_pos k2]))
 obtain⟨k,r,hk,hr,hid⟩:=lY (lL k0) k1;generalize hm:fg b (ec r.log)=m;obtain⟨mb,me⟩:=m;by_cases k3:me=0;rotate_left
 ·refine .inl (herr p me 0 k3 k0 ?_);unfold j6;rw[if_neg k1,if_neg k2,hk];dsimp only;rw[hr];dsimp only;rw[hm];dsimp only;rw[if_pos k3]
 subst k3;generalize ha:gJ r.log { mb with epoch:=p.epoch }=a;obtain⟨al,ae⟩:=a;by_cases k4:ae=0;rotate_left
 ·refine .inl (herr p ae mb.base k4 k0 ?_);unfold j6;rw[if_neg k1,if_neg k2,hk];dsimp only;rw[hr];dsimp only;rw[hm];dsimp only;rw[if_neg (fun h=>h rfl),ha];dsimp only;rw[if_pos k4]
 subst k4;generalize hp:iq r.eps p.epoch mb.base=q;obtain⟨pl,pe⟩:=q;by_cases k5:pe=0;rotate_left
 ·refine .inl (herr p pe mb.base k5 k0 ?_);unfold j6;rw[if_neg k1,if_neg k2,hk];dsimp only;rw[hr];dsimp only;rw[hm];dsimp only;rw[if_neg (fun h=>h rfl),ha];dsimp only;rw[if_neg (fun h=>h rfl),hp];dsimp only;rw[if_pos k5]
 subst k5;refine .inr ⟨k0,k1,k,r,mb,hk,hr,hid,hm,by rw[ha],by rw[hp],?_⟩;rw[nz,xY k1 k2 hk hr rfl hm ha hp];dsimp only;rw[lr k0,if_pos rfl,ha,hp]
theorem oc{b mb:Batch}{n:Int}(h:fg b n=(mb,0)):mb.base=n:=by
 unfold fg at h;split at h
 ·split at h
  ·split at h
   ·cases h;rfl
   ·rename_i h1;exact absurd (Prod.ext_iff.1 h).2 h1
  ·rename_i h1;exact absurd (Prod.ext_iff.1 h).2 h1
 ·cases h
theorem Cg{r:Rp}{b:Batch}{ep:Int}(h:okR r)(hup:r.up=true)(ha:(gJ r.log b).2=0)(hp:(iq r.eps ep b.base).2=0):okR { r with log:=(gJ r.log b).1,eps:=(iq r.eps ep b.base).1 }:=by
 obtain⟨⟨g1,g2,g3,g4⟩,g5,g6⟩:=h;obtain⟨⟨a1,a2,a3,a4⟩,-,a5,a6,-⟩:=g0 ha;have g6:=g6 hup;have hle:=ny a2;have hc:=(xP hp).1;refine⟨⟨g1,hc,g3,g4⟩,?_,fun _=>?_⟩
 ·unfold pr;rw[if_pos hup];exact a5
 ·show r.high≤ec (gJ r.log b).1;rw[ec,if_pos a5,a6];rw[ec,if_pos a1]at g6;omega
theorem Cf{p:Pt}{k:Nat}{r:Rp}{b:Batch}(h:okP p)(h0:¬ p.leader < 0)(hr:p.reps[k]?=some r)(hid:r.id=p.leader)(ha:(gJ r.log b).2=0)(hp:(iq r.eps p.epoch b.base).2=0):
  okP (fV p k { r with log:=(gJ r.log b).1,eps:=(iq r.eps p.epoch b.base).1 }) :=
 lQ h hr rfl (Cg (h.1.2.2.2.2 r (mem_of_getElem? hr)) (r7 h h0 hr hid) ha hp) fun _=>(r7 h h0 hr hid:r.up=true)
theorem pX{s:Sg}(off:Int)(hw:fh s=true):fh (pE s off)=true∧gY (pE s off)≤gY s∧(pE s off).bytes.length≤s.bytes.length∧ef (pE s off)=(ef s).takeWhile (yq off):=by
 obtain⟨r,h⟩:=eG s;obtain⟨k,hk⟩:∃ k,(ef s).takeWhile (yq off)=(ef s).take k:=⟨_,List.prefix_iff_eq_take.1 (List.takeWhile_prefix _)⟩;have h1:pE s off=⟨s.base,s.bytes.take (ft ((ef s).take k)).length⟩:=by rw[pE,hk]
 have h2:=qG h k;rw[← h1]at h2;have h3:=congrArg List.length (tC h k);rw[List.length_take]at h3;refine⟨eB.2 ⟨?_,(eB.1 hw).2⟩,?_,by rw[h1,List.length_take];omega,by rw[h2,hk]⟩
 ·rw[f0,h2,h1,List.length_take];omega
 ·rw[gY,h2];exact jy h.ord h.ok k
theorem xv{limit to:Int}:∀ {l:List Sg} {p p':Option Sg},okS limit p l→(∀ a',p'=some a'→∃ a,p=some a∧a'.base=a.base∧gY a'≤gY a)→okS limit p' (jT l to)
 | [],_,_,_,_=>trivial
 | s :: l,p,p',h,hp=>by
  unfold jT;by_cases hb:s.base < to
  ·rw[List.filter_cons,if_pos (decide_eq_true hb),List.map_cons];obtain⟨c1,c2,c3,-⟩:=pX to h.1.1.1;refine⟨⟨⟨c1,by have:=h.1.1.2;omega⟩,fun a' e=>?_⟩,xv h.2 fun a' e=>by cases e;exact⟨s,rfl,rfl,c2⟩⟩;obtain⟨a,hpa,hb1,he1⟩:=hp a' e;have:=il.1 (h.1.2 a hpa);exact il.2 ⟨by show a'.base < s.base;omega,by show gY a'≤s.base;omega⟩
  ·have:(s :: l).filter (fun s=>decide (s.base < to))=[]:=List.filter_eq_nil_iff.2 fun c hc=>by
    have:s.base≤c.base:=by
     rcases List.mem_cons.1 hc with rfl | hc
     ·exact Int.le_refl _
     ·have h2:=nv h.2 c hc;have h3:=lS s;omega
    simp;omega
   rw[this];trivial
theorem AX{l:Lg}{to:Int}(h:(j5 l to).2=0):fq l=0∧(l.start≤to∧to≤oa l)∧j5 l to=(⟨l.limit,l.start,nQ l.segs to⟩,0)∧fq (j5 l to).1=0:=by
 unfold j5 at h ⊢;by_cases hc:fq l=0;rotate_left
 ·rw[if_neg hc]at h;exact absurd h hc
 rw[if_pos hc]at h ⊢;by_cases hb:uW l to=true;rotate_left
 ·rw[if_neg hb]at h;cases h
 rw[if_pos hb];have hb':l.start≤to∧to≤oa l:=by simpa [uW]using hb
 obtain⟨h1,h2,h3,h4⟩:=fB hc;refine⟨hc,hb',rfl,?_⟩;show fq ⟨l.limit,l.start,nQ l.segs to⟩=0;unfold nQ;split
 ·rename_i he;refine l4 h1 (by simp) ⟨⟨⟨eB.2 ⟨rfl,?_⟩,by have:=(ij.1 h1).1;show(0:Int)≤l.limit;omega⟩,fun a ha=>by cases ha⟩,trivial⟩ (by simp)
  match hs:l.segs,h2 with
  | s :: ss,_ =>
   rw[hs]at h3 he;have hns:¬ s.base < to:=fun hlt=>by
    rw[jT,List.filter_cons,if_pos (decide_eq_true hlt)]at he;cases he
   have hi:=fO.1 (eB.1 h3.1.1.1).2;have hi2:=fO.1 (ij.1 h1).2;exact fO.2 ⟨by show(0:Int)≤to;omega,by show to≤_;omega⟩
 ·rename_i he;exact l4 h1 he (xv h3 fun a' e=>by cases e) (by have:=py l.segs to;show(jT l.segs to).length≤256;omega)
theorem xt:∀ {bs:Kg} {l:Lg},fq l=0→(iQ l bs).2=true→fq (iQ l bs).1=0∧((iQ l bs).1.start=l.start∧(iQ l bs).1.limit=l.limit)∧u0 (iQ l bs).1=u0 l++bs
 | [],l,h,_=>⟨h,⟨rfl,rfl⟩,by rw[append_nil];rfl⟩
 | b :: bs,l,h,ha=>by
  rw[iQ]at ha ⊢;split at ha
  ·rename_i h0;rw[if_pos h0];obtain⟨-,⟨a1,a2⟩,a3,-⟩:=g0 h0;obtain⟨i1,⟨i2,i3⟩,i4⟩:=xt (bs:=bs) a3 ha;exact⟨i1,⟨i2.trans a2,i3.trans a1⟩,by rw[i4,sP h0,append_assoc];rfl⟩
  ·cases ha
theorem nu{l lead:Lg}{to:Int}(h:(eS l lead to).2=true):fq (eS l lead to).1=0∧((eS l lead to).1.start=l.start∧(eS l lead to).1.limit=l.limit)∧gz (eS l lead to).1=gz lead:=by
 unfold eS at h ⊢;dsimp only at h ⊢;split at h
 ·cases h
 ·rename_i hn;rw[if_neg hn];have hx:(j5 l to).2=0:=Decidable.byContradiction fun k=>hn (.inl k)
  have hl:¬ (gz lead).length < (gz (j5 l to).1).length:=fun k=>hn (.inr (.inl k))
  have he:gz (j5 l to).1=(gz lead).take (gz (j5 l to).1).length:=Decidable.byContradiction fun k=>hn (.inr (.inr k))
  obtain⟨-,-,t1,t2⟩:=AX hx;obtain⟨a1,a2,a3⟩:=xt t2 h;refine⟨a1,⟨a2.1.trans (by rw[t1]),a2.2.trans (by rw[t1])⟩,?_⟩;rw[gz,if_pos a1,a3];have hA:gz (j5 l to).1=u0 (j5 l to).1:=by rw[gz,if_pos t2]
  conv=>lhs;rw[← hA]
  conv=>lhs;lhs;rw[he]
  rw[List.take_append_drop]
theorem ui(r lead:Rp):((dJ r lead).log=lead.log∨((dJ r lead).log.start=lead.log.start∧fq (dJ r lead).log=0∧gz (dJ r lead).log=gz lead.log)):=by
 unfold dJ;dsimp only;split
 ·rename_i h;obtain⟨c1,c2,c3⟩:=nu h.2.2;exact .inr ⟨c2.1.trans h.1,c1,c3⟩
 ·exact .inl rfl
theorem ug{r lead:Rp}{m:Int}(h:okR r)(hu:r.up=true)(h2:okR lead)(hu2:lead.up=true)(h0:0≤m)(hm:m≤ec (dJ r lead).log):okR { dJ r lead with high:=m }:=by
 have hei:=iI (dJ r lead).log;refine⟨⟨h.1.1,h2.1.2.1,h0,by show m≤_;omega⟩,?_,fun _=>hm⟩;show fq (if r.up=true then(dJ r lead).log else _)=0;rw[if_pos hu];rcases ui r lead with h3 | h3
 ·rw[h3];have:=h2.2.1
  rwa [pr,if_pos hu2]at this
 ·exact h3.2.1
theorem yh{p:Pt}{is:Ki}(h:okP p)(h1:fu is)(h2:∀ n∈is,n∈fE p.reps)(h3:p.leader∈p.isr→p.leader∈is):okP { p with isr:=is } :=
 ⟨h.1,⟨h1,h2⟩,by rcases h.2.2 with c | ⟨c,d⟩;exact .inl c;exact .inr ⟨c,h3 d⟩⟩
theorem jD:∀ {l:Ki} {n m:Int},m∈l∨m=n→m∈fj l n
 | [],n,m,h=>by
  rcases h with h | rfl
  ·cases h
  ·exact .head _
 | x :: l,n,m,h=>by
  rw[fj];split
  ·rcases h with h | h
   ·rcases List.mem_cons.1 h with rfl | h
    ·exact .head _
    ·exact .tail _ (jD (.inl h))
   ·exact .tail _ (jD (.inr h))
  ·split
   ·rename_i h2;rcases h with h | rfl
    ·exact h
    ·rw[← h2];exact .head _
   ·rcases h with h | rfl
    ·exact .tail _ h
    ·exact .head _
theorem tn:∀ {l:Ki} {n:Int},l.Pairwise (· < ·)→(fj l n).Pairwise (· < ·)
 | [],n,_=>by simp[fj]
 | x :: l,n,h=>by
  obtain⟨h1,h2⟩:=List.pairwise_cons.1 h;rw[fj];split
  ·refine List.pairwise_cons.2 ⟨fun m hm=>?_,tn h2⟩;rcases lE hm with hm | rfl
   ·exact h1 m hm
   ·assumption
  ·split
   ·exact h
   ·refine List.pairwise_cons.2 ⟨fun m hm=>?_,h⟩;rcases List.mem_cons.1 hm with rfl | hm
    ·omega
    ·have:=h1 m hm;omega
theorem pI:∀ (l:Ki) (n:Int),(fj l n).length≤l.length+1
 | [],n=>by simp[fj]
 | x :: l,n=>by
  rw[fj];split
  ·have:=pI l n;simp only[length_cons];omega
  ·split <;> simp
theorem hO(p:Pt)(n:Int)(f:Pt→Nat→Rp→Pt × Int):((ofP p n f).2≠0∧(ofP p n f).1=iz)∨(okP p∧∃ k r,atR p.reps n=some k∧p.reps[k]?=some r∧r.id=n∧(f p k r).2=0∧ofP p n f=((f p k r).1,0)):=by
 rw[iV];by_cases h0:fy p=0;rotate_left
 ·rw[mG,if_neg h0];exact .inl ⟨h0,rfl⟩
 cases hk:atR p.reps n with
 | none =>
  rw[BH _ hk,oy h0 (by decide)];exact .inl ⟨by decide,rfl⟩
 | some k =>
  obtain⟨r,hr,hid⟩:=g9 hk;rw[mz _ hk hr];obtain⟨q,e,hq⟩:∃ q e,f p k r=(q,e):=⟨_,_,rfl⟩;rw[hq];by_cases he:e=0
  ·subst he;rw[lr h0];exact .inr ⟨lL h0,k,r,rfl,hr,hid,by rw[hq],by rw[hq]⟩
  ·rw[oy h0 he];exact .inl ⟨he,rfl⟩
def ra(p q:Pt):Prop:=okP q∧fE q.reps=fE p.reps∧q.least=p.least
theorem ra.refl{p:Pt}(h:okP p):ra p p:=⟨h,rfl,rfl⟩
theorem qL(p:Pt):fE (dY p).reps=fE p.reps:=by
 unfold dY;split
 ·rfl
 ·split
  ·rfl
  ·split
   ·rfl
   ·rename_i r hr;exact hZ hr rfl
theorem ra.raise{p q:Pt}(h:ra p q):ra p (dY q):=⟨pK h.1,by rw[qL,h.2.1],by rw[(eb q).2.2.1,h.2.2]⟩
theorem yc{n:Int}{p:Pt}{k:Nat}{r:Rp}(h:(ji n p k r).2=0):¬ p.leader < 0∧n≠p.leader∧(ji n p k r).1=dY { p with isr:=p.isr.filter fun m=>decide (m≠n) }:=by
 unfold ji at h ⊢;split at h
 ·cases h
 ·rename_i h1;rw[if_neg h1];split at h
  ·cases h
  ·rename_i h2;rw[if_neg h2];exact⟨h1,fun e=>h2 (.inl e),rfl⟩
theorem wI{n:Int}{p:Pt}{k:Nat}{r:Rp}(hp:okP p)(h:(ji n p k r).2=0):ra p (ji n p k r).1:=by
 obtain⟨h1,h2,h3⟩:=yc h;rw[h3];have hl:p.leader∈p.isr:=by
  rcases hp.2.2 with h | h
  ·omega
  ·exact h.2
 have hin:p.leader∈p.isr.filter fun m=>decide (m≠n):=List.mem_filter.2 ⟨hl,decide_eq_true (Ne.symm h2)⟩
 refine ra.raise ⟨yh hp (p9 hp.2.1.1 List.filter_sublist fun e=>?_) (fun m hm=>hp.2.1.2 m (List.mem_filter.1 hm).1) fun _=>hin,rfl,rfl⟩;rw[e]at hin;cases hin
theorem rZ{n t:Int}{p:Pt}{k:Nat}{r:Rp}(h:(gI n t p k r).2=0):0≤t∧r.up=true∧(gI n t p k r).1=dY (fV (fk (eI p n) n) k (iR r t)):=by
 unfold gI at h ⊢;split at h
 ·cases h
 ·rename_i h1;rw[if_neg h1];split at h
  ·cases h
  ·rename_i h2;rw[if_neg h2];refine⟨by omega,by simpa using h2,?_⟩;show dY _=_;congr 1;unfold fk;by_cases h5:1 < p.isr.length
   ·rw[if_pos (show 1 < (eI p n).isr.length from h5),if_pos h5];rfl
   ·rw[if_neg (show ¬ 1 < (eI p n).isr.length from h5),if_neg h5];rfl
theorem kT(p:Pt)(n:Int):(fk p n).reps=p.reps∧(fk p n).least=p.least∧(fk p n).epoch=p.epoch∧(fk p n).leader=p.leader∧(fk p n).isr.Sublist p.isr:=by
 unfold fk;split
 ·exact⟨rfl,rfl,rfl,rfl,List.filter_sublist⟩
 ·exact⟨rfl,rfl,rfl,rfl,List.Sublist.refl _⟩
theorem tR{n t:Int}{p:Pt}{k:Nat}{r:Rp}(hp:okP p)(hr:p.reps[k]?=some r)(hid:r.id=n)(h:(gI n t p k r).2=0):ra p (gI n t p k r).1:=by
 obtain⟨h1,h2,h3⟩:=rZ h;obtain⟨s1,s2,s3,-⟩:=kT (eI p n) n;rw[h3];refine ra.raise ⟨vv hp hr hid h2 h1,?_,?_⟩
 ·show fE ((fk (eI p n) n).reps.set k (iR r t))=_;rw[s1];exact hZ hr rfl
 ·show(fk (eI p n) n).least=_;rw[s2];rfl
theorem wM{p:Pt}{k:Nat}{r:Rp}(h:(jo p k r).2=0):r.up=false∧(jo p k r).1=fV p k (pb r):=by
 unfold jo at h ⊢;split at h
 ·cases h
 ·rename_i h1;rw[if_neg h1];exact⟨by simpa using h1,rfl⟩
theorem zq{r:Rp}(h:okR r)(hd:r.up=false):okR (pb r):=by
 have hei:=iI (ib r.log).1;obtain⟨⟨h1,h2,h3,h4⟩,h5,-⟩:=h;rw[pr,hd,if_neg (by decide)]at h5;refine⟨⟨h1,wZ _ _,?_,?_⟩,?_,fun _=>?_⟩
 ·show 0≤min r.high _;omega
 ·show min r.high _≤_;omega
 ·show fq (if true=true then(ib r.log).1 else _)=0;rw[if_pos rfl];exact h5
 ·show min r.high (ec (ib r.log).1)≤ec (ib r.log).1;omega
theorem xe{p:Pt}{k:Nat}{r:Rp}(hp:okP p)(hr:p.reps[k]?=some r)(h:(jo p k r).2=0):ra p (jo p k r).1:=by
 obtain⟨h1,h2⟩:=wM h;rw[h2];exact⟨lQ hp hr rfl (zq (hp.1.2.2.2.2 r (mem_of_getElem? hr)) h1) fun _=>rfl,hZ hr rfl,rfl⟩
theorem sh{n:Int}{p:Pt}{k:Nat}{r:Rp}(h:(fP n p k r).2=0):r.up=true∧n∈p.isr∧p.epoch≠1048576∧(fP n p k r).1=dY { p with epoch:=p.epoch+1,leader:=n }:=by
 unfold fP at h ⊢;split at h
 ·cases h
 ·rename_i h1;rw[if_neg h1];split at h
  ·cases h
  ·rename_i h2;rw[if_neg h2];split at h
   ·cases h
   ·rename_i h3;rw[if_neg h3];exact⟨by simpa using h1,Decidable.not_not.1 h2,h3,rfl⟩
theorem uc{n:Int}{p:Pt}{k:Nat}{r:Rp}(hp:okP p)(hr:p.reps[k]?=some r)(hid:r.id=n)(h:(fP n p k r).2=0):ra p (fP n p k r).1:=by
 obtain⟨h1,h2,h3,h4⟩:=sh h;rw[h4];have he:0≤p.epoch∧p.epoch≤1048576:=by simpa [idI]using hp.1.1
 exact ra.raise ⟨⟨⟨by simp[idI];omega,hp.1.2⟩,hp.2.1,.inr ⟨⟨r,mem_of_getElem? hr,hid,h1⟩,h2⟩⟩,rfl,rfl⟩
noncomputable def eU(n:Int)(p:Pt)(k:Nat)(r lead:Rp):Pt :=
 { p with isr:=if lead.high≤ec (dJ r lead).log then fj p.isr n else p.isr,reps:=p.reps.set k { dJ r lead with high:=min r.high (ec (dJ r lead).log) } }
theorem sX{n:Int}{p:Pt}{k:Nat}{r:Rp}(hp:okP p)(hid:r.id=n)(h:(fW n p k r).2=0):¬ p.leader < 0∧r.up=true∧((n=p.leader∧(fW n p k r).1=p)∨(n≠p.leader∧∃ j lead,atR p.reps p.leader=some j∧p.reps[j]?=some lead∧lead.id=p.leader∧lead.up=true ∧
  (fW n p k r).1=fV (dY (eU n p k r lead)) k { dJ r lead with high:=min (max (min r.high (ec (dJ r lead).log)) (((dY (eU n p k r lead)).reps[j]?).getD lead).high) (ec (dJ r lead).log) })):=by
 unfold fW at h ⊢;split at h
 ·cases h
 ·rename_i h1;rw[if_neg h1];have hl:¬ p.leader < 0:=fun h=>h1 (.inl h)
  refine⟨hl,by simpa using fun h=>h1 (.inr h),?_⟩;by_cases h2:n=p.leader
  ·rw[if_pos h2];exact .inl ⟨h2,rfl⟩
  rw[if_neg h2];obtain⟨j,lead,hj,hl2,hli⟩:=lY hp hl;rw[hj];dsimp only;rw[hl2];exact .inr ⟨h2,j,lead,rfl,hl2,hli,r7 hp hl hl2 hli,rfl⟩
theorem mT{n:Int}{p:Pt}{k:Nat}{r:Rp}(hp:okP p)(hr:p.reps[k]?=some r)(hid:r.id=n)(h:(fW n p k r).2=0):ra p (fW n p k r).1:=by
 obtain⟨h1,h2,h3⟩:=sX hp hid h;rcases h3 with⟨-,h3⟩ | ⟨hne,j,lead,hj,hl,hli,hlu,h3⟩
 ·rw[h3];exact .refl hp
 rw[h3];have hro:=hp.1.2.2.2.2 r (mem_of_getElem? hr);have hlo:=hp.1.2.2.2.2 lead (mem_of_getElem? hl);have hei:=iI (dJ r lead).log;have hrh:=hro.1.2.2.1;have hfo:∀ m,0≤m→m≤ec (dJ r lead).log→okR { dJ r lead with high:=m }:=fun m h0 hm=>ug hro h2 hlo hlu h0 hm
 have hid1:fE (p.reps.set k { dJ r lead with high:=min r.high (ec (dJ r lead).log) })=fE p.reps:=hZ hr rfl;have hok1:okP (eU n p k r lead):=by
  have h5:okP (fV p k { dJ r lead with high:=min r.high (ec (dJ r lead).log) }):=lQ hp hr rfl (hfo _ (by omega) (by omega)) fun _=>(h2:r.up=true)
  refine yh h5 ?_ (fun m hm=>?_) fun hm=>?_
  ·show fu (if lead.high≤ec (dJ r lead).log then fj p.isr n else p.isr);split
   ·refine⟨fun e=>?_,fun m hm=>?_,tn hp.2.1.1.2.2⟩
    ·have:n∈fj p.isr n:=jD (.inr rfl);rw[e]at this;cases this
    ·rcases lE hm with hm | rfl
     ·exact hp.2.1.1.2.1 m hm
     ·rw[← hid];exact hro.1.1
   ·exact hp.2.1.1
  ·show m∈fE (p.reps.set k _);rw[hid1];split at hm
   ·rcases lE hm with hm | rfl
    ·exact hp.2.1.2 m hm
    ·exact List.mem_map.2 ⟨r,mem_of_getElem? hr,hid⟩
   ·exact hp.2.1.2 m hm
  ·show p.leader∈(if lead.high≤ec (dJ r lead).log then fj p.isr n else p.isr);split
   ·exact jD (.inl hm)
   ·exact hm
 have hk1:(eU n p k r lead).reps[k]?=some { dJ r lead with high:=min r.high (ec (dJ r lead).log) }:=hU hr;obtain⟨m,hk2⟩:=l9 hk1;have hids:=qL (eU n p k r lead);have hsame:=eb (eU n p k r lead);refine⟨lQ (pK hok1) hk2 rfl (hfo _ (by omega) (by omega)) fun _=>(h2:r.up=true),?_,hsame.2.2.1⟩
 have h9:∀ y:Rp,y.id=r.id→fE ((dY (eU n p k r lead)).reps.set k y)=fE p.reps:=fun y hy=>(hZ hk2 hy).trans (hids.trans hid1)
 exact h9 _ rfl
theorem zF{p:Pt}{b:Batch}(h:(pF p b).1.2=0):okP p∧ra p (pF p b).1.1∧(pF p b).1.1.epoch=p.epoch∧(pF p b).1.1.leader=p.leader:=by
 rcases tf p b with⟨h1,-⟩ | ⟨k0,k1,k,r,mb,hk,hr,hid,hm,ha,hp,he⟩
 ·exact absurd h h1
 have hmb:=oc hm;have hok:=lL k0;rw[he];have hs:=eb (fV p k { r with log:=(gJ r.log { mb with epoch:=p.epoch }).1,eps:=(iq r.eps p.epoch mb.base).1 });exact⟨hok,ra.raise ⟨Cf (b:={ mb with epoch:=p.epoch }) hok k1 hr hid ha hp,hZ hr rfl,rfl⟩,hs.1,hs.2.1⟩
structure DoR where
 kind:Int
 id:Int
 torn:Int
 b:Batch
noncomputable def jk(p:Pt)(d:DoR):Pt × Int :=
 if d.kind=0 then(pF p d.b).1 else if d.kind=1 then ofP p d.id (fW d.id)else if d.kind=2 then ofP p d.id (ji d.id)else if d.kind=3 then ofP p d.id (gI d.id d.torn)else
  if d.kind=4 then ofP p d.id jo else if d.kind=5 then ofP p d.id (fP d.id)else(p,0)
noncomputable def kB(p:Pt)(d:DoR):Pt:=if (jk p d).2=0 then(jk p d).1 else p
theorem xS{p:Pt}(hp:okP p)(d:DoR):ra p (kB p d)∧p.epoch≤(kB p d).epoch∧((kB p d).epoch=p.epoch∨d.kind=5):=by
 unfold kB;split;rotate_left
 ·exact⟨.refl hp,Int.le_refl _,.inl rfl⟩
 rename_i h;unfold jk at h ⊢;by_cases c0:d.kind=0
 ·rw[if_pos c0]at h ⊢;obtain⟨-,h1,h2,-⟩:=zF h;exact⟨h1,by omega,.inl h2⟩
 rw[if_neg c0]at h ⊢;by_cases c1:d.kind=1
 ·rw[if_pos c1]at h ⊢;rcases hO p d.id (fW d.id)with⟨h1,-⟩ | ⟨-,k,r,hk,hr,hid,h1,h2⟩
  ·exact absurd h h1
  rw[h2];have he:(fW d.id p k r).1.epoch=p.epoch:=by
   obtain⟨-,-,h3⟩:=sX hp hid h1;rcases h3 with⟨-,h3⟩ | ⟨-,j,lead,-,-,-,-,h3⟩
   ·rw[h3]
   ·rw[h3];exact(eb (eU d.id p k r lead)).1
  exact⟨mT hp hr hid h1,Int.le_of_eq he.symm,.inl he⟩
 rw[if_neg c1]at h ⊢;by_cases c2:d.kind=2
 ·rw[if_pos c2]at h ⊢;rcases hO p d.id (ji d.id)with⟨h1,-⟩ | ⟨-,k,r,hk,hr,hid,h1,h2⟩
  ·exact absurd h h1
  rw[h2];have he:(ji d.id p k r).1.epoch=p.epoch:=by rw[(yc h1).2.2];exact(eb _).1
  exact⟨wI hp h1,Int.le_of_eq he.symm,.inl he⟩
 rw[if_neg c2]at h ⊢;by_cases c3:d.kind=3
 ·rw[if_pos c3]at h ⊢;rcases hO p d.id (gI d.id d.torn)with⟨h1,-⟩ | ⟨-,k,r,hk,hr,hid,h1,h2⟩
  ·exact absurd h h1
  rw[h2];have he:(gI d.id d.torn p k r).1.epoch=p.epoch:=by
   rw[(rZ h1).2.2];exact(eb _).1.trans (kT (eI p d.id) d.id).2.2.1
  exact⟨tR hp hr hid h1,Int.le_of_eq he.symm,.inl he⟩
 rw[if_neg c3]at h ⊢;by_cases c4:d.kind=4
 ·rw[if_pos c4]at h ⊢;rcases hO p d.id jo with⟨h1,-⟩ | ⟨-,k,r,hk,hr,hid,h1,h2⟩
  ·exact absurd h h1
  rw[h2];have he:(jo p k r).1.epoch=p.epoch:=by rw[(wM h1).2];rfl
  exact⟨xe hp hr h1,Int.le_of_eq he.symm,.inl he⟩
 rw[if_neg c4]at h ⊢;by_cases c5:d.kind=5
 ·rw[if_pos c5]at h ⊢;rcases hO p d.id (fP d.id)with⟨h1,-⟩ | ⟨-,k,r,hk,hr,hid,h1,h2⟩
  ·exact absurd h h1
  rw[h2];have he:(fP d.id p k r).1.epoch=p.epoch+1:=by rw[(sh h1).2.2.2];exact(eb _).1
  exact⟨uc hp hr hid h1,by show p.epoch≤(fP d.id p k r).1.epoch;omega,.inr c5⟩
 ·rw[if_neg c5];exact⟨.refl hp,Int.le_refl _,.inl rfl⟩
theorem F28:Fun Tryz.prog 28 38 v28 c28 o28:=Fun.mkA Tryz.func28 Tryz.ntmps28
theorem F17:Fun Tryz.prog 17 81 v17 c17 o17:=Fun.mkA Tryz.func17 Tryz.ntmps17
theorem u5{α:Type}[DecidableEq α](x:α):decide (x=x)=true:=decide_eq_true rfl
theorem uj(a:Rp)(cs ds:J6)(G:J5)(ha:RE G a cs)(hb:RE G a ds):FnS Tryz.prog 28 #[.agg cs.toArray,.agg ds.toArray] G (.bool true):=by
 obtain⟨A1,c1,B1,d1,rfl,q1,q2,q3,q4⟩:=ha;obtain⟨A2,c2,B2,d2,rfl,t1,t2,t3,t4⟩:=hb;have h1:=zY a.log a.log (es a.log A1 c1) (es a.log A2 c2) G ⟨A1,c1,rfl,q1,q3⟩ ⟨A2,c2,rfl,t1,t3⟩;have h2:=Aw a.eps a.eps _ _ G q2 t2;rw[u5]at h1 h2;refine F28.fnS (by simp) (dI ?_);unfold c28 fF;unfold es at h1;intros;refine gR 0 0 c28r0.eq_1 ?_;have hu:(a.up == a.up)=true:=by simp
 intros;refine gr 6 38 ?_;refine sJ3 c28r1.eq_1 @u5 @hu ?_;refine sJ @u5 ?_;refine fK (h1 _ _) ?_;refine fK (h2 _ _) ?_;intros;refine rV ?_;simp only[push_cast,Nat.reduceBEq]
theorem zV(p:Pt)(cs ds:J6)(G:J5)(ha:PE G p cs)(hb:PE G p ds):FnS Tryz.prog 17 #[.agg cs.toArray,.agg ds.toArray] G (.bool true):=by
 obtain⟨A1,c1,B1,d1,rfl,q1,q2,-⟩:=ha;obtain⟨A2,c2,B2,d2,rfl,t1,t2,-⟩:=hb;obtain⟨_,_,he,hc1,hm1,hA1⟩:=q1;cases he;obtain⟨_,_,he,hc2,hm2,hA2⟩:=t1;cases he;obtain⟨_,_,he,hd1,hn1,hB1⟩:=q2;cases he;obtain⟨_,_,he,hd2,hn2,hB2⟩:=t2;cases he;refine F17.fnS (by simp) (dI ?_);unfold c17 d7;intros;refine gR 0 0 c17r0.eq_1 ?_;intros;refine gR2 8 43 c17r1.eq_1 @dnn ?_;intros;refine gC ?_;intros;refine gN ?_
 intros;try refine dx ?_
 refine ez (fun e h=>h=⟨G,[.reg 3 [.int .i64 p.epoch,.int .i64 p.leader,.int .i64 p.least,.slice A2 p.isr.length c2,.slice B2 p.reps.length d2],.reg 2 [.int .i64 p.epoch,.int .i64 p.leader,.int .i64 p.least,.slice A1 p.isr.length c1,.slice B1 p.reps.length d1]],[]⟩) ?_ ?_
 ·intros;try refine dx ?_
  intros;refine gR 0 0 c17r3.eq_1 ?_;intros;refine dy ?_
  refine dV (fun e h=>∃ k:Nat,k≤p.isr.length∧e 5=.int .i64 k∧h=⟨G,[.reg 3 [.int .i64 p.epoch,.int .i64 p.leader,.int .i64 p.least,.slice A2 p.isr.length c2,.slice B2 p.reps.length d2],.reg 2 [.int .i64 p.epoch,.int .i64 p.leader,.int .i64 p.least,.slice A1 p.isr.length c1,.slice B1 p.reps.length d1]],[]⟩) (fun e h=>p.isr.length - iv (e 5)) ?_ ?_
  ·exact⟨0,Nat.zero_le _,eE,rfl⟩
  rintro e h ⟨k,hk,e5,rfl⟩;refine dC [5] ?_;refine sJ @e5 ?_;intros;refine gR 44 48 c17r4.eq_1 ?_;intros;refine gC ?_;refine gb (fun k2=>?_) (fun k2=>?_)
  ·have k2:k < p.isr.length:=by have:=Kn k2;omega
   have hw:=fi k c1 (by omega) hm1;obtain⟨s,hs⟩:∃ s,p.isr[k]?=some s:=⟨p.isr[k],getElem?_eq_getElem (by omega)⟩;intros;refine gN ?_;intros;refine dy ?_;refine uS 52 61 (by decide) ?_;refine sJ c17r5.eq_1 ?_;refine hA1.y_l1 hs rfl rfl ?_;rintro a1 ha1 u1 ⟨hu,-⟩;cases hu;refine sI ?_;refine hA2.y_l1 hs rfl rfl ?_;rintro a2 ha2 u2 ⟨hu,-⟩;cases hu;refine sJ @dnn ?_;intros;refine gC ?_
   intros;refine gN ?_;intros;refine gR2 49 51 c17r7.eq_1 @hw ?_;intros;refine dy ?_;refine ej ⟨⟨k+1,by omega,eE,rfl⟩,?_⟩;refine sI ?_;omega
  ·have k2:k=p.isr.length:=by have:=Ko k2;omega
   subst k2;intros;refine gN ?_;refine dS ?_;refine sI ?_;exact ej rfl
 rintro e h rfl;refine dC [] ?_;intros;intros;try refine dx ?_
 refine ez (fun e h=>h=⟨G,[.reg 3 [.int .i64 p.epoch,.int .i64 p.leader,.int .i64 p.least,.slice A2 p.isr.length c2,.slice B2 p.reps.length d2],.reg 2 [.int .i64 p.epoch,.int .i64 p.leader,.int .i64 p.least,.slice A1 p.isr.length c1,.slice B1 p.reps.length d1]],[]⟩) ?_ ?_
 ·intros;try refine dx ?_
  intros;refine gR 0 0 c17r8.eq_1 ?_;intros;refine dy ?_
  refine dV (fun e h=>∃ k:Nat,k≤p.reps.length∧e 6=.int .i64 k∧h=⟨G,[.reg 3 [.int .i64 p.epoch,.int .i64 p.leader,.int .i64 p.least,.slice A2 p.isr.length c2,.slice B2 p.reps.length d2],.reg 2 [.int .i64 p.epoch,.int .i64 p.leader,.int .i64 p.least,.slice A1 p.isr.length c1,.slice B1 p.reps.length d1]],[]⟩) (fun e h=>p.reps.length - iv (e 6)) ?_ ?_
  ·exact⟨0,Nat.zero_le _,eE,rfl⟩
  rintro e h ⟨k,hk,e6,rfl⟩;refine dC [6] ?_;refine sJ @e6 ?_;intros;refine gR 62 66 c17r9.eq_1 ?_;intros;refine gC ?_;refine gb (fun k2=>?_) (fun k2=>?_)
  ·have k2:k < p.reps.length:=by have:=Kn k2;omega
   have hw:=fi k d1 (by omega) hn1;obtain⟨s,hs⟩:∃ s,p.reps[k]?=some s:=⟨p.reps[k],getElem?_eq_getElem (by omega)⟩;intros;refine gN ?_;intros;refine dy ?_;refine nP _ Kl (by decide) ?_;refine sJ c17r10.eq_1 ?_;refine hB1.y_ld hs rfl rfl ?_;rintro a1 ha1 cs1 hre1;refine sI ?_;refine hB2.y_ld hs rfl rfl ?_;rintro a2 ha2 cs2 hre2;have hsm:=uj s cs1 cs2 G hre1 hre2;obtain⟨A5,c5,B5,d5,rfl,-⟩:=hre1
   obtain⟨A6,c6,B6,d6,rfl,-⟩:=hre2;unfold fF at hsm ⊢;refine sI ?_;refine fK (hsm _ _) ?_;intros;refine gC ?_;intros;refine gN ?_;intros;refine gR2 67 69 c17r12.eq_1 @hw ?_;intros;refine dy ?_;refine ej ⟨⟨k+1,by omega,eE,rfl⟩,?_⟩;refine sI ?_;omega
  ·have k2:k=p.reps.length:=by have:=Ko k2;omega
   subst k2;intros;refine gN ?_;refine dS ?_;refine sI ?_;exact ej rfl
 rintro e h rfl;refine dC [] ?_;intros;intros;refine gR 0 0 c17r13.eq_1 ?_;intros;refine rV ?_;simp only[push_cast,Nat.reduceBEq]
theorem F24:Fun Tryz.prog 24 71 v24 c24 o24:=Fun.mkA Tryz.func24 Tryz.ntmps24
def DE(G:J5)(d:DoR)(cs:J6):Prop:=∃ B c,cs=.int .i64 d.kind :: .int .i64 d.id :: .int .i64 d.torn :: eP d.b (.slice B d.b.recs.length c)∧BE G d.b (eP d.b (.slice B d.b.recs.length c))∧I64 d.kind∧I64 d.id∧I64 d.torn
theorem DE.le{G G':J5}(hg:Gle G G'){d:DoR}{cs:J6}(h:DE G d cs):DE G' d cs:=by
 obtain⟨B,c,h1,h2,h3⟩:=h;exact⟨B,c,h1,BE.le hg h2,h3⟩
theorem Cx(p:Pt)(d:DoR)(cs ds:J6)(G:J5)(hp:PE G p cs)(hsm:smP p)(hd:DE G d ds):FnD Tryz.prog 24 #[.agg cs.toArray,.agg ds.toArray] G (fun G r=>∃ cs',r=.agg cs'.toArray∧PE G (kB p d) cs'):=by
 have hp0:=hp;obtain⟨A,c,B,d1,rfl,hv1,hv2,hI⟩:=hp;obtain⟨B2,d2,rfl,hb,hk,hi,ht⟩:=hd;refine F24.fnD (by simp) (dI ?_);unfold c24;unfold d7 at hp0 ⊢;unfold eP at hb ⊢;intros;refine gR 0 0 c24r0.eq_1 ?_;intros;refine gR 7 8 c24r1.eq_1 ?_;intros;refine gR 0 0 c24r2.eq_1 ?_;intros;try refine dx ?_
 refine ez (fun e h=>∃ (G1:J5) (cs1:J6),(Gle G G1∧PE G1 (jk p d).1 cs1)∧e 6=.int .i64 (jk p d).2∧h=⟨G1,[.reg 5 cs1,.reg 4 [.int .i64 0,.int .i64 0,.int .i64 0,.slice none 0 0,.slice none 0 0],.reg 3 [.int .i64 d.kind,.int .i64 d.id,.int .i64 d.torn,.int .i64 d.b.base,.int .i64 d.b.last,.int .i64 d.b.src,.int .i64 d.b.epoch,.int .i64 d.b.pid,.int .i64 d.b.gen,.int .i64 d.b.seq,.bool d.b.txn,.int .i64 d.b.ctl,.slice B2 d.b.recs.length d2],.reg 2 [.int .i64 p.epoch,.int .i64 p.leader,.int .i64 p.least,.slice A p.isr.length c,.slice B p.reps.length d1]],[]⟩) ?_ ?_
 ·intros;try refine dx ?_
  intros;refine gR 0 0 c24r3.eq_1 ?_;intros;refine gR 11 12 c24r4.eq_1 ?_;intros;refine gC ?_;refine gb (fun k0=>?_) (fun k0=>?_)
  ·have hq:jk p d=(pF p d.b).1:=if_pos (Kn k0);rw[hq];intros;refine gR 12 20 c24r5.eq_1 ?_;refine(lM p d.b _ _ G hp0 hsm hb _ _).mono ?_;rintro r h' ⟨G2,rfl,hg2,cs2,rfl,hpe⟩;have hpe0:=hpe;obtain⟨A5,c5,B5,d5,rfl,-⟩:=hpe;unfold d7;refine sI ?_;intros;refine gN ?_;exact ej ⟨G2,_,⟨hg2,hpe0⟩,eE,rfl⟩
  have k0:=Ko k0;intros;refine gR 21 22 c24r6.eq_1 ?_;intros;refine gC ?_;refine gb (fun k1=>?_) (fun k1=>?_)
  ·have hq:jk p d=ofP p d.id (fW d.id):=by rw[jk,if_neg k0,if_pos (Kn k1)]
   rw[hq];intros;refine gR 22 29 c24r7.eq_1 ?_;refine(oB p _ d.id G hp0 hsm hi (.inl I0) _ _).mono ?_;rintro r h' ⟨G2,rfl,hg2,cs2,rfl,hpe⟩;have hpe0:=hpe;obtain⟨A5,c5,B5,d5,rfl,-⟩:=hpe;unfold d7;refine sI ?_;intros;refine gN ?_;exact ej ⟨G2,_,⟨hg2,hpe0⟩,eE,rfl⟩
  have k1:=Ko k1;intros;refine gR 30 31 c24r8.eq_1 ?_;intros;refine gC ?_;refine gb (fun k2=>?_) (fun k2=>?_)
  ·have hq:jk p d=ofP p d.id (ji d.id):=by rw[jk,if_neg k0,if_neg k1,if_pos (Kn k2)]
   rw[hq];intros;refine gR 31 38 c24r9.eq_1 ?_;refine(xL p _ d.id G hp0 hsm hi _ _).mono ?_;rintro r h' ⟨G2,rfl,hg2,cs2,rfl,hpe⟩;have hpe0:=hpe;obtain⟨A5,c5,B5,d5,rfl,-⟩:=hpe;unfold d7;refine sI ?_;intros;refine gN ?_;exact ej ⟨G2,_,⟨hg2,hpe0⟩,eE,rfl⟩
  have k2:=Ko k2;intros;refine gR 39 40 c24r10.eq_1 ?_;intros;refine gC ?_;refine gb (fun k3=>?_) (fun k3=>?_)
  ·have hq:jk p d=ofP p d.id (gI d.id d.torn):=by rw[jk,if_neg k0,if_neg k1,if_neg k2,if_pos (Kn k3)]
   rw[hq];intros;refine gR 40 49 c24r11.eq_1 ?_;refine(sx p _ d.id d.torn G hp0 hsm hi ht _ _).mono ?_;rintro r h' ⟨G2,rfl,hg2,cs2,rfl,hpe⟩;have hpe0:=hpe;obtain⟨A5,c5,B5,d5,rfl,-⟩:=hpe;unfold d7;refine sI ?_;intros;refine gN ?_;exact ej ⟨G2,_,⟨hg2,hpe0⟩,eE,rfl⟩
  have k3:=Ko k3;intros;refine gR 50 51 c24r12.eq_1 ?_;intros;refine gC ?_;refine gb (fun k4=>?_) (fun k4=>?_)
  ·have hq:jk p d=ofP p d.id jo:=by rw[jk,if_neg k0,if_neg k1,if_neg k2,if_neg k3,if_pos (Kn k4)]
   rw[hq];intros;refine gR 51 58 c24r13.eq_1 ?_;refine(se p _ d.id G hp0 hsm hi _ _).mono ?_;rintro r h' ⟨G2,rfl,hg2,cs2,rfl,hpe⟩;have hpe0:=hpe;obtain⟨A5,c5,B5,d5,rfl,-⟩:=hpe;unfold d7;refine sI ?_;intros;refine gN ?_;exact ej ⟨G2,_,⟨hg2,hpe0⟩,eE,rfl⟩
  have k4:=Ko k4;intros;refine gR 59 60 c24r14.eq_1 ?_;intros;refine gC ?_;refine gb (fun k5=>?_) (fun k5=>?_)
  ·have hq:jk p d=ofP p d.id (fP d.id):=by rw[jk,if_neg k0,if_neg k1,if_neg k2,if_neg k3,if_neg k4,if_pos (Kn k5)]
   rw[hq];intros;refine gR 60 67 c24r15.eq_1 ?_;refine(oU p _ d.id G hp0 hsm hi _ _).mono ?_;rintro r h' ⟨G2,rfl,hg2,cs2,rfl,hpe⟩;have hpe0:=hpe;obtain⟨A5,c5,B5,d5,rfl,-⟩:=hpe;unfold d7;refine sI ?_;intros;refine gN ?_;exact ej ⟨G2,_,⟨hg2,hpe0⟩,eE,rfl⟩
  have hq:jk p d=(p,0):=by rw[jk,if_neg k0,if_neg k1,if_neg k2,if_neg k3,if_neg k4,if_neg (Ko k5)]
  rw[hq];intros;refine gN ?_;exact ej ⟨G,_,⟨.refl _,hp0⟩,eE,rfl⟩
 rintro e h ⟨G1,cs1,⟨hg1,hpe⟩,e6,rfl⟩;refine dC [6] ?_;refine sJ @e6 ?_;intros;have hpe0:=hpe;obtain⟨A5,c5,B5,d5,rfl,-⟩:=hpe;unfold d7 at hpe0 ⊢;intros;try refine dx ?_
 intros;refine gR 67 68 c24r16.eq_1 ?_;intros;refine gC ?_;refine gb (fun k6=>?_) (fun k6=>?_)
 ·have k6:=Kn k6;intros;refine gR 69 70 c24r17.eq_1 ?_;intros;refine rW ?_;rw[kB,if_neg k6];exact⟨_,rfl,hp0.le hg1⟩
 ·have k6:(jk p d).2=0:=by simpa using k6
  intros;refine gR 70 71 c24r18.eq_1 ?_;intros;refine rW ?_;rw[kB,if_pos k6];exact⟨_,rfl,hpe0⟩
end Go.Proofs.YtpmofpekcbghnaaGreat
namespace Go.Proofs.YtpmofpekcbghnaaGreat
open Go Go.Kx Go.RowKit
open List (getElem?_eq_getElem mem_of_getElem? length_append append_nil append_assoc length_cons take_length)
theorem yQ(W:World):jf Tryz.prog W 45 (DE (tX W)):=fun H enc fuel cs x hx=>by
 obtain⟨hl,hf⟩:=wP (k:=13) Tryz.underlying45 (by kernel_rfl) hx
 match cs,hl with
 | [x0,x1,x2,y0,y1,y2,y3,y4,y5,y6,y7,y8,y9],_ =>
  obtain⟨_,_,t0⟩:=hf 0 _ rfl 0 1 rfl (by kernel_rfl);obtain⟨_,_,t1⟩:=hf 1 _ rfl 1 1 rfl (by kernel_rfl);obtain⟨_,_,t2⟩:=hf 2 _ rfl 2 1 rfl (by kernel_rfl);obtain⟨_,_,t3⟩:=hf 3 _ rfl 3 10 rfl (by kernel_rfl);obtain⟨n0,e0,w0⟩:=fp Tryz.underlying3 _ _ _ _ _ t0;obtain⟨n1,e1,w1⟩:=fp Tryz.underlying3 _ _ _ _ _ t1;obtain⟨n2,e2,w2⟩:=fp Tryz.underlying3 _ _ _ _ _ t2;obtain⟨b,hb⟩:=rj W _ _ _ _ _ t3
  cases (show[x0]=[.int .i64 n0]from e0);cases (show[x1]=[.int .i64 n1]from e1);cases (show[x2]=[.int .i64 n2]from e2);have hb0:=hb;obtain⟨A,c,e3,-⟩:=hb;cases (show[y0,y1,y2,y3,y4,y5,y6,y7,y8,y9]=eP b (.slice A b.recs.length c)from e3);exact⟨⟨n0,n1,n2,b⟩,A,c,rfl,hb0,iE w0,iE w1,iE w2⟩
theorem we(W:World):jf Tryz.prog W 60 (fun(l:List DoR) cs=>∃ A c,cs=[.slice A l.length c]∧l.length≤c∧c≤maxLen∧SlA (tX W) (DE (tX W)) 13 A l) :=
 nw Tryz.underlying60 (by kernel_rfl) (yQ W)
end Go.Proofs.YtpmofpekcbghnaaGreat
namespace Go.Proofs.YtpmofpekcbghnaaGreat
open Go Go.Kx
open List (getElem?_eq_getElem mem_of_getElem? length_append append_nil append_assoc length_cons take_length)
def iM:Int→Kg→Prop
 | _,[]=>True
 | nx,b :: l=>b.base=nx∧iM (b.last+1) l
def tight:Int→List Sg→Prop
 | _,[]=>True
 | nx,s :: l=>(s.base=nx∧iM nx (ef s))∧tight (eF nx (ef s)) l
theorem jE:∀ {a b:Kg} {nx:Int},iM nx (a++b)↔iM nx a∧iM (eF nx a) b
 | [],b,nx=>by simp[iM,eF]
 | x :: a,b,nx=>by
  show(x.base=nx∧iM (x.last+1) (a++b))↔(x.base=nx∧iM (x.last+1) a)∧iM (eF (x.last+1) a) b;rw[jE,and_assoc]
theorem iN:∀ {a b:List Sg} {nx:Int},tight nx (a++b)↔tight nx a∧tight (eF nx (bsS a)) b
 | [],b,nx=>by simp[tight,bsS,eF]
 | s :: a,b,nx=>by
  show((s.base=nx∧iM nx (ef s))∧tight (eF nx (ef s)) (a++b))↔((s.base=nx∧iM nx (ef s))∧tight (eF nx (ef s)) a)∧tight (eF nx (bsS (s :: a))) b;rw[iN,fJ,fY];simp only[and_assoc]
theorem pd:∀ {l:List Sg} {nx:Int},tight nx l→iM nx (bsS l)
 | [],_,_=>trivial
 | s :: l,nx,h=>by
  rw[fJ,jE];exact⟨h.1.2,pd h.2⟩
structure Can (l:Lg):Prop where
 chk:fq l=0
 start:l.start=0
 tight:tight 0 l.segs
 full:∀ k s,0 < k→l.segs[k]?=some s→ef s≠[]
structure Can0 (l:Lg):Prop where
 chk:fq l=0
 start:l.start=0
 tight:tight 0 l.segs
 full:∀ k s,0 < k→k+1 < l.segs.length→l.segs[k]?=some s→ef s≠[]
theorem Can.to0{l:Lg}(h:Can l):Can0 l:=⟨h.chk,h.start,h.tight,fun k s h0 _ hs=>h.full k s h0 hs⟩
theorem BO{l:Lg}(h:l.start=0):u0 l=bsS l.segs:=by
 unfold u0 fM;rw[h];refine List.filter_eq_self.2 fun b hb=>?_
 have:=fO.1 (tg (xZ b hb)).2;exact decide_eq_true this.1
theorem rN:∀ {bs:Kg} {nx:Int},iM nx bs→(∀ x∈bs,fx x=0)→nx≤eF nx bs
 | [],nx,_,_=>Int.le_refl _
 | b :: l,nx,h,he=>by
  have h1:=rN h.2 fun x hx=>he x (.tail _ hx)
  have h2:=ny (he b (.head _));have h3:=h.1;show nx≤eF (b.last+1) l;omega
theorem Can0.end_{l:Lg}(h:Can0 l):oa l=eF 0 (bsS l.segs):=by
 obtain⟨s,e1,e2,e3,e4,-⟩:=ky h.chk;have ht:=h.tight;rw[e2,iN]at ht;obtain⟨t1,⟨t2,t3⟩,-⟩:=ht;have h0:=rN (pd t1) fun x hx=>xZ x hx
 have h1:=lS s;rw[e4,h.start,e2,iy,fY];show max 0 (eF s.base (ef s))=eF (eF 0 (bsS _)) (bsS [s]);rw[fJ,jH,append_nil,← t2];have:gY s=eF s.base (ef s):=rfl;omega
theorem Can0.all_{l:Lg}(h:Can0 l):gz l=bsS l.segs:=by rw[gz,if_pos h.chk,BO h.start]
theorem Can0.End{l:Lg}(h:Can0 l):ec l=eF 0 (gz l):=by rw[ec,if_pos h.chk,h.end_,h.all_]
theorem Dy{limit:Int}(h:mB limit 0=true):Can ⟨limit,0,[⟨0,[]⟩]⟩ :=
 ⟨wy h,rfl,⟨⟨rfl,trivial⟩,trivial⟩,fun k s h0 hs=>by
  match k,h0,hs with
  | k+1,_,hs=>cases hs⟩
theorem yL{l:Lg}{b:Batch}(h:(gJ l b).2=0):∃ s,l.segs[l.segs.length - 1]?=some s∧l.segs=l.segs.take (l.segs.length - 1)++[s]∧oa l=max l.start (gY s)∧fh s=true ∧
  ((gJ l b).1.segs=l.segs.take (l.segs.length - 1)++[⟨s.base,s.bytes++dK b⟩]∨((gJ l b).1.segs=l.segs++[⟨b.base,dK b⟩]∧0 < s.bytes.length)):=by
 obtain⟨⟨k0,k1,k2,k3⟩,-⟩:=g0 h;obtain⟨s,e1,e2,e3,e4,e5⟩:=ky k0;refine⟨s,e1,e2,e4,e5.1.1,?_⟩;obtain⟨c1,c2,c3,c4⟩:=fB k0;have hap:=xJ e5.1.1 (rb c1) k1 (show gY s≤b.base by omega);unfold gJ at h ⊢;rw[if_pos k0,if_pos k1,if_neg (by omega),if_neg (by omega),e3]at h ⊢;by_cases k4:l.limit < ((s.bytes.length+(dK b).length:Nat):Int)
 ·rw[if_pos k4]at hap;rw[hap,if_neg (by decide)]at h ⊢;by_cases k5:l.segs.length=256
  ·rw[if_pos k5]at h;cases h
  rw[if_neg k5];exact .inr ⟨rfl,by omega⟩
 ·rw[if_neg k4]at hap;rw[hap,if_pos rfl];exact .inl rfl
theorem wA{l:Lg}{b:Batch}(h:Can0 l)(ha:(gJ l b).2=0)(hb:b.base=oa l):Can (gJ l b).1:=by
 obtain⟨⟨a1,a2,a3,a4⟩,⟨a5,a6⟩,a7,a8,-⟩:=g0 ha;obtain⟨s,e1,e2,e4,hw,h2⟩:=yL ha;have hend:=h.end_;have hend2:=hend;have ht:=h.tight;rw[e2,iN]at ht;obtain⟨t1,⟨t2,t3⟩,-⟩:=ht;have hes:b.base=eF s.base (ef s):=by
  rw[hb,hend,e2,iy,fY,fJ,jH,append_nil,t2]
 have hne:=List.length_pos_iff.2 (fB a1).2.1;refine⟨a7,by rw[a6,h.start],?_,fun k x h0 hx=>?_⟩
 ·rcases h2 with h2 | ⟨h2,h3⟩
  ·obtain⟨g1,-,-⟩:=xR hw a2 (show gY s≤b.base by rw[hes];exact Int.le_refl _);rw[h2,iN];refine⟨t1,⟨t2,?_⟩,trivial⟩;rw[g1,jE];exact⟨t3,by rw[← t2];exact hes,trivial⟩
  ·rw[h2,iN];refine⟨h.tight,⟨by rw[← hend];exact hb,?_⟩,trivial⟩;rw[lk a2];exact⟨by rw[← hend];exact hb,trivial⟩
 ·have hlt:(l.segs.take (l.segs.length - 1)).length=l.segs.length - 1:=by rw[List.length_take];omega
  rcases h2 with h2 | ⟨h2,h3⟩
  ·obtain⟨g1,-,-⟩:=xR hw a2 (show gY s≤b.base by rw[hes];exact Int.le_refl _);rw[h2]at hx;by_cases hk:k < l.segs.length - 1
   ·rw[List.getElem?_append_left (by omega),List.getElem?_take,if_pos hk]at hx;exact h.full k x h0 (by omega) hx
   ·rw[List.getElem?_append_right (by omega),hlt]at hx;have hk2:k - (l.segs.length - 1)=0:=by have:=(List.getElem?_eq_some_iff.1 hx).1;simp at this;omega
    rw[hk2]at hx;cases hx;rw[g1];simp
  ·rw[h2]at hx;by_cases hk:k < l.segs.length
   ·rw[List.getElem?_append_left hk]at hx;by_cases hk2:k+1 < l.segs.length
    ·exact h.full k x h0 hk2 hx
    ·have hk3:k=l.segs.length - 1:=by omega
     rw[hk3,e1]at hx;cases hx;intro hn;have:=la (eB.1 hw).1;rw[hn]at this;rw[this]at h3;simp[ft]at h3
   ·rw[List.getElem?_append_right (by omega)]at hx;have hk2:k - l.segs.length=0:=by have:=(List.getElem?_eq_some_iff.1 hx).1;simp at this;omega
    rw[hk2]at hx;cases hx;rw[lk a2];simp
theorem vC{α:Type}{p:α→Bool}:∀ {l:List α},(∀ x∈l,p x=true)→l.takeWhile p=l
 | [],_=>rfl
 | x :: l,h=>by rw[List.takeWhile_cons,if_pos (h x (.head _)),vC fun y hy=>h y (.tail _ hy)]
theorem sr{s:Sg}{to:Int}(hw:fh s=true)(h:gY s≤to):pE s to=s:=by
 have hall:(ef s).takeWhile (yq to)=ef s:=by
  obtain⟨r,hsc⟩:=eG s;refine vC fun b hb2=>?_
  obtain⟨i,hi⟩:=List.mem_iff_getElem?.1 hb2;have h5:=jy hsc.ord hsc.ok (i+1);have h6:eF s.base ((ef s).take (i+1))=b.last+1:=by
   rw[eo hi,fY];rfl
  have h7:gY s=eF s.base (ef s):=rfl;exact decide_eq_true (by omega)
 rw[pE,hall,qC hw,take_length]
theorem wV{limit to:Int}:∀ {l:List Sg} {p:Option Sg} {nx:Int},okS limit p l→tight nx l→tight nx (jT l to)∧(∀ k s,k+1 < (jT l to).length→(jT l to)[k]?=some s→l[k]?=some s) ∧
  (∀ k s,k+1=(jT l to).length→(jT l to)[k]?=some s→∃ s0,l[k]?=some s0∧s=pE s0 to∧s0.base < to)
 | [],_,_,_,_=>⟨trivial,fun k s _ h=>by simp[jT]at h,fun k s _ h=>by simp[jT]at h⟩
 | s :: l,p,nx,ho,ht=>by
  obtain⟨i1,i2,i3⟩:=wV (to:=to) ho.2 ht.2;have habove:=nv ho.2;have hge:=lS s;by_cases hb:s.base < to
  ·have he:jT (s :: l) to=pE s to :: jT l to:=by rw[jT,List.filter_cons,if_pos (decide_eq_true hb)];rfl
   obtain⟨c1,c2,c3,c4⟩:=pX to ho.1.1.1;by_cases hn:jT l to=[]
   ·rw[he,hn];refine⟨⟨⟨ht.1.1,?_⟩,trivial⟩,fun k x hk=>by simp at hk,fun k x hk hx=>?_⟩
    ·rw[c4];obtain⟨t,h2⟩:∃ t,(ef s).takeWhile (yq to)++t=ef s:=List.takeWhile_prefix _;have:=ht.1.2;rw[← h2,jE]at this;exact this.1
    ·have hk0:k=0:=by simpa using hk
     subst hk0;cases hx;exact⟨s,rfl,rfl,hb⟩
   ·-- another one stands behind: this one stays whole
    obtain⟨c,hc⟩:=List.exists_mem_of_ne_nil _ hn;obtain⟨c0,hc0,-⟩:=List.mem_map.1 hc;obtain⟨hc1,hc2⟩:=List.mem_filter.1 hc0;have hc2:=Kn hc2;have hcb:=habove c0 hc1;have hcut:pE s to=s:=sr ho.1.1.1 (by omega);rw[he,hcut];refine⟨⟨ht.1,i1⟩,fun k x hk hx=>?_,fun k x hk hx=>?_⟩
    ·match k,hx with
     | 0,hx=>exact hx
     | k+1,hx=>exact i2 k x (by simpa using hk) hx
    ·match k,hx,hk with
     | 0,hx,hk=>simp at hk;exact absurd hk hn
     | k+1,hx,hk=>exact i3 k x (by simpa using hk) hx
  ·have hnil:jT (s :: l) to=[]:=by
    have:(s :: l).filter (fun s=>decide (s.base < to))=[]:=List.filter_eq_nil_iff.2 fun c hc=>by
     have:s.base≤c.base:=by
      rcases List.mem_cons.1 hc with rfl | hc
      ·exact Int.le_refl _
      ·have:=habove c hc;omega
     simp;omega
    rw[jT,this];rfl
   rw[hnil];exact⟨trivial,fun k x _ h=>(by cases h),fun k x _ h=>by cases h⟩
theorem BM{l:Lg}{to:Int}(h:Can l)(ht:(j5 l to).2=0):Can0 (j5 l to).1∧∀ k s,0 < k→(j5 l to).1.segs[k]?=some s→ef s=[]→s.base < to:=by
 obtain⟨k0,⟨k1,k2⟩,k3,k4⟩:=AX ht;obtain⟨i1,i2,i3⟩:=wV (to:=to) (fB k0).2.2.1 h.tight;have hs:(j5 l to).1.segs=nQ l.segs to:=by rw[k3]
 have hst:(j5 l to).1.start=0:=by rw[k3];exact h.start
 unfold nQ at hs;split at hs
 ·rename_i he;have h0:to=0:=by
   rw[h.start]at k1
   match hl:l.segs,(fB k0).2.1 with
   | s :: ss,_ =>
    have h5:=h.tight;rw[hl]at h5 he;have h6:¬ s.base < to:=fun hlt=>by
     rw[jT,List.filter_cons,if_pos (decide_eq_true hlt)]at he;cases he
    have:=h5.1.1;omega
  have hone:∀ k s,0 < k→(j5 l to).1.segs[k]?=some s→False:=fun k s hk hx=>by
   rw[hs]at hx
   match k,hk,hx with
   | k+1,_,hx=>cases hx
  exact⟨⟨k4,hst,by rw[hs,h0];exact⟨⟨rfl,trivial⟩,trivial⟩,fun k s hk _ hx=>(hone k s hk hx).elim⟩,fun k s hk hx=>(hone k s hk hx).elim⟩
 ·refine⟨⟨k4,hst,by rw[hs];exact i1,fun k s hk hl hx=>?_⟩,fun k s hk hx hn=>?_⟩
  ·rw[hs]at hl hx;exact h.full k s hk (i2 k s hl hx)
  ·rw[hs]at hx;have hl:=(List.getElem?_eq_some_iff.1 hx).1;by_cases hkl:k+1 < (jT l.segs to).length
   ·exact absurd hn (h.full k s hk (i2 k s hkl hx))
   ·obtain⟨s0,h1,h2,h3⟩:=i3 k s (by omega) hx;rw[h2];exact h3
theorem tb:∀ {bs:Kg} {l:Lg},Can0 l→(iQ l bs).2=true→iM (oa l) bs→bs≠[]→Can (iQ l bs).1
 | [],_,_,_,_,hn=>absurd rfl hn
 | b :: bs,l,h,ha,hc,_=>by
  rw[iQ]at ha ⊢;split at ha
  ·rename_i h0;rw[if_pos h0];have h1:=wA h h0 hc.1;have h2:=(g0 h0).2.2.2.1;by_cases hn:bs=[]
   ·subst hn;exact h1
   ·exact tb h1.to0 ha (by rw[h2];exact hc.2) hn
  ·cases ha
theorem ua{l lead:Lg}{to:Int}(h:Can l)(h2:Can lead)(ht:to≤ec lead)(hc:(eS l lead to).2=true):Can (eS l lead to).1:=by
 have hall:=(nu hc).2.2;unfold eS at hc hall ⊢;dsimp only at hc hall ⊢;split at hc
 ·cases hc
 ·rename_i hn;rw[if_neg hn]at hall ⊢;have hx:(j5 l to).2=0:=Decidable.byContradiction fun k=>hn (.inl k)
  have he:gz (j5 l to).1=(gz lead).take (gz (j5 l to).1).length:=Decidable.byContradiction fun k=>hn (.inr (.inr k))
  obtain⟨hx0,hxl⟩:=BM h hx;have hend:=hx0.end_;have hal:=hx0.all_;generalize (j5 l to).1=x at *;have hcl:iM 0 (gz lead):=by rw[h2.to0.all_];exact pd h2.tight
  by_cases hr:(gz lead).drop (gz x).length=[]
  ·rw[hr]at hall ⊢;have hall:gz x=gz lead:=hall;refine⟨hx0.chk,hx0.start,hx0.tight,fun k s hk hs hn=>?_⟩;have hs:x.segs[k]?=some s:=hs;have hlt:=hxl k s hk hs hn;have hkl:=(List.getElem?_eq_some_iff.1 hs).1;have hlast:¬ k+1 < x.segs.length:=fun hkl=>hx0.full k s hk hkl hs hn
   have hsp:=jI hs;have hdr:x.segs.drop (k+1)=[]:=List.drop_eq_nil_of_le (by omega);rw[hdr]at hsp;have htg:=hx0.tight;rw[hsp,iN]at htg;have hsb:=htg.2.1.1;have h5:eF 0 (bsS x.segs)=s.base:=by
    rw[hsp,iy,fY,fJ,hn,jH];exact hsb.symm
   have h6:=h2.to0.End;rw[← hall,hal,h5]at h6;omega
  ·refine tb hx0 hc ?_ hr;have h5:=hcl;rw[← List.take_append_drop (gz x).length (gz lead),jE,← he]at h5;rw[hend,← hal];exact h5.2
theorem Ao{l:Lg}(h:Can l):j5 l (ec l)=(l,0):=by
 have hE:ec l=oa l:=by rw[ec,if_pos h.chk]
 have hge:=rS l;obtain⟨s,e1,e2,e3,e4,e5⟩:=ky h.chk;have htT:nQ l.segs (ec l)=l.segs:=by
  have ht:=h.tight;have ht2:=ht;rw[e2,iN]at ht;obtain⟨t1,⟨t2,t3⟩,-⟩:=ht;have hEs:ec l=eF s.base (ef s):=by
   rw[h.to0.End,h.to0.all_,e2,iy,fY,fJ,jH,append_nil,t2]
  have hok:=(fB h.chk).2.2.1;rw[e2]at hok;have hbelow:=vr hok;by_cases hn:ef s=[]
  ·have hk:l.segs.length - 1=0:=by
    rcases Nat.eq_zero_or_pos (l.segs.length - 1)with h0 | h0
    ·exact h0
    ·exact absurd hn (h.full _ s h0 e1)
   rw[hk,List.take_zero,List.nil_append]at e2;have hb:=la (eB.1 e5.1.1).1;rw[hn]at hb hEs;have hb:s.bytes=[]:=hb;have hEs:ec l=s.base:=hEs;have h0:s.base=0:=by rw[e2]at ht2;exact ht2.1.1
   have hT:jT [s] s.base=[]:=by simp[jT]
   rw[e2,hEs,nQ,hT,if_pos rfl];show[(⟨s.base,[]⟩:Sg)]=[s];rw[← hb]
  ·obtain⟨b,bs,hbs⟩:=List.exists_cons_of_ne_nil hn;have hlt:s.base < ec l:=by
    rw[hEs,hbs];rw[hbs]at t3;have h6:=t3.1;obtain⟨r,hsc⟩:=eG s;have hkk:=hsc.ok;rw[hbs]at hkk;have h7:=ny (hkk b (.head _));have h8:=rN t3.2 fun x hx=>hkk x (.tail _ hx)
    show s.base < eF (b.last+1) bs;omega
   have hall:∀ a∈l.segs,a.base < ec l∧gY a≤ec l:=fun a ha=>by
    rw[e2]at ha;rcases List.mem_append.1 ha with ha | ha
    ·have h6:=hbelow a ha;have h7:=lS a;omega
    ·simp only[List.mem_singleton]at ha;subst ha;exact⟨hlt,by rw[hEs];exact Int.le_refl _⟩
   have hT:jT l.segs (ec l)=l.segs:=by
    unfold jT;rw[List.filter_eq_self.2 fun a ha=>decide_eq_true (hall a ha).1]
    conv=>rhs;rw[← List.map_id l.segs]
    refine List.map_congr_left fun a ha=>?_
    exact sr (ry (fB h.chk).2.2.1 a ha).1 (hall a ha).2
   rw[nQ,hT,if_neg (fB h.chk).2.1]
 rw[j5,if_pos h.chk,if_pos (by rw[uW];simp;omega),htT]
structure Gd (r:Rp):Prop where
 can:Can r.log
 chk:gK r.eps=0
 nil:r.eps=[]→ec r.log=0
 first:∀ x,r.eps[0]?=some x→x.2=0
 low:∀ x∈r.eps,x.2≤ec r.log
theorem Gd.high{r:Rp}(h:Gd r)(m:Int):Gd { r with high:=m }:=⟨h.can,h.chk,h.nil,h.first,h.low⟩
theorem CK{r lead:Rp}(h:Gd r)(h2:Gd lead):jC r lead≤ec lead.log:=by
 have he:=iI lead.log;unfold jC lX;split
 ·rename_i hm;have hc:=Classical.choose_spec hm;generalize Classical.choose hm=m at *;by_cases h3:r.eps=[]
  ·rw[nm hc (.inr (.inr (.inl h3)))];exact he.1
  by_cases h4:lead.eps=[]
  ·rw[nm hc (.inr (.inr (.inr h4)))];exact he.1
  obtain⟨p,hp⟩:∃ p,r.eps[r.eps.length - 1]?=some p:=⟨_,getElem?_eq_getElem (by have:=List.length_pos_iff.2 h3;omega)⟩;obtain⟨q,hq⟩:∃ p,lead.eps[lead.eps.length - 1]?=some p:=⟨_,getElem?_eq_getElem (by have:=List.length_pos_iff.2 h4;omega)⟩;exact(uF hc h.chk h2.chk hp hq (h.low p (mem_of_getElem? hp)) (h2.low q (mem_of_getElem? hq))).2.2
 ·exact he.1
theorem ym{r lead:Rp}(h:Gd lead)(he:r.eps=lead.eps)(hl:ec r.log=ec lead.log):jC r lead=ec lead.log:=by
 unfold jC;rw[he,hl];by_cases h3:lead.eps=[]
 ·rw[h3,Fp,h.nil h3]
 ·have hpos:=List.length_pos_iff.2 h3;obtain⟨p,hp⟩:∃ p,lead.eps[lead.eps.length - 1]?=some p:=⟨_,getElem?_eq_getElem (by omega)⟩;refine oV (.inr ⟨h.chk,h.chk,.inr ⟨_,p,_,p,hp,hp,rfl,fun i' x' k' y' hi hx=>?_,?_⟩⟩)
  ·have:=(List.getElem?_eq_some_iff.1 hx).1;omega
  ·unfold wv;rw[List.getElem?_eq_none (by omega)];show ec lead.log=min (ec lead.log) (ec lead.log);omega
theorem qe{r lead:Rp}(h:Gd r)(h2:Gd lead):Can (dJ r lead).log∧gz (dJ r lead).log=gz lead.log∧ec (dJ r lead).log=ec lead.log:=by
 have key:Can (dJ r lead).log∧gz (dJ r lead).log=gz lead.log:=by
  unfold dJ;dsimp only;split
  ·rename_i hc;have hm:=CK h h2;exact⟨ua h.can h2.can (by omega) hc.2.2,(nu hc.2.2).2.2⟩
  ·exact⟨h2.can,rfl⟩
 exact⟨key.1,key.2,by rw[key.1.to0.End,h2.can.to0.End,key.2]⟩
theorem vS{r lead:Rp}(h:Gd r)(h2:Gd lead)(m:Int):Gd { dJ r lead with high:=m }:=by
 obtain⟨a,b,c⟩:=qe h h2;exact⟨a,h2.chk,fun hn=>c.trans (h2.nil hn),h2.first,fun x hx=>by have:=h2.low x hx;show x.2≤ec (dJ r lead).log;omega⟩
theorem rU{r lead:Rp}(h:Can r.log)(h2:Gd lead)(he:r.eps=lead.eps)(ha:gz r.log=gz lead.log):dJ r lead=r:=by
 have hl:ec r.log=ec lead.log:=by rw[h.to0.End,h2.can.to0.End,ha]
 have hm:=ym h2 he hl;have hei:=iI lead.log;have hc:eS r.log lead.log (min (jC r lead) (ec r.log))=(r.log,true):=by
  have hmin:min (jC r lead) (ec r.log)=ec r.log:=by omega
  rw[hmin,eS];rw[Ao h,ha];rw[if_neg]
  ·rw[List.drop_eq_nil_of_le (Nat.le_refl _)];rfl
  ·rintro(h3 | h3 | h3)
   ·exact h3 rfl
   ·omega
   ·exact h3 (take_length).symm
 cases r;unfold dJ;dsimp only at *;rw[hc,if_pos ⟨by rw[h.start,h2.can.start],by rw[h.start,hm];omega,rfl⟩,he]
theorem lv{p:Pt}(h:∀ r∈p.reps,Gd r):∀ r∈(dY p).reps,Gd r:=fun z hz=>by
 obtain⟨i,hi⟩:=List.mem_iff_getElem?.1 hz;have hl:=(List.getElem?_eq_some_iff.1 hi).1;rw[(eb p).2.2.2.2]at hl;obtain⟨m,hm⟩:=l9 (getElem?_eq_getElem hl);rw[hi]at hm;cases hm;exact(h _ (List.getElem_mem hl)).high m
theorem p7{l:List Rp}{k:Nat}{y:Rp}(h:∀ r∈l,Gd r)(hy:Gd y):∀ r∈l.set k y,Gd r:=fun z hz=>by
 rcases List.mem_or_eq_of_mem_set hz with hz | rfl
 ·exact h z hz
 ·exact hy
theorem Gj{l:List Ep}{n s:Int}(h:(iq l n s).2=0)(h0:l=[]→s=0)(h1:∀ x,l[0]?=some x→x.2=0):((iq l n s).1≠[])∧(∀ x,(iq l n s).1[0]?=some x→x.2=0)∧∀ x∈(iq l n s).1,x∈l∨x.2=s:=by
 unfold iq at h ⊢;split at h
 ·cases h
 ·rename_i hc;rw[if_neg hc];cases hp:l[l.length - 1]? with
  | none =>
   have hn:l=[]:=by
    cases l with
    | nil=>rfl
    | cons a l=>rw[getElem?_eq_getElem (by simp)]at hp;cases hp
   refine⟨by simp,fun x hx=>?_,fun x hx=>?_⟩
   ·cases hx;exact h0 hn
   ·simp at hx;exact .inr (by rw[hx])
  | some p =>
   rw[hp]at h;dsimp only at h ⊢;have hlp:=(List.getElem?_eq_some_iff.1 hp).1;split at h
   ·cases h
   ·rename_i k1;rw[if_neg k1];split at h
    ·rename_i k2;rw[if_pos k2];exact⟨fun e=>by have e:l=[]:=e;rw[e]at hlp;simp at hlp,h1,fun x hx=>.inl hx⟩
    ·rename_i k2;rw[if_neg k2];split at h
     ·cases h
     ·rename_i k3;rw[if_neg k3];split
      ·rename_i k4;refine⟨fun e=>by have:=congrArg List.length e;simp at this;rw[this]at hlp;simp at hlp,fun x hx=>?_,fun x hx=>?_⟩
       ·by_cases hl0:l.length - 1=0
        ·rw[hl0]at hx hp;rw[List.getElem?_set_self (by omega)]at hx;cases hx;rw[k4];exact h1 p hp
        ·rw[List.getElem?_set_ne hl0]at hx;exact h1 x hx
       ·rcases List.mem_or_eq_of_mem_set hx with hx | rfl
        ·exact .inl hx
        ·exact .inr rfl
      ·refine⟨by simp,fun x hx=>?_,fun x hx=>?_⟩
       ·rw[List.getElem?_append_left (by omega)]at hx;exact h1 x hx
       ·rcases List.mem_append.1 hx with hx | hx
        ·exact .inl hx
        ·simp at hx;exact .inr (by rw[hx])
theorem E1{r:Rp}{b:Batch}{ep:Int}(h:Gd r)(ha:(gJ r.log b).2=0)(hb:b.base=ec r.log)(hp:(iq r.eps ep b.base).2=0)(m:Int):Gd { r with log:=(gJ r.log b).1,eps:=(iq r.eps ep b.base).1,high:=m }:=by
 obtain⟨⟨a1,a2,a3,a4⟩,-,a7,a8,-⟩:=g0 ha;have hE:ec r.log=oa r.log:=by rw[ec,if_pos h.can.chk]
 have hc:=wA h.can.to0 ha (by rw[hb,hE]);have hE2:ec (gJ r.log b).1=b.last+1:=by rw[ec,if_pos a7,a8]
 have hle:=ny a2;obtain⟨g1,g2,g3⟩:=Gj hp (fun hn=>by rw[hb];exact h.nil hn) h.first
 refine⟨hc,(xP hp).1,fun hn=>absurd hn g1,g2,fun x hx=>?_⟩;show x.2≤ec (gJ r.log b).1;rcases g3 x hx with hx | hx
 ·have:=h.low x hx;omega
 ·omega
theorem Gg{l:Lg}(h:fq l=0):kM l 0=l:=by
 obtain⟨s,e1,-⟩:=gQ (fB h).2.1;have h3:uR l (l.segs.length - 1)=s:=by rw[uR,List.getD_eq_getElem?_getD,e1];rfl
 have h4:mw s 0=s:=by
  unfold mw;rw[show s.bytes.length - (min (0:Int) s.bytes.length).toNat=s.bytes.length by omega,take_length]
 unfold kM;rw[h3,h4];cases l;dsimp only at *;rw[tj s e1,← jI e1]
theorem Dp{r:Rp}(h:Gd r):Gd (iR r 0):=by
 unfold iR;rw[Gg h.can.chk];exact⟨h.can,h.chk,h.nil,h.first,h.low⟩
theorem Dv{r:Rp}(h:Gd r):Gd (pb r):=by
 have hr:(ib r.log).1=r.log:=by rw[oM h.can.chk]
 have he:=iI r.log;unfold pb;rw[hr];have hmem:∀ x∈kV r.eps (ec r.log),x∈r.eps:=fun x hx=>(List.mem_filter.1 hx).1
 refine⟨h.can,wZ _ _,fun hn=>?_,fun x hx=>?_,fun x hx=>h.low x (hmem x hx)⟩
 ·have hn:kV r.eps (ec r.log)=[]:=hn;show ec r.log=0;by_cases h0:ec r.log=0
  ·exact h0
  ·cases he2:r.eps with
   | nil=>exact h.nil he2
   | cons y l =>
    have h5:=h.first y (by rw[he2];rfl)
    unfold kV at hn;have:=List.filter_eq_nil_iff.1 hn y (by rw[he2];exact .head _);simp[h.chk]at this;omega
 ·cases he2:r.eps with
  | nil =>
   have hx:(kV r.eps (ec r.log))[0]?=some x:=hx;rw[kV,he2]at hx;cases hx
  | cons y l =>
   have h5:=h.first y (by rw[he2];rfl)
   have hx:(kV r.eps (ec r.log))[0]?=some x:=hx;by_cases h0:0 < ec r.log
   ·have hf:kV r.eps (ec r.log)=y :: l.filter (fun x=>decide (gK r.eps=0) && decide (x.2 < ec r.log)):=by
     rw[kV]
     conv=>lhs;rw[he2]
     rw[List.filter_cons,if_pos (by rw[h5];simp[← he2,h.chk,h0])];rw[← he2]
    rw[hf]at hx;cases hx;exact h5
   ·have h6:=mem_of_getElem? hx;have h7:=(List.mem_filter.1 h6).2;simp at h7;have h8:=(List.mem_filter.1 h6).1;have h9:=(kJ _).1 h.chk;have:=h9.1 x h8;simp[okE]at this;omega
structure Inv (n:Nat) (p:Pt):Prop where
 ok:okP p
 gd:∀ r∈p.reps,Gd r
 eps:∀ r∈p.reps,r.eps.length≤n
 isr:p.isr.length≤n+5
theorem Inv.sm{n:Nat}{p:Pt}(h:Inv n p)(hn:n≤900):smP p :=
 ⟨fun r hr=>⟨qp (h.gd r hr).can.chk,by have:=(fB (h.gd r hr).can.chk).2.2.2;omega,by have:=h.eps r hr;omega⟩,by have:=h.ok.1.2.2.1;omega,by have:=h.isr;omega⟩
theorem Inv.up{n m:Nat}{p:Pt}(h:Inv n p)(hm:n≤m):Inv m p:=⟨h.ok,h.gd,fun r hr=>by have:=h.eps r hr;omega,by have:=h.isr;omega⟩
theorem kn{n:Nat}{p:Pt}(h:∀ r∈p.reps,r.eps.length≤n):∀ r∈(dY p).reps,r.eps.length≤n:=fun z hz=>by
 obtain⟨i,hi⟩:=List.mem_iff_getElem?.1 hz;have hl:=(List.getElem?_eq_some_iff.1 hi).1;rw[(eb p).2.2.2.2]at hl;obtain⟨m,hm⟩:=l9 (getElem?_eq_getElem hl);rw[hi]at hm;cases hm;exact h p.reps[i] (List.getElem_mem hl)
theorem mW{n:Nat}{l:List Rp}{k:Nat}{y:Rp}(h:∀ r∈l,r.eps.length≤n)(hy:y.eps.length≤n):∀ r∈l.set k y,r.eps.length≤n:=fun z hz=>by
 rcases List.mem_or_eq_of_mem_set hz with hz | rfl
 ·exact h z hz
 ·exact hy
theorem tc{n:Nat}{p:Pt}(h:Inv n p){d:DoR}(ht:d.torn=0):Inv (n+1) (kB p d):=by
 have hk:=(xS h.ok d).1.1;have key:(∀ r∈(kB p d).reps,Gd r)∧(∀ r∈(kB p d).reps,r.eps.length≤n+1)∧(kB p d).isr.length≤n+1+5:=by
  have hi:=h.isr;have he:∀ r∈p.reps,r.eps.length≤n+1:=fun r hr=>by have:=h.eps r hr;omega
  have hsame:(∀ r∈p.reps,Gd r)∧(∀ r∈p.reps,r.eps.length≤n+1)∧p.isr.length≤n+1+5:=⟨h.gd,he,by omega⟩;unfold kB;split;rotate_left
  ·exact hsame
  rename_i h0;unfold jk at h0 ⊢;by_cases c0:d.kind=0
  ·rw[if_pos c0]at h0 ⊢;rcases tf p d.b with⟨h1,-⟩ | ⟨k0,k1,k,r,mb,hk,hr,hid,hm,ha,hp,hq⟩
   ·exact absurd h0 h1
   rw[hq];have hrm:=mem_of_getElem? hr;have hmb:=oc hm;have hgd:=E1 (b:={ mb with epoch:=p.epoch }) (ep:=p.epoch) (h.gd r hrm) ha (show mb.base=ec r.log from hmb) hp r.high;have hln:=sC r.eps p.epoch mb.base;have hs:=eb (fV p k { r with log:=(gJ r.log { mb with epoch:=p.epoch }).1,eps:=(iq r.eps p.epoch mb.base).1 });refine⟨lv (p:=fV p k _) (p7 h.gd hgd),kn (p:=fV p k _) (mW he ?_),?_⟩
   ·have:=h.eps r hrm;show(iq r.eps p.epoch mb.base).1.length≤n+1;omega
   ·show(dY _).isr.length≤_;rw[hs.2.2.2.1];show p.isr.length≤_;omega
  rw[if_neg c0]at h0 ⊢;by_cases c1:d.kind=1
  ·rw[if_pos c1]at h0 ⊢;rcases hO p d.id (fW d.id)with⟨h1,-⟩ | ⟨-,k,r,hk,hr,hid,h1,h2⟩
   ·exact absurd h0 h1
   rw[h2];dsimp only;obtain⟨-,-,h3⟩:=sX h.ok hid h1;rcases h3 with⟨-,h3⟩ | ⟨hne,j,lead,hj,hl,hli,hlu,h3⟩
   ·rw[h3];exact hsame
   rw[h3];have hrm:=mem_of_getElem? hr;have hlm:=mem_of_getElem? hl;have hg:∀ m,Gd { dJ r lead with high:=m }:=vS (h.gd r hrm) (h.gd lead hlm);have hep:∀ m,({ dJ r lead with high:=m }:Rp).eps.length≤n+1:=fun m=>he lead hlm
   refine⟨p7 (lv (p:=eU d.id p k r lead) (p7 h.gd (hg _))) (hg _),mW (kn (p:=eU d.id p k r lead) (mW he (hep _))) (hep _),?_⟩;show(dY (eU d.id p k r lead)).isr.length≤_;rw[(eb _).2.2.2.1];show(if lead.high≤ec (dJ r lead).log then fj p.isr d.id else p.isr).length≤_;split
   ·have:=pI p.isr d.id;omega
   ·omega
  rw[if_neg c1]at h0 ⊢;by_cases c2:d.kind=2
  ·rw[if_pos c2]at h0 ⊢;rcases hO p d.id (ji d.id)with⟨h1,-⟩ | ⟨-,k,r,hk,hr,hid,h1,h2⟩
   ·exact absurd h0 h1
   rw[h2];dsimp only;rw[(yc h1).2.2];refine⟨lv (p:={ p with isr:=_ }) h.gd,kn (p:={ p with isr:=_ }) he,?_⟩;rw[(eb _).2.2.2.1];exact Nat.le_trans (List.length_filter_le _ _) (by omega)
  rw[if_neg c2]at h0 ⊢;by_cases c3:d.kind=3
  ·rw[if_pos c3]at h0 ⊢;rcases hO p d.id (gI d.id d.torn)with⟨h1,-⟩ | ⟨-,k,r,hk,hr,hid,h1,h2⟩
   ·exact absurd h0 h1
   rw[h2];dsimp only;rw[(rZ h1).2.2,ht];obtain⟨s1,-,-,-,s5⟩:=kT (eI p d.id) d.id;have hrm:=mem_of_getElem? hr;refine⟨lv (p:=fV _ k _) (p7 (by rw[s1];exact h.gd) (Dp (h.gd r hrm))),kn (p:=fV _ k _) (mW (by rw[s1];exact he) (he r hrm)),?_⟩;rw[(eb _).2.2.2.1];exact Nat.le_trans s5.length_le (by show p.isr.length≤_;omega)
  rw[if_neg c3]at h0 ⊢;by_cases c4:d.kind=4
  ·rw[if_pos c4]at h0 ⊢;rcases hO p d.id jo with⟨h1,-⟩ | ⟨-,k,r,hk,hr,hid,h1,h2⟩
   ·exact absurd h0 h1
   rw[h2];dsimp only;rw[(wM h1).2];have hrm:=mem_of_getElem? hr;exact⟨p7 h.gd (Dv (h.gd r hrm)),mW he (Nat.le_trans (List.length_filter_le _ _) (he r hrm)),by show p.isr.length≤_;omega⟩
  rw[if_neg c4]at h0 ⊢;by_cases c5:d.kind=5
  ·rw[if_pos c5]at h0 ⊢;rcases hO p d.id (fP d.id)with⟨h1,-⟩ | ⟨-,k,r,hk,hr,hid,h1,h2⟩
   ·exact absurd h0 h1
   rw[h2];dsimp only;rw[(sh h1).2.2.2];refine⟨lv (p:={ p with epoch:=_,leader:=_ }) h.gd,kn (p:={ p with epoch:=_,leader:=_ }) he,?_⟩;rw[(eb _).2.2.2.1];show p.isr.length≤_;omega
  ·rw[if_neg c5];exact hsame
 exact⟨hk,key.1,key.2.1,key.2.2⟩
noncomputable def jU(p:Pt)(l:List DoR):Pt:=l.foldl (fun p d=>kB p { d with torn:=0 }) p
theorem nh:∀ (l:List DoR) {n:Nat} {p:Pt},Inv n p→Inv (n+l.length) (jU p l)
 | [],_,_,h=>h
 | d :: l,n,p,h=>by
  have:=nh l (tc h (d:={ d with torn:=0 }) rfl);rw[length_cons,show n+(l.length+1)=n+1+l.length by omega];exact this
theorem C1{l:Ki}{limit least:Int}(h:(sM l limit least).2=0):Inv 0 (sM l limit least).1:=by
 unfold sM at h ⊢;split at h
 ·rename_i hc;rw[if_pos hc];obtain⟨c1,c2,c3,c4,c5⟩:=hc;obtain⟨e1,e2⟩:=DB c1;have hcan:Can (qt limit 0).1:=by rw[e1];exact Dy e2
  have hE:ec (qt limit 0).1=0:=by rw[hcan.to0.End,hcan.to0.all_,e1];rfl
  generalize (qt limit 0).1=L0 at *;have hids:fE (l.map fun n=>(⟨n,true,L0,[],0⟩:Rp))=l:=by
   rw[fE,List.map_map];exact List.map_id l
  have hgd:∀ n,Gd ⟨n,true,L0,[],0⟩:=fun n=>⟨hcan,yS,fun _=>hE,fun x hx=>(by cases hx),fun x hx=>by cases hx⟩
  have hokr:∀ n,idI n=true→okR ⟨n,true,L0,[],0⟩:=fun n hn=>⟨⟨hn,yS,by show(0:Int)≤0;decide,by show(0:Int)≤_;decide⟩,by show fq L0=0;exact hcan.chk,fun _=>by show(0:Int)≤ec L0;omega⟩
  have hhd:l.headD 0∈l:=by
   cases l with
   | nil=>exact absurd rfl c2.1
   | cons a l=>exact .head _
  refine⟨⟨⟨show idI 1=true by decide,by rw[hids];exact c2,by rw[List.length_map];exact c3,by rw[List.length_map];exact⟨c4,c5⟩,fun r hr=>?_⟩,⟨c2,fun n hn=>by rw[hids];exact hn⟩,.inr ⟨⟨⟨l.headD 0,true,L0,[],0⟩,List.mem_map.2 ⟨_,hhd,rfl⟩,rfl,rfl⟩,hhd⟩⟩,fun r hr=>?_,fun r hr=>?_,?_⟩
  ·obtain⟨n,hn,rfl⟩:=List.mem_map.1 hr;exact hokr n (c2.2.1 n hn)
  ·obtain⟨n,hn,rfl⟩:=List.mem_map.1 hr;exact hgd n
  ·obtain⟨n,hn,rfl⟩:=List.mem_map.1 hr;exact Nat.le_refl _
  ·show l.length≤_;omega
 ·cases h
theorem oW{α:Type}{l:List α}{k:Nat}{x:α}(h:l[k]?=some x):l.set k x=l:=by
 rw[tj x h,← jI h]
theorem tP{l l':List Rp}(hids:fE l'=fE l)(h:∀ (i:Nat) (x:Rp),l[i]?=some x→∃ m,l'[i]?=some { x with high:=m })(k:Nat)(r:Rp)(m' m n:Int):kE l' k { r with high:=m' } m n=kE l k r m n:=by
 unfold kE;rw[po n hids];cases hk:atR l n with
 | none=>rfl
 | some i =>
  dsimp only;obtain⟨x,hx,-⟩:=g9 hk;obtain⟨m2,hx2⟩:=h i x hx;rw[hx,hx2];rfl
theorem nA{l l':List Rp}(hids:fE l'=fE l)(h:∀ (i:Nat) (x:Rp),l[i]?=some x→∃ m,l'[i]?=some { x with high:=m })(k:Nat)(r:Rp)(m':Int):∀ (is:Ki) (m:Int),fe l' k { r with high:=m' } m is=fe l k r m is
 | [],m=>rfl
 | n :: is,m=>by
  show fe l' k _ (kE l' k _ m n) is=fe l k r (kE l k r m n) is;rw[tP hids h,nA hids h]
theorem zv{n:Nat}{a:Pt}{id:Int}(hi:Inv n a)(h:(ofP a id (fW id)).2=0):∃ x lg,ofP a id (fW id)=(x,0)∧okP x∧ofP x id (fW id)=(x,0)∧lZ x=(lg,0)∧id∈x.isr∧∀ (i:Nat) (r:Rp),x.reps[i]?=some r→r.id=id→gz r.log=gz lg:=by
 rcases hO a id (fW id)with⟨h1,-⟩ | ⟨hok,k,r,hk,hr,hid,h1,h2⟩
 ·exact absurd h h1
 have hokx:=(mT hok hr hid h1).1;obtain⟨h0,hup,h3⟩:=sX hok hid h1;rcases h3 with⟨hne,h3⟩ | ⟨hne,j,lead,hj,hl,hli,hlu,h3⟩
 ·rw[h3]at h2;refine⟨a,r.log,h2,hok,h2,vu (jq hok) h0 (by rw[← hne];exact hk) hr,?_,fun i r' hr' hid'=>?_⟩
  ·rcases hok.2.2 with h4 | h4
   ·omega
   ·rw[hne];exact h4.2
  ·have:=oC hok hr hr' (by rw[hid,hid']);subst this;rw[hr]at hr';cases hr';rfl
 obtain⟨x,hx⟩:∃ x,x=(fW id a k r).1:=⟨_,rfl⟩;rw[← hx]at h2 hokx h3;have hrm:=mem_of_getElem? hr;have hlm:=mem_of_getElem? hl;have hgr:=hi.gd r hrm;have hgl:=hi.gd lead hlm;obtain⟨f1,f2,f3⟩:=qe hgr hgl;have hlo:=hok.1.2.2.2.2 lead hlm;have hlh:=hlo.2.2 hlu;have hjk:j≠k:=fun e=>by
  subst e;rw[hr]at hl;cases hl;exact hne (by rw[← hid,hli])
 have hkl:=(List.getElem?_eq_some_iff.1 hr).1;have hjl:=(List.getElem?_eq_some_iff.1 hl).1;obtain⟨fr,hfr⟩:∃ fr,fr=dJ r lead:=⟨_,rfl⟩;have hfid:fr.id=id:=by rw[hfr];exact hid
 have hfup:fr.up=true:=by rw[hfr];exact hup
 have hfeps:fr.eps=lead.eps:=by rw[hfr];rfl
 -- behind the first pull
 have hP:eU id a k r lead={ a with isr:=fj a.isr id,reps:=a.reps.set k { fr with high:=min r.high (ec fr.log) } }:=by
  unfold eU;rw[← hfr,hfr,f3,if_pos hlh,← f3]
 rw[← hfr]at f1 f2 f3 h3;have hPj:(eU id a k r lead).reps[j]?=some lead:=by
  rw[hP];show(a.reps.set k _)[j]?=_;rw[List.getElem?_set_ne (Ne.symm hjk),hl]
 have hPids:fE (eU id a k r lead).reps=fE a.reps:=by rw[hP];exact hZ hr (by rw[hfid];exact hid.symm)
 have hPat:atR (eU id a k r lead).reps (eU id a k r lead).leader=some j:=by rw[po _ hPids];exact hj
 have hR:=i9 (p:=eU id a k r lead) h0 hPat hPj;obtain⟨L,hL⟩:∃ L,L=fe (eU id a k r lead).reps j lead (ec lead.log) (eU id a k r lead).isr:=⟨_,rfl⟩;rw[← hL]at hR;have hRj:(dY (eU id a k r lead)).reps[j]?=some { lead with high:=max lead.high L }:=by rw[hR];exact hU hPj
 rw[hRj,Option.getD_some]at h3;obtain⟨h',hh'⟩:∃ h',h'=max lead.high L:=⟨_,rfl⟩;obtain⟨m2,hm2⟩:∃ m2,m2=min (max (min r.high (ec fr.log)) h') (ec fr.log):=⟨_,rfl⟩;rw[← hh']at hR hRj h3;have h3:x={ a with isr:=fj a.isr id,reps:=((a.reps.set k { fr with high:=min r.high (ec fr.log) }).set j { lead with high:=h' }).set k { fr with high:=m2 } }:=by
  rw[h3,hR,hP,hm2];rfl
 have hxk:x.reps[k]?=some { fr with high:=m2 }:=by
  rw[h3];exact List.getElem?_set_self (by simp;omega)
 have hxj:x.reps[j]?=some { lead with high:=h' }:=by
  rw[h3];show(List.set _ k _)[j]?=_;rw[List.getElem?_set_ne (Ne.symm hjk)];exact List.getElem?_set_self (by simp;omega)
 have hxl:x.leader=a.leader:=by rw[h3]
 have hxi:x.isr=fj a.isr id:=by rw[h3]
 have hin:id∈x.isr:=by rw[hxi];exact jD (.inr rfl)
 have hx0:¬ x.leader < 0:=by rw[hxl];exact h0
 have hxat:atR x.reps x.leader=some j:=by
  rw[hxl,← hli];have:=m7 hokx.1.2.1.2.2 hxj;exact this
 have hxak:atR x.reps id=some k:=by
  rw[← hfid];have:=m7 hokx.1.2.1.2.2 hxk;exact this
 have hl':=hokx.1.2.2.2.2 _ (mem_of_getElem? hxj);have hlh':h'≤ec lead.log:=hl'.2.2 hlu;have hei:=iI lead.log
 -- what does not change
 have hfol:∀ m m',dJ { fr with high:=m } { lead with high:=m' }={ fr with high:=m }:=fun m m' =>
  rU (r:={ fr with high:=m }) (lead:={ lead with high:=m' }) f1 (hgl.high m') hfeps f2
 have hmin:min m2 (ec fr.log)=m2:=by omega
 have hP2:eU id x k { fr with high:=m2 } { lead with high:=h' }=x:=by
  unfold eU;rw[hfol];dsimp only;rw[f3,if_pos hlh',nB hokx.2.1.1.2.2 hin,← f3,hmin,oW hxk]
 have hL2:fe x.reps j { lead with high:=h' } (ec lead.log) x.isr=L:=by
  rw[hL,hxi,show(eU id a k r lead).isr=fj a.isr id by rw[hP]];refine nA ?_ (fun i y hy=>?_) j lead h' _ _
  ·rw[hPids];have:=(mT hok hr hid h1).2.1
   rwa [← hx]at this
  ·rw[hP]at hy;have hy:(a.reps.set k { fr with high:=min r.high (ec fr.log) })[i]?=some y:=hy;by_cases hik:k=i
   ·subst hik;rw[hU hr]at hy;cases hy;exact⟨m2,hxk⟩
   ·by_cases hij:j=i
    ·subst hij;rw[List.getElem?_set_ne hik,hl]at hy;cases hy;exact⟨h',hxj⟩
    ·refine⟨y.high,?_⟩;rw[h3];show(List.set _ k _)[i]?=_;rw[List.getElem?_set_ne hik,List.getElem?_set_ne hij];exact hy
 have hR2:dY x=x:=by
  rw[i9 hx0 hxat hxj];have hm:max h' (fe x.reps j { lead with high:=h' } (ec lead.log) x.isr)=h':=by rw[hL2];omega
  show fV x j { lead with high:=max h' (fe x.reps j { lead with high:=h' } (ec lead.log) x.isr) }=x;rw[hm];unfold fV;rw[oW hxj]
 have hagain:fW id x k { fr with high:=m2 }=(x,0):=by
  unfold fW;rw[if_neg (fun h=>by rcases h with h | h;exact hx0 h;rw[hfup]at h;cases h),if_neg (by rw[hxl];exact hne),hxat]
  dsimp only;rw[hxj];dsimp only;have hP3:=hP2;unfold eU at hP3;rw[hfol]at hP3 ⊢;dsimp only at hP3 ⊢;rw[hP3,hR2,hxj,Option.getD_some,hmin];have:min (max m2 h') (ec fr.log)=m2:=by omega
  rw[this];unfold fV;rw[oW hxk]
 refine⟨x,lead.log,h2,hokx,?_,vu (r:={ lead with high:=h' }) (jq hokx) hx0 hxat hxj,hin,fun i r' hr' hid'=>?_⟩
 ·rw[iV,mz _ hxak hxk,hagain,lr (jq hokx)]
 ·have:=oC hokx hxk hr' (by rw[hid'];exact hfid);subst this;rw[hxk]at hr';cases hr';exact f2
end Go.Proofs.YtpmofpekcbghnaaGreat
